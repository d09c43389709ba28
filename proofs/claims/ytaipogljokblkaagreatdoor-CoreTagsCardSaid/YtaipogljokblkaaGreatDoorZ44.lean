/- Core: LH. -/
import Derived.Test.YtaipogljokblkaaGreatDoorZ43
set_option linter.all false
set_option maxRecDepth 100000
set_option maxHeartbeats 8000000
namespace Go.Proofs.YtaipogljokblkaaGreatDoor
open Go Go.RowKit
set_option linter.unusedSimpArgs false
set_option linter.unusedVariables false
set_option linter.unusedSectionVars false
structure RBusy (st:Int) (n:Nat) (M:MR) (c:Xg):Prop where
 b:StpB st n M.R c
 s0:M.R.step < 13→M.ss = []
 s13:M.R.step = 13→(M.ss.length:Int)≤M.R.index
 s16:M.R.step = 16→∃ d r,M.ds = d :: r∧M.R.acc = ⟨5,.zero,d.ref,.zero⟩
def RPost (st:Int) (n t:Nat) (c:Xg) (M:MR):Prop :=
 RBase n t M∧((M.R.step≠0∧RBusy st n M c)∨(M.R.step = 0∧XOk st n c M.R.reply))
section
variable {st:Int} {n t:Nat} {M:MR} {R R':Xa} {c:Xg} {x:Xi}
theorem RBase.up {t':Nat} (h:RBase n t M) (ht:t≤t'):RBase n t' M:=⟨h.me0,h.me1,h.th1,h.th6,h.eng,Nat.le_trans h.nl ht,h.dsub,h.sl,h.nref⟩
theorem RBase.of {ns ds:List Xp} {ss:List Xf} (h:RBase n t ⟨R,ns,ds,ss⟩) (hd:Hd R R'):RBase n t ⟨R',ns,ds,ss⟩:=by
 obtain ⟨a,b,d,e⟩:=hd
 exact ⟨by show 0≤R'.me;rw [a];exact h.me0,by show R'.me < 6;rw [a];exact h.me1,by show 1≤R'.threads;rw [b];exact h.th1,by show R'.threads≤6;rw [b];exact h.th6,by show R'.engine = 1∨R'.engine = 2∨R'.engine = 3∨R'.engine = 4∨R'.engine = 5;rw [d];exact h.eng,h.nl,h.dsub,h.sl,h.nref⟩
theorem RBase.wipe {ns ds:List Xp} {ss:List Xf} (h:RBase n t ⟨R,ns,ds,ss⟩):RBase n t ⟨R,ns,[],[]⟩:=⟨h.me0,h.me1,h.th1,h.th6,h.eng,h.nl,List.nil_sublist _,by simp,h.nref⟩
theorem RBase.wrap (h:RBase n t M) (hd:Hd M.R R'):RBase n t (M.wrap R'):=by
 unfold MR.wrap
 cases R'.step==0 with
 | true=>exact (RBase.of (R:=M.R) (ds:=M.ds) (ss:=M.ss) h hd).wipe
 | false=>exact RBase.of (R:=M.R) (ds:=M.ds) (ss:=M.ss) h hd
theorem wrap_R (M:MR) (R':Xa):(M.wrap R').R = R':=by unfold MR.wrap;cases R'.step==0 <;> rfl
theorem xok_true (hc:c.kind≠3) (h6:c.kind≠6) (h8:c.kind≠8):XOk st n c ⟨.zero,true⟩ :=
 ⟨Yi,fun h=>absurd h h8,fun _ h=>h.elim (fun h=>absurd h hc) fun h=>absurd h h6⟩
theorem Yy (h:RBase n t M) (hp:StpR st n M.R c (XOk st n c) R') (hl:(M.ss = []∧(R'.step = 13→0≤R'.index))∨14≤R'.step) (h16:R'.step≠16):RPost st n t c (M.wrap R'):=by
 refine ⟨h.wrap hp.1,?_⟩
 rcases hp.2 with ⟨h0,hb⟩ | ⟨h0,hr⟩
 ·have e1:(R'.step==0) = false:=by simp [h0]
  refine Or.inl ⟨by rw [wrap_R];exact h0,by rw [wrap_R];exact hb,?_,?_,?_⟩
  ·rw [wrap_R]
   intro e
   unfold MR.wrap
   rw [e1]
   rcases hl with hl | hl
   ·exact hl.1
   ·omega
  ·rw [wrap_R]
   intro e
   unfold MR.wrap
   rw [e1]
   rcases hl with hl | hl
   ·show ((M.ss.length:Nat):Int)≤R'.index
    rw [hl.1]
    exact hl.2 e
   ·omega
  ·rw [wrap_R];exact fun e=>absurd e h16
 ·exact Or.inr ⟨by rw [wrap_R];exact h0,by rw [wrap_R];exact hr⟩
theorem StpR.rep {p q:Xi→Prop} (h:StpR st n R c p R') (hq:∀ x,p x→q x):StpR st n R c q R':=⟨h.1,h.2.imp id fun h=>⟨h.1,hq _ h.2⟩⟩
theorem scan_step (R:Xa) (t1:1≤R.threads) (t6:R.threads≤6) (hc:R.call = c) (hk:c.kind = 10∨c.kind = 11):R.scan.step≠16∧(R.scan.step = 13→0≤R.scan.index):=by
 unfold Xa.scan
 cases h1:R.engine==1 with
 | true=>exact ⟨by show (0:Int)≠16;decide,fun h=>by have h:(0:Int) = 13:=h;omega⟩
 | false =>
  have h1:R.engine≠1:=by simpa using h1
  simp only [cond_false]
  cases h4:R.engine==4 with
  | true=>exact ⟨by show (12:Int)≠16;decide,fun h=>by have h:(12:Int) = 13:=h;omega⟩
  | false =>
   have hl:=stp_look (st:=1) (n:=0) t1 t6 hc hk h1 0 (by decide)
   have h2:(R.look 0).2 = true:=by
    have:=(lim_in t1 t6).1
    cases h:(R.look 0).2 with
    | true=>rfl
    | false=>exact absurd (hl.2.1 h) (by omega)
   obtain ⟨a,b,d,e,f⟩:=hl.1 h2
   simp only [cond_false]
   exact ⟨by rw [f];decide,fun _=>by rw [e];decide⟩
theorem rp_scan (h:RBase n t M) (hs:M.ss = []) (hc:M.R.call = c) (hk:c.kind = 10∨c.kind = 11):RPost st n t c M.scan:=by
 have hq:=scan_step M.R h.th1 h.th6 hc hk
 refine Yy h ((stp_scan h.th1 h.th6 hc hk).rep fun x e=>?_) (Or.inl ⟨hs,fun e=>hq.2 e⟩) hq.1
 rw [show x = ⟨.zero,true⟩ from e];exact xok_true (by omega) (by omega) (by omega)
theorem rp_done (h:RBase n t M) (hk:c.kind≠3) (h6:c.kind≠6) (h8:c.kind≠8):RPost st n t c (M.wrap M.R.done) :=
 by
 refine ⟨h.wrap ⟨rfl,rfl,rfl,rfl⟩,Or.inr ⟨by rw [wrap_R];rfl,by rw [wrap_R];exact xok_true hk h6 h8⟩⟩
theorem rp_noted (h:RBase n t M) (hs:M.ss = []) (hc:M.R.call = c) (hk:c.kind = 10):RPost st n t c M.noted:=by
 unfold MR.noted
 cases decide (M.R.most≤(M.ns.length:Int)) with
 | true=>exact rp_scan h hs hc (Or.inl hk)
 | false=>exact rp_done h (by omega) (by omega) (by omega)
theorem rb_note (h:RBase n t M) (hc:WOn n M.R.call.old) (b d:Int):RBase n (t+1) (M.note b d):=by
 refine ⟨h.me0,h.me1,h.th1,h.th6,h.eng,?_,h.dsub.trans (List.sublist_append_left _ _),h.sl,fun x hx=>?_⟩
 ·have:=h.nl
  show (M.ns++_).length≤_
  simp;omega
 ·rcases List.mem_append.1 hx with hx | hx
  ·exact h.nref x hx
  ·rw [List.mem_singleton.1 hx];exact won_ref hc
theorem rb_turn (h:RBase n t M) (c:Xg):RBase n t ⟨M.R.turn c,M.ns,[],[]⟩:=(RBase.of (R':=M.R.turn c) (R:=M.R) (ns:=M.ns) (ds:=M.ds) (ss:=M.ss) h ⟨rfl,rfl,rfl,rfl⟩).wipe
theorem rp_retire (h:RBase n t M) (hs:M.ss = []) (hc:M.R.call = c) (hk:c.kind = 10) (ho:WOn n c.old):RPost st n (t+1) c M.retire:=by
 unfold MR.retire
 cases h2:M.R.engine==2 with
 | true=>exact rp_noted (M:=M.note 0 0) (rb_note h (by rw [hc];exact ho) 0 0) hs hc hk
 | false =>
  have h:=h.up (Nat.le_succ t)
  simp only [cond_false]
  unfold Xa.retire1
  cases M.R.engine==1 with
  | true=>exact rp_done h (by omega) (by omega) (by omega)
  | false =>
   simp only [cond_false]
   cases M.R.engine==4 with
   | true =>
    refine Yy h ⟨⟨rfl,rfl,rfl,rfl⟩,Or.inl ⟨by show (10:Int)≠0;decide,hc,acc_load (Or.inr (Or.inl rfl)),?_⟩⟩ (Or.inl ⟨hs,fun e=>by have e:(10:Int) = 13:=e;omega⟩) (by show (10:Int)≠16;decide)
    exact Or.inr (Or.inr (Or.inr (Or.inr (Or.inr (Or.inr (Or.inr (Or.inr (Or.inr (Or.inl ⟨rfl,hk,ho⟩)))))))))
   | false =>
    refine Yy h ⟨⟨rfl,rfl,rfl,rfl⟩,Or.inl ⟨by show (9:Int)≠0;decide,hc,acc_load (Or.inl (aon_aok (aon_field (by rw [hc];exact ho) (by decide) (by decide)))),?_⟩⟩ (Or.inl ⟨hs,fun e=>by have e:(9:Int) = 13:=e;omega⟩) (by show (9:Int)≠16;decide)
    exact Or.inr (Or.inr (Or.inr (Or.inr (Or.inr (Or.inr (Or.inr (Or.inr (Or.inl ⟨rfl,hk,ho⟩))))))))
theorem nine {i:Int} (h:i∈([0,1,2,3,4,5,6,7,8]:List Int)):0≤i∧i < 9:=by
 simp only [List.mem_cons,List.not_mem_nil,or_false] at h
 omega
theorem rbegin (h:RBase n t M) (hc:CAny st n c):RPost st n (t+1) c (M.begin_ c):=by
 have ht:=rb_turn h c
 have h1:=ht.up (Nat.le_succ t)
 have wr13:∀ {R':Xa} {s:Int},R'.step = s→s≠13→s≠16→StpR st n (M.R.turn c) c (XOk st n c) R'→RPost st n (t+1) c ⟨R',M.ns,[],[]⟩:=fun {R'} {s} e s13 s16 hp=>by
  have q:=Yy (M:=⟨M.R.turn c,M.ns,[],[]⟩) h1 hp (Or.inl ⟨rfl,fun e'=>absurd (e.symm.trans e') s13⟩) (by rw [e];exact s16)
  have:MR.wrap ⟨M.R.turn c,M.ns,[],[]⟩ R' = ⟨R',M.ns,[],[]⟩:=by unfold MR.wrap;cases R'.step==0 <;> rfl
  rwa [this] at q
 have go:∀ {k:Int},c.kind = k→k≠10→k≠11→M.begin_ c = ⟨M.R.begin1 c,M.ns,[],[]⟩:=fun {k} e a b=>by
  unfold MR.begin_
  rw [show (c.kind==10) = false from by simp [e,a],show (c.kind==11) = false from by simp [e,b]]
  rfl
 have hL:c.kind = 2→RPost st n (t+1) c (M.begin_ c):=fun hk=>by
  rw [go hk (by decide) (by decide)]
  have e:M.R.begin1 c = (M.R.turn c).leave [0,1,2,3,4,5,6,7,8]:=by unfold Xa.begin1;rw [hk];rfl
  have hp:=stp_leave (st:=st) (n:=n) (R:=M.R.turn c) (c:=c) (rep:=XOk st n c) (xok_true (by omega) (by omega) (by omega)) h.me0 h.me1 rfl hk [0,1,2,3,4,5,6,7,8] (fun i hi=>nine hi)
  rw [e]
  have hs:((M.R.turn c).leave [0,1,2,3,4,5,6,7,8]).step≠13∧((M.R.turn c).leave [0,1,2,3,4,5,6,7,8]).step≠16:=by
   rcases hp.2 with ⟨_,_,_,q⟩ | ⟨q,_⟩
   ·omega
   ·omega
  exact wr13 rfl hs.1 hs.2 hp
 have hE:c.kind = 1→RPost st n (t+1) c (M.begin_ c):=fun hk=>by
  rw [go hk (by decide) (by decide)]
  have e:M.R.begin1 c = (M.R.turn c).enter:=by unfold Xa.begin1;rw [hk];rfl
  rw [e]
  unfold Xa.enter
  cases (M.R.turn c).spanning with
  | true=>exact wr13 (s:=3) rfl (by decide) (by decide) ⟨⟨rfl,rfl,rfl,rfl⟩,Or.inl ⟨by show (3:Int)≠0;decide,rfl,acc_load (Or.inr (Or.inl rfl)),Or.inr (Or.inr (Or.inl ⟨rfl,hk⟩))⟩⟩
  | false=>exact wr13 (s:=0) rfl (by decide) (by decide) (stp_done _ (xok_true (by omega) (by omega) (by omega)))
 rcases hc with ⟨hc,h12⟩ | rfl | rfl | rfl
 ·rcases hc with ⟨hk,ha⟩ | ⟨hk,ha,hw⟩ | ⟨hk,ha,hw,hg⟩ | ⟨hk,ha,i0,i9,hj⟩ | ⟨hk,ho⟩ | hk | ⟨hk,ho⟩ | ⟨hk,ho⟩ | hk
  ·rw [go hk (by decide) (by decide)]
   have e:M.R.begin1 c = (M.R.turn c).load 1 c.adr:=by unfold Xa.begin1;rw [hk];rfl
   rw [e]
   exact wr13 (s:=1) rfl (by decide) (by decide) ⟨⟨rfl,rfl,rfl,rfl⟩,Or.inl ⟨by show (1:Int)≠0;decide,rfl,acc_load (Or.inl ha),Or.inl ⟨rfl,Or.inl ⟨hk,rfl,rfl,ha⟩⟩⟩⟩
  ·rw [go hk (by decide) (by decide)]
   have e:M.R.begin1 c = (M.R.turn c).ask 1 ⟨2,c.adr,c.old,c.new⟩:=by unfold Xa.begin1;rw [hk];rfl
   rw [e]
   exact wr13 (s:=1) rfl (by decide) (by decide) ⟨⟨rfl,rfl,rfl,rfl⟩,Or.inl ⟨by show (1:Int)≠0;decide,rfl,Or.inr (Or.inl ⟨rfl,Or.inl ⟨ha,hw⟩⟩),Or.inl ⟨rfl,Or.inr (Or.inl ⟨hk,rfl,aon_aok ha⟩)⟩⟩⟩
  ·rw [go hk (by decide) (by decide)]
   have e:M.R.begin1 c = (M.R.turn c).ask 1 ⟨3,c.adr,c.old,c.new⟩:=by unfold Xa.begin1;rw [hk];rfl
   rw [e]
   exact wr13 (s:=1) rfl (by decide) (by decide) ⟨⟨rfl,rfl,rfl,rfl⟩,Or.inl ⟨by show (1:Int)≠0;decide,rfl,Or.inr (Or.inr (Or.inl ⟨rfl,Or.inl ⟨ha,hw,hg⟩⟩)),Or.inl ⟨rfl,Or.inr (Or.inr (Or.inl ⟨hk,rfl,ha⟩))⟩⟩⟩
  ·rw [go hk (by decide) (by decide)]
   have e:M.R.begin1 c = (M.R.turn c).load 5 c.adr:=by unfold Xa.begin1;rw [hk];rfl
   rw [e]
   exact wr13 (s:=5) rfl (by decide) (by decide) ⟨⟨rfl,rfl,rfl,rfl⟩,Or.inl ⟨by show (5:Int)≠0;decide,rfl,acc_load (Or.inl ha),Or.inr (Or.inr (Or.inr (Or.inr (Or.inl ⟨rfl,hk,i0,i9,rfl,rfl,ha⟩))))⟩⟩
  ·rw [go hk (by decide) (by decide)]
   have e:M.R.begin1 c = (M.R.turn c).hold c.i c.j:=by unfold Xa.begin1;rw [hk];rfl
   rw [e]
   unfold Xa.hold
   cases (M.R.turn c).keeping && !weq ((M.R.turn c).getH c.i) ((M.R.turn c).getH c.j) with
   | true =>
    obtain ⟨p1,p2,p3,p4,p5,p6⟩:=post_hd (M.R.turn c) 2 c.i ((M.R.turn c).getH c.j)
    simp only [cond_true]
    have hi:0≤c.i∧c.i < 9:=by rcases ho with h | h | h | h | h | h | h | h <;> omega
    exact wr13 p4 (by decide) (by decide) ⟨p1,Or.inl ⟨by rw [p4];decide,p2,by rw [p5];exact acc_board (brd_keep h.me0 h.me1 hi.1 hi.2),Or.inr (Or.inl ⟨p4,by omega,by omega,by omega⟩)⟩⟩
   | false=>exact wr13 (s:=0) rfl (by decide) (by decide) (stp_done _ (xok_true (by omega) (by omega) (by omega)))
  ·rw [go hk (by decide) (by decide)]
   have e:M.R.begin1 c = (M.R.turn c).alloc:=by unfold Xa.begin1;rw [hk];rfl
   rw [e]
   unfold Xa.alloc
   cases (M.R.turn c).dating with
   | true=>exact wr13 (s:=8) rfl (by decide) (by decide) ⟨⟨rfl,rfl,rfl,rfl⟩,Or.inl ⟨by show (8:Int)≠0;decide,rfl,acc_load (Or.inr (Or.inl rfl)),Or.inr (Or.inr (Or.inr (Or.inr (Or.inr (Or.inr (Or.inr (Or.inl ⟨rfl,hk⟩)))))))⟩⟩
   | false=>exact wr13 (s:=1) rfl (by decide) (by decide) ⟨⟨rfl,rfl,rfl,rfl⟩,Or.inl ⟨by show (1:Int)≠0;decide,rfl,acc_new,Or.inl ⟨rfl,Or.inr (Or.inr (Or.inr ⟨hk,rfl⟩))⟩⟩⟩
  ·rw [go hk (by decide) (by decide)]
   have e:M.R.begin1 c = (M.R.turn c).ask 2 ⟨5,.zero,c.old,.zero⟩:=by unfold Xa.begin1;rw [hk];rfl
   rw [e]
   exact wr13 (s:=2) rfl (by decide) (by decide) ⟨⟨rfl,rfl,rfl,rfl⟩,Or.inl ⟨by show (2:Int)≠0;decide,rfl,acc_free ho,Or.inr (Or.inl ⟨rfl,by omega,by omega,by omega⟩)⟩⟩
  ·have e:M.begin_ c = MR.retire ⟨M.R.turn c,M.ns,[],[]⟩:=by unfold MR.begin_;rw [hk];rfl
   rw [e]
   exact rp_retire ht rfl rfl hk ho
  ·exact absurd hk h12
 ·exact hE rfl
 ·exact hL rfl
 ·have e:M.begin_ cscan = MR.scan ⟨M.R.turn cscan,M.ns,[],[]⟩:=rfl
  rw [e]
  exact rp_scan h1 rfl rfl (Or.inr rfl)
theorem rp_reap (h:RBase n t M) (hc:M.R.call = c) (hk:c.kind = 10∨c.kind = 11):RPost st n t c M.reap:=by
 unfold MR.reap
 cases hd:M.ds with
 | nil =>
  exact rp_done h (by omega) (by omega) (by omega)
 | cons d r =>
  have hm:d∈M.ns:=h.dsub.subset (by rw [hd];exact List.mem_cons_self ..)
  have e:MR.reap M = { M with R:=M.R.ask 16 ⟨5,.zero,d.ref,.zero⟩ }:=by unfold MR.reap;rw [hd]
  unfold MR.reap at e
  rw [hd] at e
  rw [e]
  refine ⟨RBase.of (R:=M.R) (ds:=d :: r) (ss:=M.ss) (by rw [← hd];exact h) ⟨rfl,rfl,rfl,rfl⟩,Or.inl ⟨by show (16:Int)≠0;decide,⟨hc,acc_free (h.nref d hm),?_⟩,fun e=>?_,fun e=>?_,fun _=>⟨d,r,rfl,rfl⟩⟩⟩
  ·exact Or.inr (Or.inr (Or.inr (Or.inr (Or.inr (Or.inr (Or.inr (Or.inr (Or.inr (Or.inr (Or.inr (Or.inr (Or.inr (Or.inr (Or.inr ⟨rfl,hk⟩))))))))))))))
  ·have e:(16:Int) < 13:=e
   omega
  ·have e:(16:Int) = 13:=e
   omega
theorem rp_sift (h:RBase n t M) (hc:M.R.call = c) (hk:c.kind = 10∨c.kind = 11):RPost st n t c M.sift :=
 rp_reap (M:={ M with ds:=M.ns.filter fun n=>!M.stays n }) ⟨h.me0,h.me1,h.th1,h.th6,h.eng,h.nl,List.filter_sublist,h.sl,h.nref⟩ hc hk
theorem rp_to {s:Int} {R1:Xa} (h:RBase n t M) (hs:M.ss = []) (h1:Hd M.R R1) (hc:R1.call = c) (hk:StpB st n (R1.load s (root 24)) c) (s0:s≠0) (s13:s≠13) (s16:s≠16):RPost st n t c (M.wrap (R1.load s (root 24))) :=
 Yy h ⟨h1,Or.inl ⟨s0,hk⟩⟩ (Or.inl ⟨hs,fun e=>absurd e s13⟩) s16
theorem rtook (h:RBase n t M) (hb:RBusy st n M c) (h0:M.R.step≠0) (hx:ARep st n M.R.acc x):RPost st n (t+1) c (M.took x):=by
 have h1:=h.up (Nat.le_succ t)
 obtain ⟨hc,ha,hp⟩:=hb.b
 have hss:=hb.s0
 have ld15:∀ R1:Xa,Hd M.R R1→R1.call = c→R1.engine = 4→(c.kind = 10∨c.kind = 11)→StpR st n M.R c (XOk st n c) (R1.load 15 (root 24)):=fun R1 a b d e =>
  ⟨a,Or.inl ⟨by show (15:Int)≠0;decide,b,acc_load (Or.inr (Or.inl rfl)),Or.inr (Or.inr (Or.inr (Or.inr (Or.inr (Or.inr (Or.inr (Or.inr (Or.inr (Or.inr (Or.inr (Or.inr (Or.inr (Or.inr (Or.inl ⟨rfl,e,d⟩))))))))))))))⟩⟩
 rcases hp with ⟨hs,hp⟩ | ⟨hs,k3,k6,k8⟩ | ⟨hs,hk⟩ | ⟨hs,hk,he,i0,i9⟩ | ⟨hs,hk,i0,i9,a1,a2,ao⟩ | ⟨hs,hk,i0,i9,he,ao,wo,wn⟩ | ⟨hs,hk,i0,i9,ao⟩ | ⟨hs,hk⟩ | ⟨hs,hk,ho⟩ | ⟨hs,hk,ho⟩ | ⟨hs,hk⟩ | ⟨hs,hk,he⟩ | ⟨hs,hk,he,i0,il⟩ | ⟨hs,hk,he⟩ | ⟨hs,hk,he⟩ | ⟨hs,hk⟩
 ·have e:M.took x = M.wrap (M.R.finish x):=by unfold MR.took;simp only [hs];rfl
  rw [e]
  refine Yy h1 (stp_finish ?_) (Or.inl ⟨hss (by omega),fun e=>by have e:(0:Int) = 13:=e;omega⟩) (by show (0:Int)≠16;decide)
  rcases hp with ⟨k,a1,a2,ao⟩ | ⟨k,a1,ao⟩ | ⟨k,a1,ao⟩ | ⟨k,a1⟩
  ·refine ⟨hx.1 (by rw [a2];exact ao),fun e=>by omega,fun s2 _ e1 e2=>hx.2.2 s2 a1 (by rw [a2];exact e1) (by rw [a2];exact e2)⟩
  ·exact ⟨hx.1 ao,fun e=>by omega,fun _ e=>by omega⟩
  ·exact ⟨hx.1 ao,fun e=>by omega,fun _ e=>by omega⟩
  ·exact ⟨(hx.2.1 a1).1,fun _=>(hx.2.1 a1).2,fun _ e=>by omega⟩
 ·have e:M.took x = M.wrap M.R.done:=by unfold MR.took;simp only [hs];rfl
  rw [e]
  exact rp_done h1 k3 k6 k8
 ·have e:M.took x = M.wrap (M.R.announce 2 ⟨true,x.word.nm,x.word.nm⟩):=by unfold MR.took;simp only [hs];rfl
  rw [e]
  exact Yy h1 (stp_announce h.me0 h.me1 hc (Or.inl ⟨rfl,by omega,by omega,by omega⟩)) (Or.inl ⟨hss (by omega),fun e=>by have e:(2:Int) = 13:=e;omega⟩) (by show (2:Int)≠16;decide)
 ·have e:M.took x = M.wrap (M.R.leave (([0,1,2,3,4,5,6,7,8]:List Int).filter fun n=>decide (M.R.index < n))):=by unfold MR.took;simp only [hs];rfl
  rw [e]
  have hp:=stp_leave (st:=st) (n:=n) (R:=M.R) (c:=c) (rep:=XOk st n c) (xok_true (by omega) (by omega) (by omega)) h.me0 h.me1 hc hk (([0,1,2,3,4,5,6,7,8]:List Int).filter fun n=>decide (M.R.index < n)) (fun i hi=>nine (List.mem_filter.1 hi).1)
  have hs':(M.R.leave (([0,1,2,3,4,5,6,7,8]:List Int).filter fun n=>decide (M.R.index < n))).step≠13∧(M.R.leave (([0,1,2,3,4,5,6,7,8]:List Int).filter fun n=>decide (M.R.index < n))).step≠16:=by
   rcases hp.2 with ⟨_,_,_,q⟩ | ⟨q,_⟩
   ·omega
   ·omega
  exact Yy h1 hp (Or.inl ⟨hss (by omega),fun e=>absurd e hs'.1⟩) hs'.2
 ·have e:M.took x = M.wrap (M.R.tookLoad x):=by unfold MR.took;simp only [hs];rfl
  rw [e]
  have wx:WOk n x.word:=hx.1 (by rw [a2];exact ao)
  have wn:st = 2→c.adr.sl = 0→c.adr.fd = 0→WOn n x.word:=fun s2 e1 e2=>hx.2.2 s2 a1 (by rw [a2];exact e1) (by rw [a2];exact e2)
  have fin:StpR st n M.R c (XOk st n c) (Xa.finish { M.R with word:=x.word } ⟨x.word,true⟩):=⟨⟨rfl,rfl,rfl,rfl⟩,Or.inr ⟨rfl,wx,fun e=>by omega,fun s2 _ e1 e2=>wn s2 e1 e2⟩⟩
  unfold Xa.tookLoad
  simp only
  cases hd:Xa.dating { M.R with word:=x.word } with
  | true =>
   have hd:edate M.R:=by unfold Xa.dating at hd;simpa [edate] using hd
   simp only [cond_true]
   refine Yy h1 ⟨⟨rfl,rfl,rfl,rfl⟩,Or.inl ⟨by show (6:Int)≠0;decide,hc,acc_load (Or.inr (Or.inl rfl)),?_⟩⟩ (Or.inl ⟨hss (by omega),fun e=>by have e:(6:Int) = 13:=e;omega⟩) (by show (6:Int)≠16;decide)
   exact Or.inr (Or.inr (Or.inr (Or.inr (Or.inr (Or.inl ⟨rfl,hk,i0,i9,hd,ao,wx,wn⟩)))))
  | false =>
   simp only [cond_false]
   cases (M.R.engine==2 && (!(x.word.sl==0) && !weqr (Xa.getH { M.R with word:=x.word } M.R.call.i) x.word)) with
   | true =>
    obtain ⟨p1,p2,p3,p4,p5,p6⟩:=post_hd { M.R with word:=x.word } 7 M.R.call.i (wref x.word)
    simp only [cond_true]
    refine Yy h1 ⟨p1,Or.inl ⟨by rw [p4];decide,p2.trans hc,by rw [p5];exact acc_board (brd_keep h.me0 h.me1 (by rw [hc];exact i0) (by rw [hc];exact i9)),?_⟩⟩ (Or.inl ⟨hss (by omega),fun e=>by rw [p4] at e;omega⟩) (by rw [p4];decide)
    exact Or.inr (Or.inr (Or.inr (Or.inr (Or.inr (Or.inr (Or.inl ⟨p4,hk,i0,i9,ao⟩))))))
   | false =>
    simp only [cond_false]
    exact Yy h1 fin (Or.inl ⟨hss (by omega),fun e=>by have e:(0:Int) = 13:=e;omega⟩) (by show (0:Int)≠16;decide)
 ·have e:M.took x = M.wrap (M.R.tookClock x):=by unfold MR.took;simp only [hs];rfl
  rw [e]
  unfold Xa.tookClock
  cases M.R.covers M.R.call.i x.word.nm with
  | true =>
   simp only [cond_true]
   exact Yy h1 (stp_finish ⟨wo,fun e=>by omega,fun s2 _ e1 e2=>wn s2 e1 e2⟩) (Or.inl ⟨hss (by omega),fun e=>by have e:(0:Int) = 13:=e;omega⟩) (by show (0:Int)≠16;decide)
  | false =>
   simp only [cond_false]
   cases M.R.engine==3 with
   | true =>
    obtain ⟨p1,p2,p3,p4,p5,p6⟩:=post_hd M.R 7 M.R.call.i (wnum x.word.nm)
    simp only [cond_true]
    refine Yy h1 ⟨p1,Or.inl ⟨by rw [p4];decide,p2.trans hc,by rw [p5];exact acc_board (brd_keep h.me0 h.me1 (by rw [hc];exact i0) (by rw [hc];exact i9)),?_⟩⟩ (Or.inl ⟨hss (by omega),fun e=>by rw [p4] at e;omega⟩) (by rw [p4];decide)
    exact Or.inr (Or.inr (Or.inr (Or.inr (Or.inr (Or.inr (Or.inl ⟨p4,hk,i0,i9,ao⟩))))))
   | false =>
    simp only [cond_false]
    exact Yy h1 (stp_announce h.me0 h.me1 hc (Or.inr ⟨rfl,hk,i0,i9,ao⟩)) (Or.inl ⟨hss (by omega),fun e=>by have e:(7:Int) = 13:=e;omega⟩) (by show (7:Int)≠16;decide)
 ·have e:M.took x = M.wrap (M.R.load 5 M.R.call.adr):=by unfold MR.took;simp only [hs];rfl
  rw [e]
  refine Yy h1 ⟨⟨rfl,rfl,rfl,rfl⟩,Or.inl ⟨by show (5:Int)≠0;decide,hc,acc_load (Or.inl (by rw [hc];exact ao)),?_⟩⟩ (Or.inl ⟨hss (by omega),fun e=>by have e:(5:Int) = 13:=e;omega⟩) (by show (5:Int)≠16;decide)
  exact Or.inr (Or.inr (Or.inr (Or.inr (Or.inl ⟨rfl,hk,i0,i9,rfl,by rw [hc];rfl,ao⟩))))
 ·have e:M.took x = M.wrap (M.R.ask 1 ⟨4,.zero,.zero,wnum x.word.nm⟩):=by unfold MR.took;simp only [hs];rfl
  rw [e]
  exact Yy h1 ⟨⟨rfl,rfl,rfl,rfl⟩,Or.inl ⟨by show (1:Int)≠0;decide,hc,acc_new,Or.inl ⟨rfl,Or.inr (Or.inr (Or.inr ⟨hk,rfl⟩))⟩⟩⟩ (Or.inl ⟨hss (by omega),fun e=>by have e:(1:Int) = 13:=e;omega⟩) (by show (1:Int)≠16;decide)
 ·have e:M.took x = M.wrap (Xa.load { M.R with word:=x.word } 10 (root 24)):=by unfold MR.took;simp only [hs];rfl
  rw [e]
  exact rp_to h1 (hss (by omega)) ⟨rfl,rfl,rfl,rfl⟩ hc ⟨hc,acc_load (Or.inr (Or.inl rfl)),Or.inr (Or.inr (Or.inr (Or.inr (Or.inr (Or.inr (Or.inr (Or.inr (Or.inr (Or.inl ⟨rfl,hk,ho⟩)))))))))⟩ (by decide) (by decide) (by decide)
 ·have e:M.took x = bif M.R.dating then { MR.note { M with R:={ M.R with clock:=x.word } } M.R.word.nm x.word.nm with R:=(MR.note { M with R:={ M.R with clock:=x.word } } M.R.word.nm x.word.nm).R.advance 11 } else (MR.note { M with R:={ M.R with clock:=x.word } } M.R.word.nm x.word.nm).noted:=by unfold MR.took;simp only [hs];rfl
  rw [e]
  have hn:=rb_note (M:={ M with R:={ M.R with clock:=x.word } }) (RBase.of (R:=M.R) (ds:=M.ds) (ss:=M.ss) h ⟨rfl,rfl,rfl,rfl⟩) (by show WOn n M.R.call.old;rw [hc];exact ho) M.R.word.nm x.word.nm
  cases M.R.dating with
  | false=>exact rp_noted hn (hss (by omega)) hc hk
  | true =>
   refine ⟨RBase.of hn ⟨rfl,rfl,rfl,rfl⟩,Or.inl ⟨by show (11:Int)≠0;decide,⟨hc,acc_clock,?_⟩,fun _=>hss (by omega),fun e=>?_,fun e=>?_⟩⟩
   ·exact Or.inr (Or.inr (Or.inr (Or.inr (Or.inr (Or.inr (Or.inr (Or.inr (Or.inr (Or.inr (Or.inl ⟨rfl,hk⟩))))))))))
   ·have e:(11:Int) = 13:=e
    omega
   ·have e:(11:Int) = 16:=e
    omega
 ·have e:M.took x = M.noted:=by unfold MR.took;simp only [hs];rfl
  rw [e]
  exact rp_noted h1 (hss (by omega)) hc hk
 ·have e:M.took x = M.wrap (Xa.look { M.R with clock:=x.word } 0).1:=by unfold MR.took;simp only [hs];rfl
  rw [e]
  have hl:=stp_look (st:=st) (n:=n) (R:={ M.R with clock:=x.word }) h.th1 h.th6 hc hk (by show M.R.engine≠1;omega) 0 (by decide)
  have hlim:=(lim_in (R:={ M.R with clock:=x.word }) h.th1 h.th6).1
  have h2:(Xa.look { M.R with clock:=x.word } 0).2 = true:=by
   cases h:(Xa.look { M.R with clock:=x.word } 0).2 with
   | true=>rfl
   | false=>exact absurd (hl.2.1 h) (by omega)
  obtain ⟨q1,q2,q3,q4,q5⟩:=hl.1 h2
  exact Yy h1 ⟨q1,Or.inl ⟨q2,q3⟩⟩ (Or.inl ⟨hss (by omega),fun _=>by rw [q4];decide⟩) (by rw [q5];decide)
 ·have e:M.took x = M.tookLoad13 x:=by unfold MR.took;simp only [hs];rfl
  rw [e]
  unfold MR.tookLoad13
  have hln:=lim_in (R:=M.R) h.th1 h.th6
  have hsl:=hb.s13 hs
  have hlen:(M.ss++[x.word]).length = M.ss.length+1:=by simp
  have hN:RBase n (t+1) { M with ss:=M.ss++[x.word] }:=⟨h1.me0,h1.me1,h1.th1,h1.th6,h1.eng,h1.nl,h1.dsub,by show (M.ss++[x.word]).length≤54;omega,h1.nref⟩
  have hl:=stp_look (st:=st) (n:=n) (R:=M.R) h.th1 h.th6 hc hk he (M.R.index+1) (by omega)
  simp only
  cases h2:(M.R.look (M.R.index+1)).2 with
  | true =>
   obtain ⟨q1,q2,q3,q4,q5⟩:=hl.1 h2
   refine ⟨RBase.of hN q1,Or.inl ⟨q2,q3,fun e=>?_,fun _=>?_,fun e=>?_⟩⟩
   ·simp only [cond_true] at e;omega
   ·show (((M.ss++[x.word]).length:Nat):Int)≤(M.R.look (M.R.index+1)).1.index
    rw [hlen,q4];omega
   ·simp only [cond_true] at e;omega
  | false =>
   simp only [cond_false]
   cases h4:!(M.R.engine==4) with
   | true=>exact rp_sift hN hc hk
   | false =>
    have h4:M.R.engine = 4:=by simpa using h4
    simp only [cond_false]
    cases spansMay M.R.clock.nm ((M.ss++[x.word]).map hear) with
    | true =>
     refine ⟨RBase.of hN ⟨rfl,rfl,rfl,rfl⟩,Or.inl ⟨by show (14:Int)≠0;decide,⟨hc,acc_clock,?_⟩,fun e=>?_,fun e=>?_,fun e=>?_⟩⟩
     ·exact Or.inr (Or.inr (Or.inr (Or.inr (Or.inr (Or.inr (Or.inr (Or.inr (Or.inr (Or.inr (Or.inr (Or.inr (Or.inr (Or.inl ⟨rfl,hk,h4⟩)))))))))))))
     ·have e:(14:Int) < 13:=e
      omega
     ·have e:(14:Int) = 13:=e
      omega
     ·have e:(14:Int) = 16:=e
      omega
    | false =>
     have hp:=ld15 M.R (Hd.refl _) hc h4 hk
     rcases hp.2 with ⟨z,q⟩ | ⟨z,q⟩
     ·refine ⟨RBase.of hN ⟨rfl,rfl,rfl,rfl⟩,Or.inl ⟨z,q,fun e=>?_,fun e=>?_,fun e=>?_⟩⟩
      ·have e:(15:Int) < 13:=e
       omega
      ·have e:(15:Int) = 13:=e
       omega
      ·have e:(15:Int) = 16:=e
       omega
     ·have z:(15:Int) = 0:=z
      omega
 ·have e:M.took x = M.wrap (M.R.load 15 (root 24)):=by unfold MR.took;simp only [hs];rfl
  rw [e]
  exact Yy h1 (ld15 M.R (Hd.refl _) hc he hk) (Or.inr (by show (14:Int)≤15;decide)) (by show (15:Int)≠16;decide)
 ·have e:M.took x = MR.sift { M with R:={ M.R with clock:=x.word } }:=by unfold MR.took;simp only [hs];rfl
  rw [e]
  exact rp_sift (M:={ M with R:={ M.R with clock:=x.word } }) ⟨h1.me0,h1.me1,h1.th1,h1.th6,h1.eng,h1.nl,h1.dsub,h1.sl,h1.nref⟩ hc hk
 ·have e:M.took x = M.tookFree:=by unfold MR.took;simp only [hs];rfl
  rw [e]
  obtain ⟨d,r,hd,hac⟩:=hb.s16 hs
  unfold MR.tookFree
  rw [hd]
  simp only
  refine rp_reap (M:=⟨{ M.R with freed:=wr (M.R.freed+1) },M.ns.erase d,r,M.ss⟩) ⟨h1.me0,h1.me1,h1.th1,h1.th6,h1.eng,?_,?_,h1.sl,fun y hy=>h1.nref y (List.mem_of_mem_erase hy)⟩ hc hk
  ·have:=(List.erase_sublist (a:=d) (l:=M.ns)).length_le
   have:=h1.nl
   show (M.ns.erase d).length≤t+1
   omega
  ·have hq:=h1.dsub.erase d
   rw [hd,List.erase_cons_head] at hq
   exact hq
end
end Go.Proofs.YtaipogljokblkaaGreatDoor
