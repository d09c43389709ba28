/- Core: RP, RQ, RS, VB. -/
import Derived.Test.YtaipogljokblkaaGreatDoorZ21
import Derived.Test.YtaipogljokblkaaGreatDoorZ24
import Derived.Test.YtaipogljokblkaaGreatDoorZ13
import Derived.Test.YtaipogljokblkaaGreatDoorZ17
import Derived.Test.YtaipogljokblkaaGreatDoorZ14
set_option linter.all false
set_option maxRecDepth 100000
set_option maxHeartbeats 8000000
namespace Go.Proofs.YtaipogljokblkaaGreatDoor
open Go Go.RowKit
set_option linter.unusedSimpArgs false
set_option linter.unusedVariables false
set_option linter.unusedSectionVars false
theorem noted_end {w w1 w':World} {g:Nat} {R4:Xa} {ns4 ds:List Xp} {ss:List Xf} {a b c:GSl} {e:Ending} {F:List Nat} (ht:Thr R4) (hg:g∈F) (hc1:Chg F w w1) (h:RB w1 g (Yw R4 a b c) ns4 ds ss) (hF:∀ x∈Yc g (Yw R4 a b c),x∈F∨w.heap.size≤x)
  (hp:e = .returned (.tuple #[])∧Bk w' g 171 (Yw R4 a b c).noted.l.toArray∧Chg [g] w1 w'):RetR w g F (.tuple #[]) (MR.noted ⟨R4,ns4,ds,ss⟩) e w':=by
 obtain ⟨rfl,hb,hc⟩:=hp
 unfold MR.noted
 unfold Xa.noted at hb
 rw [own_n h.on] at hb
 show RetR w g F _ (bif decide (R4.most≤(ns4.length:Int)) then MR.wrap ⟨R4,ns4,ds,ss⟩ R4.scan else MR.wrap ⟨R4,ns4,ds,ss⟩ R4.done) _ _
 rw [show (Yw R4 a b c).most = R4.most from rfl] at hb
 cases hm:decide (R4.most≤(ns4.length:Int)) with
 | true=>rw [hm] at hb;exact retR_wrap ht hg hc1 h hF hdr_scan hb hc
 | false=>rw [hm] at hb;exact retR_wrap ht hg hc1 h hF hdr_done hb hc
theorem retire2_any (w:World) (g:Nat) (R:Xa) (ns ds:List Xp) (ss:List Xf) (h:RB w g R ns ds ss) (ht:Thr R) (hl:ns.length≤100000) (he:R.engine = 2) :
  Calls Tryz.prog 103 #[.pointer (some ⟨g,0,none⟩)] w (RetR w g (Yc g R) (.tuple #[]) (MR.retire ⟨R,ns,ds,ss⟩)):=by
 have c46:=(rcells3 h.bk).2.1
 rw [he] at c46
 have HH:=Lib.hid h
 have HM:Hid (MR.retire ⟨R,ns,ds,ss⟩ = MR.noted ⟨R,ns++[⟨wref R.call.old,0,0⟩],ds,ss⟩):=Lib.hid (by unfold MR.retire;simp only [he];rfl)
 have hgl:=h.bk.lt
 clear h he
 go_enter Tryz.func103,Tryz.ntmps103
 go_wp2_with fail
 refine (note_any w g R ns ds ss HH.out hl 0 0).mono ?_
 rintro e w4 ⟨rfl,hn,hrb,hc4,hf4⟩
 have HB:Hid (RB w4 g (Yw R hn R.doomed R.seen) (ns++[⟨wref R.call.old,0,0⟩]) ds ss):=Lib.hid hrb
 have HC4:=Lib.hid hc4
 have HF:Hid (∀ x∈Yc g (Yw R hn R.doomed R.seen),x∈Yc g R∨w.heap.size≤x):=by
  refine Lib.hid (fun x hx=>?_)
  rcases Xk.1 hx with h1 | h1 | h1 | h1
  ·exact Or.inl (Xk.2 (Or.inl h1))
  ·exact (hf4 x h1).imp (fun h2=>Xk.2 (Or.inr (Or.inl h2))) id
  ·exact Or.inl (Xk.2 (Or.inr (Or.inr (Or.inl h1))))
  ·exact Or.inl (Xk.2 (Or.inr (Or.inr (Or.inr h1))))
 clear hrb hc4 hf4
 go_wp2_with fail
 refine (rnoted_any (Yw R hn R.doomed R.seen) g w4 HB.out.bk).mono ?_
 intro e w6 hp
 have hr:=noted_end (w:=w) (F:=Yc g R) ht (Xk.2 (Or.inl rfl)) HC4.out HB.out HF.out hp
 rw [← HM.out] at hr
 obtain rfl:=hr.1
 have HR:=Lib.hid hr
 clear hr hp
 go_wp2_with fail
 go_end0
 exact HR.out
theorem rcall {w:World} {g:Nat} {R:Xa} (h:Bk w g 171 R.l.toArray):∀ (j:Nat) (u:Value),R.call.l[j]? = some u→w.cell? ⟨g,0+j,none⟩ = some u:=fun j u hu=>by
 rw [Nat.zero_add,h.cell]
 have:R.l = R.call.l++R.l.drop 18:=by kernel_rfl
 have hj:j < R.call.l.length:=by
  rcases Nat.lt_or_ge j R.call.l.length with h' | h'
  ·exact h'
  ·rw [List.getElem?_eq_none h'] at hu;cases hu
 rw [List.getElem?_toArray,this,List.getElem?_append_left hj]
 exact hu
theorem open10_any (w:World) (g:Nat) (R:Xa) (ns ds:List Xp) (ss:List Xf) (h:RB w g R ns ds ss) (ht:Thr R) (hl:ns.length≤100000) (he:R.engine = 2) (hk:R.call.kind = 10) :
  Calls Tryz.prog 84 #[.pointer (some ⟨g,0,none⟩)] w (RetR w g (Yc g R) (.tuple #[]) (MR.retire ⟨R,ns,ds,ss⟩)):=by
 have HH:=Lib.hid h
 have hgl:=h.bk.lt
 have hcl:=rcall h.bk
 clear h
 go_enter Tryz.func84,Tryz.ntmps84
 go_wp2_with (refine wpList_load_mid (by rfl) _ _ (by rfl) g 0 (by rfl) [.int .i64 R.call.kind,.int .i64 R.call.adr.sl,.int .i64 R.call.adr.gn,.int .i64 R.call.adr.fd,.int .i64 R.call.old.sl,.int .i64 R.call.old.gn,.int .i64 R.call.old.tg,.int .i64 R.call.old.nm,.bool R.call.old.mark,.int .i64 R.call.new.sl,.int .i64 R.call.new.gn,.int .i64 R.call.new.tg,.int .i64 R.call.new.nm,.bool R.call.new.mark,.int .i64 R.call.i,.int .i64 R.call.j,.int .i64 R.call.ans.code,.int .i64 R.call.ans.val] _ hcl Tryz.underlying120 (by rfl) (by kernel_rfl) ?_;clear hcl)
 refine (retire2_any _ g R ns ds ss (HH.out.chg (F:=[]) (Chg.of_below ((Below.refl _ _).alloc (Nat.le_refl _) _)) (fun _ _=>List.not_mem_nil)) ht hl he).mono ?_
 intro e w6 hr
 have hr:=RetR.after (Chg.of_below (F:=Yc g R) ((Below.refl _ _).alloc (Nat.le_refl _) _)) (fun x hx=>Or.inl hx) hr
 obtain rfl:=hr.1
 have HR:=Lib.hid hr
 clear hr
 go_wp2_with fail
 go_end0
 exact HR.out
theorem begin10_any (w:World) (g:Nat) (R:Xa) (ns ds:List Xp) (ss:List Xf) (c:Xg) (h:RB w g R ns ds ss) (ht:Thr R) (hl:ns.length≤100000) (he:R.engine = 2) (hk:c.kind = 10) (hs:R.step = 0) :
  Calls Tryz.prog 71 #[.pointer (some ⟨g,0,none⟩),.agg c.l.toArray] w (RetR w g (Yc g R) .nilIface (MR.retire ⟨R.turn c,ns,[],[]⟩)):=by
 have HH:=Lib.hid h
 have hgl:=h.bk.lt
 have c18:=cell18 h.bk
 rw [hs] at c18
 clear h
 obtain ⟨c0,⟨c1,c2,c3⟩,⟨c4,c5,c6,c7,c8⟩,⟨c9,c10,c11,c12,c13⟩,c14,c15,⟨c16,c17⟩⟩:=c
 simp only at hk
 subst hk
 show Calls Tryz.prog 71 #[.pointer (some ⟨g,0,none⟩),.agg #[.int .i64 10,.int .i64 c1,.int .i64 c2,.int .i64 c3,.int .i64 c4,.int .i64 c5,.int .i64 c6,.int .i64 c7,.bool c8,.int .i64 c9,.int .i64 c10,.int .i64 c11,.int .i64 c12,.bool c13,.int .i64 c14,.int .i64 c15,.int .i64 c16,.int .i64 c17]] w _
 have HX:=HH.out.chg (F:=[]) (w':=w.alloc (.cells #[.int .i64 10,.int .i64 c1,.int .i64 c2,.int .i64 c3,.int .i64 c4,.int .i64 c5,.int .i64 c6,.int .i64 c7,.bool c8,.int .i64 c9,.int .i64 c10,.int .i64 c11,.int .i64 c12,.bool c13,.int .i64 c14,.int .i64 c15,.int .i64 c16,.int .i64 c17] 120)) (Chg.of_below ((Below.refl _ _).alloc (Nat.le_refl _) _)) (fun _ _=>List.not_mem_nil)
 have HXH:=Lib.hid HX
 have HB:=Lib.hid HX.bk
 clear HX
 go_enter Tryz.func71,Tryz.ntmps71
 go_wp2_with (refine Ym (by rfl) _ _ _ (by rfl) g 0 _ (by rfl) (by rfl) _ _ (R.turn ⟨10,⟨c1,c2,c3⟩,⟨c4,c5,c6,c7,c8⟩,⟨c9,c10,c11,c12,c13⟩,c14,c15,⟨c16,c17⟩⟩).l.toArray HB.out (Nat.le_of_ble_eq_true (by kernel_rfl)) (by kernel_rfl) (by rfl) (by kernel_rfl) ?_;intro w2 hst)
 have hc2:Chg [g] _ w2:=Chg.of_grown (b:=0) hst.grown (fun b e=>by injection e with e;simp [e])
 have hup:=HXH.out.upd (R':=R.turn ⟨10,⟨c1,c2,c3⟩,⟨c4,c5,c6,c7,c8⟩,⟨c9,c10,c11,c12,c13⟩,c14,c15,⟨c16,c17⟩⟩) (ds':=[]) (ss':=[]) hst.bk hc2 rfl (Or.inr ⟨rfl,rfl⟩) (Or.inr ⟨rfl,rfl⟩)
 refine (open10_any w2 g _ ns [] [] hup ht hl he rfl).mono ?_
 intro e w6 hr
 have hr:=RetR.after (F:=Yc g R) ((Chg.of_below ((Below.refl _ _).alloc (Nat.le_refl _) _)).trans (chg_g hc2 (Xk.2 (Or.inl rfl)))) (fun x hx=>by
  have en:nilSl.v.ownBlock = none:=rfl
  rcases Xk.1 hx with h1 | h1 | h1 | h1
  ·exact Or.inl (Xk.2 (Or.inl h1))
  ·exact Or.inl (Xk.2 (Or.inr (Or.inl h1)))
  ·cases h1
  ·cases h1) hr
 obtain ⟨rfl,a,b,c,h1,h2,h3⟩:=hr
 have HR:Hid (RetR w g (Yc g R) .nilIface _ (.returned .nilIface) w6):=Lib.hid ⟨rfl,a,b,c,h1,h2,h3⟩
 clear h1 h2 h3 hst hc2 hup
 go_wp2_with fail
 go_ret
 exact HR.out
theorem hdr_enter:Hdr Xa.enter:=hdr_bif (p:=Xa.spanning) (fun _ _ _ _=>rfl) (hdr_load (st:=3) rfl _) hdr_done
theorem hdr_alloc:Hdr Xa.alloc:=hdr_bif (p:=Xa.dating) (fun _ _ _ _=>rfl) (hdr_load (st:=8) rfl _) (hdr_ask (st:=1) rfl _)
theorem hdr_hold (i j:Int):Hdr fun R=>R.hold i j:=fun R a b c ht=>by
 show (bif R.keeping && !weq (R.getH i) (R.getH j) then (Yw R a b c).post 2 i (R.getH j) else (Yw R a b c).done) = Yw (bif R.keeping && !weq (R.getH i) (R.getH j) then R.post 2 i (R.getH j) else R.done) a (bif (bif R.keeping && !weq (R.getH i) (R.getH j) then R.post 2 i (R.getH j) else R.done).step==0 then nilSl else b) (bif (bif R.keeping && !weq (R.getH i) (R.getH j) then R.post 2 i (R.getH j) else R.done).step==0 then nilSl else c)
 cases R.keeping && !weq (R.getH i) (R.getH j) with
 | true=>exact hdr_post (st:=2) rfl i (R.getH j) R a b c ht
 | false=>rfl
theorem hdr_retire1:Hdr Xa.retire1:=fun R a b c ht=>by
 show (bif R.engine==1 then (Yw R a b c).done else bif R.engine==4 then (Yw R a b c).load 10 (root 24) else (Yw R a b c).load 9 (Xx R.call.old 9)) = Yw (bif R.engine==1 then R.done else bif R.engine==4 then R.load 10 (root 24) else R.load 9 (Xx R.call.old 9)) a (bif (bif R.engine==1 then R.done else bif R.engine==4 then R.load 10 (root 24) else R.load 9 (Xx R.call.old 9)).step==0 then nilSl else b) (bif (bif R.engine==1 then R.done else bif R.engine==4 then R.load 10 (root 24) else R.load 9 (Xx R.call.old 9)).step==0 then nilSl else c)
 cases R.engine==1 with
 | true=>rfl
 | false =>
  cases R.engine==4 with
  | true=>rfl
  | false=>rfl
theorem Yn {w w':World} {g:Nat} {R:Xa} {ns ds:List Xp} {ss:List Xf} {e:Ending} {v:Value} {c:Xg} (ht:Thr R) (h:RB w g R ns ds ss) {f:Xa→Xa} (hf:Hdr f) (hp:e = .returned v∧Bk w' g 171 (f (R.turn c)).l.toArray∧Chg [g] w w') :
  RetR w g (Yc g R) v ⟨f (R.turn c),ns,[],[]⟩ e w':=by
 obtain ⟨rfl,hb,hc⟩:=hp
 have e1:f (R.turn c) = Yw (f (R.turn c)) R.notes nilSl nilSl:=by
  have h1:=hf (R.turn c) R.notes nilSl nilSl ht
  have h2:∀ b:Bool,(bif b then nilSl else nilSl) = nilSl:=fun b=>by cases b <;> rfl
  rw [h2] at h1
  exact h1
 rw [e1] at hb
 refine ⟨rfl,R.notes,nilSl,nilSl,h.upd hb hc rfl (Or.inr ⟨rfl,rfl⟩) (Or.inr ⟨rfl,rfl⟩),chg_g hc (Xk.2 (Or.inl rfl)),fun x hx=>Or.inl ?_⟩
 rcases Xk.1 hx with h1 | h1 | h1 | h1
 ·exact Xk.2 (Or.inl h1)
 ·exact Xk.2 (Or.inr (Or.inl h1))
 ·cases h1
 ·cases h1
def GcOk (c:Xg):Prop :=
 c.kind = 1∨c.kind = 2∨c.kind = 3∨c.kind = 4∨c.kind = 5∨(c.kind = 6∧0≤c.i∧c.i < 9∧c.j = 0)∨(c.kind = 7∧((c.i = 2∧c.j = 1)∨(c.i = 1∧c.j = 0)∨(c.i = 5∧c.j = 4)∨(c.i = 4∧c.j = 3)∨(c.i = 8∧c.j = 7)∨(c.i = 7∧c.j = 6)∨(c.i = 2∧c.j = 5)∨(c.i = 5∧c.j = 8)))∨c.kind = 8∨c.kind = 9∨c.kind = 10∨c.kind = 11
theorem ckA {c:Xg} {k:Int} (h:c.kind = k):({ c with kind:=k }:Xg) = c:=by subst h;rfl
theorem ckB {c:Xg} {k j:Int} (h:c.kind = k) (h2:c.j = j):({ c with kind:=k,j:=j }:Xg) = c:=by subst h;subst h2;rfl
theorem ckC {c:Xg} {k i j:Int} (h:c.kind = k) (h1:c.i = i) (h2:c.j = j):({ c with kind:=k,i:=i,j:=j }:Xg) = c:=by subst h;subst h1;subst h2;rfl
theorem beg (R:Xa) (ns ds:List Xp) (ss:List Xf) (c:Xg) (h0:c.kind≠10) (h1:c.kind≠11):MR.begin_ ⟨R,ns,ds,ss⟩ c = ⟨R.begin1 c,ns,[],[]⟩:=by
 unfold MR.begin_
 rw [show (c.kind==10) = false from by simp [h0],show (c.kind==11) = false from by simp [h1]]
 rfl
theorem wrap_nil (R R':Xa) (ns:List Xp):MR.wrap ⟨R,ns,[],[]⟩ R' = ⟨R',ns,[],[]⟩:=by
 unfold MR.wrap
 cases R'.step==0 <;> rfl
theorem begin_any (M:MR) (c:Xg) (g:Nat) (w:World) (h:RB w g M.R M.ns M.ds M.ss) (ok:ROk M) (hs:M.R.step = 0) (hc:GcOk c) :
  Calls Tryz.prog 71 #[.pointer (some ⟨g,0,none⟩),.agg c.l.toArray] w (RetR w g (Yc g M.R) .nilIface (M.begin_ c)):=by
 obtain ⟨R,ns,ds,ss⟩:=M
 obtain ⟨m0,m1,ht,he,hnl,hdl,hsl⟩:=ok
 unfold GcOk at hc
 simp only at h m0 m1 ht he hnl hdl hsl hs ⊢
 have eR:({ R with step:=0 }:Xa) = R:=rqA hs
 rcases hc with hk | hk | hk | hk | hk | ⟨hk,hi0,hi1,hj⟩ | ⟨hk,hij⟩ | hk | hk | hk | hk
 ·have hq:=rb1_any R c g w (by rw [eR];exact h.bk) m0 m1
  rw [eR,ckA hk] at hq
  rw [beg _ _ _ _ _ (by omega) (by omega),show R.begin1 c = (R.turn c).enter from by unfold Xa.begin1;simp only [hk];rfl]
  rw [show R.begin1 c = (R.turn c).enter from by unfold Xa.begin1;simp only [hk];rfl] at hq
  exact hq.mono fun en w' hp=>Yn ht h hdr_enter hp
 ·rw [beg _ _ _ _ _ (by omega) (by omega),show R.begin1 c = (R.turn c).leave [0,1,2,3,4,5,6,7,8] from by unfold Xa.begin1;simp only [hk];rfl]
  rcases he with hk2 | hk2 | hk2 | hk2 | hk2
  ·have hq:=rb2_e1_any R c g w (by rw [rqB hs hk2];exact h.bk) m0 m1
   rw [rqB hs hk2,ckA hk] at hq
   rw [show R.begin1 c = (R.turn c).leave [0,1,2,3,4,5,6,7,8] from by unfold Xa.begin1;simp only [hk];rfl] at hq
   exact hq.mono fun en w' hp=>Yn ht h (Yp _) hp
  ·have hq:=rb2_e2_any R c g w (by rw [rqB hs hk2];exact h.bk) m0 m1
   rw [rqB hs hk2,ckA hk] at hq
   rw [show R.begin1 c = (R.turn c).leave [0,1,2,3,4,5,6,7,8] from by unfold Xa.begin1;simp only [hk];rfl] at hq
   exact hq.mono fun en w' hp=>Yn ht h (Yp _) hp
  ·have hq:=rb2_e3_any R c g w (by rw [rqB hs hk2];exact h.bk) m0 m1
   rw [rqB hs hk2,ckA hk] at hq
   rw [show R.begin1 c = (R.turn c).leave [0,1,2,3,4,5,6,7,8] from by unfold Xa.begin1;simp only [hk];rfl] at hq
   exact hq.mono fun en w' hp=>Yn ht h (Yp _) hp
  ·have hq:=rb2_e4_any R c g w (by rw [rqB hs hk2];exact h.bk) m0 m1
   rw [rqB hs hk2,ckA hk] at hq
   rw [show R.begin1 c = (R.turn c).leave [0,1,2,3,4,5,6,7,8] from by unfold Xa.begin1;simp only [hk];rfl] at hq
   exact hq.mono fun en w' hp=>Yn ht h (Yp _) hp
  ·have hq:=rb2_e5_any R c g w (by rw [rqB hs hk2];exact h.bk) m0 m1
   rw [rqB hs hk2,ckA hk] at hq
   rw [show R.begin1 c = (R.turn c).leave [0,1,2,3,4,5,6,7,8] from by unfold Xa.begin1;simp only [hk];rfl] at hq
   exact hq.mono fun en w' hp=>Yn ht h (Yp _) hp
 ·have hq:=rb3_any R c g w (by rw [eR];exact h.bk) m0 m1
  rw [eR,ckA hk] at hq
  rw [beg _ _ _ _ _ (by omega) (by omega),show R.begin1 c = (R.turn c).load 1 c.adr from by unfold Xa.begin1;simp only [hk];rfl]
  rw [show R.begin1 c = (R.turn c).load 1 c.adr from by unfold Xa.begin1;simp only [hk];rfl] at hq
  exact hq.mono fun en w' hp=>Yn ht h (hdr_load (st:=1) rfl _) hp
 ·have hq:=rb4_any R c g w (by rw [eR];exact h.bk) m0 m1
  rw [eR,ckA hk] at hq
  rw [beg _ _ _ _ _ (by omega) (by omega),show R.begin1 c = (R.turn c).ask 1 ⟨2,c.adr,c.old,c.new⟩ from by unfold Xa.begin1;simp only [hk];rfl]
  rw [show R.begin1 c = (R.turn c).ask 1 ⟨2,c.adr,c.old,c.new⟩ from by unfold Xa.begin1;simp only [hk];rfl] at hq
  exact hq.mono fun en w' hp=>Yn ht h (hdr_ask (st:=1) rfl _) hp
 ·have hq:=rb5_any R c g w (by rw [eR];exact h.bk) m0 m1
  rw [eR,ckA hk] at hq
  rw [beg _ _ _ _ _ (by omega) (by omega),show R.begin1 c = (R.turn c).ask 1 ⟨3,c.adr,c.old,c.new⟩ from by unfold Xa.begin1;simp only [hk];rfl]
  rw [show R.begin1 c = (R.turn c).ask 1 ⟨3,c.adr,c.old,c.new⟩ from by unfold Xa.begin1;simp only [hk];rfl] at hq
  exact hq.mono fun en w' hp=>Yn ht h (hdr_ask (st:=1) rfl _) hp
 ·have hq:=rb6_any R c g w (by rw [eR];exact h.bk) m0 m1 hi0 hi1
  rw [eR,ckB hk hj] at hq
  rw [beg _ _ _ _ _ (by omega) (by omega),show R.begin1 c = (R.turn c).load 5 c.adr from by unfold Xa.begin1;simp only [hk];rfl]
  rw [show R.begin1 c = (R.turn c).load 5 c.adr from by unfold Xa.begin1;simp only [hk];rfl] at hq
  exact hq.mono fun en w' hp=>Yn ht h (hdr_load (st:=5) rfl _) hp
 ·rw [beg _ _ _ _ _ (by omega) (by omega),show R.begin1 c = (R.turn c).hold c.i c.j from by unfold Xa.begin1;simp only [hk];rfl]
  rcases hij with ⟨hi,hj⟩ | ⟨hi,hj⟩ | ⟨hi,hj⟩ | ⟨hi,hj⟩ | ⟨hi,hj⟩ | ⟨hi,hj⟩ | ⟨hi,hj⟩ | ⟨hi,hj⟩
  ·have hq:=rb7_2_1_any R c g w (by rw [eR];exact h.bk) m0 m1
   rw [eR,ckC hk hi hj] at hq
   rw [show R.begin1 c = (R.turn c).hold c.i c.j from by unfold Xa.begin1;simp only [hk];rfl] at hq
   exact hq.mono fun en w' hp=>Yn ht h (hdr_hold _ _) hp
  ·have hq:=rb7_1_0_any R c g w (by rw [eR];exact h.bk) m0 m1
   rw [eR,ckC hk hi hj] at hq
   rw [show R.begin1 c = (R.turn c).hold c.i c.j from by unfold Xa.begin1;simp only [hk];rfl] at hq
   exact hq.mono fun en w' hp=>Yn ht h (hdr_hold _ _) hp
  ·have hq:=rb7_5_4_any R c g w (by rw [eR];exact h.bk) m0 m1
   rw [eR,ckC hk hi hj] at hq
   rw [show R.begin1 c = (R.turn c).hold c.i c.j from by unfold Xa.begin1;simp only [hk];rfl] at hq
   exact hq.mono fun en w' hp=>Yn ht h (hdr_hold _ _) hp
  ·have hq:=rb7_4_3_any R c g w (by rw [eR];exact h.bk) m0 m1
   rw [eR,ckC hk hi hj] at hq
   rw [show R.begin1 c = (R.turn c).hold c.i c.j from by unfold Xa.begin1;simp only [hk];rfl] at hq
   exact hq.mono fun en w' hp=>Yn ht h (hdr_hold _ _) hp
  ·have hq:=rb7_8_7_any R c g w (by rw [eR];exact h.bk) m0 m1
   rw [eR,ckC hk hi hj] at hq
   rw [show R.begin1 c = (R.turn c).hold c.i c.j from by unfold Xa.begin1;simp only [hk];rfl] at hq
   exact hq.mono fun en w' hp=>Yn ht h (hdr_hold _ _) hp
  ·have hq:=rb7_7_6_any R c g w (by rw [eR];exact h.bk) m0 m1
   rw [eR,ckC hk hi hj] at hq
   rw [show R.begin1 c = (R.turn c).hold c.i c.j from by unfold Xa.begin1;simp only [hk];rfl] at hq
   exact hq.mono fun en w' hp=>Yn ht h (hdr_hold _ _) hp
  ·have hq:=rb7_2_5_any R c g w (by rw [eR];exact h.bk) m0 m1
   rw [eR,ckC hk hi hj] at hq
   rw [show R.begin1 c = (R.turn c).hold c.i c.j from by unfold Xa.begin1;simp only [hk];rfl] at hq
   exact hq.mono fun en w' hp=>Yn ht h (hdr_hold _ _) hp
  ·have hq:=rb7_5_8_any R c g w (by rw [eR];exact h.bk) m0 m1
   rw [eR,ckC hk hi hj] at hq
   rw [show R.begin1 c = (R.turn c).hold c.i c.j from by unfold Xa.begin1;simp only [hk];rfl] at hq
   exact hq.mono fun en w' hp=>Yn ht h (hdr_hold _ _) hp
 ·have hq:=rb8_any R c g w (by rw [eR];exact h.bk) m0 m1
  rw [eR,ckA hk] at hq
  rw [beg _ _ _ _ _ (by omega) (by omega),show R.begin1 c = (R.turn c).alloc from by unfold Xa.begin1;simp only [hk];rfl]
  rw [show R.begin1 c = (R.turn c).alloc from by unfold Xa.begin1;simp only [hk];rfl] at hq
  exact hq.mono fun en w' hp=>Yn ht h hdr_alloc hp
 ·have hq:=rb9_any R c g w (by rw [eR];exact h.bk) m0 m1
  rw [eR,ckA hk] at hq
  rw [beg _ _ _ _ _ (by omega) (by omega),show R.begin1 c = (R.turn c).ask 2 ⟨5,.zero,c.old,.zero⟩ from by unfold Xa.begin1;simp only [hk];rfl]
  rw [show R.begin1 c = (R.turn c).ask 2 ⟨5,.zero,c.old,.zero⟩ from by unfold Xa.begin1;simp only [hk];rfl] at hq
  exact hq.mono fun en w' hp=>Yn ht h (hdr_ask (st:=2) rfl _) hp
 ·have em:MR.begin_ ⟨R,ns,ds,ss⟩ c = MR.retire ⟨R.turn c,ns,[],[]⟩:=by unfold MR.begin_;simp only [hk];rfl
  rw [em]
  rcases he with hk2 | hk2 | hk2 | hk2 | hk2
  ·have hq:=rb10_e1_any R c g w (by rw [rqB hs hk2];exact h.bk)
   rw [rqB hs hk2,ckA hk] at hq
   rw [show MR.retire ⟨R.turn c,ns,[],[]⟩ = ⟨(R.turn c).retire1,ns,[],[]⟩ from by unfold MR.retire;rw [show ((R.turn c).engine==2) = false from by rw [show (R.turn c).engine = R.engine from rfl,hk2];rfl];exact wrap_nil _ _ _]
   exact hq.mono fun en w' hp=>Yn ht h hdr_retire1 hp
  ·exact begin10_any w g R ns ds ss c h ht hnl hk2 hk hs
  ·have hq:=rb10_e3_any R c g w (by rw [rqB hs hk2];exact h.bk)
   rw [rqB hs hk2,ckA hk] at hq
   rw [show MR.retire ⟨R.turn c,ns,[],[]⟩ = ⟨(R.turn c).retire1,ns,[],[]⟩ from by unfold MR.retire;rw [show ((R.turn c).engine==2) = false from by rw [show (R.turn c).engine = R.engine from rfl,hk2];rfl];exact wrap_nil _ _ _]
   exact hq.mono fun en w' hp=>Yn ht h hdr_retire1 hp
  ·have hq:=rb10_e4_any R c g w (by rw [rqB hs hk2];exact h.bk)
   rw [rqB hs hk2,ckA hk] at hq
   rw [show MR.retire ⟨R.turn c,ns,[],[]⟩ = ⟨(R.turn c).retire1,ns,[],[]⟩ from by unfold MR.retire;rw [show ((R.turn c).engine==2) = false from by rw [show (R.turn c).engine = R.engine from rfl,hk2];rfl];exact wrap_nil _ _ _]
   exact hq.mono fun en w' hp=>Yn ht h hdr_retire1 hp
  ·have hq:=rb10_e5_any R c g w (by rw [rqB hs hk2];exact h.bk)
   rw [rqB hs hk2,ckA hk] at hq
   rw [show MR.retire ⟨R.turn c,ns,[],[]⟩ = ⟨(R.turn c).retire1,ns,[],[]⟩ from by unfold MR.retire;rw [show ((R.turn c).engine==2) = false from by rw [show (R.turn c).engine = R.engine from rfl,hk2];rfl];exact wrap_nil _ _ _]
   exact hq.mono fun en w' hp=>Yn ht h hdr_retire1 hp
 ·have em:MR.begin_ ⟨R,ns,ds,ss⟩ c = ⟨(R.turn c).scan,ns,[],[]⟩:=by unfold MR.begin_;simp only [hk];exact wrap_nil _ _ _
  rw [em]
  have hq:=rb11_any R c g w (by rw [eR];exact h.bk)
  rw [eR,ckA hk] at hq
  exact hq.mono fun en w' hp=>Yn ht h hdr_scan hp
def Sim (M M':MR):Prop:=∃ a b c,M' = ⟨Yw M.R a b c,M.ns,M.ds,M.ss⟩
section
variable {M M':MR}
theorem sim_of (M:MR) (a b c:GSl):Sim M ⟨Yw M.R a b c,M.ns,M.ds,M.ss⟩:=⟨a,b,c,rfl⟩
theorem sim_step (h:Sim M M'):M'.R.step = M.R.step:=by obtain ⟨a,b,c,rfl⟩:=h;rfl
theorem sim_wrap {f:Xa→Xa} (hf:Hdr f) (h:Sim M M') (ht:Thr M.R):Sim (M.wrap (f M.R)) (M'.wrap (f M'.R)):=by
 obtain ⟨a,b,c,rfl⟩:=h
 simp only [hf M.R a b c ht,MR.wrap]
 have e:(Yw (f M.R) a (bif (f M.R).step==0 then nilSl else b) (bif (f M.R).step==0 then nilSl else c)).step = (f M.R).step:=rfl
 rw [e]
 cases (f M.R).step==0
 ·exact ⟨a,b,c,rfl⟩
 ·exact ⟨a,nilSl,nilSl,rfl⟩
theorem sim_scan (h:Sim M M') (ht:Thr M.R):Sim M.scan M'.scan:=sim_wrap hdr_scan h ht
theorem sim_noted (h:Sim M M') (ht:Thr M.R):Sim M.noted M'.noted:=by
 have h1:=sim_scan h ht
 have h2:=sim_wrap hdr_done h ht
 obtain ⟨a,b,c,rfl⟩:=h
 unfold MR.noted
 simp only
 have e:(Yw M.R a b c).most = M.R.most:=rfl
 rw [e]
 cases decide (M.R.most≤(M.ns.length:Int))
 ·exact h2
 ·exact h1
theorem sim_note (h:Sim M M') (b d:Int):Sim (M.note b d) (M'.note b d):=by
 obtain ⟨a,b',c,rfl⟩:=h
 exact ⟨a,b',c,rfl⟩
theorem sim_reap (h:Sim M M') (ht:Thr M.R):Sim M.reap M'.reap:=by
 have h2:=sim_wrap hdr_done h ht
 obtain ⟨a,b,c,rfl⟩:=h
 unfold MR.reap
 simp only
 cases hd:M.ds with
 | nil=>simp only [hd] at h2 ⊢;exact h2
 | cons d r=>simp only;exact ⟨a,b,c,by simp only [hd];rfl⟩
theorem sim_sift (h:Sim M M') (ht:Thr M.R):Sim M.sift M'.sift:=by
 obtain ⟨a,b,c,rfl⟩:=h
 unfold MR.sift
 exact sim_reap ⟨a,b,c,rfl⟩ ht
theorem sim_retire (h:Sim M M') (ht:Thr M.R):Sim M.retire M'.retire:=by
 have h1:=sim_noted (sim_note h 0 0) ht
 have h2:=sim_wrap hdr_retire1 h ht
 obtain ⟨a,b,c,rfl⟩:=h
 unfold MR.retire
 have e:(Yw M.R a b c).engine = M.R.engine:=rfl
 simp only [e]
 cases M.R.engine==2
 ·exact h2
 ·exact h1
theorem sim_13 (h:Sim M M') (ht:Thr M.R) (x:Xi):Sim (M.tookLoad13 x) (M'.tookLoad13 x):=by
 obtain ⟨a,b,c,rfl⟩:=h
 unfold MR.tookLoad13
 have e1:(Yw M.R a b c).index = M.R.index:=rfl
 have e2:(Yw M.R a b c).engine = M.R.engine:=rfl
 have e3:(Yw M.R a b c).clock = M.R.clock:=rfl
 simp only [look_hset,e1,e2,e3]
 cases (M.R.look (M.R.index+1)).2
 ·simp only [cond_false]
  cases (!(M.R.engine==4))
  ·simp only [cond_false]
   cases spansMay M.R.clock.nm (List.map hear (M.ss++[x.word]))
   ·exact ⟨a,b,c,rfl⟩
   ·exact ⟨a,b,c,rfl⟩
  ·exact sim_sift ⟨a,b,c,rfl⟩ ht
 ·exact ⟨a,b,c,rfl⟩
theorem sim_free (h:Sim M M') (ht:Thr M.R):Sim M.tookFree M'.tookFree:=by
 obtain ⟨a,b,c,rfl⟩:=h
 unfold MR.tookFree
 simp only
 cases hd:M.ds with
 | nil=>exact ⟨a,b,c,by simp only [hd]⟩
 | cons d r=>exact sim_reap ⟨a,b,c,rfl⟩ ht
theorem sim_begin (h:Sim M M') (ht:Thr M.R) (c:Xg):Sim (M.begin_ c) (M'.begin_ c):=by
 obtain ⟨a,b,d,rfl⟩:=h
 unfold MR.begin_
 simp only
 have et:(Yw M.R a b d).turn c = Yw (M.R.turn c) a nilSl nilSl:=rfl
 have h1:Sim ⟨M.R.turn c,M.ns,[],[]⟩ ⟨(Yw M.R a b d).turn c,M.ns,[],[]⟩:=⟨a,nilSl,nilSl,by rw [et]⟩
 cases c.kind==10
 ·cases c.kind==11
  ·simp only [cond_false]
   have hb:∃ b' d',(Yw M.R a b d).begin1 c = Yw (M.R.begin1 c) a b' d':=by
    unfold Xa.begin1
    simp only [et]
    have ht':Thr (M.R.turn c):=ht
    have fin:∀ {f:Xa→Xa},Hdr f→∃ b' d',f (Yw (M.R.turn c) a nilSl nilSl) = Yw (f (M.R.turn c)) a b' d':=fun hf=>⟨_,_,hf _ _ _ _ ht'⟩
    cases c.kind==1
    ·cases c.kind==2
     ·cases c.kind==3
      ·cases c.kind==4
       ·cases c.kind==5
        ·cases c.kind==6
         ·cases c.kind==7
          ·cases c.kind==8
           ·exact fin (hdr_ask (st:=2) rfl _)
           ·exact fin hdr_alloc
          ·exact fin (hdr_hold c.i c.j)
         ·exact fin (hdr_load (st:=5) rfl _)
        ·exact fin (hdr_ask (st:=1) rfl _)
       ·exact fin (hdr_ask (st:=1) rfl _)
      ·exact fin (hdr_load (st:=1) rfl _)
     ·exact fin (Yp _)
    ·exact fin hdr_enter
   obtain ⟨b',d',hb⟩:=hb
   exact ⟨a,b',d',by rw [hb]⟩
  ·exact sim_scan h1 ht
 ·exact sim_retire h1 ht
theorem sim_took (h:Sim M M') (ht:Thr M.R) (x:Xi):Sim (M.took x) (M'.took x):=by
 have hs:=sim_step h
 have g1:=sim_wrap (hdr_finish x) h ht
 have g2:=sim_wrap hdr_done h ht
 have g3:=sim_wrap (hdr_announce (st:=2) rfl ⟨true,x.word.nm,x.word.nm⟩) h ht
 have g4:=sim_wrap (Yp (([0,1,2,3,4,5,6,7,8]:List Int).filter fun n=>decide (M.R.index < n))) h ht
 have g5:=sim_wrap (hdr_tookLoad x) h ht
 have g6:=sim_wrap (hdr_tookClock x) h ht
 have g7:=sim_wrap hdr_loadC h ht
 have g8:=sim_wrap (hdr_ask (st:=1) rfl ⟨4,.zero,.zero,wnum x.word.nm⟩) h ht
 have g9:=sim_wrap (hdr_loadW x) h ht
 have g11:=sim_noted h ht
 have g12:=sim_wrap (hdr_lookC x) h ht
 have g13:=sim_13 h ht x
 have g14:=sim_wrap (hdr_load (st:=15) rfl (root 24)) h ht
 have g16:=sim_free h ht
 have g15:Sim (MR.sift { M with R:={ M.R with clock:=x.word } }) (MR.sift { M' with R:={ M'.R with clock:=x.word } }):=by
  obtain ⟨a,b,c,rfl⟩:=h
  exact sim_sift ⟨a,b,c,rfl⟩ ht
 have g10:Sim (MR.note { M with R:={ M.R with clock:=x.word } } M.R.word.nm x.word.nm) (MR.note { M' with R:={ M'.R with clock:=x.word } } M'.R.word.nm x.word.nm):=by
  obtain ⟨a,b,c,rfl⟩:=h
  exact ⟨a,b,c,rfl⟩
 have g10a:=sim_noted g10 ht
 have g10b:Sim { MR.note { M with R:={ M.R with clock:=x.word } } M.R.word.nm x.word.nm with R:=(MR.note { M with R:={ M.R with clock:=x.word } } M.R.word.nm x.word.nm).R.advance 11 }
   { MR.note { M' with R:={ M'.R with clock:=x.word } } M'.R.word.nm x.word.nm with R:=(MR.note { M' with R:={ M'.R with clock:=x.word } } M'.R.word.nm x.word.nm).R.advance 11 }:=by
  obtain ⟨a,b,c,rfl⟩:=h
  exact ⟨a,b,c,rfl⟩
 have ei:M'.R.index = M.R.index:=by obtain ⟨a,b,c,rfl⟩:=h;rfl
 have ed:M'.R.dating = M.R.dating:=by obtain ⟨a,b,c,rfl⟩:=h;rfl
 rw [← ei] at g4
 unfold MR.took
 have hs2:∀ k:Int,(M'.R.step==k) = (M.R.step==k):=fun k=>by rw [hs]
 simp only [hs2,ed]
 clear h hs hs2
 cases M.R.step==1
 ·cases M.R.step==2
  ·cases M.R.step==3
   ·cases M.R.step==4
    ·cases M.R.step==5
     ·cases M.R.step==6
      ·cases M.R.step==7
       ·cases M.R.step==8
        ·cases M.R.step==9
         ·cases M.R.step==10
          ·cases M.R.step==11
           ·cases M.R.step==12
            ·cases M.R.step==13
             ·cases M.R.step==14
              ·cases M.R.step==15
               ·exact g16
               ·exact g15
              ·exact g14
             ·exact g13
            ·exact g12
           ·exact g11
          ·cases M.R.dating
           ·exact g10a
           ·exact g10b
         ·exact g9
        ·exact g8
       ·exact g7
      ·exact g6
     ·exact g5
    ·rw [← ei];exact g4
   ·exact g3
  ·exact g2
 ·exact g1
end
def RBx (w:World) (g:Nat) (M:MR) (F:List Nat):Prop:=∃ a b c,RB w g (Yw M.R a b c) M.ns M.ds M.ss∧F = Yc g (Yw M.R a b c)
section
variable {w w':World} {g:Nat} {M:MR} {F:List Nat}
theorem RBx.same (h:RBx w g M F) (hs:∀ b∈F,w'.heap[b]? = w.heap[b]?):RBx w' g M F:=by
 obtain ⟨a,b,c,h,rfl⟩:=h
 exact ⟨a,b,c,⟨h.bk.same (hs g (Xk.2 (Or.inl rfl))),h.on.kept fun b hb=>hs b (Xk.2 (Or.inr (Or.inl hb))),h.od.kept fun b hb=>hs b (Xk.2 (Or.inr (Or.inr (Or.inl hb)))),h.os.kept fun b hb=>hs b (Xk.2 (Or.inr (Or.inr (Or.inr hb)))),h.gn,h.gd,h.gs,h.nd,h.ns,h.ds⟩,rfl⟩
theorem RBx.lt (h:RBx w g M F):∀ b∈F,b < w.heap.size:=by
 obtain ⟨a,b,c,h,rfl⟩:=h
 exact h.lt
theorem took_x (x:Xi) (h:RBx w g M F) (ok:ROk M) (so:StepOk M) :
  Calls Tryz.prog 58 #[.pointer (some ⟨g,0,none⟩),.agg x.l.toArray] w (JRet (fun w F=>RBx w g (M.took x) F) .nilIface F w):=by
 obtain ⟨a,b,c,h,rfl⟩:=h
 have hq:=took_any ⟨Yw M.R a b c,M.ns,M.ds,M.ss⟩ x g w h ⟨ok.me0,ok.me1,ok.thr,ok.eng,ok.nl,ok.dl,ok.sl⟩ so
 refine hq.mono fun en w' hp=>?_
 obtain ⟨p1,a1,b1,c1,p2,p3,p4⟩:=hp
 obtain ⟨a2,b2,c2,e⟩:=sim_took (sim_of M a b c) ok.thr x
 rw [e] at p2 p4
 exact ⟨_,p1,⟨a1,b1,c1,p2,rfl⟩,p4,p3⟩
theorem begin_x (c:Xg) (h:RBx w g M F) (ok:ROk M) (hs:M.R.step = 0) (hc:GcOk c) :
  Calls Tryz.prog 71 #[.pointer (some ⟨g,0,none⟩),.agg c.l.toArray] w (JRet (fun w F=>RBx w g (M.begin_ c) F) .nilIface F w):=by
 obtain ⟨a,b,d,h,rfl⟩:=h
 have hq:=begin_any ⟨Yw M.R a b d,M.ns,M.ds,M.ss⟩ c g w h ⟨ok.me0,ok.me1,ok.thr,ok.eng,ok.nl,ok.dl,ok.sl⟩ hs hc
 refine hq.mono fun en w' hp=>?_
 obtain ⟨p1,a1,b1,c1,p2,p3,p4⟩:=hp
 obtain ⟨a2,b2,c2,e⟩:=sim_begin (sim_of M a b d) ok.thr c
 rw [e] at p2 p4
 exact ⟨_,p1,⟨a1,b1,c1,p2,rfl⟩,p4,p3⟩
theorem chg1 {w w':World} (hc:Chg [g] w w') (hg:g∈F):Chg F w w':=hc.mono fun x hx=>Or.inl (by rw [List.mem_singleton.1 hx];exact hg)
theorem rbusy_x (h:RBx w g M F):Calls Tryz.prog 72 #[.pointer (some ⟨g,0,none⟩)] w (JRet (fun w F=>RBx w g M F) (.bool (!(M.R.step==0))) F w):=by
 obtain ⟨a,b,c,h,rfl⟩:=h
 exact (rbusy_any (Yw M.R a b c) g w h.bk).mono fun en w' hp=>⟨_,hp.1,⟨a,b,c,h.same hp.2.1 hp.2.2,rfl⟩,fun b hb=>Or.inl hb,chg1 hp.2.2 (Xk.2 (Or.inl rfl))⟩
theorem rreply_x (h:RBx w g M F):Calls Tryz.prog 73 #[.pointer (some ⟨g,0,none⟩)] w (JRet (fun w F=>RBx w g M F) (.agg M.R.reply.l.toArray) F w):=by
 obtain ⟨a,b,c,h,rfl⟩:=h
 exact (rreply_any (Yw M.R a b c) g w h.bk).mono fun en w' hp=>⟨_,hp.1,⟨a,b,c,h.same hp.2.1 hp.2.2,rfl⟩,fun b hb=>Or.inl hb,chg1 hp.2.2 (Xk.2 (Or.inl rfl))⟩
theorem rnext_x (h:RBx w g M F) (hs:(M.R.step==0) = false):Calls Tryz.prog 57 #[.pointer (some ⟨g,0,none⟩)] w (JRet (fun w F=>RBx w g M F) (.tuple #[.agg M.R.acc.l.toArray,.bool true]) F w):=by
 obtain ⟨a,b,c,h,rfl⟩:=h
 have hq:=rnext_any (Yw M.R a b c) g w h.bk
 simp only [show (Yw M.R a b c).step = M.R.step from rfl,show (Yw M.R a b c).acc = M.R.acc from rfl,hs,cond_false,Bool.not_false] at hq
 exact hq.mono fun en w' hp=>⟨_,hp.1,⟨a,b,c,h.same hp.2.1 hp.2.2,rfl⟩,fun b hb=>Or.inl hb,chg1 hp.2.2 (Xk.2 (Or.inl rfl))⟩
end
end Go.Proofs.YtaipogljokblkaaGreatDoor
