/- Core: LH. -/
import Derived.Test.YtaipogljokblkaaGreatDoorE35
import Derived.Test.YtaipogljokblkaaGreatDoorE01
set_option linter.all false
set_option maxRecDepth 100000
set_option maxHeartbeats 8000000
namespace Go.Proofs.YtaipogljokblkaaGreatDoor
open Go Go.RowKit
set_option linter.unusedSimpArgs false
set_option linter.unusedVariables false
set_option linter.unusedSectionVars false
structure QH(st:Int)(n:Nat)(M:MR)(c:Xf):Prop where
 b:wH st n M.R c
 s0:M.R.step<13->M.ss=[]
 s13:M.R.step=13->(M.ss.length:Int)<=M.R.index
 s16:M.R.step=16->∃d r,M.ds=d::r/\M.R.BN=⟨5,.zero,d.ref,.zero⟩
def Ij(st:Int)(n t:Nat)(c:Xf)(M:MR):Prop:=
 AW n t M/\((M.R.step≠0/\QH st n M c)\/(M.R.step=0/\OU st n c M.R.AF))
section
variable{st:Int}{n t:Nat}{M:MR}{R R':Xb}{c:Xf}{x:Xj}
theorem AW.up{t':Nat}(h:AW n t M)(ht:t<=t'):AW n t' M:=⟨h.PZ,h.PY,h.QM,h.SN,h.eng,Nat.le_trans h.nl ht,h.Pm,h.sl,h.Pg⟩
theorem AW.of{ns ds:List Xq}{ss:List Xe}(h:AW n t ⟨R,ns,ds,ss⟩)(hd:Hd R R'):AW n t ⟨R',ns,ds,ss⟩:=by
 obtain⟨a,b,d,e⟩:=hd;exact⟨by show 0<=R'.me;rw[a];exact h.PZ,by show R'.me<6;rw[a];exact h.PY,by show 1<=R'.Af;rw[b];exact h.QM,by show R'.Af<=6;rw[b];exact h.SN,by show R'.Aa=1\/R'.Aa=2\/R'.Aa=3\/R'.Aa=4\/R'.Aa=5;rw[d];exact h.eng,h.nl,h.Pm,h.sl,h.Pg⟩
theorem AW.wipe{ns ds:List Xq}{ss:List Xe}(h:AW n t ⟨R,ns,ds,ss⟩):AW n t ⟨R,ns,[],[]⟩:=⟨h.PZ,h.PY,h.QM,h.SN,h.eng,h.nl,List.nil_sublist _,by simp,h.Pg⟩
theorem AW.wrap(h:AW n t M)(hd:Hd M.R R'):AW n t (M.wrap R'):=by
 unfold MR.wrap;cases R'.step==0 with
 |true=>exact(AW.of (R:=M.R) (ds:=M.ds) (ss:=M.ss) h hd).wipe
 |false=>exact AW.of (R:=M.R) (ds:=M.ds) (ss:=M.ss) h hd
theorem Im(M:MR)(R':Xb):(M.wrap R').R=R':=by unfold MR.wrap;cases R'.step==0<;>rfl
theorem Hn(hc:c.kind≠3)(h6:c.kind≠6)(h8:c.kind≠8):OU st n c ⟨.zero,true⟩:=
 ⟨Yr,λh=>absurd h h8,λ_ h=>h.elim (λh=>absurd h hc) λh=>absurd h h6⟩
theorem Zc(h:AW n t M)(hp:Mc st n M.R c (OU st n c) R')(hl:(M.ss=[]/\(R'.step=13->0<=R'.index))\/14<=R'.step)(h16:R'.step≠16):Ij st n t c (M.wrap R'):=by
 refine⟨h.wrap hp.1,?_⟩;rcases hp.2 with⟨h0,hb⟩|⟨h0,hr⟩
 ·have e1:(R'.step==0)=false:=by simp[h0]
  refine Or.inl ⟨by rw[Im];exact h0,by rw[Im];exact hb,?_,?_,?_⟩
  ·rw[Im];intro e;unfold MR.wrap;rw[e1];rcases hl with hl|hl
   ·exact hl.1
   ·omega
  ·rw[Im];intro e;unfold MR.wrap;rw[e1];rcases hl with hl|hl
   ·show((M.ss.length:Nat):Int)<=R'.index;rw[hl.1];exact hl.2 e
   ·omega
  ·rw[Im];exact λe=>absurd e h16
 ·exact Or.inr ⟨by rw[Im];exact h0,by rw[Im];exact hr⟩
theorem Mc.rep{p q:Xj->Prop}(h:Mc st n R c p R')(hq:∀x,p x->q x):Mc st n R c q R':=⟨h.1,h.2.imp id λh=>⟨h.1,hq _ h.2⟩⟩
theorem cZ(R:Xb)(t1:1<=R.Af)(t6:R.Af<=6)(hc:R.call=c)(hk:c.kind=10\/c.kind=11):R.scan.step≠16/\(R.scan.step=13->0<=R.scan.index):=by
 unfold Xb.scan;cases h1:R.Aa==1 with
 |true=>exact⟨by show(0:Int)≠16;decide,λh=>by have h:(0:Int)=13:=h;omega⟩
 |false=>
  have h1:R.Aa≠1:=by simpa using h1
  simp only[cond_false];cases h4:R.Aa==4 with
  |true=>exact⟨by show(12:Int)≠16;decide,λh=>by have h:(12:Int)=13:=h;omega⟩
  |false=>
   have hl:=KD (st:=1) (n:=0) t1 t6 hc hk h1 0 Zd;have h2:(R.look 0).2=true:=by
    have:=(NR t1 t6).1;cases h:(R.look 0).2 with
    |true=>rfl
    |false=>exact absurd (hl.2.1 h) Zo
   obtain⟨a,b,d,e,f⟩:=hl.1 h2;simp only[cond_false];exact⟨by rw[f];decide,λ_=>by rw[e];decide⟩
theorem Zp(h:AW n t M)(hs:M.ss=[])(hc:M.R.call=c)(hk:c.kind=10\/c.kind=11):Ij st n t c M.scan:=by
 have hq:=cZ M.R h.QM h.SN hc hk;refine Zc h ((kI h.QM h.SN hc hk).rep λx e=>?_) (Or.inl ⟨hs,λe=>hq.2 e⟩) hq.1;rw[show x=⟨.zero,true⟩ from e];exact Hn Zo Zo Zo
theorem MJ(h:AW n t M)(hk:c.kind≠3)(h6:c.kind≠6)(h8:c.kind≠8):Ij st n t c (M.wrap M.R.done):=
 by
 refine⟨h.wrap ⟨rfl,rfl,rfl,rfl⟩,Or.inr ⟨by rw[Im];rfl,by rw[Im];exact Hn hk h6 h8⟩⟩
theorem N2(h:AW n t M)(hs:M.ss=[])(hc:M.R.call=c)(hk:c.kind=10):Ij st n t c M.noted:=by
 unfold MR.noted;cases decide (M.R.most<=(M.ns.length:Int)) with
 |true=>exact Zp h hs hc (Or.inl hk)
 |false=>exact MJ h Zo Zo Zo
theorem Zy(h:AW n t M)(hc:CD n M.R.call.Bb)(b d:Int):AW n (t+1) (M.note b d):=by
 refine⟨h.PZ,h.PY,h.QM,h.SN,h.eng,?_,h.Pm.trans (List.sublist_append_left _ _),h.sl,λx hx=>?_⟩
 ·have:=h.nl;show(M.ns++_).length<=_;simp;omega
 ·rcases List.mem_append.1 hx with hx|hx
  ·exact h.Pg x hx
  ·rw[List.mem_singleton.1 hx];exact FX hc
theorem tN(h:AW n t M)(c:Xf):AW n t ⟨M.R.Aw c,M.ns,[],[]⟩:=(AW.of (R':=M.R.Aw c) (R:=M.R) (ns:=M.ns) (ds:=M.ds) (ss:=M.ss) h ⟨rfl,rfl,rfl,rfl⟩).wipe
theorem dF(h:AW n t M)(hs:M.ss=[])(hc:M.R.call=c)(hk:c.kind=10)(ho:CD n c.Bb):Ij st n (t+1) c M.retire:=by
 unfold MR.retire;cases h2:M.R.Aa==2 with
 |true=>exact N2 (M:=M.note 0 0) (Zy h (by rw[hc];exact ho) 0 0) hs hc hk
 |false=>
  have h:=h.up (Nat.le_succ t);simp only[cond_false];unfold Xb.GM;cases M.R.Aa==1 with
  |true=>exact MJ h Zo Zo Zo
  |false=>
   simp only[cond_false];cases M.R.Aa==4 with
   |true=>
    refine Zc h ⟨⟨rfl,rfl,rfl,rfl⟩,Or.inl ⟨by show(10:Int)≠0;decide,hc,Cz (Or.inr (Or.inl rfl)),?_⟩⟩ (Or.inl ⟨hs,λe=>by have e:(10:Int)=13:=e;omega⟩) (by show(10:Int)≠16;decide);exact Or.inr (Or.inr (Or.inr (Or.inr (Or.inr (Or.inr (Or.inr (Or.inr (Or.inr (Or.inl ⟨rfl,hk,ho⟩)))))))))
   |false=>
    refine Zc h ⟨⟨rfl,rfl,rfl,rfl⟩,Or.inl ⟨by show(9:Int)≠0;decide,hc,Cz (Or.inl (DV (Bm (by rw[hc];exact ho) Zd Zd))),?_⟩⟩ (Or.inl ⟨hs,λe=>by have e:(9:Int)=13:=e;omega⟩) (by show(9:Int)≠16;decide);exact Or.inr (Or.inr (Or.inr (Or.inr (Or.inr (Or.inr (Or.inr (Or.inr (Or.inl ⟨rfl,hk,ho⟩))))))))
theorem nine{i:Int}(h:i∈([0,1,2,3,4,5,6,7,8]:List Int)):0<=i/\i<9:=by
 simp only[List.mem_cons,List.not_mem_nil,or_false] at h;omega
theorem lS(h:AW n t M)(hc:CAny st n c):Ij st n (t+1) c (M.Aj c):=by
 have ht:=tN h c;have h1:=ht.up (Nat.le_succ t);have wr13:∀{R':Xb} {s:Int},R'.step=s->s≠13->s≠16->Mc st n (M.R.Aw c) c (OU st n c) R'->Ij st n (t+1) c ⟨R',M.ns,[],[]⟩:=λ{R'} {s} e s13 s16 hp=>by
  have q:=Zc (M:=⟨M.R.Aw c,M.ns,[],[]⟩) h1 hp (Or.inl ⟨rfl,λe'=>absurd (e.symm.trans e') s13⟩) (by rw[e];exact s16);have:MR.wrap ⟨M.R.Aw c,M.ns,[],[]⟩ R'=⟨R',M.ns,[],[]⟩:=by unfold MR.wrap;cases R'.step==0<;>rfl
  rwa [this] at q
 have go:∀{k:Int},c.kind=k->k≠10->k≠11->M.Aj c=⟨M.R.Aq c,M.ns,[],[]⟩:=λ{k} e a b=>by
  unfold MR.Aj;rw[show(c.kind==10)=false from by simp[e,a],show(c.kind==11)=false from by simp[e,b]];rfl
 have hL:c.kind=2->Ij st n (t+1) c (M.Aj c):=λhk=>by
  rw[go hk Zd Zd];have e:M.R.Aq c=(M.R.Aw c).Fz [0,1,2,3,4,5,6,7,8]:=by unfold Xb.Aq;rw[hk];rfl
  have hp:=P6 (st:=st) (n:=n) (R:=M.R.Aw c) (c:=c) (rep:=OU st n c) (Hn Zo Zo Zo) h.PZ h.PY rfl hk [0,1,2,3,4,5,6,7,8] (λi hi=>nine hi);rw[e];have hs:((M.R.Aw c).Fz [0,1,2,3,4,5,6,7,8]).step≠13/\((M.R.Aw c).Fz [0,1,2,3,4,5,6,7,8]).step≠16:=by
   rcases hp.2 with⟨_,_,_,q⟩|⟨q,_⟩
   ·omega
   ·omega
  exact wr13 rfl hs.1 hs.2 hp
 have hE:c.kind=1->Ij st n (t+1) c (M.Aj c):=λhk=>by
  rw[go hk Zd Zd];have e:M.R.Aq c=(M.R.Aw c).enter:=by unfold Xb.Aq;rw[hk];rfl
  rw[e];unfold Xb.enter;cases(M.R.Aw c).Dq with
  |true=>exact wr13 (s:=3) rfl Zd Zd ⟨⟨rfl,rfl,rfl,rfl⟩,Or.inl ⟨by show(3:Int)≠0;decide,rfl,Cz (Or.inr (Or.inl rfl)),Or.inr (Or.inr (Or.inl ⟨rfl,hk⟩))⟩⟩
  |false=>exact wr13 (s:=0) rfl Zd Zd (IV _ (Hn Zo Zo Zo))
 rcases hc with⟨hc,h12⟩|rfl|rfl|rfl
 ·rcases hc with⟨hk,ha⟩|⟨hk,ha,hw,_⟩|⟨hk,ha,hw,hg⟩|⟨hk,ha,i0,i9,hj⟩|⟨hk,ho⟩|hk|⟨hk,ho⟩|⟨hk,ho⟩|hk
  ·rw[go hk Zd Zd];have e:M.R.Aq c=(M.R.Aw c).load 1 c.Ay:=by unfold Xb.Aq;rw[hk];rfl
   rw[e];exact wr13 (s:=1) rfl Zd Zd ⟨⟨rfl,rfl,rfl,rfl⟩,Or.inl ⟨by show(1:Int)≠0;decide,rfl,Cz (Or.inl ha),Or.inl ⟨rfl,Or.inl ⟨hk,rfl,rfl,ha⟩⟩⟩⟩
  ·rw[go hk Zd Zd];have e:M.R.Aq c=(M.R.Aw c).ask 1 ⟨2,c.Ay,c.Bb,c.new⟩:=by unfold Xb.Aq;rw[hk];rfl
   rw[e];exact wr13 (s:=1) rfl Zd Zd ⟨⟨rfl,rfl,rfl,rfl⟩,Or.inl ⟨by show(1:Int)≠0;decide,rfl,Or.inr (Or.inl ⟨rfl,Or.inl ⟨ha,hw⟩⟩),Or.inl ⟨rfl,Or.inr (Or.inl ⟨hk,rfl,DV ha⟩)⟩⟩⟩
  ·rw[go hk Zd Zd];have e:M.R.Aq c=(M.R.Aw c).ask 1 ⟨3,c.Ay,c.Bb,c.new⟩:=by unfold Xb.Aq;rw[hk];rfl
   rw[e];exact wr13 (s:=1) rfl Zd Zd ⟨⟨rfl,rfl,rfl,rfl⟩,Or.inl ⟨by show(1:Int)≠0;decide,rfl,Or.inr (Or.inr (Or.inl ⟨rfl,Or.inl ⟨ha,hw,hg⟩⟩)),Or.inl ⟨rfl,Or.inr (Or.inr (Or.inl ⟨hk,rfl,ha⟩))⟩⟩⟩
  ·rw[go hk Zd Zd];have e:M.R.Aq c=(M.R.Aw c).load 5 c.Ay:=by unfold Xb.Aq;rw[hk];rfl
   rw[e];exact wr13 (s:=5) rfl Zd Zd ⟨⟨rfl,rfl,rfl,rfl⟩,Or.inl ⟨by show(5:Int)≠0;decide,rfl,Cz (Or.inl ha),Or.inr (Or.inr (Or.inr (Or.inr (Or.inl ⟨rfl,hk,i0,i9,rfl,rfl,ha⟩))))⟩⟩
  ·rw[go hk Zd Zd];have e:M.R.Aq c=(M.R.Aw c).hold c.i c.j:=by unfold Xb.Aq;rw[hk];rfl
   rw[e];unfold Xb.hold;cases(M.R.Aw c).A2&&!wQ ((M.R.Aw c).B4 c.i) ((M.R.Aw c).B4 c.j) with
   |true=>
    obtain⟨p1,p2,p3,p4,p5,p6⟩:=MN (M.R.Aw c) 2 c.i ((M.R.Aw c).B4 c.j);simp only[cond_true];have hi:0<=c.i/\c.i<9:=by rcases ho with h|h|h|h|h|h|h|h<;>omega
    exact wr13 p4 Zd Zd ⟨p1,Or.inl ⟨by rw[p4];decide,p2,by rw[p5];exact Ii (Li h.PZ h.PY hi.1 hi.2),Or.inr (Or.inl ⟨p4,by omega,by omega,by omega⟩)⟩⟩
   |false=>exact wr13 (s:=0) rfl Zd Zd (IV _ (Hn Zo Zo Zo))
  ·rw[go hk Zd Zd];have e:M.R.Aq c=(M.R.Aw c).alloc:=by unfold Xb.Aq;rw[hk];rfl
   rw[e];unfold Xb.alloc;cases(M.R.Aw c).dating with
   |true=>exact wr13 (s:=8) rfl Zd Zd ⟨⟨rfl,rfl,rfl,rfl⟩,Or.inl ⟨by show(8:Int)≠0;decide,rfl,Cz (Or.inr (Or.inl rfl)),Or.inr (Or.inr (Or.inr (Or.inr (Or.inr (Or.inr (Or.inr (Or.inl ⟨rfl,hk⟩)))))))⟩⟩
   |false=>exact wr13 (s:=1) rfl Zd Zd ⟨⟨rfl,rfl,rfl,rfl⟩,Or.inl ⟨by show(1:Int)≠0;decide,rfl,aA,Or.inl ⟨rfl,Or.inr (Or.inr (Or.inr ⟨hk,rfl⟩))⟩⟩⟩
  ·rw[go hk Zd Zd];have e:M.R.Aq c=(M.R.Aw c).ask 2 ⟨5,.zero,c.Bb,.zero⟩:=by unfold Xb.Aq;rw[hk];rfl
   rw[e];exact wr13 (s:=2) rfl Zd Zd ⟨⟨rfl,rfl,rfl,rfl⟩,Or.inl ⟨by show(2:Int)≠0;decide,rfl,UW ho,Or.inr (Or.inl ⟨rfl,by omega,by omega,by omega⟩)⟩⟩
  ·have e:M.Aj c=MR.retire ⟨M.R.Aw c,M.ns,[],[]⟩:=by unfold MR.Aj;rw[hk];rfl
   rw[e];exact dF ht rfl rfl hk ho
  ·exact absurd hk h12
 ·exact hE rfl
 ·exact hL rfl
 ·have e:M.Aj UF=MR.scan ⟨M.R.Aw UF,M.ns,[],[]⟩:=rfl;rw[e];exact Zp h1 rfl rfl (Or.inr rfl)
theorem Zq(h:AW n t M)(hc:M.R.call=c)(hk:c.kind=10\/c.kind=11):Ij st n t c M.reap:=by
 unfold MR.reap;cases hd:M.ds with
 |nil=>
  exact MJ h Zo Zo Zo
 |cons d r=>
  have hm:d∈M.ns:=h.Pm.subset (by rw[hd];exact List.mem_cons_self ..);have e:MR.reap M={M with R:=M.R.ask 16 ⟨5,.zero,d.ref,.zero⟩}:=by unfold MR.reap;rw[hd]
  unfold MR.reap at e;rw[hd] at e;rw[e];refine⟨AW.of (R:=M.R) (ds:=d::r) (ss:=M.ss) (by rw[←hd];exact h) ⟨rfl,rfl,rfl,rfl⟩,Or.inl ⟨by show(16:Int)≠0;decide,⟨hc,UW (h.Pg d hm),?_⟩,λe=>?_,λe=>?_,λ_=>⟨d,r,rfl,rfl⟩⟩⟩
  ·exact Or.inr (Or.inr (Or.inr (Or.inr (Or.inr (Or.inr (Or.inr (Or.inr (Or.inr (Or.inr (Or.inr (Or.inr (Or.inr (Or.inr (Or.inr ⟨rfl,hk⟩))))))))))))))
  ·have e:(16:Int)<13:=e;omega
  ·have e:(16:Int)=13:=e;omega
theorem Zn(h:AW n t M)(hc:M.R.call=c)(hk:c.kind=10\/c.kind=11):Ij st n t c M.sift:=
 Zq (M:={M with ds:=M.ns.filter λn=>!M.stays n}) ⟨h.PZ,h.PY,h.QM,h.SN,h.eng,h.nl,List.filter_sublist,h.sl,h.Pg⟩ hc hk
theorem rp_to{s:Int}{R1:Xb}(h:AW n t M)(hs:M.ss=[])(h1:Hd M.R R1)(hc:R1.call=c)(hk:wH st n (R1.load s (root 24)) c)(s0:s≠0)(s13:s≠13)(s16:s≠16):Ij st n t c (M.wrap (R1.load s (root 24))):=
 Zc h ⟨h1,Or.inl ⟨s0,hk⟩⟩ (Or.inl ⟨hs,λe=>absurd e s13⟩) s16
theorem rtook(h:AW n t M)(hb:QH st n M c)(h0:M.R.step≠0)(hx:wP st n M.R.BN x):Ij st n (t+1) c (M.Av x):=by
 have h1:=h.up (Nat.le_succ t);obtain⟨hc,ha,hp⟩:=hb.b;have hss:=hb.s0;have ld15:∀R1:Xb,Hd M.R R1->R1.call=c->R1.Aa=4->(c.kind=10\/c.kind=11)->Mc st n M.R c (OU st n c) (R1.load 15 (root 24)):=λR1 a b d e=>
  ⟨a,Or.inl ⟨by show(15:Int)≠0;decide,b,Cz (Or.inr (Or.inl rfl)),Or.inr (Or.inr (Or.inr (Or.inr (Or.inr (Or.inr (Or.inr (Or.inr (Or.inr (Or.inr (Or.inr (Or.inr (Or.inr (Or.inr (Or.inl ⟨rfl,e,d⟩))))))))))))))⟩⟩
 rcases hp with⟨hs,hp⟩|⟨hs,k3,k6,k8⟩|⟨hs,hk⟩|⟨hs,hk,he,i0,i9⟩|⟨hs,hk,i0,i9,a1,a2,ao⟩|⟨hs,hk,i0,i9,he,ao,wo,wn⟩|⟨hs,hk,i0,i9,ao⟩|⟨hs,hk⟩|⟨hs,hk,ho⟩|⟨hs,hk,ho⟩|⟨hs,hk⟩|⟨hs,hk,he⟩|⟨hs,hk,he,i0,il⟩|⟨hs,hk,he⟩|⟨hs,hk,he⟩|⟨hs,hk⟩
 ·have e:M.Av x=M.wrap (M.R.finish x):=by unfold MR.Av;simp only[hs];rfl
  rw[e];refine Zc h1 (Nv ?_) (Or.inl ⟨hss Zo,λe=>by have e:(0:Int)=13:=e;omega⟩) (by show(0:Int)≠16;decide);rcases hp with⟨k,a1,a2,ao⟩|⟨k,a1,ao⟩|⟨k,a1,ao⟩|⟨k,a1⟩
  ·refine⟨hx.1 (by rw[a2];exact ao),λe=>by omega,λs2 _ e1 e2=>hx.2.2 s2 a1 (by rw[a2];exact e1) (by rw[a2];exact e2)⟩
  ·exact⟨hx.1 ao,λe=>by omega,λ_ e=>by omega⟩
  ·exact⟨hx.1 ao,λe=>by omega,λ_ e=>by omega⟩
  ·exact⟨(hx.2.1 a1).1,λ_=>(hx.2.1 a1).2,λ_ e=>by omega⟩
 ·have e:M.Av x=M.wrap M.R.done:=by unfold MR.Av;simp only[hs];rfl
  rw[e];exact MJ h1 k3 k6 k8
 ·have e:M.Av x=M.wrap (M.R.Cy 2 ⟨true,x.word.nm,x.word.nm⟩):=by unfold MR.Av;simp only[hs];rfl
  rw[e];exact Zc h1 (Iq h.PZ h.PY hc (Or.inl ⟨rfl,by omega,by omega,by omega⟩)) (Or.inl ⟨hss Zo,λe=>by have e:(2:Int)=13:=e;omega⟩) (by show(2:Int)≠16;decide)
 ·have e:M.Av x=M.wrap (M.R.Fz (([0,1,2,3,4,5,6,7,8]:List Int).filter λn=>decide (M.R.index<n))):=by unfold MR.Av;simp only[hs];rfl
  rw[e];have hp:=P6 (st:=st) (n:=n) (R:=M.R) (c:=c) (rep:=OU st n c) (Hn Zo Zo Zo) h.PZ h.PY hc hk (([0,1,2,3,4,5,6,7,8]:List Int).filter λn=>decide (M.R.index<n)) (λi hi=>nine (List.mem_filter.1 hi).1);have hs':(M.R.Fz (([0,1,2,3,4,5,6,7,8]:List Int).filter λn=>decide (M.R.index<n))).step≠13/\(M.R.Fz (([0,1,2,3,4,5,6,7,8]:List Int).filter λn=>decide (M.R.index<n))).step≠16:=by
   rcases hp.2 with⟨_,_,_,q⟩|⟨q,_⟩
   ·omega
   ·omega
  exact Zc h1 hp (Or.inl ⟨hss Zo,λe=>absurd e hs'.1⟩) hs'.2
 ·have e:M.Av x=M.wrap (M.R.Ev x):=by unfold MR.Av;simp only[hs];rfl
  rw[e];have wx:CE n x.word:=hx.1 (by rw[a2];exact ao);have wn:st=2->c.Ay.sl=0->c.Ay.fd=0->CD n x.word:=λs2 e1 e2=>hx.2.2 s2 a1 (by rw[a2];exact e1) (by rw[a2];exact e2);have fin:Mc st n M.R c (OU st n c) (Xb.finish {M.R with word:=x.word} ⟨x.word,true⟩):=⟨⟨rfl,rfl,rfl,rfl⟩,Or.inr ⟨rfl,wx,λe=>by omega,λs2 _ e1 e2=>wn s2 e1 e2⟩⟩;unfold Xb.Ev;simp only;cases hd:Xb.dating {M.R with word:=x.word} with
  |true=>
   have hd:oV M.R:=by unfold Xb.dating at hd;simpa [oV] using hd
   simp only[cond_true];refine Zc h1 ⟨⟨rfl,rfl,rfl,rfl⟩,Or.inl ⟨by show(6:Int)≠0;decide,hc,Cz (Or.inr (Or.inl rfl)),?_⟩⟩ (Or.inl ⟨hss Zo,λe=>by have e:(6:Int)=13:=e;omega⟩) (by show(6:Int)≠16;decide);exact Or.inr (Or.inr (Or.inr (Or.inr (Or.inr (Or.inl ⟨rfl,hk,i0,i9,hd,ao,wx,wn⟩)))))
  |false=>
   simp only[cond_false];cases(M.R.Aa==2&&(!(x.word.sl==0)&&!OV (Xb.B4 {M.R with word:=x.word} M.R.call.i) x.word)) with
   |true=>
    obtain⟨p1,p2,p3,p4,p5,p6⟩:=MN {M.R with word:=x.word} 7 M.R.call.i (Yt x.word);simp only[cond_true];refine Zc h1 ⟨p1,Or.inl ⟨by rw[p4];decide,p2.trans hc,by rw[p5];exact Ii (Li h.PZ h.PY (by rw[hc];exact i0) (by rw[hc];exact i9)),?_⟩⟩ (Or.inl ⟨hss Zo,λe=>by rw[p4] at e;omega⟩) (by rw[p4];decide);exact Or.inr (Or.inr (Or.inr (Or.inr (Or.inr (Or.inr (Or.inl ⟨p4,hk,i0,i9,ao⟩))))))
   |false=>
    simp only[cond_false];exact Zc h1 fin (Or.inl ⟨hss Zo,λe=>by have e:(0:Int)=13:=e;omega⟩) (by show(0:Int)≠16;decide)
 ·have e:M.Av x=M.wrap (M.R.Cb x):=by unfold MR.Av;simp only[hs];rfl
  rw[e];unfold Xb.Cb;cases M.R.FP M.R.call.i x.word.nm with
  |true=>
   simp only[cond_true];exact Zc h1 (Nv ⟨wo,λe=>by omega,λs2 _ e1 e2=>wn s2 e1 e2⟩) (Or.inl ⟨hss Zo,λe=>by have e:(0:Int)=13:=e;omega⟩) (by show(0:Int)≠16;decide)
  |false=>
   simp only[cond_false];cases M.R.Aa==3 with
   |true=>
    obtain⟨p1,p2,p3,p4,p5,p6⟩:=MN M.R 7 M.R.call.i (Yy x.word.nm);simp only[cond_true];refine Zc h1 ⟨p1,Or.inl ⟨by rw[p4];decide,p2.trans hc,by rw[p5];exact Ii (Li h.PZ h.PY (by rw[hc];exact i0) (by rw[hc];exact i9)),?_⟩⟩ (Or.inl ⟨hss Zo,λe=>by rw[p4] at e;omega⟩) (by rw[p4];decide);exact Or.inr (Or.inr (Or.inr (Or.inr (Or.inr (Or.inr (Or.inl ⟨p4,hk,i0,i9,ao⟩))))))
   |false=>
    simp only[cond_false];exact Zc h1 (Iq h.PZ h.PY hc (Or.inr ⟨rfl,hk,i0,i9,ao⟩)) (Or.inl ⟨hss Zo,λe=>by have e:(7:Int)=13:=e;omega⟩) (by show(7:Int)≠16;decide)
 ·have e:M.Av x=M.wrap (M.R.load 5 M.R.call.Ay):=by unfold MR.Av;simp only[hs];rfl
  rw[e];refine Zc h1 ⟨⟨rfl,rfl,rfl,rfl⟩,Or.inl ⟨by show(5:Int)≠0;decide,hc,Cz (Or.inl (by rw[hc];exact ao)),?_⟩⟩ (Or.inl ⟨hss Zo,λe=>by have e:(5:Int)=13:=e;omega⟩) (by show(5:Int)≠16;decide);exact Or.inr (Or.inr (Or.inr (Or.inr (Or.inl ⟨rfl,hk,i0,i9,rfl,by rw[hc];rfl,ao⟩))))
 ·have e:M.Av x=M.wrap (M.R.ask 1 ⟨4,.zero,.zero,Yy x.word.nm⟩):=by unfold MR.Av;simp only[hs];rfl
  rw[e];exact Zc h1 ⟨⟨rfl,rfl,rfl,rfl⟩,Or.inl ⟨by show(1:Int)≠0;decide,hc,aA,Or.inl ⟨rfl,Or.inr (Or.inr (Or.inr ⟨hk,rfl⟩))⟩⟩⟩ (Or.inl ⟨hss Zo,λe=>by have e:(1:Int)=13:=e;omega⟩) (by show(1:Int)≠16;decide)
 ·have e:M.Av x=M.wrap (Xb.load {M.R with word:=x.word} 10 (root 24)):=by unfold MR.Av;simp only[hs];rfl
  rw[e];exact rp_to h1 (hss Zo) ⟨rfl,rfl,rfl,rfl⟩ hc ⟨hc,Cz (Or.inr (Or.inl rfl)),Or.inr (Or.inr (Or.inr (Or.inr (Or.inr (Or.inr (Or.inr (Or.inr (Or.inr (Or.inl ⟨rfl,hk,ho⟩)))))))))⟩ Zd Zd Zd
 ·have e:M.Av x=bif M.R.dating then{MR.note {M with R:={M.R with clock:=x.word}} M.R.word.nm x.word.nm with R:=(MR.note {M with R:={M.R with clock:=x.word}} M.R.word.nm x.word.nm).R.advance 11} else(MR.note {M with R:={M.R with clock:=x.word}} M.R.word.nm x.word.nm).noted:=by unfold MR.Av;simp only[hs];rfl
  rw[e];have hn:=Zy (M:={M with R:={M.R with clock:=x.word}}) (AW.of (R:=M.R) (ds:=M.ds) (ss:=M.ss) h ⟨rfl,rfl,rfl,rfl⟩) (by show CD n M.R.call.Bb;rw[hc];exact ho) M.R.word.nm x.word.nm;cases M.R.dating with
  |false=>exact N2 hn (hss Zo) hc hk
  |true=>
   refine⟨AW.of hn ⟨rfl,rfl,rfl,rfl⟩,Or.inl ⟨by show(11:Int)≠0;decide,⟨hc,QF,?_⟩,λ_=>hss Zo,λe=>?_,λe=>?_⟩⟩
   ·exact Or.inr (Or.inr (Or.inr (Or.inr (Or.inr (Or.inr (Or.inr (Or.inr (Or.inr (Or.inr (Or.inl ⟨rfl,hk⟩))))))))))
   ·have e:(11:Int)=13:=e;omega
   ·have e:(11:Int)=16:=e;omega
 ·have e:M.Av x=M.noted:=by unfold MR.Av;simp only[hs];rfl
  rw[e];exact N2 h1 (hss Zo) hc hk
 ·have e:M.Av x=M.wrap (Xb.look {M.R with clock:=x.word} 0).1:=by unfold MR.Av;simp only[hs];rfl
  rw[e];have hl:=KD (st:=st) (n:=n) (R:={M.R with clock:=x.word}) h.QM h.SN hc hk (by show M.R.Aa≠1;omega) 0 Zd;have hlim:=(NR (R:={M.R with clock:=x.word}) h.QM h.SN).1;have h2:(Xb.look {M.R with clock:=x.word} 0).2=true:=by
   cases h:(Xb.look {M.R with clock:=x.word} 0).2 with
   |true=>rfl
   |false=>exact absurd (hl.2.1 h) Zo
  obtain⟨q1,q2,q3,q4,q5⟩:=hl.1 h2;exact Zc h1 ⟨q1,Or.inl ⟨q2,q3⟩⟩ (Or.inl ⟨hss Zo,λ_=>by rw[q4];decide⟩) (by rw[q5];decide)
 ·have e:M.Av x=M.AK x:=by unfold MR.Av;simp only[hs];rfl
  rw[e];unfold MR.AK;have hln:=NR (R:=M.R) h.QM h.SN;have hsl:=hb.s13 hs;have hlen:(M.ss++[x.word]).length=M.ss.length+1:=by simp
  have hN:AW n (t+1) {M with ss:=M.ss++[x.word]}:=⟨h1.PZ,h1.PY,h1.QM,h1.SN,h1.eng,h1.nl,h1.Pm,by show(M.ss++[x.word]).length<=54;omega,h1.Pg⟩;have hl:=KD (st:=st) (n:=n) (R:=M.R) h.QM h.SN hc hk he (M.R.index+1) Zo;simp only;cases h2:(M.R.look (M.R.index+1)).2 with
  |true=>
   obtain⟨q1,q2,q3,q4,q5⟩:=hl.1 h2;refine⟨AW.of hN q1,Or.inl ⟨q2,q3,λe=>?_,λ_=>?_,λe=>?_⟩⟩
   ·simp only[cond_true] at e;omega
   ·show(((M.ss++[x.word]).length:Nat):Int)<=(M.R.look (M.R.index+1)).1.index;rw[hlen,q4];omega
   ·simp only[cond_true] at e;omega
  |false=>
   simp only[cond_false];cases h4:!(M.R.Aa==4) with
   |true=>exact Zn hN hc hk
   |false=>
    have h4:M.R.Aa=4:=by simpa using h4
    simp only[cond_false];cases Ew M.R.clock.nm ((M.ss++[x.word]).map DY) with
    |true=>
     refine⟨AW.of hN ⟨rfl,rfl,rfl,rfl⟩,Or.inl ⟨by show(14:Int)≠0;decide,⟨hc,QF,?_⟩,λe=>?_,λe=>?_,λe=>?_⟩⟩
     ·exact Or.inr (Or.inr (Or.inr (Or.inr (Or.inr (Or.inr (Or.inr (Or.inr (Or.inr (Or.inr (Or.inr (Or.inr (Or.inr (Or.inl ⟨rfl,hk,h4⟩)))))))))))))
     ·have e:(14:Int)<13:=e;omega
     ·have e:(14:Int)=13:=e;omega
     ·have e:(14:Int)=16:=e;omega
    |false=>
     have hp:=ld15 M.R (Hd.refl _) hc h4 hk;rcases hp.2 with⟨z,q⟩|⟨z,q⟩
     ·refine⟨AW.of hN ⟨rfl,rfl,rfl,rfl⟩,Or.inl ⟨z,q,λe=>?_,λe=>?_,λe=>?_⟩⟩
      ·have e:(15:Int)<13:=e;omega
      ·have e:(15:Int)=13:=e;omega
      ·have e:(15:Int)=16:=e;omega
     ·have z:(15:Int)=0:=z;omega
 ·have e:M.Av x=M.wrap (M.R.load 15 (root 24)):=by unfold MR.Av;simp only[hs];rfl
  rw[e];exact Zc h1 (ld15 M.R (Hd.refl _) hc he hk) (Or.inr (by show(14:Int)<=15;decide)) (by show(15:Int)≠16;decide)
 ·have e:M.Av x=MR.sift {M with R:={M.R with clock:=x.word}}:=by unfold MR.Av;simp only[hs];rfl
  rw[e];exact Zn (M:={M with R:={M.R with clock:=x.word}}) ⟨h1.PZ,h1.PY,h1.QM,h1.SN,h1.eng,h1.nl,h1.Pm,h1.sl,h1.Pg⟩ hc hk
 ·have e:M.Av x=M.Gq:=by unfold MR.Av;simp only[hs];rfl
  rw[e];obtain⟨d,r,hd,hac⟩:=hb.s16 hs;unfold MR.Gq;rw[hd];simp only;refine Zq (M:=⟨{M.R with Be:=wr (M.R.Be+1)},M.ns.erase d,r,M.ss⟩) ⟨h1.PZ,h1.PY,h1.QM,h1.SN,h1.eng,?_,?_,h1.sl,λy hy=>h1.Pg y (List.mem_of_mem_erase hy)⟩ hc hk
  ·have:=(List.erase_sublist (a:=d) (l:=M.ns)).length_le;have:=h1.nl;show(M.ns.erase d).length<=t+1;omega
  ·have hq:=h1.Pm.erase d;rw[hd,List.erase_cons_head] at hq;exact hq
end
end Go.Proofs.YtaipogljokblkaaGreatDoor
