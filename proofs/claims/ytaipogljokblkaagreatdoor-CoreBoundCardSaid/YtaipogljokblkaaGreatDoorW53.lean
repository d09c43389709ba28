/- Core: RO, RP, RQ, RS, VB. -/
import Derived.Test.YtaipogljokblkaaGreatDoorW20
import Derived.Test.YtaipogljokblkaaGreatDoorW13
import Derived.Test.YtaipogljokblkaaGreatDoorW16
import Derived.Test.YtaipogljokblkaaGreatDoorW01
import Derived.Test.YtaipogljokblkaaGreatDoorW19
set_option linter.all false
set_option maxRecDepth 100000
set_option maxHeartbeats 8000000
namespace Go.Proofs.YtaipogljokblkaaGreatDoor
open Go Go.RowKit
set_option linter.unusedSimpArgs false
set_option linter.unusedVariables false
set_option linter.unusedSectionVars false
theorem eQ{R:Xb}{a:Int}(h1:R.step=a):({R with step:=a}:Xb)=R:=by subst h1;rfl
theorem rqB{R:Xb}{a b:Int}(h1:R.step=a)(h2:R.Aa=b):({R with step:=a,Aa:=b}:Xb)=R:=by subst h1;subst h2;rfl
structure VO(M:MR):Prop where
 OA:0<=M.R.me
 O9:M.R.me<6
 Od:IY M.R
 eng:M.R.Aa=1\/M.R.Aa=2\/M.R.Aa=3\/M.R.Aa=4\/M.R.Aa=5
 nl:M.ns.length<=100000
 dl:M.ds.length<=90000
 sl:M.ss.length<=900
def keeps(R:Xb):Prop:=R.Aa=2\/R.Aa=3
def mG(R:Xb):Prop:=R.Aa=2\/R.Aa=3\/R.Aa=4\/R.Aa=5
def MJ(M:MR):Prop:=
 M.R.step=1\/M.R.step=2\/M.R.step=3\/(M.R.step=4/\keeps M.R/\0<=M.R.index/\M.R.index<9)\/(M.R.step=5/\0<=M.R.call.i/\M.R.call.i<9)\/(M.R.step=6/\(M.R.Aa=3\/M.R.Aa=5)/\0<=M.R.call.i/\M.R.call.i<9)\/
 M.R.step=7\/M.R.step=8\/M.R.step=9\/M.R.step=10\/M.R.step=11\/M.R.step=12\/(M.R.step=13/\mG M.R/\0<=M.R.index/\M.R.index<100)\/M.R.step=14\/(M.R.step=15/\mG M.R)\/(M.R.step=16/\∃d r,M.ds=d::r/\d∈M.ns)
section
variable{w w':World}{g:Nat}{R:Xb}{ns ds:List Xn}{ss:List Xd}{e:Ending}{v:Value}
theorem KA(ht:IY R)(h:RB w g R ns ds ss){f:Xb->Xb}(hf:Mc f)(hp:e=.returned v/\Bk w' g 171 (f R).l.toArray/\Al [g] w w'):Bv w g (Yh g R) v (MR.wrap ⟨R,ns,ds,ss⟩ (f R)) e w':=by
 obtain⟨rfl,hb,hc⟩:=hp;exact Df (w1:=w) (R:=R) (a:=R.notes) (b:=R.Ao) (c:=R.seen) ht (Xk.2 (Or.inl rfl)) (Al.refl _ _) h (λx hx=>Or.inl hx) hf hb hc
theorem tkS{x:Xj}{f:Xb->Xb}{R0:Xb}(ht:IY R)(h:RB w g R ns ds ss)(m0:0<=R.me)(m1:R.me<6)(hf:Mc f)(e:R0=R)(hc:T6 x R0 (f R0))(hM:MR.As ⟨R,ns,ds,ss⟩ x=MR.wrap ⟨R,ns,ds,ss⟩ (f R)):
  Calls Tryz.prog 58 #[.pointer (some ⟨g,0,none⟩),.agg x.l.toArray] w (Bv w g (Yh g R) .nilIface (MR.As ⟨R,ns,ds,ss⟩ x)):=by
 subst e
 rw[hM]
 exact(hc g w h.bk m0 m1).mono λen w' hp=>KA ht h hf hp
end
theorem lD(M:MR)(x:Xj)(g:Nat)(w:World)(h:RB w g M.R M.ns M.ds M.ss)(ok:VO M)(so:MJ M):
  Calls Tryz.prog 58 #[.pointer (some ⟨g,0,none⟩),.agg x.l.toArray] w (Bv w g (Yh g M.R) .nilIface (M.As x)):=by
 obtain⟨R,ns,ds,ss⟩:=M
 obtain⟨m0,m1,ht,he,hnl,hdl,hsl⟩:=ok
 unfold MJ at so
 simp only at h m0 m1 ht he hnl hdl hsl so ⊢
 have T:=@tkS w g R ns ds ss x
 have N:MR.As ⟨R,ns,ds,ss⟩ x=MR.As ⟨R,ns,ds,ss⟩ x:=rfl
 conv at N=>rhs;unfold MR.As
 rcases so with hs|hs|hs|⟨hs,hk,hi0,hi1⟩|⟨hs,hi0,hi1⟩|⟨hs,hk,hi0,hi1⟩|hs|hs|hs|hs|hs|hs|⟨hs,hk,hi0,hi1⟩|hs|⟨hs,hk⟩|⟨hs,d,r,hd,hm⟩<;>simp only[hs] at N
 ·exact T ht h m0 m1 (OL x) (eQ hs) (rt1 R x) N
 ·exact T ht h m0 m1 DA (eQ hs) (rt2 R x) N
 ·exact T ht h m0 m1 (IE (st:=2) rfl _) (eQ hs) (rt3 R x) N
 ·exact T ht h m0 m1 (Kb _) (eQ hs) (rt4 R x R.Aa R.index hk hi0 hi1) N
 ·by_cases h2:R.Aa=2
  ·exact T ht h m0 m1 (ID x) (rqB hs h2) (rt52 R x R.call.i hi0 hi1) N
  ·exact T ht h m0 m1 (ID x) (eQ hs) (rt5 R x R.Aa Zo) N
 ·rcases hk with hk|hk
  ·exact T ht h m0 m1 (Hm x) (rqB hs hk) (rt63 R x R.call.i hi0 hi1) N
  ·exact T ht h m0 m1 (Hm x) (rqB hs hk) (rt6 R x) N
 ·exact T ht h m0 m1 QZ (eQ hs) (rt7 R x) N
 ·exact T ht h m0 m1 (EK (st:=1) rfl _) (eQ hs) (rt8 R x) N
 ·exact T ht h m0 m1 (QY x) (eQ hs) (rt9 R x) N
 ·exact Wu w g R ns ds ss x h ht hnl hs
 ·have hc:=rt11 R x g w (by rw[eQ hs];exact h.bk) m0 m1;rw[show MR.As ⟨R,ns,ds,ss⟩ x=bif decide (R.most<=(ns.length:Int)) then MR.wrap ⟨R,ns,ds,ss⟩ R.scan else MR.wrap ⟨R,ns,ds,ss⟩ R.done from N];rw[eQ hs] at hc;refine hc.mono λen w' hp=>?_;unfold Xb.noted at hp;rw[nU h.on] at hp;cases hm:decide (R.most<=(ns.length:Int)) with
  |true=>rw[hm] at hp;exact KA ht h J2 hp
  |false=>rw[hm] at hp;exact KA ht h DA hp
 ·exact T ht h m0 m1 (QW x) (eQ hs) (rt12 R x) (by unfold MR.As;simp only[hs];rfl)
 ·exact Wt w g R ns ds ss x h ht hnl hsl hs hk hi0 hi1
 ·exact T ht h m0 m1 (EJ (st:=15) rfl _) (eQ hs) (rt14 R x) N
 ·exact Ws w g R ns ds ss x h ht hnl Zo hk hs
 ·subst hd;exact Wr w g R ns r d ss x h ht hnl (by simp at hdl;omega) hm hs
theorem gG{w w1 w':World}{g:Nat}{R4:Xb}{ns4 ds:List Xn}{ss:List Xd}{a b c:BB}{e:Ending}{F:List Nat}(ht:IY R4)(hg:g∈F)(hc1:Al F w w1)(h:RB w1 g (Y2 R4 a b c) ns4 ds ss)(hF:∀x∈Yh g (Y2 R4 a b c),x∈F\/w.heap.size<=x)
  (hp:e=.returned (.tuple #[])/\Bk w' g 171 (Y2 R4 a b c).noted.l.toArray/\Al [g] w1 w'):Bv w g F (.tuple #[]) (MR.noted ⟨R4,ns4,ds,ss⟩) e w':=by
 obtain⟨rfl,hb,hc⟩:=hp
 unfold MR.noted
 unfold Xb.noted at hb
 rw[nU h.on] at hb
 show Bv w g F _ (bif decide (R4.most<=(ns4.length:Int)) then MR.wrap ⟨R4,ns4,ds,ss⟩ R4.scan else MR.wrap ⟨R4,ns4,ds,ss⟩ R4.done) _ _
 rw[show(Y2 R4 a b c).most=R4.most from rfl] at hb
 cases hm:decide (R4.most<=(ns4.length:Int)) with
 |true=>rw[hm] at hb;exact Df ht hg hc1 h hF J2 hb hc
 |false=>rw[hm] at hb;exact Df ht hg hc1 h hF DA hb hc
theorem Ux(w:World)(g:Nat)(R:Xb)(ns ds:List Xn)(ss:List Xd)(h:RB w g R ns ds ss)(ht:IY R)(hl:ns.length<=100000)(he:R.Aa=2):
  Calls Tryz.prog 103 #[.pointer (some ⟨g,0,none⟩)] w (Bv w g (Yh g R) (.tuple #[]) (MR.retire ⟨R,ns,ds,ss⟩)):=by
 have c46:=(JV h.bk).2.1
 rw[he] at c46
 have HH:=Zh h
 have HM:Hid (MR.retire ⟨R,ns,ds,ss⟩=MR.noted ⟨R,ns++[⟨AF R.call.A1,0,0⟩],ds,ss⟩):=Zh (by unfold MR.retire;simp only[he];rfl)
 have hgl:=h.bk.lt
 clear h he
 go_enter Tryz.func103,Tryz.ntmps103
 go_wp2_with fail
 refine(UN w g R ns ds ss HH.out hl 0 0).mono ?_
 rintro e w4 ⟨rfl,hn,hrb,hc4,hf4⟩
 have HB:Hid (RB w4 g (Y2 R hn R.Ao R.seen) (ns++[⟨AF R.call.A1,0,0⟩]) ds ss):=Zh hrb
 have HC4:=Zh hc4
 have HF:Hid (∀x∈Yh g (Y2 R hn R.Ao R.seen),x∈Yh g R\/w.heap.size<=x):=by
  refine Zh (λx hx=>?_);rcases Xk.1 hx with h1|h1|h1|h1
  ·exact Or.inl (Xk.2 (Or.inl h1))
  ·exact(hf4 x h1).imp (λh2=>Xk.2 (Or.inr (Or.inl h2))) id
  ·exact Or.inl (Xk.2 (Or.inr (Or.inr (Or.inl h1))))
  ·exact Or.inl (Xk.2 (Or.inr (Or.inr (Or.inr h1))))
 clear hrb hc4 hf4
 go_wp2_with fail
 refine(Ow (Y2 R hn R.Ao R.seen) g w4 HB.out.bk).mono ?_
 intro e w6 hp
 have hr:=gG (w:=w) (F:=Yh g R) ht (Xk.2 (Or.inl rfl)) HC4.out HB.out HF.out hp
 rw[←HM.out] at hr
 obtain rfl:=hr.1
 have HR:=Zh hr
 clear hr hp
 go_wp2_with fail
 go_end0
 exact HR.out
theorem rcall{w:World}{g:Nat}{R:Xb}(h:Bk w g 171 R.l.toArray):∀(j:Nat) (u:Value),R.call.l[j]?=some u->w.cell? ⟨g,0+j,none⟩=some u:=λj u hu=>by
 rw[Nat.zero_add,h.cell];have:R.l=R.call.l++R.l.drop 18:=Zk;have hj:j<R.call.l.length:=by
  rcases Nat.lt_or_ge j R.call.l.length with h'|h'
  ·exact h'
  ·rw[List.getElem?_eq_none h'] at hu;cases hu
 rw[List.getElem?_toArray,this,List.getElem?_append_left hj];exact hu
theorem XV(w:World)(g:Nat)(R:Xb)(ns ds:List Xn)(ss:List Xd)(h:RB w g R ns ds ss)(ht:IY R)(hl:ns.length<=100000)(he:R.Aa=2)(hk:R.call.kind=10):
  Calls Tryz.prog 84 #[.pointer (some ⟨g,0,none⟩)] w (Bv w g (Yh g R) (.tuple #[]) (MR.retire ⟨R,ns,ds,ss⟩)):=by
 have HH:=Zh h
 have hgl:=h.bk.lt
 have hcl:=rcall h.bk
 clear h
 go_enter Tryz.func84,Tryz.ntmps84
 go_wp2_with (refine wpList_load_mid Zr _ _ Zr g 0 Zr [.int .i64 R.call.kind,.int .i64 R.call.A2.sl,.int .i64 R.call.A2.gn,.int .i64 R.call.A2.fd,.int .i64 R.call.A1.sl,.int .i64 R.call.A1.gn,.int .i64 R.call.A1.tg,.int .i64 R.call.A1.nm,.bool R.call.A1.mark,.int .i64 R.call.new.sl,.int .i64 R.call.new.gn,.int .i64 R.call.new.tg,.int .i64 R.call.new.nm,.bool R.call.new.mark,.int .i64 R.call.i,.int .i64 R.call.j,.int .i64 R.call.BR.code,.int .i64 R.call.BR.val] _ hcl Tryz.underlying120 Zr Zk ?_;clear hcl)
 refine(Ux _ g R ns ds ss (HH.out.Cf (F:=[]) (Al.Af ((Below.refl _ _).alloc (Nat.le_refl _) _)) (λ_ _=>List.not_mem_nil)) ht hl he).mono ?_
 intro e w6 hr
 have hr:=Bv.after (Al.Af (F:=Yh g R) ((Below.refl _ _).alloc (Nat.le_refl _) _)) (λx hx=>Or.inl hx) hr
 obtain rfl:=hr.1
 have HR:=Zh hr
 clear hr
 go_wp2_with fail
 go_end0
 exact HR.out
theorem V4(w:World)(g:Nat)(R:Xb)(ns ds:List Xn)(ss:List Xd)(c:Xf)(h:RB w g R ns ds ss)(ht:IY R)(hl:ns.length<=100000)(he:R.Aa=2)(hk:c.kind=10)(hs:R.step=0):
  Calls Tryz.prog 71 #[.pointer (some ⟨g,0,none⟩),.agg c.l.toArray] w (Bv w g (Yh g R) .nilIface (MR.retire ⟨R.A7 c,ns,[],[]⟩)):=by
 have HH:=Zh h
 have hgl:=h.bk.lt
 have c18:=IJ h.bk
 rw[hs] at c18
 clear h
 obtain⟨c0,⟨c1,c2,c3⟩,⟨c4,c5,c6,c7,c8⟩,⟨c9,wB,wA,c12,vZ⟩,c14,vY,⟨c16,c17⟩⟩:=c
 simp only at hk
 subst hk
 show Calls Tryz.prog 71 #[.pointer (some ⟨g,0,none⟩),.agg #[.int .i64 10,.int .i64 c1,.int .i64 c2,.int .i64 c3,.int .i64 c4,.int .i64 c5,.int .i64 c6,.int .i64 c7,.bool c8,.int .i64 c9,.int .i64 wB,.int .i64 wA,.int .i64 c12,.bool vZ,.int .i64 c14,.int .i64 vY,.int .i64 c16,.int .i64 c17]] w _
 have HX:=HH.out.Cf (F:=[]) (w':=w.alloc (.cells #[.int .i64 10,.int .i64 c1,.int .i64 c2,.int .i64 c3,.int .i64 c4,.int .i64 c5,.int .i64 c6,.int .i64 c7,.bool c8,.int .i64 c9,.int .i64 wB,.int .i64 wA,.int .i64 c12,.bool vZ,.int .i64 c14,.int .i64 vY,.int .i64 c16,.int .i64 c17] 120)) (Al.Af ((Below.refl _ _).alloc (Nat.le_refl _) _)) (λ_ _=>List.not_mem_nil)
 have HXH:=Zh HX
 have HB:=Zh HX.bk
 clear HX
 go_enter Tryz.func71,Tryz.ntmps71
 go_wp2_with (refine Y3 Zr _ _ _ Zr g 0 _ Zr Zr _ _ (R.A7 ⟨10,⟨c1,c2,c3⟩,⟨c4,c5,c6,c7,c8⟩,⟨c9,wB,wA,c12,vZ⟩,c14,vY,⟨c16,c17⟩⟩).l.toArray HB.out (Nat.le_of_ble_eq_true Zk) Zk Zr Zk ?_;intro w2 hst)
 have hc2:Al [g] _ w2:=Al.Aw (b:=0) hst.grown (λb e=>by injection e with e;simp[e])
 have hup:=HXH.out.Ah (R':=R.A7 ⟨10,⟨c1,c2,c3⟩,⟨c4,c5,c6,c7,c8⟩,⟨c9,wB,wA,c12,vZ⟩,c14,vY,⟨c16,c17⟩⟩) (ds':=[]) (ss':=[]) hst.bk hc2 rfl (Or.inr ⟨rfl,rfl⟩) (Or.inr ⟨rfl,rfl⟩)
 refine(XV w2 g _ ns [] [] hup ht hl he rfl).mono ?_
 intro e w6 hr
 have hr:=Bv.after (F:=Yh g R) ((Al.Af ((Below.refl _ _).alloc (Nat.le_refl _) _)).trans (Im hc2 (Xk.2 (Or.inl rfl)))) (fun x hx=>by
  have en:Br.v.ownBlock=none:=rfl;rcases Xk.1 hx with h1|h1|h1|h1
  ·exact Or.inl (Xk.2 (Or.inl h1))
  ·exact Or.inl (Xk.2 (Or.inr (Or.inl h1)))
  ·cases h1
  ·cases h1) hr
 obtain⟨rfl,a,b,c,h1,h2,h3⟩:=hr
 have HR:Hid (Bv w g (Yh g R) .nilIface _ (.returned .nilIface) w6):=Zh ⟨rfl,a,b,c,h1,h2,h3⟩
 clear h1 h2 h3 hst hc2 hup
 go_wp2_with fail
 go_ret
 exact HR.out
theorem Ra:Mc Xb.enter:=NG (p:=Xb.CU) (λ_ _ _ _=>rfl) (EJ (st:=3) rfl _) DA
theorem Rb:Mc Xb.alloc:=NG (p:=Xb.dating) (λ_ _ _ _=>rfl) (EJ (st:=8) rfl _) (EK (st:=1) rfl _)
theorem UX(i j:Int):Mc λR=>R.hold i j:=λR a b c ht=>by
 show(bif R.Az&&!rX (R.BM i) (R.BM j) then(Y2 R a b c).post 2 i (R.BM j) else(Y2 R a b c).done)=Y2 (bif R.Az&&!rX (R.BM i) (R.BM j) then R.post 2 i (R.BM j) else R.done) a (bif (bif R.Az&&!rX (R.BM i) (R.BM j) then R.post 2 i (R.BM j) else R.done).step==0 then Br else b) (bif (bif R.Az&&!rX (R.BM i) (R.BM j) then R.post 2 i (R.BM j) else R.done).step==0 then Br else c);cases R.Az&&!rX (R.BM i) (R.BM j) with
 |true=>exact L0 (st:=2) rfl i (R.BM j) R a b c ht
 |false=>rfl
theorem Nc:Mc Xb.N8:=λR a b c ht=>by
 show(bif R.Aa==1 then(Y2 R a b c).done else bif R.Aa==4 then(Y2 R a b c).load 10 (root 24) else(Y2 R a b c).load 9 (Xg R.call.A1 9))=Y2 (bif R.Aa==1 then R.done else bif R.Aa==4 then R.load 10 (root 24) else R.load 9 (Xg R.call.A1 9)) a (bif (bif R.Aa==1 then R.done else bif R.Aa==4 then R.load 10 (root 24) else R.load 9 (Xg R.call.A1 9)).step==0 then Br else b) (bif (bif R.Aa==1 then R.done else bif R.Aa==4 then R.load 10 (root 24) else R.load 9 (Xg R.call.A1 9)).step==0 then Br else c);cases R.Aa==1 with
 |true=>rfl
 |false=>
  cases R.Aa==4 with
  |true=>rfl
  |false=>rfl
theorem fB{w w':World}{g:Nat}{R:Xb}{ns ds:List Xn}{ss:List Xd}{e:Ending}{v:Value}{c:Xf}(ht:IY R)(h:RB w g R ns ds ss){f:Xb->Xb}(hf:Mc f)(hp:e=.returned v/\Bk w' g 171 (f (R.A7 c)).l.toArray/\Al [g] w w'):
  Bv w g (Yh g R) v ⟨f (R.A7 c),ns,[],[]⟩ e w':=by
 obtain⟨rfl,hb,hc⟩:=hp
 have e1:f (R.A7 c)=Y2 (f (R.A7 c)) R.notes Br Br:=by
  have h1:=hf (R.A7 c) R.notes Br Br ht;have h2:∀b:Bool,(bif b then Br else Br)=Br:=λb=>by cases b<;>rfl
  rw[h2] at h1;exact h1
 rw[e1] at hb
 refine⟨rfl,R.notes,Br,Br,h.Ah hb hc rfl (Or.inr ⟨rfl,rfl⟩) (Or.inr ⟨rfl,rfl⟩),Im hc (Xk.2 (Or.inl rfl)),λx hx=>Or.inl ?_⟩
 rcases Xk.1 hx with h1|h1|h1|h1
 ·exact Xk.2 (Or.inl h1)
 ·exact Xk.2 (Or.inr (Or.inl h1))
 ·cases h1
 ·cases h1
def Tb(c:Xf):Prop:=
 c.kind=1\/c.kind=2\/c.kind=3\/c.kind=4\/c.kind=5\/(c.kind=6/\0<=c.i/\c.i<9/\c.j=0)\/(c.kind=7/\((c.i=2/\c.j=1)\/(c.i=1/\c.j=0)\/(c.i=5/\c.j=4)\/(c.i=4/\c.j=3)\/(c.i=8/\c.j=7)\/(c.i=7/\c.j=6)\/(c.i=2/\c.j=5)\/(c.i=5/\c.j=8)))\/c.kind=8\/c.kind=9\/c.kind=10\/c.kind=11
theorem rR{c:Xf}{k:Int}(h:c.kind=k):({c with kind:=k}:Xf)=c:=by subst h;rfl
theorem Tl(R R':Xb)(ns:List Xn):MR.wrap ⟨R,ns,[],[]⟩ R'=⟨R',ns,[],[]⟩:=by
 unfold MR.wrap;cases R'.step==0<;>rfl
theorem bgS{w:World}{g:Nat}{R R0 Q:Xb}{ns ds:List Xn}{ss:List Xd}{c c0:Xf}{f:Xb->Xb}(ht:IY R)(h:RB w g R ns ds ss)(m0:0<=R.me)(m1:R.me<6)(hf:Mc f)(e:R0=R)(ec:c0=c)(hc:bgW c0 R0 Q)(hq:Q=f (R0.A7 c0))(hM:MR.Ag ⟨R,ns,ds,ss⟩ c=⟨f (R.A7 c),ns,[],[]⟩):
  Calls Tryz.prog 71 #[.pointer (some ⟨g,0,none⟩),.agg c.l.toArray] w (Bv w g (Yh g R) .nilIface (MR.Ag ⟨R,ns,ds,ss⟩ c)):=by
 subst e ec hq
 rw[hM]
 exact(hc g w h.bk m0 m1).mono λen w' hp=>fB ht h hf hp
theorem iW(M:MR)(c:Xf)(g:Nat)(w:World)(h:RB w g M.R M.ns M.ds M.ss)(ok:VO M)(hs:M.R.step=0)(hc:Tb c):
  Calls Tryz.prog 71 #[.pointer (some ⟨g,0,none⟩),.agg c.l.toArray] w (Bv w g (Yh g M.R) .nilIface (M.Ag c)):=by
 obtain⟨R,ns,ds,ss⟩:=M
 obtain⟨m0,m1,ht,he,hnl,hdl,hsl⟩:=ok
 unfold Tb at hc
 simp only at h m0 m1 ht he hnl hdl hsl hs ⊢
 have T:=λR0 Q c0 f=>@bgS w g R R0 Q ns ds ss c c0 f ht h m0 m1
 have eR:=eQ hs
 have N:MR.Ag ⟨R,ns,ds,ss⟩ c=MR.Ag ⟨R,ns,ds,ss⟩ c:=rfl
 conv at N=>rhs;unfold MR.Ag Xb.Aq
 rcases hc with hk|hk|hk|hk|hk|⟨hk,hi0,hi1,hj⟩|⟨hk,hij⟩|hk|hk|hk|hk<;>simp only[hk] at N
 ·exact T _ _ _ _ Ra eR (rR hk) (rb1 R c) rfl N
 ·exact T _ _ _ _ (Kb _) eR (rR hk) (rb2 R c R.Aa he) rfl N
 ·exact T _ _ _ _ (EJ (st:=1) rfl _) eR (rR hk) (rb3 R c) rfl N
 ·exact T _ _ _ _ (EK (st:=1) rfl _) eR (rR hk) (rb4 R c) rfl N
 ·exact T _ _ _ _ (EK (st:=1) rfl _) eR (rR hk) (rb5 R c) rfl N
 ·exact T _ _ _ _ (EJ (st:=5) rfl _) eR (by rw[←hk,←hj]) (rb6 R c hi0 hi1) rfl N
 ·exact T _ _ _ _ (UX _ _) eR (rR hk) (rb7 R c c.i c.j hij) rfl N
 ·exact T _ _ _ _ Rb eR (rR hk) (rb8 R c) rfl N
 ·exact T _ _ _ _ (EK (st:=2) rfl _) eR (rR hk) (rb9 R c) rfl N
 ·by_cases h2:R.Aa=2
  ·rw[N];exact V4 w g R ns ds ss c h ht hnl h2 hk hs
  ·refine T _ _ _ _ Nc eR (rR hk) (rb10 R c R.Aa Zo) rfl (N.trans ?_);show MR.retire ⟨R.A7 c,ns,[],[]⟩=_;unfold MR.retire;rw[show((R.A7 c).Aa==2)=false from by show(R.Aa==2)=false;simp[h2]];exact Tl _ _ _
 ·exact T _ _ _ _ J2 eR (rR hk) (rb11 R c) rfl (N.trans (Tl _ _ _))
def Mf(M M':MR):Prop:=∃a b c,M'=⟨Y2 M.R a b c,M.ns,M.ds,M.ss⟩
section
variable{M M':MR}
theorem lX(M:MR)(a b c:BB):Mf M ⟨Y2 M.R a b c,M.ns,M.ds,M.ss⟩:=⟨a,b,c,rfl⟩
theorem lW(h:Mf M M'):M'.R.step=M.R.step:=by obtain⟨a,b,c,rfl⟩:=h;rfl
theorem Cc{f:Xb->Xb}(hf:Mc f)(h:Mf M M')(ht:IY M.R):Mf (M.wrap (f M.R)) (M'.wrap (f M'.R)):=by
 obtain⟨a,b,c,rfl⟩:=h;simp only[hf M.R a b c ht,MR.wrap];have e:(Y2 (f M.R) a (bif (f M.R).step==0 then Br else b) (bif (f M.R).step==0 then Br else c)).step=(f M.R).step:=rfl;rw[e];cases(f M.R).step==0
 ·exact⟨a,b,c,rfl⟩
 ·exact⟨a,Br,Br,rfl⟩
theorem Uk(h:Mf M M')(ht:IY M.R):Mf M.scan M'.scan:=Cc J2 h ht
theorem Ml(h:Mf M M')(ht:IY M.R):Mf M.noted M'.noted:=by
 have h1:=Uk h ht;have h2:=Cc DA h ht;obtain⟨a,b,c,rfl⟩:=h;unfold MR.noted;simp only;have e:(Y2 M.R a b c).most=M.R.most:=rfl;rw[e];cases decide (M.R.most<=(M.ns.length:Int))
 ·exact h2
 ·exact h1
theorem lY(h:Mf M M')(b d:Int):Mf (M.note b d) (M'.note b d):=by
 obtain⟨a,b',c,rfl⟩:=h;exact⟨a,b',c,rfl⟩
theorem Ul(h:Mf M M')(ht:IY M.R):Mf M.reap M'.reap:=by
 have h2:=Cc DA h ht;obtain⟨a,b,c,rfl⟩:=h;unfold MR.reap;simp only;cases hd:M.ds with
 |nil=>simp only[hd] at h2 ⊢;exact h2
 |cons d r=>simp only;exact⟨a,b,c,by simp only[hd];rfl⟩
theorem Uj(h:Mf M M')(ht:IY M.R):Mf M.sift M'.sift:=by
 obtain⟨a,b,c,rfl⟩:=h;unfold MR.sift;exact Ul ⟨a,b,c,rfl⟩ ht
theorem WM(h:Mf M M')(ht:IY M.R):Mf M.retire M'.retire:=by
 have h1:=Ml (lY h 0 0) ht;have h2:=Cc Nc h ht;obtain⟨a,b,c,rfl⟩:=h;unfold MR.retire;have e:(Y2 M.R a b c).Aa=M.R.Aa:=rfl;simp only[e];cases M.R.Aa==2
 ·exact h2
 ·exact h1
theorem yX(h:Mf M M')(ht:IY M.R)(x:Xj):Mf (M.AG x) (M'.AG x):=by
 obtain⟨a,b,c,rfl⟩:=h;unfold MR.AG;have e1:(Y2 M.R a b c).index=M.R.index:=rfl;have e2:(Y2 M.R a b c).Aa=M.R.Aa:=rfl;have e3:(Y2 M.R a b c).clock=M.R.clock:=rfl;simp only[JX,e1,e2,e3];cases(M.R.look (M.R.index+1)).2
 ·simp only[cond_false];cases(!(M.R.Aa==4))
  ·simp only[cond_false];cases FG M.R.clock.nm (List.map E5 (M.ss++[x.word]))
   ·exact⟨a,b,c,rfl⟩
   ·exact⟨a,b,c,rfl⟩
  ·exact Uj ⟨a,b,c,rfl⟩ ht
 ·exact⟨a,b,c,rfl⟩
theorem lZ(h:Mf M M')(ht:IY M.R):Mf M.DX M'.DX:=by
 obtain⟨a,b,c,rfl⟩:=h;unfold MR.DX;simp only;cases hd:M.ds with
 |nil=>exact⟨a,b,c,by simp only[hd]⟩
 |cons d r=>exact Ul ⟨a,b,c,rfl⟩ ht
theorem eE(h:Mf M M')(ht:IY M.R)(c:Xf):Mf (M.Ag c) (M'.Ag c):=by
 obtain⟨a,b,d,rfl⟩:=h;unfold MR.Ag;simp only;have et:(Y2 M.R a b d).A7 c=Y2 (M.R.A7 c) a Br Br:=rfl;have h1:Mf ⟨M.R.A7 c,M.ns,[],[]⟩ ⟨(Y2 M.R a b d).A7 c,M.ns,[],[]⟩:=⟨a,Br,Br,by rw[et]⟩;cases c.kind==10
 ·cases c.kind==11
  ·simp only[cond_false];have hb:∃b' d',(Y2 M.R a b d).Aq c=Y2 (M.R.Aq c) a b' d':=by
    unfold Xb.Aq;simp only[et];have ht':IY (M.R.A7 c):=ht;have fin:∀{f:Xb->Xb},Mc f->∃b' d',f (Y2 (M.R.A7 c) a Br Br)=Y2 (f (M.R.A7 c)) a b' d':=λhf=>⟨_,_,hf _ _ _ _ ht'⟩;cases c.kind==1
    ·cases c.kind==2
     ·cases c.kind==3
      ·cases c.kind==4
       ·cases c.kind==5
        ·cases c.kind==6
         ·cases c.kind==7
          ·cases c.kind==8
           ·exact fin (EK (st:=2) rfl _)
           ·exact fin Rb
          ·exact fin (UX c.i c.j)
         ·exact fin (EJ (st:=5) rfl _)
        ·exact fin (EK (st:=1) rfl _)
       ·exact fin (EK (st:=1) rfl _)
      ·exact fin (EJ (st:=1) rfl _)
     ·exact fin (Kb _)
    ·exact fin Ra
   obtain⟨b',d',hb⟩:=hb;exact⟨a,b',d',by rw[hb]⟩
  ·exact Uk h1 ht
 ·exact WM h1 ht
theorem lV(h:Mf M M')(ht:IY M.R)(x:Xj):Mf (M.As x) (M'.As x):=by
 have hs:=lW h;have g1:=Cc (OL x) h ht;have g2:=Cc DA h ht;have g3:=Cc (IE (st:=2) rfl ⟨true,x.word.nm,x.word.nm⟩) h ht;have g4:=Cc (Kb (([0,1,2,3,4,5,6,7,8]:List Int).filter λn=>decide (M.R.index<n))) h ht;have g5:=Cc (ID x) h ht;have g6:=Cc (Hm x) h ht;have g7:=Cc QZ h ht;have g8:=Cc (EK (st:=1) rfl ⟨4,.zero,.zero,Y5 x.word.nm⟩) h ht;have g9:=Cc (QY x) h ht;have g11:=Ml h ht;have g12:=Cc (QW x) h ht;have g13:=yX h ht x;have g14:=Cc (EJ (st:=15) rfl (root 24)) h ht;have g16:=lZ h ht;have g15:Mf (MR.sift {M with R:={M.R with clock:=x.word}}) (MR.sift {M' with R:={M'.R with clock:=x.word}}):=by
  obtain⟨a,b,c,rfl⟩:=h;exact Uj ⟨a,b,c,rfl⟩ ht
 have g10:Mf (MR.note {M with R:={M.R with clock:=x.word}} M.R.word.nm x.word.nm) (MR.note {M' with R:={M'.R with clock:=x.word}} M'.R.word.nm x.word.nm):=by
  obtain⟨a,b,c,rfl⟩:=h;exact⟨a,b,c,rfl⟩
 have g10a:=Ml g10 ht;have g10b:Mf {MR.note {M with R:={M.R with clock:=x.word}} M.R.word.nm x.word.nm with R:=(MR.note {M with R:={M.R with clock:=x.word}} M.R.word.nm x.word.nm).R.advance 11}
   {MR.note {M' with R:={M'.R with clock:=x.word}} M'.R.word.nm x.word.nm with R:=(MR.note {M' with R:={M'.R with clock:=x.word}} M'.R.word.nm x.word.nm).R.advance 11}:=by
  obtain⟨a,b,c,rfl⟩:=h
  exact⟨a,b,c,rfl⟩
 have ei:M'.R.index=M.R.index:=by obtain⟨a,b,c,rfl⟩:=h;rfl
 have ed:M'.R.dating=M.R.dating:=by obtain⟨a,b,c,rfl⟩:=h;rfl
 rw[←ei] at g4;unfold MR.As;have hs2:∀k:Int,(M'.R.step==k)=(M.R.step==k):=λk=>by rw[hs]
 simp only[hs2,ed];clear h hs hs2;cases M.R.step==1
 ·cases M.R.step==2
  ·cases M.R.step==3
   ·cases M.R.step==4
    ·cases M.R.step==5
     ·cases M.R.step==6
      ·cases M.R.step==7
       ·cases M.R.step==8
        ·cases M.R.step==9
         ·cases M.R.step==10
          ·cases M.R.step==11
           ·cases M.R.step==12
            ·cases M.R.step==13
             ·cases M.R.step==14
              ·cases M.R.step==15
               ·exact g16
               ·exact g15
              ·exact g14
             ·exact g13
            ·exact g12
           ·exact g11
          ·cases M.R.dating
           ·exact g10a
           ·exact g10b
         ·exact g9
        ·exact g8
       ·exact g7
      ·exact g6
     ·exact g5
    ·rw[←ei];exact g4
   ·exact g3
  ·exact g2
 ·exact g1
end
def KR(w:World)(g:Nat)(M:MR)(F:List Nat):Prop:=∃a b c,RB w g (Y2 M.R a b c) M.ns M.ds M.ss/\F=Yh g (Y2 M.R a b c)
section
variable{w w':World}{g:Nat}{M:MR}{F:List Nat}
theorem KR.same(h:KR w g M F)(hs:∀b∈F,w'.heap[b]?=w.heap[b]?):KR w' g M F:=by
 obtain⟨a,b,c,h,rfl⟩:=h;exact⟨a,b,c,⟨h.bk.same (hs g (Xk.2 (Or.inl rfl))),h.on.kept λb hb=>hs b (Xk.2 (Or.inr (Or.inl hb))),h.od.kept λb hb=>hs b (Xk.2 (Or.inr (Or.inr (Or.inl hb)))),h.os.kept λb hb=>hs b (Xk.2 (Or.inr (Or.inr (Or.inr hb)))),h.gn,h.gd,h.gs,h.nd,h.ns,h.ds⟩,rfl⟩
theorem KR.lt(h:KR w g M F):∀b∈F,b<w.heap.size:=by
 obtain⟨a,b,c,h,rfl⟩:=h;exact h.lt
theorem yJ(x:Xj)(h:KR w g M F)(ok:VO M)(so:MJ M):
  Calls Tryz.prog 58 #[.pointer (some ⟨g,0,none⟩),.agg x.l.toArray] w (IR (λw F=>KR w g (M.As x) F) .nilIface F w):=by
 obtain⟨a,b,c,h,rfl⟩:=h
 have hq:=lD ⟨Y2 M.R a b c,M.ns,M.ds,M.ss⟩ x g w h ⟨ok.OA,ok.O9,ok.Od,ok.eng,ok.nl,ok.dl,ok.sl⟩ so
 refine hq.mono λen w' hp=>?_
 obtain⟨p1,a1,b1,c1,p2,p3,p4⟩:=hp
 obtain⟨a2,b2,c2,e⟩:=lV (lX M a b c) ok.Od x
 rw[e] at p2 p4
 exact⟨_,p1,⟨a1,b1,c1,p2,rfl⟩,p4,p3⟩
theorem bG(c:Xf)(h:KR w g M F)(ok:VO M)(hs:M.R.step=0)(hc:Tb c):
  Calls Tryz.prog 71 #[.pointer (some ⟨g,0,none⟩),.agg c.l.toArray] w (IR (λw F=>KR w g (M.Ag c) F) .nilIface F w):=by
 obtain⟨a,b,d,h,rfl⟩:=h
 have hq:=iW ⟨Y2 M.R a b d,M.ns,M.ds,M.ss⟩ c g w h ⟨ok.OA,ok.O9,ok.Od,ok.eng,ok.nl,ok.dl,ok.sl⟩ hs hc
 refine hq.mono λen w' hp=>?_
 obtain⟨p1,a1,b1,c1,p2,p3,p4⟩:=hp
 obtain⟨a2,b2,c2,e⟩:=eE (lX M a b d) ok.Od c
 rw[e] at p2 p4
 exact⟨_,p1,⟨a1,b1,c1,p2,rfl⟩,p4,p3⟩
theorem chg1{w w':World}(hc:Al [g] w w')(hg:g∈F):Al F w w':=hc.mono λx hx=>Or.inl (by rw[List.mem_singleton.1 hx];exact hg)
theorem Sy(h:KR w g M F):Calls Tryz.prog 72 #[.pointer (some ⟨g,0,none⟩)] w (IR (λw F=>KR w g M F) (.bool (!(M.R.step==0))) F w):=by
 obtain⟨a,b,c,h,rfl⟩:=h;exact(fJ (Y2 M.R a b c) g w h.bk).mono λen w' hp=>⟨_,hp.1,⟨a,b,c,h.same hp.2.1 hp.2.2,rfl⟩,λb hb=>Or.inl hb,chg1 hp.2.2 (Xk.2 (Or.inl rfl))⟩
theorem mM(h:KR w g M F):Calls Tryz.prog 73 #[.pointer (some ⟨g,0,none⟩)] w (IR (λw F=>KR w g M F) (.agg M.R.Au.l.toArray) F w):=by
 obtain⟨a,b,c,h,rfl⟩:=h;exact(WQ (Y2 M.R a b c) g w h.bk).mono λen w' hp=>⟨_,hp.1,⟨a,b,c,h.same hp.2.1 hp.2.2,rfl⟩,λb hb=>Or.inl hb,chg1 hp.2.2 (Xk.2 (Or.inl rfl))⟩
theorem tQ(h:KR w g M F)(hs:(M.R.step==0)=false):Calls Tryz.prog 57 #[.pointer (some ⟨g,0,none⟩)] w (IR (λw F=>KR w g M F) (.tuple #[.agg M.R.AY.l.toArray,.bool true]) F w):=by
 obtain⟨a,b,c,h,rfl⟩:=h;have hq:=eV (Y2 M.R a b c) g w h.bk;simp only[show(Y2 M.R a b c).step=M.R.step from rfl,show(Y2 M.R a b c).AY=M.R.AY from rfl,hs,cond_false,Bool.not_false] at hq;exact hq.mono λen w' hp=>⟨_,hp.1,⟨a,b,c,h.same hp.2.1 hp.2.2,rfl⟩,λb hb=>Or.inl hb,chg1 hp.2.2 (Xk.2 (Or.inl rfl))⟩
end
end Go.Proofs.YtaipogljokblkaaGreatDoor
