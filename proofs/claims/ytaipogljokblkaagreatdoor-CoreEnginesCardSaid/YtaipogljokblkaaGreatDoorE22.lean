/- Core: RO, RP, RQ, RS, VB. -/
import Derived.Test.YtaipogljokblkaaGreatDoorE16
import Derived.Test.YtaipogljokblkaaGreatDoorE17
import Derived.Test.YtaipogljokblkaaGreatDoorE01
import Derived.Test.YtaipogljokblkaaGreatDoorE18
import Derived.Test.YtaipogljokblkaaGreatDoorE13
import Derived.Test.YtaipogljokblkaaGreatDoorE21
set_option linter.all false
set_option maxRecDepth 100000
set_option maxHeartbeats 8000000
namespace Go.Proofs.YtaipogljokblkaaGreatDoor
open Go Go.RowKit
set_option linter.unusedSimpArgs false
set_option linter.unusedVariables false
set_option linter.unusedSectionVars false
theorem dE{R:Xb}{a:Int}(h1:R.step=a):({R with step:=a}:Xb)=R:=by subst h1;rfl
theorem rqB{R:Xb}{a b:Int}(h1:R.step=a)(h2:R.Aa=b):({R with step:=a,Aa:=b}:Xb)=R:=by subst h1;subst h2;rfl
structure Vj(M:MR):Prop where
 PZ:0<=M.R.me
 PY:M.R.me<6
 Np:IJ M.R
 eng:M.R.Aa=1\/M.R.Aa=2\/M.R.Aa=3\/M.R.Aa=4\/M.R.Aa=5
 nl:M.ns.length<=100000
 dl:M.ds.length<=90000
 sl:M.ss.length<=900
def keeps(R:Xb):Prop:=R.Aa=2\/R.Aa=3
def lA(R:Xb):Prop:=R.Aa=2\/R.Aa=3\/R.Aa=4\/R.Aa=5
def Md(M:MR):Prop:=
 M.R.step=1\/M.R.step=2\/M.R.step=3\/(M.R.step=4/\keeps M.R/\0<=M.R.index/\M.R.index<9)\/(M.R.step=5/\0<=M.R.call.i/\M.R.call.i<9)\/(M.R.step=6/\(M.R.Aa=3\/M.R.Aa=5)/\0<=M.R.call.i/\M.R.call.i<9)\/
 M.R.step=7\/M.R.step=8\/M.R.step=9\/M.R.step=10\/M.R.step=11\/M.R.step=12\/(M.R.step=13/\lA M.R/\0<=M.R.index/\M.R.index<100)\/M.R.step=14\/(M.R.step=15/\lA M.R)\/(M.R.step=16/\∃d r,M.ds=d::r/\d∈M.ns)
section
variable{w w':World}{g:Nat}{R:Xb}{ns ds:List Xq}{ss:List Xe}{e:Ending}{v:Value}
theorem Kn(ht:IJ R)(h:RB w g R ns ds ss){f:Xb->Xb}(hf:Lu f)(hp:e=.returned v/\Bk w' g 171 (f R).l.toArray/\Ak [g] w w'):Bs w g (Yf g R) v (MR.wrap ⟨R,ns,ds,ss⟩ (f R)) e w':=by
 obtain⟨rfl,hb,hc⟩:=hp;exact CV (w1:=w) (R:=R) (a:=R.notes) (b:=R.An) (c:=R.seen) ht (Xn.2 (Or.inl rfl)) (Ak.refl _ _) h (λx hx=>Or.inl hx) hf hb hc
theorem tkS{x:Xj}{f:Xb->Xb}{R0:Xb}(ht:IJ R)(h:RB w g R ns ds ss)(m0:0<=R.me)(m1:R.me<6)(hf:Lu f)(e:R0=R)(hc:SM x R0 (f R0))(hM:MR.Av ⟨R,ns,ds,ss⟩ x=MR.wrap ⟨R,ns,ds,ss⟩ (f R)):
  Calls Tryz.prog 58 #[.pointer (some ⟨g,0,none⟩),.agg x.l.toArray] w (Bs w g (Yf g R) .nilIface (MR.Av ⟨R,ns,ds,ss⟩ x)):=by
 subst e
 rw[hM]
 exact(hc g w h.bk m0 m1).mono λen w' hp=>Kn ht h hf hp
end
theorem kF(M:MR)(x:Xj)(g:Nat)(w:World)(h:RB w g M.R M.ns M.ds M.ss)(ok:Vj M)(so:Md M):
  Calls Tryz.prog 58 #[.pointer (some ⟨g,0,none⟩),.agg x.l.toArray] w (Bs w g (Yf g M.R) .nilIface (M.Av x)):=by
 obtain⟨R,ns,ds,ss⟩:=M
 obtain⟨m0,m1,ht,he,hnl,hdl,hsl⟩:=ok
 unfold Md at so
 simp only at h m0 m1 ht he hnl hdl hsl so ⊢
 have T:=@tkS w g R ns ds ss x
 have N:MR.Av ⟨R,ns,ds,ss⟩ x=MR.Av ⟨R,ns,ds,ss⟩ x:=rfl
 conv at N=>rhs;unfold MR.Av
 rcases so with hs|hs|hs|⟨hs,hk,hi0,hi1⟩|⟨hs,hi0,hi1⟩|⟨hs,hk,hi0,hi1⟩|hs|hs|hs|hs|hs|hs|⟨hs,hk,hi0,hi1⟩|hs|⟨hs,hk⟩|⟨hs,d,r,hd,hm⟩<;>simp only[hs] at N
 ·exact T ht h m0 m1 (NY x) (dE hs) (rt1 R x) N
 ·exact T ht h m0 m1 Du (dE hs) (rt2 R x) N
 ·exact T ht h m0 m1 (I3 (st:=2) rfl _) (dE hs) (rt3 R x) N
 ·exact T ht h m0 m1 (JO _) (dE hs) (rt4 R x R.Aa R.index hk hi0 hi1) N
 ·by_cases h2:R.Aa=2
  ·exact T ht h m0 m1 (I2 x) (rqB hs h2) (rt52 R x R.call.i hi0 hi1) N
  ·exact T ht h m0 m1 (I2 x) (dE hs) (rt5 R x R.Aa Zo) N
 ·rcases hk with hk|hk
  ·exact T ht h m0 m1 (Hi x) (rqB hs hk) (rt63 R x R.call.i hi0 hi1) N
  ·exact T ht h m0 m1 (Hi x) (rqB hs hk) (rt6 R x) N
 ·exact T ht h m0 m1 Qj (dE hs) (rt7 R x) N
 ·exact T ht h m0 m1 (E8 (st:=1) rfl _) (dE hs) (rt8 R x) N
 ·exact T ht h m0 m1 (Qi x) (dE hs) (rt9 R x) N
 ·exact VM w g R ns ds ss x h ht hnl hs
 ·have hc:=rt11 R x g w (by rw[dE hs];exact h.bk) m0 m1;rw[show MR.Av ⟨R,ns,ds,ss⟩ x=bif decide (R.most<=(ns.length:Int)) then MR.wrap ⟨R,ns,ds,ss⟩ R.scan else MR.wrap ⟨R,ns,ds,ss⟩ R.done from N];rw[dE hs] at hc;refine hc.mono λen w' hp=>?_;unfold Xb.noted at hp;rw[mR h.on] at hp;cases hm:decide (R.most<=(ns.length:Int)) with
  |true=>rw[hm] at hp;exact Kn ht h Ju hp
  |false=>rw[hm] at hp;exact Kn ht h Du hp
 ·exact T ht h m0 m1 (Qh x) (dE hs) (rt12 R x) (by unfold MR.Av;simp only[hs];rfl)
 ·exact VK w g R ns ds ss x h ht hnl hsl hs hk hi0 hi1
 ·exact T ht h m0 m1 (E7 (st:=15) rfl _) (dE hs) (rt14 R x) N
 ·exact VJ w g R ns ds ss x h ht hnl Zo hk hs
 ·subst hd;exact VH w g R ns r d ss x h ht hnl (by simp at hdl;omega) hm hs
theorem fB{w w1 w':World}{g:Nat}{R4:Xb}{ns4 ds:List Xq}{ss:List Xe}{a b c:BA}{e:Ending}{F:List Nat}(ht:IJ R4)(hg:g∈F)(hc1:Ak F w w1)(h:RB w1 g (Y7 R4 a b c) ns4 ds ss)(hF:∀x∈Yf g (Y7 R4 a b c),x∈F\/w.heap.size<=x)
  (hp:e=.returned (.tuple #[])/\Bk w' g 171 (Y7 R4 a b c).noted.l.toArray/\Ak [g] w1 w'):Bs w g F (.tuple #[]) (MR.noted ⟨R4,ns4,ds,ss⟩) e w':=by
 obtain⟨rfl,hb,hc⟩:=hp
 unfold MR.noted
 unfold Xb.noted at hb
 rw[mR h.on] at hb
 show Bs w g F _ (bif decide (R4.most<=(ns4.length:Int)) then MR.wrap ⟨R4,ns4,ds,ss⟩ R4.scan else MR.wrap ⟨R4,ns4,ds,ss⟩ R4.done) _ _
 rw[show(Y7 R4 a b c).most=R4.most from rfl] at hb
 cases hm:decide (R4.most<=(ns4.length:Int)) with
 |true=>rw[hm] at hb;exact CV ht hg hc1 h hF Ju hb hc
 |false=>rw[hm] at hb;exact CV ht hg hc1 h hF Du hb hc
theorem TI(w:World)(g:Nat)(R:Xb)(ns ds:List Xq)(ss:List Xe)(h:RB w g R ns ds ss)(ht:IJ R)(hl:ns.length<=100000)(he:R.Aa=2):
  Calls Tryz.prog 103 #[.pointer (some ⟨g,0,none⟩)] w (Bs w g (Yf g R) (.tuple #[]) (MR.retire ⟨R,ns,ds,ss⟩)):=by
 have c46:=(JG h.bk).2.1
 rw[he] at c46
 have HH:=Zh h
 have HM:Hid (MR.retire ⟨R,ns,ds,ss⟩=MR.noted ⟨R,ns++[⟨Yt R.call.Bb,0,0⟩],ds,ss⟩):=Zh (by unfold MR.retire;simp only[he];rfl)
 have hgl:=h.bk.lt
 clear h he
 go_enter Tryz.func103,Tryz.ntmps103
 go_wp2_with fail
 refine(Ui w g R ns ds ss HH.out hl 0 0).mono ?_
 rintro e w4 ⟨rfl,hn,hrb,hc4,hf4⟩
 have HB:Hid (RB w4 g (Y7 R hn R.An R.seen) (ns++[⟨Yt R.call.Bb,0,0⟩]) ds ss):=Zh hrb
 have HC4:=Zh hc4
 have HF:Hid (∀x∈Yf g (Y7 R hn R.An R.seen),x∈Yf g R\/w.heap.size<=x):=by
  refine Zh (λx hx=>?_);rcases Xn.1 hx with h1|h1|h1|h1
  ·exact Or.inl (Xn.2 (Or.inl h1))
  ·exact(hf4 x h1).imp (λh2=>Xn.2 (Or.inr (Or.inl h2))) id
  ·exact Or.inl (Xn.2 (Or.inr (Or.inr (Or.inl h1))))
  ·exact Or.inl (Xn.2 (Or.inr (Or.inr (Or.inr h1))))
 clear hrb hc4 hf4
 go_wp2_with fail
 refine(N4 (Y7 R hn R.An R.seen) g w4 HB.out.bk).mono ?_
 intro e w6 hp
 have hr:=fB (w:=w) (F:=Yf g R) ht (Xn.2 (Or.inl rfl)) HC4.out HB.out HF.out hp
 rw[←HM.out] at hr
 obtain rfl:=hr.1
 have HR:=Zh hr
 clear hr hp
 go_wp2_with fail
 go_end0
 exact HR.out
theorem rcall{w:World}{g:Nat}{R:Xb}(h:Bk w g 171 R.l.toArray):∀(j:Nat) (u:Value),R.call.l[j]?=some u->w.cell? ⟨g,0+j,none⟩=some u:=λj u hu=>by
 rw[Nat.zero_add,h.cell];have:R.l=R.call.l++R.l.drop 18:=Zk;have hj:j<R.call.l.length:=by
  rcases Nat.lt_or_ge j R.call.l.length with h'|h'
  ·exact h'
  ·rw[List.getElem?_eq_none h'] at hu;cases hu
 rw[List.getElem?_toArray,this,List.getElem?_append_left hj];exact hu
theorem WE(w:World)(g:Nat)(R:Xb)(ns ds:List Xq)(ss:List Xe)(h:RB w g R ns ds ss)(ht:IJ R)(hl:ns.length<=100000)(he:R.Aa=2)(hk:R.call.kind=10):
  Calls Tryz.prog 84 #[.pointer (some ⟨g,0,none⟩)] w (Bs w g (Yf g R) (.tuple #[]) (MR.retire ⟨R,ns,ds,ss⟩)):=by
 have HH:=Zh h
 have hgl:=h.bk.lt
 have hcl:=rcall h.bk
 clear h
 go_enter Tryz.func84,Tryz.ntmps84
 go_wp2_with (refine wpList_load_mid Zr _ _ Zr g 0 Zr [.int .i64 R.call.kind,.int .i64 R.call.Ay.sl,.int .i64 R.call.Ay.gn,.int .i64 R.call.Ay.fd,.int .i64 R.call.Bb.sl,.int .i64 R.call.Bb.gn,.int .i64 R.call.Bb.tg,.int .i64 R.call.Bb.nm,.bool R.call.Bb.mark,.int .i64 R.call.new.sl,.int .i64 R.call.new.gn,.int .i64 R.call.new.tg,.int .i64 R.call.new.nm,.bool R.call.new.mark,.int .i64 R.call.i,.int .i64 R.call.j,.int .i64 R.call.A5.code,.int .i64 R.call.A5.val] _ hcl Tryz.underlying120 Zr Zk ?_;clear hcl)
 refine(TI _ g R ns ds ss (HH.out.BV (F:=[]) (Ak.Ag ((Below.refl _ _).alloc (Nat.le_refl _) _)) (λ_ _=>List.not_mem_nil)) ht hl he).mono ?_
 intro e w6 hr
 have hr:=Bs.after (Ak.Ag (F:=Yf g R) ((Below.refl _ _).alloc (Nat.le_refl _) _)) (λx hx=>Or.inl hx) hr
 obtain rfl:=hr.1
 have HR:=Zh hr
 clear hr
 go_wp2_with fail
 go_end0
 exact HR.out
theorem UR(w:World)(g:Nat)(R:Xb)(ns ds:List Xq)(ss:List Xe)(c:Xf)(h:RB w g R ns ds ss)(ht:IJ R)(hl:ns.length<=100000)(he:R.Aa=2)(hk:c.kind=10)(hs:R.step=0):
  Calls Tryz.prog 71 #[.pointer (some ⟨g,0,none⟩),.agg c.l.toArray] w (Bs w g (Yf g R) .nilIface (MR.retire ⟨R.Aw c,ns,[],[]⟩)):=by
 have HH:=Zh h
 have hgl:=h.bk.lt
 have c18:=I8 h.bk
 rw[hs] at c18
 clear h
 obtain⟨c0,⟨c1,c2,c3⟩,⟨c4,c5,c6,c7,c8⟩,⟨c9,c10,c11,c12,c13⟩,c14,c15,⟨c16,c17⟩⟩:=c
 simp only at hk
 subst hk
 show Calls Tryz.prog 71 #[.pointer (some ⟨g,0,none⟩),.agg #[.int .i64 10,.int .i64 c1,.int .i64 c2,.int .i64 c3,.int .i64 c4,.int .i64 c5,.int .i64 c6,.int .i64 c7,.bool c8,.int .i64 c9,.int .i64 c10,.int .i64 c11,.int .i64 c12,.bool c13,.int .i64 c14,.int .i64 c15,.int .i64 c16,.int .i64 c17]] w _
 have HX:=HH.out.BV (F:=[]) (w':=w.alloc (.cells #[.int .i64 10,.int .i64 c1,.int .i64 c2,.int .i64 c3,.int .i64 c4,.int .i64 c5,.int .i64 c6,.int .i64 c7,.bool c8,.int .i64 c9,.int .i64 c10,.int .i64 c11,.int .i64 c12,.bool c13,.int .i64 c14,.int .i64 c15,.int .i64 c16,.int .i64 c17] 120)) (Ak.Ag ((Below.refl _ _).alloc (Nat.le_refl _) _)) (λ_ _=>List.not_mem_nil)
 have HXH:=Zh HX
 have HB:=Zh HX.bk
 clear HX
 go_enter Tryz.func71,Tryz.ntmps71
 go_wp2_with (refine Za Zr _ _ _ Zr g 0 _ Zr Zr _ _ (R.Aw ⟨10,⟨c1,c2,c3⟩,⟨c4,c5,c6,c7,c8⟩,⟨c9,c10,c11,c12,c13⟩,c14,c15,⟨c16,c17⟩⟩).l.toArray HB.out (Nat.le_of_ble_eq_true Zk) Zk Zr Zk ?_;intro w2 hst)
 have hc2:Ak [g] _ w2:=Ak.Ar (b:=0) hst.grown (λb e=>by injection e with e;simp[e])
 have hup:=HXH.out.Ap (R':=R.Aw ⟨10,⟨c1,c2,c3⟩,⟨c4,c5,c6,c7,c8⟩,⟨c9,c10,c11,c12,c13⟩,c14,c15,⟨c16,c17⟩⟩) (ds':=[]) (ss':=[]) hst.bk hc2 rfl (Or.inr ⟨rfl,rfl⟩) (Or.inr ⟨rfl,rfl⟩)
 refine(WE w2 g _ ns [] [] hup ht hl he rfl).mono ?_
 intro e w6 hr
 have hr:=Bs.after (F:=Yf g R) ((Ak.Ag ((Below.refl _ _).alloc (Nat.le_refl _) _)).trans (Ib hc2 (Xn.2 (Or.inl rfl)))) (fun x hx=>by
  have en:Bp.v.ownBlock=none:=rfl;rcases Xn.1 hx with h1|h1|h1|h1
  ·exact Or.inl (Xn.2 (Or.inl h1))
  ·exact Or.inl (Xn.2 (Or.inr (Or.inl h1)))
  ·cases h1
  ·cases h1) hr
 obtain⟨rfl,a,b,c,h1,h2,h3⟩:=hr
 have HR:Hid (Bs w g (Yf g R) .nilIface _ (.returned .nilIface) w6):=Zh ⟨rfl,a,b,c,h1,h2,h3⟩
 clear h1 h2 h3 hst hc2 hup
 go_wp2_with fail
 go_ret
 exact HR.out
theorem Qk:Lu Xb.enter:=MW (p:=Xb.Dq) (λ_ _ _ _=>rfl) (E7 (st:=3) rfl _) Du
theorem Ql:Lu Xb.alloc:=MW (p:=Xb.dating) (λ_ _ _ _=>rfl) (E7 (st:=8) rfl _) (E8 (st:=1) rfl _)
theorem Ut(i j:Int):Lu λR=>R.hold i j:=λR a b c ht=>by
 show(bif R.A2&&!wQ (R.B4 i) (R.B4 j) then(Y7 R a b c).post 2 i (R.B4 j) else(Y7 R a b c).done)=Y7 (bif R.A2&&!wQ (R.B4 i) (R.B4 j) then R.post 2 i (R.B4 j) else R.done) a (bif (bif R.A2&&!wQ (R.B4 i) (R.B4 j) then R.post 2 i (R.B4 j) else R.done).step==0 then Bp else b) (bif (bif R.A2&&!wQ (R.B4 i) (R.B4 j) then R.post 2 i (R.B4 j) else R.done).step==0 then Bp else c);cases R.A2&&!wQ (R.B4 i) (R.B4 j) with
 |true=>exact KW (st:=2) rfl i (R.B4 j) R a b c ht
 |false=>rfl
theorem Mx:Lu Xb.GM:=λR a b c ht=>by
 show(bif R.Aa==1 then(Y7 R a b c).done else bif R.Aa==4 then(Y7 R a b c).load 10 (root 24) else(Y7 R a b c).load 9 (Xg R.call.Bb 9))=Y7 (bif R.Aa==1 then R.done else bif R.Aa==4 then R.load 10 (root 24) else R.load 9 (Xg R.call.Bb 9)) a (bif (bif R.Aa==1 then R.done else bif R.Aa==4 then R.load 10 (root 24) else R.load 9 (Xg R.call.Bb 9)).step==0 then Bp else b) (bif (bif R.Aa==1 then R.done else bif R.Aa==4 then R.load 10 (root 24) else R.load 9 (Xg R.call.Bb 9)).step==0 then Bp else c);cases R.Aa==1 with
 |true=>rfl
 |false=>
  cases R.Aa==4 with
  |true=>rfl
  |false=>rfl
theorem dR{w w':World}{g:Nat}{R:Xb}{ns ds:List Xq}{ss:List Xe}{e:Ending}{v:Value}{c:Xf}(ht:IJ R)(h:RB w g R ns ds ss){f:Xb->Xb}(hf:Lu f)(hp:e=.returned v/\Bk w' g 171 (f (R.Aw c)).l.toArray/\Ak [g] w w'):
  Bs w g (Yf g R) v ⟨f (R.Aw c),ns,[],[]⟩ e w':=by
 obtain⟨rfl,hb,hc⟩:=hp
 have e1:f (R.Aw c)=Y7 (f (R.Aw c)) R.notes Bp Bp:=by
  have h1:=hf (R.Aw c) R.notes Bp Bp ht;have h2:∀b:Bool,(bif b then Bp else Bp)=Bp:=λb=>by cases b<;>rfl
  rw[h2] at h1;exact h1
 rw[e1] at hb
 refine⟨rfl,R.notes,Bp,Bp,h.Ap hb hc rfl (Or.inr ⟨rfl,rfl⟩) (Or.inr ⟨rfl,rfl⟩),Ib hc (Xn.2 (Or.inl rfl)),λx hx=>Or.inl ?_⟩
 rcases Xn.1 hx with h1|h1|h1|h1
 ·exact Xn.2 (Or.inl h1)
 ·exact Xn.2 (Or.inr (Or.inl h1))
 ·cases h1
 ·cases h1
def So(c:Xf):Prop:=
 c.kind=1\/c.kind=2\/c.kind=3\/c.kind=4\/c.kind=5\/(c.kind=6/\0<=c.i/\c.i<9/\c.j=0)\/(c.kind=7/\((c.i=2/\c.j=1)\/(c.i=1/\c.j=0)\/(c.i=5/\c.j=4)\/(c.i=4/\c.j=3)\/(c.i=8/\c.j=7)\/(c.i=7/\c.j=6)\/(c.i=2/\c.j=5)\/(c.i=5/\c.j=8)))\/c.kind=8\/c.kind=9\/c.kind=10\/c.kind=11
theorem rC{c:Xf}{k:Int}(h:c.kind=k):({c with kind:=k}:Xf)=c:=by subst h;rfl
theorem Sy(R R':Xb)(ns:List Xq):MR.wrap ⟨R,ns,[],[]⟩ R'=⟨R',ns,[],[]⟩:=by
 unfold MR.wrap;cases R'.step==0<;>rfl
theorem bgS{w:World}{g:Nat}{R R0 Q:Xb}{ns ds:List Xq}{ss:List Xe}{c c0:Xf}{f:Xb->Xb}(ht:IJ R)(h:RB w g R ns ds ss)(m0:0<=R.me)(m1:R.me<6)(hf:Lu f)(e:R0=R)(ec:c0=c)(hc:bgW c0 R0 Q)(hq:Q=f (R0.Aw c0))(hM:MR.Aj ⟨R,ns,ds,ss⟩ c=⟨f (R.Aw c),ns,[],[]⟩):
  Calls Tryz.prog 71 #[.pointer (some ⟨g,0,none⟩),.agg c.l.toArray] w (Bs w g (Yf g R) .nilIface (MR.Aj ⟨R,ns,ds,ss⟩ c)):=by
 subst e ec hq
 rw[hM]
 exact(hc g w h.bk m0 m1).mono λen w' hp=>dR ht h hf hp
theorem hH(M:MR)(c:Xf)(g:Nat)(w:World)(h:RB w g M.R M.ns M.ds M.ss)(ok:Vj M)(hs:M.R.step=0)(hc:So c):
  Calls Tryz.prog 71 #[.pointer (some ⟨g,0,none⟩),.agg c.l.toArray] w (Bs w g (Yf g M.R) .nilIface (M.Aj c)):=by
 obtain⟨R,ns,ds,ss⟩:=M
 obtain⟨m0,m1,ht,he,hnl,hdl,hsl⟩:=ok
 unfold So at hc
 simp only at h m0 m1 ht he hnl hdl hsl hs ⊢
 have T:=λR0 Q c0 f=>@bgS w g R R0 Q ns ds ss c c0 f ht h m0 m1
 have eR:=dE hs
 have N:MR.Aj ⟨R,ns,ds,ss⟩ c=MR.Aj ⟨R,ns,ds,ss⟩ c:=rfl
 conv at N=>rhs;unfold MR.Aj Xb.Aq
 rcases hc with hk|hk|hk|hk|hk|⟨hk,hi0,hi1,hj⟩|⟨hk,hij⟩|hk|hk|hk|hk<;>simp only[hk] at N
 ·exact T _ _ _ _ Qk eR (rC hk) (rb1 R c) rfl N
 ·exact T _ _ _ _ (JO _) eR (rC hk) (rb2 R c R.Aa he) rfl N
 ·exact T _ _ _ _ (E7 (st:=1) rfl _) eR (rC hk) (rb3 R c) rfl N
 ·exact T _ _ _ _ (E8 (st:=1) rfl _) eR (rC hk) (rb4 R c) rfl N
 ·exact T _ _ _ _ (E8 (st:=1) rfl _) eR (rC hk) (rb5 R c) rfl N
 ·exact T _ _ _ _ (E7 (st:=5) rfl _) eR (by rw[←hk,←hj]) (rb6 R c hi0 hi1) rfl N
 ·exact T _ _ _ _ (Ut _ _) eR (rC hk) (rb7 R c c.i c.j hij) rfl N
 ·exact T _ _ _ _ Ql eR (rC hk) (rb8 R c) rfl N
 ·exact T _ _ _ _ (E8 (st:=2) rfl _) eR (rC hk) (rb9 R c) rfl N
 ·by_cases h2:R.Aa=2
  ·rw[N];exact UR w g R ns ds ss c h ht hnl h2 hk hs
  ·refine T _ _ _ _ Mx eR (rC hk) (rb10 R c R.Aa Zo) rfl (N.trans ?_);show MR.retire ⟨R.Aw c,ns,[],[]⟩=_;unfold MR.retire;rw[show((R.Aw c).Aa==2)=false from by show(R.Aa==2)=false;simp[h2]];exact Sy _ _ _
 ·exact T _ _ _ _ Ju eR (rC hk) (rb11 R c) rfl (N.trans (Sy _ _ _))
def Lw(M M':MR):Prop:=∃a b c,M'=⟨Y7 M.R a b c,M.ns,M.ds,M.ss⟩
section
variable{M M':MR}
theorem kU(M:MR)(a b c:BA):Lw M ⟨Y7 M.R a b c,M.ns,M.ds,M.ss⟩:=⟨a,b,c,rfl⟩
theorem kS(h:Lw M M'):M'.R.step=M.R.step:=by obtain⟨a,b,c,rfl⟩:=h;rfl
theorem BR{f:Xb->Xb}(hf:Lu f)(h:Lw M M')(ht:IJ M.R):Lw (M.wrap (f M.R)) (M'.wrap (f M'.R)):=by
 obtain⟨a,b,c,rfl⟩:=h;simp only[hf M.R a b c ht,MR.wrap];have e:(Y7 (f M.R) a (bif (f M.R).step==0 then Bp else b) (bif (f M.R).step==0 then Bp else c)).step=(f M.R).step:=rfl;rw[e];cases(f M.R).step==0
 ·exact⟨a,b,c,rfl⟩
 ·exact⟨a,Bp,Bp,rfl⟩
theorem Ty(h:Lw M M')(ht:IJ M.R):Lw M.scan M'.scan:=BR Ju h ht
theorem L5(h:Lw M M')(ht:IJ M.R):Lw M.noted M'.noted:=by
 have h1:=Ty h ht;have h2:=BR Du h ht;obtain⟨a,b,c,rfl⟩:=h;unfold MR.noted;simp only;have e:(Y7 M.R a b c).most=M.R.most:=rfl;rw[e];cases decide (M.R.most<=(M.ns.length:Int))
 ·exact h2
 ·exact h1
theorem kV(h:Lw M M')(b d:Int):Lw (M.note b d) (M'.note b d):=by
 obtain⟨a,b',c,rfl⟩:=h;exact⟨a,b',c,rfl⟩
theorem Tz(h:Lw M M')(ht:IJ M.R):Lw M.reap M'.reap:=by
 have h2:=BR Du h ht;obtain⟨a,b,c,rfl⟩:=h;unfold MR.reap;simp only;cases hd:M.ds with
 |nil=>simp only[hd] at h2 ⊢;exact h2
 |cons d r=>simp only;exact⟨a,b,c,by simp only[hd];rfl⟩
theorem Tx(h:Lw M M')(ht:IJ M.R):Lw M.sift M'.sift:=by
 obtain⟨a,b,c,rfl⟩:=h;unfold MR.sift;exact Tz ⟨a,b,c,rfl⟩ ht
theorem Wa(h:Lw M M')(ht:IJ M.R):Lw M.retire M'.retire:=by
 have h1:=L5 (kV h 0 0) ht;have h2:=BR Mx h ht;obtain⟨a,b,c,rfl⟩:=h;unfold MR.retire;have e:(Y7 M.R a b c).Aa=M.R.Aa:=rfl;simp only[e];cases M.R.Aa==2
 ·exact h2
 ·exact h1
theorem yM(h:Lw M M')(ht:IJ M.R)(x:Xj):Lw (M.AK x) (M'.AK x):=by
 obtain⟨a,b,c,rfl⟩:=h;unfold MR.AK;have e1:(Y7 M.R a b c).index=M.R.index:=rfl;have e2:(Y7 M.R a b c).Aa=M.R.Aa:=rfl;have e3:(Y7 M.R a b c).clock=M.R.clock:=rfl;simp only[JK,e1,e2,e3];cases(M.R.look (M.R.index+1)).2
 ·simp only[cond_false];cases(!(M.R.Aa==4))
  ·simp only[cond_false];cases Ew M.R.clock.nm (List.map DY (M.ss++[x.word]))
   ·exact⟨a,b,c,rfl⟩
   ·exact⟨a,b,c,rfl⟩
  ·exact Tx ⟨a,b,c,rfl⟩ ht
 ·exact⟨a,b,c,rfl⟩
theorem kW(h:Lw M M')(ht:IJ M.R):Lw M.Gq M'.Gq:=by
 obtain⟨a,b,c,rfl⟩:=h;unfold MR.Gq;simp only;cases hd:M.ds with
 |nil=>exact⟨a,b,c,by simp only[hd]⟩
 |cons d r=>exact Tz ⟨a,b,c,rfl⟩ ht
theorem cT(h:Lw M M')(ht:IJ M.R)(c:Xf):Lw (M.Aj c) (M'.Aj c):=by
 obtain⟨a,b,d,rfl⟩:=h;unfold MR.Aj;simp only;have et:(Y7 M.R a b d).Aw c=Y7 (M.R.Aw c) a Bp Bp:=rfl;have h1:Lw ⟨M.R.Aw c,M.ns,[],[]⟩ ⟨(Y7 M.R a b d).Aw c,M.ns,[],[]⟩:=⟨a,Bp,Bp,by rw[et]⟩;cases c.kind==10
 ·cases c.kind==11
  ·simp only[cond_false];have hb:∃b' d',(Y7 M.R a b d).Aq c=Y7 (M.R.Aq c) a b' d':=by
    unfold Xb.Aq;simp only[et];have ht':IJ (M.R.Aw c):=ht;have fin:∀{f:Xb->Xb},Lu f->∃b' d',f (Y7 (M.R.Aw c) a Bp Bp)=Y7 (f (M.R.Aw c)) a b' d':=λhf=>⟨_,_,hf _ _ _ _ ht'⟩;cases c.kind==1
    ·cases c.kind==2
     ·cases c.kind==3
      ·cases c.kind==4
       ·cases c.kind==5
        ·cases c.kind==6
         ·cases c.kind==7
          ·cases c.kind==8
           ·exact fin (E8 (st:=2) rfl _)
           ·exact fin Ql
          ·exact fin (Ut c.i c.j)
         ·exact fin (E7 (st:=5) rfl _)
        ·exact fin (E8 (st:=1) rfl _)
       ·exact fin (E8 (st:=1) rfl _)
      ·exact fin (E7 (st:=1) rfl _)
     ·exact fin (JO _)
    ·exact fin Qk
   obtain⟨b',d',hb⟩:=hb;exact⟨a,b',d',by rw[hb]⟩
  ·exact Ty h1 ht
 ·exact Wa h1 ht
theorem kR(h:Lw M M')(ht:IJ M.R)(x:Xj):Lw (M.Av x) (M'.Av x):=by
 have hs:=kS h;have g1:=BR (NY x) h ht;have g2:=BR Du h ht;have g3:=BR (I3 (st:=2) rfl ⟨true,x.word.nm,x.word.nm⟩) h ht;have g4:=BR (JO (([0,1,2,3,4,5,6,7,8]:List Int).filter λn=>decide (M.R.index<n))) h ht;have g5:=BR (I2 x) h ht;have g6:=BR (Hi x) h ht;have g7:=BR Qj h ht;have g8:=BR (E8 (st:=1) rfl ⟨4,.zero,.zero,Yy x.word.nm⟩) h ht;have g9:=BR (Qi x) h ht;have g11:=L5 h ht;have g12:=BR (Qh x) h ht;have g13:=yM h ht x;have g14:=BR (E7 (st:=15) rfl (root 24)) h ht;have g16:=kW h ht;have g15:Lw (MR.sift {M with R:={M.R with clock:=x.word}}) (MR.sift {M' with R:={M'.R with clock:=x.word}}):=by
  obtain⟨a,b,c,rfl⟩:=h;exact Tx ⟨a,b,c,rfl⟩ ht
 have g10:Lw (MR.note {M with R:={M.R with clock:=x.word}} M.R.word.nm x.word.nm) (MR.note {M' with R:={M'.R with clock:=x.word}} M'.R.word.nm x.word.nm):=by
  obtain⟨a,b,c,rfl⟩:=h;exact⟨a,b,c,rfl⟩
 have g10a:=L5 g10 ht;have g10b:Lw {MR.note {M with R:={M.R with clock:=x.word}} M.R.word.nm x.word.nm with R:=(MR.note {M with R:={M.R with clock:=x.word}} M.R.word.nm x.word.nm).R.advance 11}
   {MR.note {M' with R:={M'.R with clock:=x.word}} M'.R.word.nm x.word.nm with R:=(MR.note {M' with R:={M'.R with clock:=x.word}} M'.R.word.nm x.word.nm).R.advance 11}:=by
  obtain⟨a,b,c,rfl⟩:=h
  exact⟨a,b,c,rfl⟩
 have ei:M'.R.index=M.R.index:=by obtain⟨a,b,c,rfl⟩:=h;rfl
 have ed:M'.R.dating=M.R.dating:=by obtain⟨a,b,c,rfl⟩:=h;rfl
 rw[←ei] at g4;unfold MR.Av;have hs2:∀k:Int,(M'.R.step==k)=(M.R.step==k):=λk=>by rw[hs]
 simp only[hs2,ed];clear h hs hs2;cases M.R.step==1
 ·cases M.R.step==2
  ·cases M.R.step==3
   ·cases M.R.step==4
    ·cases M.R.step==5
     ·cases M.R.step==6
      ·cases M.R.step==7
       ·cases M.R.step==8
        ·cases M.R.step==9
         ·cases M.R.step==10
          ·cases M.R.step==11
           ·cases M.R.step==12
            ·cases M.R.step==13
             ·cases M.R.step==14
              ·cases M.R.step==15
               ·exact g16
               ·exact g15
              ·exact g14
             ·exact g13
            ·exact g12
           ·exact g11
          ·cases M.R.dating
           ·exact g10a
           ·exact g10b
         ·exact g9
        ·exact g8
       ·exact g7
      ·exact g6
     ·exact g5
    ·rw[←ei];exact g4
   ·exact g3
  ·exact g2
 ·exact g1
end
def Lx(w:World)(g:Nat)(M:MR)(F:List Nat):Prop:=∃a b c,RB w g (Y7 M.R a b c) M.ns M.ds M.ss/\F=Yf g (Y7 M.R a b c)
section
variable{w w':World}{g:Nat}{M:MR}{F:List Nat}
theorem Lx.same(h:Lx w g M F)(hs:∀b∈F,w'.heap[b]?=w.heap[b]?):Lx w' g M F:=by
 obtain⟨a,b,c,h,rfl⟩:=h;exact⟨a,b,c,⟨h.bk.same (hs g (Xn.2 (Or.inl rfl))),h.on.kept λb hb=>hs b (Xn.2 (Or.inr (Or.inl hb))),h.od.kept λb hb=>hs b (Xn.2 (Or.inr (Or.inr (Or.inl hb)))),h.os.kept λb hb=>hs b (Xn.2 (Or.inr (Or.inr (Or.inr hb)))),h.gn,h.gd,h.gs,h.nd,h.ns,h.ds⟩,rfl⟩
theorem Lx.lt(h:Lx w g M F):∀b∈F,b<w.heap.size:=by
 obtain⟨a,b,c,h,rfl⟩:=h;exact h.lt
theorem xZ(x:Xj)(h:Lx w g M F)(ok:Vj M)(so:Md M):
  Calls Tryz.prog 58 #[.pointer (some ⟨g,0,none⟩),.agg x.l.toArray] w (IE (λw F=>Lx w g (M.Av x) F) .nilIface F w):=by
 obtain⟨a,b,c,h,rfl⟩:=h
 have hq:=kF ⟨Y7 M.R a b c,M.ns,M.ds,M.ss⟩ x g w h ⟨ok.PZ,ok.PY,ok.Np,ok.eng,ok.nl,ok.dl,ok.sl⟩ so
 refine hq.mono λen w' hp=>?_
 obtain⟨p1,a1,b1,c1,p2,p3,p4⟩:=hp
 obtain⟨a2,b2,c2,e⟩:=kR (kU M a b c) ok.Np x
 rw[e] at p2 p4
 exact⟨_,p1,⟨a1,b1,c1,p2,rfl⟩,p4,p3⟩
theorem ZY(c:Xf)(h:Lx w g M F)(ok:Vj M)(hs:M.R.step=0)(hc:So c):
  Calls Tryz.prog 71 #[.pointer (some ⟨g,0,none⟩),.agg c.l.toArray] w (IE (λw F=>Lx w g (M.Aj c) F) .nilIface F w):=by
 obtain⟨a,b,d,h,rfl⟩:=h
 have hq:=hH ⟨Y7 M.R a b d,M.ns,M.ds,M.ss⟩ c g w h ⟨ok.PZ,ok.PY,ok.Np,ok.eng,ok.nl,ok.dl,ok.sl⟩ hs hc
 refine hq.mono λen w' hp=>?_
 obtain⟨p1,a1,b1,c1,p2,p3,p4⟩:=hp
 obtain⟨a2,b2,c2,e⟩:=cT (kU M a b d) ok.Np c
 rw[e] at p2 p4
 exact⟨_,p1,⟨a1,b1,c1,p2,rfl⟩,p4,p3⟩
theorem chg1{w w':World}(hc:Ak [g] w w')(hg:g∈F):Ak F w w':=hc.mono λx hx=>Or.inl (by rw[List.mem_singleton.1 hx];exact hg)
theorem R6(h:Lx w g M F):Calls Tryz.prog 72 #[.pointer (some ⟨g,0,none⟩)] w (IE (λw F=>Lx w g M F) (.bool (!(M.R.step==0))) F w):=by
 obtain⟨a,b,c,h,rfl⟩:=h;exact(eA (Y7 M.R a b c) g w h.bk).mono λen w' hp=>⟨_,hp.1,⟨a,b,c,h.same hp.2.1 hp.2.2,rfl⟩,λb hb=>Or.inl hb,chg1 hp.2.2 (Xn.2 (Or.inl rfl))⟩
theorem lG(h:Lx w g M F):Calls Tryz.prog 73 #[.pointer (some ⟨g,0,none⟩)] w (IE (λw F=>Lx w g M F) (.agg M.R.AF.l.toArray) F w):=by
 obtain⟨a,b,c,h,rfl⟩:=h;exact(Wd (Y7 M.R a b c) g w h.bk).mono λen w' hp=>⟨_,hp.1,⟨a,b,c,h.same hp.2.1 hp.2.2,rfl⟩,λb hb=>Or.inl hb,chg1 hp.2.2 (Xn.2 (Or.inl rfl))⟩
theorem tC(h:Lx w g M F)(hs:(M.R.step==0)=false):Calls Tryz.prog 57 #[.pointer (some ⟨g,0,none⟩)] w (IE (λw F=>Lx w g M F) (.tuple #[.agg M.R.BN.l.toArray,.bool true]) F w):=by
 obtain⟨a,b,c,h,rfl⟩:=h;have hq:=dJ (Y7 M.R a b c) g w h.bk;simp only[show(Y7 M.R a b c).step=M.R.step from rfl,show(Y7 M.R a b c).BN=M.R.BN from rfl,hs,cond_false,Bool.not_false] at hq;exact hq.mono λen w' hp=>⟨_,hp.1,⟨a,b,c,h.same hp.2.1 hp.2.2,rfl⟩,λb hb=>Or.inl hb,chg1 hp.2.2 (Xn.2 (Or.inl rfl))⟩
end
end Go.Proofs.YtaipogljokblkaaGreatDoor
