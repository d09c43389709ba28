/- Core: RO, RP, RQ, RS, VB. -/
import Derived.Test.YtaipogljokblkaaGreatDoorP20
import Derived.Test.YtaipogljokblkaaGreatDoorP21
import Derived.Test.YtaipogljokblkaaGreatDoorP22
import Derived.Test.YtaipogljokblkaaGreatDoorP15
set_option linter.all false
set_option maxRecDepth 100000
set_option maxHeartbeats 8000000
namespace Go.Proofs.YtaipogljokblkaaGreatDoor
open Go Go.RowKit
def qH{R:Xd}{a:Int}(b:R.step=a):({R with step:=a}:Xd)=R:=by subst b;rfl
def rqB{R:Xd}{a b:Int}(c:R.step=a)(d:R.Aa=b):({R with step:=a,Aa:=b}:Xd)=R:=by subst c;subst d;rfl
structure TR(M:MR):Prop where
 Q9:0<=M.R.me
 Q8:M.R.me<6
 Oo:Jm M.R
 eng:M.R.Aa=2\/M.R.Aa=4
 nl:M.ns.length<=100000
 dl:M.ds.length<=90000
 sl:M.ss.length<=900
def keeps(R:Xd):Prop:=R.Aa=2\/R.Aa=3
def pR(R:Xd):Prop:=R.Aa=2\/R.Aa=3\/R.Aa=4\/R.Aa=5
def Na(M:MR):Prop:=
 M.R.step=1\/M.R.step=2\/M.R.step=3\/(M.R.step=4/\keeps M.R/\0<=M.R.index/\M.R.index<9)\/(M.R.step=5/\0<=M.R.call.i/\M.R.call.i<9)\/(M.R.step=6/\(M.R.Aa=3\/M.R.Aa=5)/\0<=M.R.call.i/\M.R.call.i<9)\/
 M.R.step=7\/M.R.step=8\/M.R.step=9\/M.R.step=10\/M.R.step=11\/M.R.step=12\/(M.R.step=13/\pR M.R/\0<=M.R.index/\M.R.index<100)\/M.R.step=14\/(M.R.step=15/\pR M.R)\/(M.R.step=16/\∃d r,M.ds=d::r/\d∈M.ns)
section
variable{w w':World}{g:Nat}{R:Xd}{ns ds:List Xw}{ss:List Xe}{e:Ending}{v:Value}
def KM(d:Jm R)(h:RB w g R ns ds ss){f:Xd->Xd}(i:Ms f)(j:e=.returned v/\Bk w' g 171 (f R).l.toArray/\Aq [g] w w'):BI w g (Yn g R) v (MR.wrap ⟨R,ns,ds,ss⟩ (f R)) e w':=by
 obtain⟨rfl,k,m⟩:=j;exact DZ (w1:=w) (R:=R) (a:=R.notes) (b:=R.Au) (c:=R.seen) d (Xs.2 (fq rfl)) (Aq.refl _ _) h (λx n=>fq n) i k m
def tkS{x:Xr}{f:Xd->Xd}{a:Xd}(b:Jm R)(h:RB w g R ns ds ss)(m0:0<=R.me)(c:R.me<6)(d:Ms f)(e:a=R)(i:YI x a (f a))(j:MR.Ah ⟨R,ns,ds,ss⟩ x=MR.wrap ⟨R,ns,ds,ss⟩ (f R)):
  Kp 58 #[.pointer (some ⟨g,0,none⟩),.agg x.l.toArray] w (BI w g (Yn g R) .nilIface (MR.Ah ⟨R,ns,ds,ss⟩ x)):=by
 subst e
 rw[j]
 exact(i g w h.bk m0 c).mono λm w' k=>KM b h d k
end
def oL(M:MR)(x:Xr)(g:Nat)(w:World)(h:RB w g M.R M.ns M.ds M.ss)(ok:TR M)(u:Na M):
  Kp 58 #[.pointer (some ⟨g,0,none⟩),.agg x.l.toArray] w (BI w g (Yn g M.R) .nilIface (M.Ah x)):=by
 obtain⟨R,ns,ds,ss⟩:=M
 obtain⟨b,c,a,s,m,o,p⟩:=ok
 unfold Na at u
 simp only at h b c a s m o p u ⊢
 have T:=@tkS w g R ns ds ss x
 have N:MR.Ah ⟨R,ns,ds,ss⟩ x=MR.Ah ⟨R,ns,ds,ss⟩ x:=rfl
 conv at N=>rhs;unfold MR.Ah
 rcases u with hs|hs|hs|⟨hs,q,j,k⟩|⟨hs,j,k⟩|⟨hs,q,j,k⟩|hs|hs|hs|hs|hs|hs|⟨hs,q,j,k⟩|hs|⟨hs,q⟩|⟨hs,d,r,z,t⟩<;>simp only[hs] at N
 ·exact T a h b c (Ph x) (qH hs) (rt1 R x) N
 ·exact T a h b c DL (qH hs) (rt2 R x) N
 ·exact T a h b c (IS (st:=2) rfl _) (qH hs) (rt3 R x) N
 ·exact T a h b c (Kt _) (rqB hs (Or.elim q id λh=>Zo)) (rt4 R x R.index j k) N
 ·by_cases A:R.Aa=2
  ·exact T a h b c (IR x) (rqB hs A) (rt52 R x R.call.i j k) N
  ·exact T a h b c (IR x) (rqB hs Zo) (rt5 R x) N
 ·exact absurd q Zo
 ·exact T a h b c R7 (qH hs) (rt7 R x) N
 ·exact T a h b c (Fk (st:=1) rfl _) (qH hs) (rt8 R x) N
 ·exact T a h b c (R6 x) (qH hs) (rt9 R x) N
 ·exact YH w g R ns ds ss x h a m hs s
 ·have y:=rt11 R x g w (by rw[qH hs];exact h.bk) b c;rw[show MR.Ah ⟨R,ns,ds,ss⟩ x=bif decide (R.most<=(ns.length:Int)) then MR.wrap ⟨R,ns,ds,ss⟩ R.scan else MR.wrap ⟨R,ns,ds,ss⟩ R.done from N];rw[qH hs] at y;refine y.mono λB w' n=>?_;unfold Xd.noted at n;rw[rQ h.on] at n;cases t:decide (R.most<=(ns.length:Int)) with
  |true=>rw[t] at n;exact KM a h JF n
  |false=>rw[t] at n;exact KM a h DL n
 ·exact T a h b c (R3 x) (qH hs) (rt12 R x) (by unfold MR.Ah;simp only[hs];rfl)
 ·exact YG w g R ns ds ss x h a m p hs s j k
 ·exact T a h b c (Fg (st:=15) rfl _) (qH hs) (rt14 R x) N
 ·exact YF w g R ns ds ss x h a m Zo s hs
 ·subst z;exact YE w g R ns r d ss x h a m (by simp at o;omega) t hs
def kF{w w1 w':World}{g:Nat}{d:Xd}{f ds:List Xw}{ss:List Xe}{a b c:B5}{e:Ending}{F:List Nat}(k:Jm d)(m:g∈F)(j:Aq F w w1)(h:RB w1 g (Zm d a b c) f ds ss)(hF:∀x∈Yn g (Zm d a b c),x∈F\/w.heap.size<=x)
  (p:e=.returned (.tuple #[])/\Bk w' g 171 (Zm d a b c).noted.l.toArray/\Aq [g] w1 w'):BI w g F (.tuple #[]) (MR.noted ⟨d,f,ds,ss⟩) e w':=by
 obtain⟨rfl,i,n⟩:=p
 unfold MR.noted
 unfold Xd.noted at i
 rw[rQ h.on] at i
 show BI w g F _ (bif decide (d.most<=(f.length:Int)) then MR.wrap ⟨d,f,ds,ss⟩ d.scan else MR.wrap ⟨d,f,ds,ss⟩ d.done) _ _
 rw[show(Zm d a b c).most=d.most from rfl] at i
 cases o:decide (d.most<=(f.length:Int)) with
 |true=>rw[o] at i;exact DZ k m j h hF JF i n
 |false=>rw[o] at i;exact DZ k m j h hF DL i n
def Vo(w:World)(g:Nat)(R:Xd)(ns ds:List Xw)(ss:List Xe)(h:RB w g R ns ds ss)(o:Jm R)(p:ns.length<=100000)(i:R.Aa=2):
  Kp 103 #[.pointer (some ⟨g,0,none⟩)] w (BI w g (Yn g R) (.tuple #[]) (MR.retire ⟨R,ns,ds,ss⟩)):=by
 have j:=(Kk h.bk).2.1
 rw[i] at j
 have q:=eR h
 have r:Hid (MR.retire ⟨R,ns,ds,ss⟩=MR.noted ⟨R,ns++[⟨Yx R.call.AU,0,0⟩],ds,ss⟩):=eR (by unfold MR.retire;simp only[i];rfl)
 have s:=h.bk.lt
 clear h i
 go_enter Tryz.func103,Tryz.ntmps103
 go_wp2_with fail
 refine(VH w g R ns ds ss q.out p 0 0).mono ?_
 rintro e m ⟨rfl,k,a,b,c⟩
 have HB:Hid (RB m g (Zm R k R.Au R.seen) (ns++[⟨Yx R.call.AU,0,0⟩]) ds ss):=eR a
 have l:=eR b
 have t:Hid (∀x∈Yn g (Zm R k R.Au R.seen),x∈Yn g R\/w.heap.size<=x):=by
  refine eR (λx u=>?_);rcases Xs.1 u with h1|h1|h1|h1
  ·exact fq (Xs.2 (fq h1))
  ·exact(c x h1).imp (λv=>Xs.2 (db (fq v))) id
  ·exact fq (Xs.2 (d2 (fq h1)))
  ·exact fq (Xs.2 (d2 (db h1)))
 clear a b c
 go_wp2_with fail
 refine(OA (Zm R k R.Au R.seen) g m HB.out.bk).mono ?_
 intro e z n
 have d:=kF (w:=w) (F:=Yn g R) o (Xs.2 (fq rfl)) l.out HB.out t.out n
 rw[←r.out] at d
 obtain rfl:=d.1
 have y:=eR d
 clear d n
 go_wp2_with fail
 go_end0
 exact y.out
def P5{w:World}{g:Nat}{R:Xd}(h:Bk w g 171 R.l.toArray):∀(j:Nat) (u:Value),R.call.l[j]?=some u->w.cell? ⟨g,0+j,none⟩=some u:=λj u a=>by
 rw[ml,h.cell];have:R.l=R.call.l++R.l.drop 18:=Zk;have c:j<R.call.l.length:=by
  rcases iw j R.call.l.length with b|b
  ·exact b
  ·rw[ik b] at a;cases a
 rw[lu,this,ke c];exact a
def ZV(w:World)(g:Nat)(R:Xd)(ns ds:List Xw)(ss:List Xe)(h:RB w g R ns ds ss)(c:Jm R)(d:ns.length<=100000)(k:R.Aa=2)(p:R.call.kind=10):
  Kp 84 #[.pointer (some ⟨g,0,none⟩)] w (BI w g (Yn g R) (.tuple #[]) (MR.retire ⟨R,ns,ds,ss⟩)):=by
 have l:=eR h
 have m:=h.bk.lt
 have a:=P5 h.bk
 clear h
 go_enter Tryz.func84,Tryz.ntmps84
 go_wp2_with (refine ny Zr _ _ Zr g 0 Zr [.int .i64 R.call.kind,.int .i64 R.call.AJ.sl,.int .i64 R.call.AJ.gn,.int .i64 R.call.AJ.fd,.int .i64 R.call.AU.sl,.int .i64 R.call.AU.gn,.int .i64 R.call.AU.tg,.int .i64 R.call.AU.nm,.bool R.call.AU.mark,.int .i64 R.call.new.sl,.int .i64 R.call.new.gn,.int .i64 R.call.new.tg,.int .i64 R.call.new.nm,.bool R.call.new.mark,.int .i64 R.call.i,.int .i64 R.call.j,.int .i64 R.call.BR.code,.int .i64 R.call.BR.val] _ a Tryz.underlying120 Zr Zk ?_;clear a)
 refine(Vo _ g R ns ds ss (l.out.CJ (F:=[]) (Aq.Ai ((fx _ _).alloc (Nat.le_refl _) _)) (λ_ _=>ic)) c d k).mono ?_
 intro e q b
 have b:=BI.after (Aq.Ai (F:=Yn g R) ((fx _ _).alloc (Nat.le_refl _) _)) (λx n=>fq n) b
 obtain rfl:=b.1
 have o:=eR b
 clear b
 go_wp2_with fail
 go_end0
 exact o.out
def WD(w:World)(g:Nat)(R:Xd)(ns ds:List Xw)(ss:List Xe)(c:Xi)(h:RB w g R ns ds ss)(Q:Jm R)(S:ns.length<=100000)(T:R.Aa=2)(M:c.kind=10)(U:R.step=0):
  Kp 71 #[.pointer (some ⟨g,0,none⟩),.agg c.l.toArray] w (BI w g (Yn g R) .nilIface (MR.retire ⟨R.A8 c,ns,[],[]⟩)):=by
 have V:=eR h
 have W:=h.bk.lt
 have I:=IV h.bk
 rw[U] at I
 clear h
 obtain⟨c0,⟨u,y,z⟩,⟨B,C,D,E,G⟩,⟨H,d,i,j,k⟩,m,n,⟨o,p⟩⟩:=c
 simp only at M
 subst M
 show Kp 71 #[.pointer (some ⟨g,0,none⟩),.agg #[.int .i64 10,.int .i64 u,.int .i64 y,.int .i64 z,.int .i64 B,.int .i64 C,.int .i64 D,.int .i64 E,.bool G,.int .i64 H,.int .i64 d,.int .i64 i,.int .i64 j,.bool k,.int .i64 m,.int .i64 n,.int .i64 o,.int .i64 p]] w _
 have J:=V.out.CJ (F:=[]) (w':=w.alloc (.cells #[.int .i64 10,.int .i64 u,.int .i64 y,.int .i64 z,.int .i64 B,.int .i64 C,.int .i64 D,.int .i64 E,.bool G,.int .i64 H,.int .i64 d,.int .i64 i,.int .i64 j,.bool k,.int .i64 m,.int .i64 n,.int .i64 o,.int .i64 p] 120)) (Aq.Ai ((fx _ _).alloc (Nat.le_refl _) _)) (λ_ _=>ic)
 have K:=eR J
 have HB:=eR J.bk
 clear J
 go_enter Tryz.func71,Tryz.ntmps71
 go_wp2_with (refine Y2 Zr _ _ _ Zr g 0 _ Zr Zr _ _ (R.A8 ⟨10,⟨u,y,z⟩,⟨B,C,D,E,G⟩,⟨H,d,i,j,k⟩,m,n,⟨o,p⟩⟩).l.toArray HB.out (j6 Zk) Zk Zr Zk ?_;intro N q)
 have r:Aq [g] _ N:=Aq.Ax (b:=0) q.grown (λb e=>by injection e with e;simp[e])
 have s:=K.out.Ar (R':=R.A8 ⟨10,⟨u,y,z⟩,⟨B,C,D,E,G⟩,⟨H,d,i,j,k⟩,m,n,⟨o,p⟩⟩) (ds':=[]) (ss':=[]) q.bk r rfl (db ⟨rfl,rfl⟩) (db ⟨rfl,rfl⟩)
 refine(ZV N g _ ns [] [] s Q S T rfl).mono ?_
 intro e Z L
 have L:=BI.after (F:=Yn g R) ((Aq.Ai ((fx _ _).alloc (Nat.le_refl _) _)).trans (I2 r (Xs.2 (fq rfl)))) (fun x hx=>by
  have en:Bz.v.ownBlock=none:=rfl;rcases Xs.1 hx with h1|h1|h1|h1
  ·exact fq (Xs.2 (fq h1))
  ·exact fq (Xs.2 (db (fq h1)))
  ·cases h1
  ·cases h1) L
 obtain⟨rfl,a,b,c,h1,O,P⟩:=L
 have HR:Hid (BI w g (Yn g R) .nilIface _ (.returned .nilIface) Z):=eR ⟨rfl,a,b,c,h1,O,P⟩
 clear h1 O P q r s
 go_wp2_with fail
 go_ret
 exact HR.out
def R8:Ms Xd.enter:=NS (p:=Xd.EU) (λ_ _ _ _=>rfl) (Fg (st:=3) rfl _) DL
def R9:Ms Xd.alloc:=NS (p:=Xd.dating) (λ_ _ _ _=>rfl) (Fg (st:=8) rfl _) (Fk (st:=1) rfl _)
def VY(i j:Int):Ms λR=>R.hold i j:=λR a b c d=>by
 show(bif R.AO&&!uq (R.Dc i) (R.Dc j) then(Zm R a b c).post 2 i (R.Dc j) else(Zm R a b c).done)=Zm (bif R.AO&&!uq (R.Dc i) (R.Dc j) then R.post 2 i (R.Dc j) else R.done) a (bif (bif R.AO&&!uq (R.Dc i) (R.Dc j) then R.post 2 i (R.Dc j) else R.done).step==0 then Bz else b) (bif (bif R.AO&&!uq (R.Dc i) (R.Dc j) then R.post 2 i (R.Dc j) else R.done).step==0 then Bz else c);cases R.AO&&!uq (R.Dc i) (R.Dc j) with
 |true=>exact LK (st:=2) rfl i (R.Dc j) R a b c d
 |false=>rfl
def Nr:Ms Xd.Ki:=λR a b c d=>by
 show(bif R.Aa==1 then(Zm R a b c).done else bif R.Aa==4 then(Zm R a b c).load 10 (root 24) else(Zm R a b c).load 9 (Xh R.call.AU 9))=Zm (bif R.Aa==1 then R.done else bif R.Aa==4 then R.load 10 (root 24) else R.load 9 (Xh R.call.AU 9)) a (bif (bif R.Aa==1 then R.done else bif R.Aa==4 then R.load 10 (root 24) else R.load 9 (Xh R.call.AU 9)).step==0 then Bz else b) (bif (bif R.Aa==1 then R.done else bif R.Aa==4 then R.load 10 (root 24) else R.load 9 (Xh R.call.AU 9)).step==0 then Bz else c);cases R.Aa==1 with
 |true=>rfl
 |false=>
  cases R.Aa==4 with
  |true=>rfl
  |false=>rfl
def iY{w w':World}{g:Nat}{R:Xd}{ns ds:List Xw}{ss:List Xe}{e:Ending}{v:Value}{c:Xi}(i:Jm R)(h:RB w g R ns ds ss){f:Xd->Xd}(j:Ms f)(k:e=.returned v/\Bk w' g 171 (f (R.A8 c)).l.toArray/\Aq [g] w w'):
  BI w g (Yn g R) v ⟨f (R.A8 c),ns,[],[]⟩ e w':=by
 obtain⟨rfl,a,d⟩:=k
 have m:f (R.A8 c)=Zm (f (R.A8 c)) R.notes Bz Bz:=by
  have h1:=j (R.A8 c) R.notes Bz Bz i;have n:∀b:Bool,(bif b then Bz else Bz)=Bz:=λb=>by cases b<;>rfl
  rw[n] at h1;exact h1
 rw[m] at a
 refine⟨rfl,R.notes,Bz,Bz,h.Ar a d rfl (db ⟨rfl,rfl⟩) (db ⟨rfl,rfl⟩),I2 d (Xs.2 (fq rfl)),λx o=>fq ?_⟩
 rcases Xs.1 o with h1|h1|h1|h1
 ·exact Xs.2 (fq h1)
 ·exact Xs.2 (db (fq h1))
 ·cases h1
 ·cases h1
def QK(c:Xi):Prop:=
 c.kind=1\/c.kind=2\/c.kind=3\/c.kind=4\/c.kind=5\/(c.kind=6/\0<=c.i/\c.i<9/\c.j=0)\/(c.kind=7/\((c.i=2/\c.j=1)\/(c.i=1/\c.j=0)\/(c.i=5/\c.j=4)\/(c.i=4/\c.j=3)\/(c.i=8/\c.j=7)\/(c.i=7/\c.j=6)\/(c.i=2/\c.j=5)\/(c.i=5/\c.j=8)))\/c.kind=8\/c.kind=9\/c.kind=10\/c.kind=11
def vZ{c:Xi}{k:Int}(h:c.kind=k):({c with kind:=k}:Xi)=c:=by subst h;rfl
def Ud(R R':Xd)(ns:List Xw):MR.wrap ⟨R,ns,[],[]⟩ R'=⟨R',ns,[],[]⟩:=by
 unfold MR.wrap;cases R'.step==0<;>rfl
def bgS{w:World}{g:Nat}{R a Q:Xd}{ns ds:List Xw}{ss:List Xe}{c b:Xi}{f:Xd->Xd}(d:Jm R)(h:RB w g R ns ds ss)(m0:0<=R.me)(i:R.me<6)(j:Ms f)(e:a=R)(k:b=c)(m:X' b a Q)(n:Q=f (a.A8 b))(o:MR.Ag ⟨R,ns,ds,ss⟩ c=⟨f (R.A8 c),ns,[],[]⟩):
  Kp 71 #[.pointer (some ⟨g,0,none⟩),.agg c.l.toArray] w (BI w g (Yn g R) .nilIface (MR.Ag ⟨R,ns,ds,ss⟩ c)):=by
 subst e k n
 rw[o]
 exact(m g w h.bk m0 i).mono λq r p=>iY d h j p
def lX(M:MR)(c:Xi)(g:Nat)(w:World)(h:RB w g M.R M.ns M.ds M.ss)(ok:TR M)(e:M.R.step=0)(r:QK c):
  Kp 71 #[.pointer (some ⟨g,0,none⟩),.agg c.l.toArray] w (BI w g (Yn g M.R) .nilIface (M.Ag c)):=by
 obtain⟨R,ns,ds,ss⟩:=M
 obtain⟨s,t,k,u,d,m,n⟩:=ok
 unfold QK at r
 simp only at h s t k u d m n e ⊢
 have T:=λx Q y f=>@bgS w g R x Q ns ds ss c y f k h s t
 have b:=qH e
 have N:MR.Ag ⟨R,ns,ds,ss⟩ c=MR.Ag ⟨R,ns,ds,ss⟩ c:=rfl
 conv at N=>rhs;unfold MR.Ag Xd.Aw
 rcases r with a|a|a|a|a|⟨a,o,p,z⟩|⟨a,q⟩|a|a|a|a<;>simp only[a] at N
 ·exact T _ _ _ _ R8 b (vZ a) (rb1 R c) rfl N
 ·exact T _ _ _ _ (Kt _) b (vZ a) (rb2 R c R.Aa u) rfl N
 ·exact T _ _ _ _ (Fg (st:=1) rfl _) b (vZ a) (rb3 R c) rfl N
 ·exact T _ _ _ _ (Fk (st:=1) rfl _) b (vZ a) (rb4 R c) rfl N
 ·exact T _ _ _ _ (Fk (st:=1) rfl _) b (vZ a) (rb5 R c) rfl N
 ·exact T _ _ _ _ (Fg (st:=5) rfl _) b (by rw[←a,←z]) (rb6 R c o p) rfl N
 ·exact T _ _ _ _ (VY _ _) b (vZ a) (rb7 R c c.i c.j q) rfl N
 ·exact T _ _ _ _ R9 b (vZ a) (rb8 R c) rfl N
 ·exact T _ _ _ _ (Fk (st:=2) rfl _) b (vZ a) (rb9 R c) rfl N
 ·by_cases v:R.Aa=2
  ·rw[N];exact WD w g R ns ds ss c h k d v a e
  ·refine T _ _ _ _ Nr (rqB e (show R.Aa=4 by omega)) (vZ a) (rb10 R c) rfl (N.trans ?_);show MR.retire ⟨R.A8 c,ns,[],[]⟩=_;unfold MR.retire;rw[show((R.A8 c).Aa==2)=false from by show(R.Aa==2)=false;simp[v]];exact Ud _ _ _
 ·exact T _ _ _ _ JF b (vZ a) (rb11 R c) rfl (N.trans (Ud _ _ _))
def Mw(M M':MR):Prop:=∃a b c,M'=⟨Zm M.R a b c,M.ns,M.ds,M.ss⟩
section
variable{M M':MR}
def pJ(M:MR)(a b c:B5):Mw M ⟨Zm M.R a b c,M.ns,M.ds,M.ss⟩:=⟨a,b,c,rfl⟩
def pI(h:Mw M M'):M'.R.step=M.R.step:=by obtain⟨a,b,c,rfl⟩:=h;rfl
def Cs{f:Xd->Xd}(d:Ms f)(h:Mw M M')(g:Jm M.R):Mw (M.wrap (f M.R)) (M'.wrap (f M'.R)):=by
 obtain⟨a,b,c,rfl⟩:=h;simp only[d M.R a b c g,MR.wrap];have e:(Zm (f M.R) a (bif (f M.R).step==0 then Bz else b) (bif (f M.R).step==0 then Bz else c)).step=(f M.R).step:=rfl;rw[e];cases(f M.R).step==0
 ·exact⟨a,b,c,rfl⟩
 ·exact⟨a,Bz,Bz,rfl⟩
def UZ(h:Mw M M')(a:Jm M.R):Mw M.scan M'.scan:=Cs JF h a
def M5(h:Mw M M')(d:Jm M.R):Mw M.noted M'.noted:=by
 have f:=UZ h d;have g:=Cs DL h d;obtain⟨a,b,c,rfl⟩:=h;unfold MR.noted;simp only;have e:(Zm M.R a b c).most=M.R.most:=rfl;rw[e];cases decide (M.R.most<=(M.ns.length:Int))
 ·exact g
 ·exact f
def pL(h:Mw M M')(b d:Int):Mw (M.note b d) (M'.note b d):=by
 obtain⟨a,e,c,rfl⟩:=h;exact⟨a,e,c,rfl⟩
def Va(h:Mw M M')(g:Jm M.R):Mw M.reap M'.reap:=by
 have e:=Cs DL h g;obtain⟨a,b,c,rfl⟩:=h;unfold MR.reap;simp only;cases f:M.ds with
 |nil=>simp only[f] at e ⊢;exact e
 |cons d r=>simp only;exact⟨a,b,c,by simp only[f];rfl⟩
def UY(h:Mw M M')(d:Jm M.R):Mw M.sift M'.sift:=by
 obtain⟨a,b,c,rfl⟩:=h;unfold MR.sift;exact Va ⟨a,b,c,rfl⟩ d
def YX(h:Mw M M')(d:Jm M.R):Mw M.retire M'.retire:=by
 have f:=M5 (pL h 0 0) d;have g:=Cs Nr h d;obtain⟨a,b,c,rfl⟩:=h;unfold MR.retire;have e:(Zm M.R a b c).Aa=M.R.Aa:=rfl;simp only[e];cases M.R.Aa==2
 ·exact g
 ·exact f
def vu(h:Mw M M')(d:Jm M.R)(x:Xr):Mw (M.AQ x) (M'.AQ x):=by
 obtain⟨a,b,c,rfl⟩:=h;unfold MR.AQ;have e:(Zm M.R a b c).index=M.R.index:=rfl;have f:(Zm M.R a b c).Aa=M.R.Aa:=rfl;have g:(Zm M.R a b c).clock=M.R.clock:=rfl;simp only[Kq,e,f,g];cases(M.R.look (M.R.index+1)).2
 ·simp only[gx];cases(!(M.R.Aa==4))
  ·simp only[gx];cases CM M.R.clock.nm (List.map Ei (M.ss++[x.word]))
   ·exact⟨a,b,c,rfl⟩
   ·exact⟨a,b,c,rfl⟩
  ·exact UY ⟨a,b,c,rfl⟩ d
 ·exact⟨a,b,c,rfl⟩
def pM(h:Mw M M')(e:Jm M.R):Mw M.GN M'.GN:=by
 obtain⟨a,b,c,rfl⟩:=h;unfold MR.GN;simp only;cases f:M.ds with
 |nil=>exact⟨a,b,c,by simp only[f]⟩
 |cons d r=>exact Va ⟨a,b,c,rfl⟩ e
def iC(h:Mw M M')(k:Jm M.R)(c:Xi):Mw (M.Ag c) (M'.Ag c):=by
 obtain⟨a,b,d,rfl⟩:=h;unfold MR.Ag;simp only;have n:(Zm M.R a b d).A8 c=Zm (M.R.A8 c) a Bz Bz:=rfl;have o:Mw ⟨M.R.A8 c,M.ns,[],[]⟩ ⟨(Zm M.R a b d).A8 c,M.ns,[],[]⟩:=⟨a,Bz,Bz,by rw[n]⟩;cases c.kind==10
 ·cases c.kind==11
  ·simp only[gx];have l:∃e g,(Zm M.R a b d).Aw c=Zm (M.R.Aw c) a e g:=by
    unfold Xd.Aw;simp only[n];have m:Jm (M.R.A8 c):=k;have fin:∀{f:Xd->Xd},Ms f->∃e g,f (Zm (M.R.A8 c) a Bz Bz)=Zm (f (M.R.A8 c)) a e g:=λp=>⟨_,_,p _ _ _ _ m⟩;cases c.kind==1
    ·cases c.kind==2
     ·cases c.kind==3
      ·cases c.kind==4
       ·cases c.kind==5
        ·cases c.kind==6
         ·cases c.kind==7
          ·cases c.kind==8
           ·exact fin (Fk (st:=2) rfl _)
           ·exact fin R9
          ·exact fin (VY c.i c.j)
         ·exact fin (Fg (st:=5) rfl _)
        ·exact fin (Fk (st:=1) rfl _)
       ·exact fin (Fk (st:=1) rfl _)
      ·exact fin (Fg (st:=1) rfl _)
     ·exact fin (Kt _)
    ·exact fin R8
   obtain⟨e,g,l⟩:=l;exact⟨a,e,g,by rw[l]⟩
  ·exact UZ o k
 ·exact YX o k
def pH(h:Mw M M')(d:Jm M.R)(x:Xr):Mw (M.Ah x) (M'.Ah x):=by
 have r:=pI h;have u:=Cs (Ph x) h d;have v:=Cs DL h d;have w:=Cs (IS (st:=2) rfl ⟨true,x.word.nm,x.word.nm⟩) h d;have s:=Cs (Kt (([0,1,2,3,4,5,6,7,8]:List Int).filter λn=>decide (M.R.index<n))) h d;have y:=Cs (IR x) h d;have z:=Cs (QC x) h d;have A:=Cs R7 h d;have B:=Cs (Fk (st:=1) rfl ⟨4,.zero,.zero,Y6 x.word.nm⟩) h d;have C:=Cs (R6 x) h d;have i:=M5 h d;have j:=Cs (R3 x) h d;have l:=vu h d x;have m:=Cs (Fg (st:=15) rfl (root 24)) h d;have o:=pM h d;have p:Mw (MR.sift {M with R:={M.R with clock:=x.word}}) (MR.sift {M' with R:={M'.R with clock:=x.word}}):=by
  obtain⟨a,b,c,rfl⟩:=h;exact UY ⟨a,b,c,rfl⟩ d
 have q:Mw (MR.note {M with R:={M.R with clock:=x.word}} M.R.word.nm x.word.nm) (MR.note {M' with R:={M'.R with clock:=x.word}} M'.R.word.nm x.word.nm):=by
  obtain⟨a,b,c,rfl⟩:=h;exact⟨a,b,c,rfl⟩
 have e:=M5 q d;have f:Mw {MR.note {M with R:={M.R with clock:=x.word}} M.R.word.nm x.word.nm with R:=(MR.note {M with R:={M.R with clock:=x.word}} M.R.word.nm x.word.nm).R.advance 11}
   {MR.note {M' with R:={M'.R with clock:=x.word}} M'.R.word.nm x.word.nm with R:=(MR.note {M' with R:={M'.R with clock:=x.word}} M'.R.word.nm x.word.nm).R.advance 11}:=by
  obtain⟨a,b,c,rfl⟩:=h
  exact⟨a,b,c,rfl⟩
 have t:M'.R.index=M.R.index:=by obtain⟨a,b,c,rfl⟩:=h;rfl
 have D:M'.R.dating=M.R.dating:=by obtain⟨a,b,c,rfl⟩:=h;rfl
 rw[←t] at s;unfold MR.Ah;have g:∀k:Int,(M'.R.step==k)=(M.R.step==k):=λk=>by rw[r]
 simp only[g,D];clear h r g;cases M.R.step==1
 ·cases M.R.step==2
  ·cases M.R.step==3
   ·cases M.R.step==4
    ·cases M.R.step==5
     ·cases M.R.step==6
      ·cases M.R.step==7
       ·cases M.R.step==8
        ·cases M.R.step==9
         ·cases M.R.step==10
          ·cases M.R.step==11
           ·cases M.R.step==12
            ·cases M.R.step==13
             ·cases M.R.step==14
              ·cases M.R.step==15
               ·exact o
               ·exact p
              ·exact m
             ·exact l
            ·exact j
           ·exact i
          ·cases M.R.dating
           ·exact e
           ·exact f
         ·exact C
        ·exact B
       ·exact A
      ·exact z
     ·exact y
    ·rw[←t];exact s
   ·exact w
  ·exact v
 ·exact u
end
def Le(w:World)(g:Nat)(M:MR)(F:List Nat):Prop:=∃a b c,RB w g (Zm M.R a b c) M.ns M.ds M.ss/\F=Yn g (Zm M.R a b c)
section
variable{w w':World}{g:Nat}{M:MR}{F:List Nat}
def Le.same(h:Le w g M F)(e:∀b∈F,w'.heap[b]?=w.heap[b]?):Le w' g M F:=by
 obtain⟨a,b,c,h,rfl⟩:=h;exact⟨a,b,c,⟨h.bk.same (e g (Xs.2 (fq rfl))),h.on.kept λb d=>e b (Xs.2 (db (fq d))),h.od.kept λb d=>e b (Xs.2 (d2 (fq d))),h.os.kept λb d=>e b (Xs.2 (d2 (db d))),h.gn,h.gd,h.gs,h.nd,h.ns,h.ds⟩,rfl⟩
def Le.lt(h:Le w g M F):∀b∈F,b<w.heap.size:=by
 obtain⟨a,b,c,h,rfl⟩:=h;exact h.lt
def vg(x:Xr)(h:Le w g M F)(ok:TR M)(i:Na M):
  Kp 58 #[.pointer (some ⟨g,0,none⟩),.agg x.l.toArray] w (Jb (λw F=>Le w g (M.Ah x) F) .nilIface F w):=by
 obtain⟨a,b,c,h,rfl⟩:=h
 have j:=oL ⟨Zm M.R a b c,M.ns,M.ds,M.ss⟩ x g w h ⟨ok.Q9,ok.Q8,ok.Oo,ok.eng,ok.nl,ok.dl,ok.sl⟩ i
 refine j.mono λq w' k=>?_
 obtain⟨p1,m,n,o,p2,p,d⟩:=k
 obtain⟨r,s,t,e⟩:=pH (pJ M a b c) ok.Oo x
 rw[e] at p2 d
 exact⟨_,p1,⟨m,n,o,p2,rfl⟩,d,p⟩
def eF(c:Xi)(h:Le w g M F)(ok:TR M)(j:M.R.step=0)(k:QK c):
  Kp 71 #[.pointer (some ⟨g,0,none⟩),.agg c.l.toArray] w (Jb (λw F=>Le w g (M.Ag c) F) .nilIface F w):=by
 obtain⟨a,b,d,h,rfl⟩:=h
 have m:=lX ⟨Zm M.R a b d,M.ns,M.ds,M.ss⟩ c g w h ⟨ok.Q9,ok.Q8,ok.Oo,ok.eng,ok.nl,ok.dl,ok.sl⟩ j k
 refine m.mono λs w' n=>?_
 obtain⟨p1,o,p,q,p2,r,i⟩:=n
 obtain⟨t,u,v,e⟩:=iC (pJ M a b d) ok.Oo c
 rw[e] at p2 i
 exact⟨_,p1,⟨o,p,q,p2,rfl⟩,i,r⟩
def yj{w w':World}(a:Aq [g] w w')(b:g∈F):Aq F w w':=a.mono λx c=>fq (by rw[ft.1 c];exact b)
def SX(h:Le w g M F):Kp 72 #[.pointer (some ⟨g,0,none⟩)] w (Jb (λw F=>Le w g M F) (.bool (!(M.R.step==0))) F w):=by
 obtain⟨a,b,c,h,rfl⟩:=h;exact(jH (Zm M.R a b c) g w h.bk).mono λi w' d=>⟨_,d.1,⟨a,b,c,h.same d.2.1 d.2.2,rfl⟩,λb e=>fq e,yj d.2.2 (Xs.2 (fq rfl))⟩
def qG(h:Le w g M F):Kp 73 #[.pointer (some ⟨g,0,none⟩)] w (Jb (λw F=>Le w g M F) (.agg M.R.Az.l.toArray) F w):=by
 obtain⟨a,b,c,h,rfl⟩:=h;exact(Zl (Zm M.R a b c) g w h.bk).mono λi w' d=>⟨_,d.1,⟨a,b,c,h.same d.2.1 d.2.2,rfl⟩,λb e=>fq e,yj d.2.2 (Xs.2 (fq rfl))⟩
def yG(h:Le w g M F)(i:(M.R.step==0)=false):Kp 57 #[.pointer (some ⟨g,0,none⟩)] w (Jb (λw F=>Le w g M F) (.tuple #[.agg M.R.AH.l.toArray,.bool true]) F w):=by
 obtain⟨a,b,c,h,rfl⟩:=h;have e:=iR (Zm M.R a b c) g w h.bk;simp only[show(Zm M.R a b c).step=M.R.step from rfl,show(Zm M.R a b c).AH=M.R.AH from rfl,i,gx,k9] at e;exact e.mono λk w' d=>⟨_,d.1,⟨a,b,c,h.same d.2.1 d.2.2,rfl⟩,λb j=>fq j,yj d.2.2 (Xs.2 (fq rfl))⟩
end
