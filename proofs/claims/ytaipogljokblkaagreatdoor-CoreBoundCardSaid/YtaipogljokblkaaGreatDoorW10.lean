/- Core: PJ, PV, LA, LB, LC, VA, CPile, CCor. -/
import Derived.Test.YtaipogljokblkaaGreatDoorW06
import Derived.Test.YtaipogljokblkaaGreatDoorW09
import Derived.Test.YtaipogljokblkaaGreatDoorW01
set_option linter.all false
set_option maxRecDepth 100000
set_option maxHeartbeats 8000000
namespace Go.Proofs.YtaipogljokblkaaGreatDoor
open Go Go.RowKit
set_option linter.unusedSimpArgs false
set_option linter.unusedVariables false
set_option linter.unusedSectionVars false
namespace X6
def new(op:Bl):X6:={X6.zero with op:=op}
def done(J:X6)(code val:Int):X6 × Xf:=({J with pc:=-1,last:=FR code val},FR code val)
def push(J:X6)(x:Xj):X6 × Xf:=
 if J.pc==0 then({J with pc:=1},AK)
 else if J.pc==1 then
  if !x.ok then J.done 4 0 else({J with node:=x.word,pc:=2},Yf (Xg x.word 1) (Y5 J.op.val))
 else if J.pc==5 then
  if x.ok then J.done 1 0 else({J with pc:=3},X8 (root 0))
 else if J.pc==2 then({J with pc:=3},X8 (root 0))
 else if J.pc==3 then({J with By:=x.word,pc:=4},Yf (Xg J.node 2) (AF x.word))
 else if J.pc==4 then({J with pc:=5},Xx (root 0) J.By (BC J.By J.node))
 else(J,J.last)
def pop(J:X6)(x:Xj):X6 × Xf:=
 if J.pc==3 then
  if x.ok then({J with pc:=4},X8 (Xg J.By 1)) else({J with pc:=1},X9 (root 0) 0)
 else if J.pc==0 then({J with pc:=1},X9 (root 0) 0)
 else if J.pc==1 then
  let J:={J with By:=x.word}
  if x.word.sl==0 then J.done 2 0 else
  if J.op.kind==3 then({J with pc:=4},X8 (Xg J.By 1)) else({J with pc:=2},X8 (Xg J.By 2))
 else if J.pc==2 then({J with pc:=3},Xx (root 0) J.By (BC J.By x.word))
 else if J.pc==4 then
  let J:={J with val:=x.word.nm}
  if J.op.kind==3 then J.done 1 J.val else({J with pc:=5},AU J.By)
 else if J.pc==5 then J.done 1 J.val
 else(J,J.last)
def next(J:X6)(x:Xj):X6 × Xf:=if J.op.kind==1 then J.push x else J.pop x
end X6
namespace Yd
def new(op:Bl):Yd:={Yd.zero with op:=op}
def done(J:Yd)(code val:Int):Yd × Xf:=({J with pc:=-1,last:=FR code val},FR code val)
def enqueue(J:Yd)(x:Xj):Yd × Xf:=
 if J.pc==0 then({J with pc:=1},AK)
 else if J.pc==1 then
  if !x.ok then J.done 4 0 else({J with node:=x.word,pc:=2},Yf (Xg x.word 1) (Y5 J.op.val))
 else if J.pc==3 then({J with t:=x.word,pc:=4},X8 (Xg x.word 2))
 else if J.pc==4 then({J with n:=x.word,pc:=5},X8 (root 1))
 else if J.pc==5 then
  if !AE x.word J.t then({J with pc:=3},X9 (root 1) 0) else
  if !(J.n.sl==0) then({J with pc:=6},Xx (root 1) J.t (BC J.t J.n)) else
  ({J with pc:=7},Xx (Xg J.t 2) J.n (BC J.n J.node))
 else if J.pc==7 then
  if x.ok then({J with pc:=8},Xx (root 1) J.t (BC J.t J.node)) else({J with pc:=3},X9 (root 1) 0)
 else if J.pc==2 then({J with pc:=3},X9 (root 1) 0)
 else if J.pc==6 then({J with pc:=3},X9 (root 1) 0)
 else if J.pc==8 then J.done 1 0
 else(J,J.last)
def dequeue(J:Yd)(x:Xj):Yd × Xf:=
 if J.pc==1 then({J with h:=x.word,pc:=2},X8 (root 1))
 else if J.pc==2 then({J with t:=x.word,pc:=3},X9 (Xg J.h 2) 1)
 else if J.pc==3 then({J with n:=x.word,pc:=4},X8 (root 0))
 else if J.pc==4 then
  if !AE x.word J.h then({J with pc:=1},X9 (root 0) 0) else
  if J.n.sl==0 then J.done 2 0 else
  if J.h.sl==J.t.sl then({J with pc:=5},Xx (root 1) J.t (BC J.t J.n)) else
  ({J with pc:=6},X8 (Xg J.n 1))
 else if J.pc==6 then({J with val:=x.word.nm,pc:=7},Xx (root 0) J.h (BC J.h J.n))
 else if J.pc==7 then
  if x.ok then({J with pc:=8},AU J.h) else({J with pc:=1},X9 (root 0) 0)
 else if J.pc==0 then({J with pc:=1},X9 (root 0) 0)
 else if J.pc==5 then({J with pc:=1},X9 (root 0) 0)
 else if J.pc==8 then J.done 1 J.val
 else(J,J.last)
def next(J:Yd)(x:Xj):Yd × Xf:=if J.op.kind==4 then J.enqueue x else J.dequeue x
end Yd
def Qi(n:Int):Int:=
 Int.tmod n 2*128+Int.tmod (Int.tdiv n 2) 2*64+Int.tmod (Int.tdiv n 4) 2*32+Int.tmod (Int.tdiv n 8) 2*16+
 Int.tmod (Int.tdiv n 16) 2*8+Int.tmod (Int.tdiv n 32) 2*4+Int.tmod (Int.tdiv n 64) 2*2+Int.tmod (Int.tdiv n 128) 2
def UL(key:Int):Int:=bif decide (key<0)||decide (255<key) then-1 else 2*Qi key+1
def Ds(b:Int):Int:=bif decide (b<0)||decide (8<=b) then-1 else 2*Qi b
def E4(b:Int):Int:=bif decide (4<=b) then b-4 else bif decide (2<=b) then b-2 else 0
def II(wanted Ai:Int):Int:=
 bif E4 wanted==Ai then wanted else bif E4 (E4 wanted)==Ai then E4 wanted else E4 (E4 wanted)
def Kq(n:Int):Int:=bif n==2 then 2 else bif n==4 then 4 else bif n==8 then 8 else 1
def DI(b:Int):Yj:=root (wr (0+wr (8+b)))
namespace Xa
def new(op:Bl):Xa:={Xa.zero with op:=op}
def done(J:Xa)(a:DQ):Xa × Xf:=({J with pc:=-1,last:=FR a.code a.val},FR a.code a.val)
def Gb(J:Xa)(c:Xf):Xa × Xf:=
 bif !(c.kind==12) then(J,c) else
 let J:={J with answer:=c.BR}
 bif !(c.BR.code==1)||J.op.kind==8 then J.done c.BR else({J with pc:=12},X8 (root 17))
def Ii(J:Xa)(x:Xj):Xa × Xf:=
 match J.inner with
 |none=>(J,Xf.zero)
 |some I=>Xa.Gb {J with inner:=some (I.next x).1} (I.next x).2
def perform(J:Xa):Xa × Xf:=
 Xa.Ii {J with inner:=some (Xi.from_ (Xg J.base 2) (UL J.op.key) J.op),pc:=11} Xj.zero
def Dr(J:Xa):Xa × Xf:=
 bif J.Ai==J.wanted then J.perform else({J with child:=II J.wanted J.Ai,pc:=3},AK)
def Cn(J:Xa)(z:Int):Xa × Xf:=
 ({J with size:=z,wanted:=Int.tmod J.op.key z,Ai:=Int.tmod J.op.key z,pc:=2},X8 (DI (Int.tmod J.op.key z)))
def sized(J:Xa)(x:Xj):Xa × Xf:=J.Cn (Kq x.word.nm)
def EO(J:Xa)(x:Xj):Xa × Xf:=
 bif !(x.word.sl==0) then Xa.Dr {J with base:=x.word} else
 bif J.Ai==0 then J.done ⟨4,0⟩ else({J with Ai:=E4 J.Ai,pc:=2},X8 (DI (E4 J.Ai)))
def Cq(J:Xa)(x:Xj):Xa × Xf:=
 let r:=CT J.walk x
 let J:={J with walk:=r.1}
 bif r.2.2 then(J,r.2.1) else
 bif IV J.walk then({J with sentinel:=AF (Xs J.walk),pc:=6},GG J.node) else
 ({J with pc:=7},Yf (Xg J.node 2) (AF (Xs J.walk)))
def An(J:Xa):Xa:={J with walk:=some (Xq.new (Xg J.base 2) (Ds J.child)),pc:=5}
def Iv(J:Xa):Xa × Xf:=Xa.Dr {J with base:=J.sentinel,Ai:=J.child}
def Ak(J:Xa)(x:Xj):Xa × Xf:=
 bif J.pc==3 then
  bif !x.ok then J.perform else({J with node:=x.word,pc:=4},Yf (Xg x.word 0) (Y5 (Ds J.child)))
 else bif J.pc==8 then
  bif x.ok then({J with sentinel:=J.node,pc:=9},X8 (DI J.child)) else J.An.Cq x
 else bif J.pc==4 then J.An.Cq x
 else bif J.pc==5 then J.Cq x
 else bif J.pc==7 then({J with pc:=8},Xx (BF J.walk) (Xs J.walk) (BC (Xs J.walk) J.node))
 else bif J.pc==6 then({J with pc:=9},X8 (DI J.child))
 else bif J.pc==9 then
  bif x.word.sl==0 then({J with pc:=10},Xx (DI J.child) x.word (BC x.word J.sentinel)) else J.Iv
 else bif J.pc==10 then J.Iv
 else(J,J.last)
def GX(J:Xa)(x:Xj):Xa × Xf:=
 ({J with count:=x.word,pc:=13},Xx (root 17) x.word (Cx x.word (bif J.op.kind==7 then-1 else 1)))
def He(J:Xa)(x:Xj):Xa × Xf:=
 bif !x.ok then({J with pc:=12},X8 (root 17)) else
 bif J.op.kind==7 then J.done J.answer else bif J.size==8 then J.done J.answer else bif decide (J.count.nm<wr (2*J.size)) then J.done J.answer else
 ({J with pc:=14},X8 (root 16))
def Dn(J:Xa)(x:Xj):Xa × Xf:=
 bif x.word.nm==J.size then({J with pc:=15},Xx (root 16) x.word (Cx x.word J.size)) else J.done J.answer
def next(J:Xa)(x:Xj):Xa × Xf:=
 bif J.pc==0 then({J with pc:=1},X8 (root 16))
 else bif J.pc==1 then J.sized x
 else bif J.pc==2 then J.EO x
 else bif J.pc==11 then J.Ii x
 else bif J.pc==12 then J.GX x
 else bif J.pc==13 then J.He x
 else bif J.pc==14 then J.Dn x
 else bif J.pc==15 then J.done J.answer
 else bif J.pc==-1 then(J,J.last)
 else J.Ak x
end Xa
def CI(n:Nat)(w:Xd):Prop:=0<=w.sl/\w.sl<=n/\(w.sl=0->w.gn=0)
def CH(n:Nat)(w:Xd):Prop:=1<=w.sl/\w.sl<=n
def rL(n:Nat)(a:Yj):Prop:=1<=a.sl/\a.sl<=n/\0<=a.fd/\a.fd<10
def Je(n:Nat)(a:Yj):Prop:=rL n a\/(a.sl=0/\a.gn=0/\0<=a.fd/\a.fd<24)
def CP(st:Int)(n:Nat)(a:Yj)(w:Xd):Prop:=CI n w/\(st=2->a.sl=0->a.fd=0->CH n w)
def PS(c:Xf):Prop:=(c.i=2/\c.j=1)\/(c.i=1/\c.j=0)\/(c.i=5/\c.j=4)\/(c.i=4/\c.j=3)\/(c.i=8/\c.j=7)\/(c.i=7/\c.j=6)\/(c.i=2/\c.j=5)\/(c.i=5/\c.j=8)
def JO(st:Int)(n:Nat)(c:Xf):Prop:=
 (c.kind=3/\Je n c.A2)\/(c.kind=4/\rL n c.A2/\CI n c.new/\c.new.tg=0)\/
 (c.kind=5/\Je n c.A2/\CP st n c.A2 c.new/\c.new.tg=wr (c.A1.tg+1))\/
 (c.kind=6/\Je n c.A2/\0<=c.i/\c.i<9/\c.j=0)\/(c.kind=7/\PS c)\/c.kind=8\/(c.kind=9/\CH n c.A1)\/(c.kind=10/\CH n c.A1)\/c.kind=12
def PC(st:Int)(n:Nat)(c:Xf)(x:Xj):Prop:=
 CI n x.word/\(c.kind=8->x.ok=true->CH n x.word)/\(st=2->(c.kind=3\/c.kind=6)->c.A2.sl=0->c.A2.fd=0->CH n x.word)
section
variable{st:Int}{n:Nat}{a:Yj}{w o m:Xd}{i:Int}
theorem Bm(h:Je n a):JO st n (X8 a):=Or.inl ⟨rfl,h⟩
theorem Gt(h:rL n a)(h1:CI n w)(h2:w.tg=0:=by rfl):JO st n (Yf a w):=Or.inr (Or.inl ⟨rfl,h,h1,h2⟩)
theorem DF{v:Int}(h:rL n a):JO st n (Yf a (Y5 v)):=Or.inr (Or.inl ⟨rfl,h,⟨Int.le_refl 0,Int.natCast_nonneg n,λ_=>rfl⟩,rfl⟩)
theorem DE(h:rL n a)(h1:CI n w):JO st n (Yf a (AF w)):=Or.inr (Or.inl ⟨rfl,h,h1,rfl⟩)
theorem B6(h:Je n a)(h1:CP st n a m)(h2:m.tg=wr (o.tg+1)):JO st n (Xx a o m):=Or.inr (Or.inr (Or.inl ⟨rfl,h,h1,h2⟩))
theorem BV(h:Je n a)(h1:0<=i)(h2:i<9):JO st n (X9 a i):=Or.inr (Or.inr (Or.inr (Or.inl ⟨rfl,h,h1,h2,rfl⟩)))
theorem J9{j:Int}(h:PS (GZ i j)):JO st n (GZ i j):=Or.inr (Or.inr (Or.inr (Or.inr (Or.inl ⟨rfl,h⟩))))
theorem DG:JO st n (GZ 2 1):=J9 (Or.inl ⟨rfl,rfl⟩)
theorem DH:JO st n (GZ 1 0):=J9 (Or.inr (Or.inl ⟨rfl,rfl⟩))
theorem Di:JO st n AK:=Or.inr (Or.inr (Or.inr (Or.inr (Or.inr (Or.inl rfl)))))
theorem DZ(h:CH n w):JO st n (GG w):=Or.inr (Or.inr (Or.inr (Or.inr (Or.inr (Or.inr (Or.inl ⟨rfl,h⟩))))))
theorem CO(h:CH n w):JO st n (AU w):=Or.inr (Or.inr (Or.inr (Or.inr (Or.inr (Or.inr (Or.inr (Or.inl ⟨rfl,h⟩)))))))
theorem Ea{c v:Int}:JO st n (FR c v):=Or.inr (Or.inr (Or.inr (Or.inr (Or.inr (Or.inr (Or.inr (Or.inr rfl)))))))
theorem Jy:(X8 a).kind=3:=rfl
theorem GS:(Yf a w).kind=4:=rfl
theorem Jx:(Xx a o m).kind=5:=rfl
theorem Et:(X9 a i).kind=6:=rfl
theorem Jz{j:Int}:(GZ i j).kind=7:=rfl
theorem Gm:AK.kind=8:=rfl
theorem J0:(GG w).kind=9:=rfl
theorem FI:(AU w).kind=10:=rfl
theorem J1{c v:Int}:(FR c v).kind=12:=rfl
theorem Yq:CI n Xd.zero:=⟨Int.le_refl 0,Int.natCast_nonneg n,λ_=>rfl⟩
theorem Cg{k:Int}:CI n (Y5 k):=⟨Int.le_refl 0,Int.natCast_nonneg n,λ_=>rfl⟩
theorem Cw{k:Int}:CI n (Cx w k):=⟨Int.le_refl 0,Int.natCast_nonneg n,λ_=>rfl⟩
theorem Ef(h:CI n w):CI n (AF w):=h
theorem Ei(h:CI n w):CI n (BC o w):=h
theorem CM(h:CI n w):CI n (Bg w):=h
theorem Gj(h:CH n w):CH n (AF w):=h
theorem Jf(h:CH n w):CH n (BC o w):=h
theorem E7(h:CH n w):CI n w:=⟨by have:=h.1;omega,h.2,λe=>by have:=h.1;omega⟩
theorem Ee(h:CI n w)(h1:¬w.sl=0):CH n w:=⟨by have:=h.1;omega,h.2.1⟩
theorem Eg(h:rL n a):Je n a:=Or.inl h
theorem Bn{k:Int}(h:CH n w)(h0:0<=k)(h1:k<10):rL n (Xg w k):=⟨h.1,h.2,h0,h1⟩
theorem Y1{k:Int}(h:CI n w)(h0:0<=k)(h1:k<10):Je n (Xg w k):=by
 by_cases e:w.sl=0
 ·exact Or.inr ⟨e,h.2.2 e,h0,Int.lt_of_lt_of_le h1 Zo⟩
 ·exact Or.inl (Bn (Ee h e) h0 h1)
theorem Bf{k:Int}(h0:0<=k)(h1:k<24):Je n (root k):=Or.inr ⟨rfl,rfl,h0,h1⟩
theorem EV(h:st≠2)(h1:CI n w):CP st n a w:=⟨h1,λe=>absurd e h⟩
theorem Nj(h1:CH n w):CP st n a w:=⟨E7 h1,λ_ _ _=>h1⟩
theorem J8(h:¬a.fd=0)(h1:CI n w):CP st n a w:=⟨h1,λ_ _ e=>absurd e h⟩
theorem MP:(BC o w).tg=wr (o.tg+1):=rfl
theorem Ep:(Bg o).tg=wr (o.tg+1):=rfl
theorem FF{k:Int}:(Cx o k).tg=wr (o.tg+1):=rfl
theorem GU{k:Int}:(Xg w k).fd=k:=rfl
theorem J6{k:Int}:(root k).fd=k:=rfl
theorem Jm{k:Int}:(root k).sl=0:=rfl
theorem E0:(X9 a i).A2=a:=rfl
theorem JF:(X8 a).A2=a:=rfl
end
def PN(n:Nat)(J:X6)(c:Xf):Prop:=
 CI n J.By/\(J.pc=-1\/(0<=J.pc/\J.pc<=5))/\(J.pc=-1↔c.kind=12)/\
 (J.op.kind=1->(J.pc=1->c.kind=8)/\(2<=J.pc->CH n J.node))/\(J.op.kind≠1->2<=J.pc->CH n J.By)
theorem uI{st:Int}{n:Nat}{J:X6}{c:Xf}{x:Xj}(hst:st≠2)(h:PN n J c)(hc:c.kind≠12)(hx:PC st n c x):PN n (J.next x).1 (J.next x).2/\JO st n (J.next x).2:=by
 obtain⟨pc,last,op,node,By,val⟩:=J;simp only[PN,PC] at h hx;generalize hr:X6.next ⟨pc,last,op,node,By,val⟩ x=r;simp only[X6.next,X6.push,X6.pop,X6.done] at hr;(repeat' split at hr)<;>(subst hr;grind [PN,Bm,DF,DE,B6,BV,DG,DH,Di,DZ,CO,Ea,Jy,GS,Jx,Et,Jz,Gm,J0,FI,J1,Yq,Cg,Cw,Ef,Ei,CM,Gj,Jf,E7,Ee,Eg,Bn,Y1,Bf,EV,Nj,J8,MP,Ep,FF,GU,J6,Jm,E0,JF])
def Z1(n:Nat)(J:Yd)(c:Xf):Prop:=
 CI n J.t/\CI n J.n/\CI n J.h/\(J.pc=-1\/(0<=J.pc/\J.pc<=8))/\(J.pc=-1↔c.kind=12)/\
 (J.op.kind=4->(J.pc=1->c.kind=8)/\(2<=J.pc->CH n J.node))/\
 (J.op.kind≠4->(J.pc=1->c.kind=6/\c.A2=root 0)/\(2<=J.pc->J.pc≠5->CH n J.h)/\(6<=J.pc->CH n J.n))
theorem cor_ok{n:Nat}{J:Yd}{c:Xf}{x:Xj}(h:Z1 n J c)(hc:c.kind≠12)(hx:PC 2 n c x):Z1 n (J.next x).1 (J.next x).2/\JO 2 n (J.next x).2:=by
 obtain⟨pc,last,op,node,hh,t,nn,val⟩:=J;simp only[Z1,PC] at h hx;have hp:pc=-1\/pc=0\/pc=1\/pc=2\/pc=3\/pc=4\/pc=5\/pc=6\/pc=7\/pc=8:=Zo;have hn:pc≠-1:=λe=>hc (h.2.2.2.2.1.1 e);generalize hr:Yd.next _ x=r;by_cases hk:op.kind=4<;>(rcases hp with rfl|rfl|rfl|rfl|rfl|rfl|rfl|rfl|rfl|rfl)<;>simp only[Yd.next,Yd.enqueue,Yd.dequeue,Yd.done,beq_iff_eq,hk,Int.reduceEq,Int.reduceNeg,if_true,if_false,↓reduceIte] at hr<;>(repeat' split at hr)<;>
  first|exact absurd rfl hn|(subst hr;grind [Z1,Bm,DF,DE,B6,BV,DG,DH,Di,DZ,CO,Ea,Jy,GS,Jx,Et,Jz,Gm,J0,FI,J1,Yq,Cg,Cw,Ef,Ei,CM,Gj,Jf,E7,Ee,Eg,Bn,Y1,Bf,EV,Nj,J8,MP,Ep,FF,GU,J6,Jm,E0,JF])
def PF(n:Nat)(W:Xq):Prop:=
 Je n W.start/\Je n W.prev/\CI n W.Ay/\CI n W.next/\(W.pc=-1\/(0<=W.pc/\W.pc<=8))/\(2<=W.pc->CH n W.Ay)/\(W.found=true->W.pc=-1/\CH n W.Ay)
theorem jN{n:Nat}{a:Yj}{k:Int}(h:Je n a):PF n (Xq.new a k):=by
 grind [PF,Xq.new,Xq.zero,CI,Xd.zero]
theorem rZ{st:Int}{n:Nat}{W:Xq}{x:Xj}(hst:st≠2)(h:PF n W)(hp:W.pc≠-1)(hx:CI n x.word):
  PF n (W.step x).1/\((W.step x).2.2=true->JO st n (W.step x).2.1/\(W.step x).2.1.kind≠12/\(W.step x).1.pc≠-1/\(W.step x).1.found=false)/\((W.step x).2.2=false->(W.step x).1.pc=-1):=by
 obtain⟨pc,last,start,key,prev,Ay,next,k,found⟩:=W
 simp only[PF] at h
 generalize hr:Xq.step ⟨pc,last,start,key,prev,Ay,next,k,found⟩ x=r
 simp only[Xq.step,Xq.again,Xq.behind,Xq.finish,Xq.on] at hr
 (repeat' split at hr)<;>(subst hr;grind [PF,Bm,DF,DE,B6,BV,DG,DH,Di,DZ,CO,Ea,Jy,GS,Jx,Et,Jz,Gm,J0,FI,J1,Yq,Cg,Cw,Ef,Ei,CM,Gj,Jf,E7,Ee,Eg,Bn,Y1,Bf,EV,Nj,J8,MP,Ep,FF,GU,J6,Jm,E0,JF])
def LS(n:Nat)(o:Option Xq):Prop:=∀W,o=some W->PF n W
def PG(o:Option Xq):Prop:=IV o=true
def GK(o:Option Xq):Prop:=∃W,o=some W/\W.pc≠-1
def Jb(n:Nat)(J:Xi)(c:Xf):Prop:=
 Je n J.start/\LS n J.walk/\(J.pc=-1\/(0<=J.pc/\J.pc<=7))/\(J.pc=-1↔c.kind=12)/\(J.op.kind=6\/J.op.kind=7\/J.op.kind=8)/\
 (J.op.kind=6->(J.pc=1->c.kind=8)/\(2<=J.pc->CH n J.node)/\(J.pc=4->GK J.walk))/\
 (J.op.kind=7->J.pc<=6/\(J.pc=1\/J.pc=6->GK J.walk)/\(2<=J.pc->J.pc<=5->PG J.walk))/\
 (J.op.kind=8->J.pc<=2/\(J.pc=1->GK J.walk)/\(J.pc=2->PG J.walk))
theorem KU{st:Int}{n:Nat}{o:Option Xq}{x:Xj}(hst:st≠2)(h:LS n o)(hp:GK o)(hx:CI n x.word):
  LS n (CT o x).1/\((CT o x).2.2=true->JO st n (CT o x).2.1/\(CT o x).2.1.kind≠12/\GK (CT o x).1):=by
 obtain⟨W,rfl,hpc⟩:=hp
 have hw:=rZ hst (h W rfl) hpc hx
 refine⟨λW' e=>?_,λe=>?_⟩
 ·cases e;exact hw.1
 ·exact⟨(hw.2.1 e).1,(hw.2.1 e).2.1,_,rfl,(hw.2.1 e).2.2.1⟩
theorem Fa{n:Nat}{o:Option Xq}(h:LS n o):CI n (Xs o)/\CI n (Cm o)/\Je n (BF o)/\(PG o->CH n (Xs o)):=by
 cases o with
 |none=>exact⟨Yq,Yq,Bf (k:=0) Zo Zo,λe=>by cases e⟩
 |some W=>have:=h W rfl;exact⟨this.2.2.1,this.2.2.2.1,this.2.1,λe=>(this.2.2.2.2.2.2 e).2⟩
theorem Qy{n:Nat}{a:Yj}{k:Int}(h:Je n a):LS n (some (Xq.new a k))/\GK (some (Xq.new a k)):=
 ⟨λW e=>by cases e;exact jN h,_,rfl,by simp[Xq.new,Xq.zero]⟩
theorem zX{st:Int}{n:Nat}{J:Xi}{x:Xj}(hst:st≠2)(ha:Je n J.start)(hk:J.op.kind=6)(hn:CH n J.node)(hw:LS n J.walk)(ho:GK J.walk)(h4:J.pc=4)(hx:CI n x.word):Jb n (J.BK x).1 (J.BK x).2/\JO st n (J.BK x).2:=by
 obtain⟨h1,h2⟩:=KU (x:=x) hst hw ho hx;obtain⟨pc,last,start,key,op,walk,node,val⟩:=J;generalize hr:Xi.BK _ x=r;simp only[Xi.BK] at hr h1 h2 ha hk hn h4;generalize CT walk x=s at hr h1 h2;obtain⟨o,c,b⟩:=s;have hc:=Fa h1;simp only at hr h1 h2 hc;(repeat' split at hr)<;>(subst hr;grind [Jb,Bm,DF,DE,B6,BV,DG,DH,Di,DZ,CO,Ea,Jy,GS,Jx,Et,Jz,Gm,J0,FI,J1,Yq,Cg,Cw,Ef,Ei,CM,Gj,Jf,E7,Ee,Eg,Bn,Y1,Bf,EV,Nj,J8,MP,Ep,FF,GU,J6,Jm,E0,JF])
theorem yZ{st:Int}{n:Nat}{J:Xi}{x:Xj}(hst:st≠2)(ha:Je n J.start)(hk:J.op.kind=7\/J.op.kind=8)(hw:LS n J.walk)(ho:GK J.walk)(h4:J.pc=1)(hx:CI n x.word):Jb n (J.AT x).1 (J.AT x).2/\JO st n (J.AT x).2:=by
 obtain⟨h1,h2⟩:=KU (x:=x) hst hw ho hx;obtain⟨pc,last,start,key,op,walk,node,val⟩:=J;generalize hr:Xi.AT _ x=r;simp only[Xi.AT,Xi.done] at hr h1 h2 ha hk h4;generalize CT walk x=s at hr h1 h2;obtain⟨o,c,b⟩:=s;have hc:=Fa h1;simp only at hr h1 h2 hc;(repeat' split at hr)<;>(subst hr;grind [Jb,PG,Bm,DF,DE,B6,BV,DG,DH,Di,DZ,CO,Ea,Jy,GS,Jx,Et,Jz,Gm,J0,FI,J1,Yq,Cg,Cw,Ef,Ei,CM,Gj,Jf,E7,Ee,Eg,Bn,Y1,Bf,EV,Nj,J8,MP,Ep,FF,GU,J6,Jm,E0,JF])
theorem tV{st:Int}{n:Nat}{J:Xi}{x:Xj}(hst:st≠2)(ha:Je n J.start)(hk:J.op.kind=7)(hw:LS n J.walk)(ho:GK J.walk)(h4:J.pc=6)(hx:CI n x.word):Jb n (J.BI x).1 (J.BI x).2/\JO st n (J.BI x).2:=by
 obtain⟨h1,h2⟩:=KU (x:=x) hst hw ho hx;obtain⟨pc,last,start,key,op,walk,node,val⟩:=J;generalize hr:Xi.BI _ x=r;simp only[Xi.BI,Xi.done] at hr h1 h2 ha hk h4;generalize CT walk x=s at hr h1 h2;obtain⟨o,c,b⟩:=s;have hc:=Fa h1;simp only at hr h1 h2 hc;(repeat' split at hr)<;>(subst hr;grind [Jb,PG,Bm,DF,DE,B6,BV,DG,DH,Di,DZ,CO,Ea,Jy,GS,Jx,Et,Jz,Gm,J0,FI,J1,Yq,Cg,Cw,Ef,Ei,CM,Gj,Jf,E7,Ee,Eg,Bn,Y1,Bf,EV,Nj,J8,MP,Ep,FF,GU,J6,Jm,E0,JF])
theorem oP{st:Int}{n:Nat}{J:Xi}{c:Xf}{x:Xj}(hst:st≠2)(h:Jb n J c)(hc:c.kind≠12)(hx:PC st n c x):Jb n (J.next x).1 (J.next x).2/\JO st n (J.next x).2:=by
 obtain⟨ha,hw,hp,hpc,hk,h6,h7,h8⟩:=h;have hcu:=Fa hw;have hsk:=@Qy n J.start J.key ha;have hn:J.pc≠-1:=λe=>hc (hpc.1 e);have hp':J.pc=0\/J.pc=1\/J.pc=2\/J.pc=3\/J.pc=4\/J.pc=5\/J.pc=6\/J.pc=7:=Zo;have i1:=λ(J:Xi)=>@zX st n J x hst;have i2:=λ(J:Xi)=>@yZ st n J x hst;have i3:=λ(J:Xi)=>@tV st n J x hst;have i1J:=i1 J;have i2J:=i2 J;have i3J:=i3 J;have i1S:=i1 (J.An 4);have i2S:=i2 (J.An 1);have i3S:=i3 (J.An 6);clear i1 i2 i3;obtain⟨pc,last,start,key,op,walk,node,val⟩:=J;obtain⟨hx1,hx2,-⟩:=hx;simp only[Xi.An] at*;generalize hr:Xi.next _ x=r;rcases hk with hk|hk|hk<;>(rcases hp' with rfl|rfl|rfl|rfl|rfl|rfl|rfl|rfl)<;>
  simp only[Xi.next,Xi.insert,Xi.Am,Xi.get,Xi.done,Xi.An,beq_iff_eq,hk,Int.reduceEq,Int.reduceNeg,if_true,if_false,↓reduceIte] at hr<;>(repeat' split at hr)<;>
  (subst hr;first
   |(exfalso;omega)
   |exact i1S ha hk ((h6 hk).2.1 Zd) hsk.1 hsk.2 (by trivial) hx1
   |exact i1J ha hk ((h6 hk).2.1 Zd) hw ((h6 hk).2.2 rfl) (by trivial) hx1
   |exact i2S ha (by rw[hk];decide) hsk.1 hsk.2 (by trivial) hx1
   |exact i2J ha (by rw[hk];decide) hw (by grind) (by trivial) hx1
   |exact i3S ha hk hsk.1 hsk.2 (by trivial) hx1
   |exact i3J ha hk hw (by grind) (by trivial) hx1
   |(clear i1J i2J i3J i1S i2S i3S hsk;clear hw;grind [Jb,Bm,DF,DE,B6,BV,DG,DH,Di,DZ,CO,Ea,Jy,GS,Jx,Et,Jz,Gm,J0,FI,J1,Yq,Cg,Cw,Ef,Ei,CM,Gj,Jf,E7,Ee,Eg,Bn,Y1,Bf,EV,Nj,J8,MP,Ep,FF,GU,J6,Jm,E0,JF])
   |(clear i1J i2J i3J i1S i2S i3S hsk;grind [Jb,Bm,DF,DE,B6,BV,DG,DH,Di,DZ,CO,Ea,Jy,GS,Jx,Et,Jz,Gm,J0,FI,J1,Yq,Cg,Cw,Ef,Ei,CM,Gj,Jf,E7,Ee,Eg,Bn,Y1,Bf,EV,Nj,J8,MP,Ep,FF,GU,J6,Jm,E0,JF]))
theorem Iy{n:Int}(h0:-9223372036854775808<=n)(h1:n<9223372036854775808):wr n=n:=IntWalk.i64_in _ ⟨h0,by omega⟩
def No(n:Nat)(s:B7):Prop:=Je n s.prev/\CI n s.Ay
structure JJ(n:Nat)(C:Xe):Prop where
 spot:No n C.spot
 nx:CI n C.next
 s0:No n C.s0
 s1:No n C.s1
 s2:No n C.s2
 fd:CI n C.found
 lv:C.level=0\/C.level=1\/C.level=2
structure Te(n:Nat)(C:Xe):Prop where
 b:JJ n C
 pc:C.pc=-1\/C.pc=0\/(2<=C.pc/\C.pc<=9)
 on:3<=C.pc->C.pc<=8->CH n C.spot.Ay
theorem Fc{n:Nat}:No n B7.zero:=⟨Bf (k:=0) Zo Zo,Yq⟩
theorem iJ{n:Nat}{b:Int}:Te n (Xe.new b):=
 ⟨⟨Fc,Yq,Fc,Fc,Fc,Yq,Or.inl rfl⟩,Or.inr (Or.inl rfl),λh=>by simp[Xe.new,Xe.zero] at h⟩
def MK(st:Int)(n:Nat)(r:Xe × Xf × Bool):Prop:=
 Te n r.1/\(r.2.2=true->JO st n r.2.1/\r.2.1.kind≠12/\r.1.pc≠-1)/\(r.2.2=false->r.1.pc=-1)
section
variable{st:Int}{n:Nat}{C:Xe}{x:Xj}
theorem JB(h:JJ n C):MK st n C.enter:=by
 have hl:=h.lv;refine⟨⟨⟨h.spot,h.nx,h.s0,h.s1,h.s2,h.fd,h.lv⟩,Or.inr (Or.inr ⟨Int.le_refl 2,by show(2:Int)<=9;decide⟩),λh=>?_⟩,λ_=>⟨BV h.spot.1 Zo Zo,by show(6:Int)≠12;decide,by show(2:Int)≠-1;decide⟩,λh=>by cases h⟩;have:(3:Int)<=2:=h;omega
theorem GY(h:JJ n C):MK st n C.again:=by
 refine JB ⟨⟨Bf Zd Zd,h.spot.2⟩,h.nx,h.s0,h.s1,h.s2,h.fd,Or.inr (Or.inr rfl)⟩
theorem LK(h:JJ n C)(hc:CH n C.spot.Ay):MK st n C.behind:=by
 have hl:=h.lv;refine⟨⟨⟨h.spot,h.nx,h.s0,h.s1,h.s2,h.fd,h.lv⟩,Or.inr (Or.inr ⟨by show(2:Int)<=3;decide,by show(3:Int)<=9;decide⟩),λ_ _=>hc⟩,λ_=>⟨BV (Y1 h.spot.2 Zo Zo) Zo Zo,by show(6:Int)≠12;decide,by show(3:Int)≠-1;decide⟩,λh=>by cases h⟩
theorem iI{l:Int}{s:B7}(h:JJ n C)(hs:No n s):JJ n (C.DY l s):=by
 unfold Xe.DY;split
 ·exact⟨h.spot,h.nx,hs,h.s1,h.s2,h.fd,h.lv⟩
 ·split
  ·exact⟨h.spot,h.nx,h.s0,hs,h.s2,h.fd,h.lv⟩
  ·exact⟨h.spot,h.nx,h.s0,h.s1,hs,h.fd,h.lv⟩
theorem nG(C:Xe)(l:Int)(s:B7):(C.DY l s).spot=C.spot/\(C.DY l s).level=C.level/\(C.DY l s).pc=C.pc:=by
 unfold Xe.DY;split
 ·exact⟨rfl,rfl,rfl⟩
 ·split<;>exact⟨rfl,rfl,rfl⟩
theorem JA(h:JJ n C):MK st n C.lower:=by
 have h1:=iI (l:=C.level) h h.spot;obtain⟨e1,e2,e3⟩:=nG C C.level C.spot;unfold Xe.lower;generalize C.DY C.level C.spot=D at h1 e1 e2 e3;clear h;simp only;clear e1 e2 e3;split
 ·split
  ·refine⟨⟨⟨h1.spot,h1.nx,h1.s0,h1.s1,h1.s2,Ef h1.spot.2,h1.lv⟩,Or.inl rfl,λh=>?_⟩,λh=>(by cases h),λ_=>rfl⟩;have:(3:Int)<=-1:=h;omega
  ·refine⟨⟨⟨h1.spot,h1.nx,h1.s0,h1.s1,h1.s2,h1.fd,h1.lv⟩,Or.inl rfl,λh=>?_⟩,λh=>(by cases h),λ_=>rfl⟩;have:(3:Int)<=-1:=h;omega
 ·rename_i hl;have hl0:D.level≠0:=by simpa using hl
  have hlv:=h1.lv;have hv:D.level-1=0\/D.level-1=1\/D.level-1=2:=Zo;split
  ·exact JB ⟨⟨Bf Zo Zo,h1.spot.2⟩,h1.nx,h1.s0,h1.s1,h1.s2,h1.fd,hv⟩
  ·rename_i hs;have hs0:¬D.spot.prev.sl=0:=by simpa using hs
   have ha:rL n D.spot.prev:=by
    rcases h1.spot.1 with h|h
    ·exact h
    ·exact absurd h.1 hs0
   refine⟨⟨⟨⟨Eg ⟨ha.1,ha.2.1,by show(0:Int)<=2+(D.level-1);omega,by show 2+(D.level-1)<10;omega⟩,h1.spot.2⟩,h1.nx,h1.s0,h1.s1,h1.s2,h1.fd,hv⟩,Or.inr (Or.inr ⟨by show(2:Int)<=9;decide,by show(9:Int)<=9;decide⟩),λ_ h=>?_⟩,λ_=>⟨J9 ?_,by show(7:Int)≠12;decide,by show(9:Int)≠-1;decide⟩,λh=>by cases h⟩
   ·have:(9:Int)<=8:=h;omega
   ·rcases hlv with h|h|h
    ·exact absurd h hl0
    ·simp only[h];exact Or.inr (Or.inr (Or.inr (Or.inr (Or.inr (Or.inr (Or.inl ⟨rfl,rfl⟩))))))
    ·simp only[h];exact Or.inr (Or.inr (Or.inr (Or.inr (Or.inr (Or.inr (Or.inr ⟨rfl,rfl⟩))))))
theorem hold_b{l:Int}(h:l=0\/l=1\/l=2):PS (GZ (3*l+1) (3*l)):=by
 rcases h with rfl|rfl|rfl
 ·exact Or.inr (Or.inl ⟨rfl,rfl⟩)
 ·exact Or.inr (Or.inr (Or.inr (Or.inl ⟨rfl,rfl⟩)))
 ·exact Or.inr (Or.inr (Or.inr (Or.inr (Or.inr (Or.inl ⟨rfl,rfl⟩)))))
theorem hold_a{l:Int}(h:l=0\/l=1\/l=2):PS (GZ (3*l+2) (3*l+1)):=by
 rcases h with rfl|rfl|rfl
 ·exact Or.inl ⟨rfl,rfl⟩
 ·exact Or.inr (Or.inr (Or.inl ⟨rfl,rfl⟩))
 ·exact Or.inr (Or.inr (Or.inr (Or.inr (Or.inl ⟨rfl,rfl⟩))))
theorem Vr(h:JJ n C):MK st n C.on:=by
 unfold Xe.on;split
 ·exact JA h
 ·rename_i hs;have hs0:¬C.spot.Ay.sl=0:=by simpa using hs
  exact⟨⟨⟨h.spot,h.nx,h.s0,h.s1,h.s2,h.fd,h.lv⟩,Or.inr (Or.inr ⟨by show(2:Int)<=8;decide,by show(8:Int)<=9;decide⟩),λ_ _=>Ee h.spot.2 hs0⟩,λ_=>⟨J9 (hold_b h.lv),by show(7:Int)≠12;decide,by show(8:Int)≠-1;decide⟩,λh=>by cases h⟩
theorem qQ(hst:st≠2)(h:Te n C)(hp:C.pc≠-1)(hx:CI n x.word):MK st n (C.step x):=by
 have hl:=h.b.lv;have hb:=h.b;unfold Xe.step;split
 ·split
  ·exact GY hb
  ·simp only;split
   ·rename_i h2 _ _;have h2:C.pc=2:=by simpa using h2
    exact JA ⟨⟨hb.spot.1,hx⟩,hb.nx,hb.s0,hb.s1,hb.s2,hb.fd,hb.lv⟩
   ·rename_i h2 _ hs;have h2:C.pc=2:=by simpa using h2
    have hs0:¬x.word.sl=0:=by simpa using hs
    exact LK ⟨⟨hb.spot.1,hx⟩,hb.nx,hb.s0,hb.s1,hb.s2,hb.fd,hb.lv⟩ (Ee hx hs0)
 split
 ·rename_i h3;have h3:C.pc=3:=by simpa using h3
  have hc:=h.on Zo Zo;exact⟨⟨⟨hb.spot,hx,hb.s0,hb.s1,hb.s2,hb.fd,hb.lv⟩,Or.inr (Or.inr ⟨by show(2:Int)<=4;decide,by show(4:Int)<=9;decide⟩),λ_ _=>hc⟩,λ_=>⟨Bm (Y1 hb.spot.2 Zd Zd),by show(3:Int)≠12;decide,by show(4:Int)≠-1;decide⟩,λh=>by cases h⟩
 split
 ·rename_i h4;have h4:C.pc=4:=by simpa using h4
  have hc:=h.on Zo Zo;exact⟨⟨⟨hb.spot,hb.nx,hb.s0,hb.s1,hb.s2,hb.fd,hb.lv⟩,Or.inr (Or.inr ⟨by show(2:Int)<=5;decide,by show(5:Int)<=9;decide⟩),λ_ _=>hc⟩,λ_=>⟨Bm hb.spot.1,by show(3:Int)≠12;decide,by show(5:Int)≠-1;decide⟩,λh=>by cases h⟩
 split
 ·rename_i h5;have h5:C.pc=5:=by simpa using h5
  have hc:=h.on Zo Zo;split
  ·exact GY hb
  split
  ·exact⟨⟨⟨hb.spot,hb.nx,hb.s0,hb.s1,hb.s2,hb.fd,hb.lv⟩,Or.inr (Or.inr ⟨by show(2:Int)<=6;decide,by show(6:Int)<=9;decide⟩),λ_ _=>hc⟩,λ_=>⟨B6 hb.spot.1 (EV hst (Ei hb.nx)) rfl,by show(5:Int)≠12;decide,by show(6:Int)≠-1;decide⟩,λh=>by cases h⟩
  split
  ·exact JA hb
  ·exact⟨⟨⟨⟨Y1 hb.spot.2 Zo Zo,hb.spot.2⟩,hb.nx,hb.s0,hb.s1,hb.s2,hb.fd,hb.lv⟩,Or.inr (Or.inr ⟨by show(2:Int)<=7;decide,by show(7:Int)<=9;decide⟩),λ_ _=>hc⟩,λ_=>⟨J9 (hold_a hb.lv),by show(7:Int)≠12;decide,by show(7:Int)≠-1;decide⟩,λh=>by cases h⟩
 split
 ·rename_i h6;have h6:C.pc=6:=by simpa using h6
  have hc:=h.on Zo Zo;split
  ·exact Vr ⟨⟨hb.spot.1,Ei hb.nx⟩,hb.nx,hb.s0,hb.s1,hb.s2,hb.fd,hb.lv⟩
  ·exact GY hb
 split
 ·exact GY hb
 split
 ·rename_i h7;have h7:C.pc=7:=by simpa using h7
  exact Vr ⟨⟨hb.spot.1,hb.nx⟩,hb.nx,hb.s0,hb.s1,hb.s2,hb.fd,hb.lv⟩
 split
 ·rename_i h8;have h8:C.pc=8:=by simpa using h8
  exact LK hb (h.on Zo Zo)
 split
 ·exact JB hb
 ·rename_i q2 q3 q4 q5 q6 q0 q7 q8 q9;simp only[beq_iff_eq] at q2 q3 q4 q5 q6 q0 q7 q8 q9;have:=h.pc;omega
end
def jG(n:Int)(w:World)(e:Ending)(w':World):Prop:=e=.returned (.int .i64 n)/\Below w.heap.size w w'
def uZ(b:Int):Int:=bif decide (4<=b) then 3 else bif decide (2<=b) then 2 else bif decide (1<=b) then 1 else 0
theorem mT:((List.range 256).all λk=>decide (0<=Qi (k:Int)/\Qi (k:Int)<256))=true:=Zk
theorem Ss(b:Int)(h0:0<=b)(h1:b<256):0<=Qi b/\Qi b<256:=by
 have h:=List.all_eq_true.1 mT b.toNat (List.mem_range.2 Zo);have h2:=of_decide_eq_true h;rwa [show((b.toNat:Nat):Int)=b from by omega] at h2
theorem i64_id(n:Int)(h0:-9223372036854775808<=n)(h1:n<9223372036854775808):wr n=n:=IntWalk.i64_in _ ⟨h0,by omega⟩
def lenN(k:Nat):Int:=bif decide (128<=k) then 8 else bif decide (64<=k) then 7 else bif decide (32<=k) then 6 else bif decide (16<=k) then 5 else bif decide (8<=k) then 4 else bif decide (4<=k) then 3 else bif decide (2<=k) then 2 else bif decide (1<=k) then 1 else 0
theorem zV:((List.range 8).all λk=>decide (wrap64 (wrap64 (lenN k))=uZ (k:Int)))=true:=Zk
theorem lG(T:ByteArray)(f:Nat->Int)(hs:T.size=256)(h:((List.range 256).all λk=>decide (((T.data.getD k 0).toNat:Int)=f k))=true)(k:Nat)(hk:k<256)(hh:k<T.size):((T[k]'hh).toNat:Int)=f k:=by
 have h1:=List.all_eq_true.1 h k (List.mem_range.2 hk);have h2:=of_decide_eq_true h1;rw[←h2];have h3:k<T.data.size:=hh;rw[Array.getD_eq_getD_getElem?,Array.getElem?_eq_getElem h3];rfl
theorem gO(b:Int)(w:World)(h0:0<=b)(h1:b<8):Calls Tryz.prog 192 #[.int .u64 b] w (jG (uZ b) w):=by
 have e1:(decide (4294967296<=b))=false:=by simp;omega
 have e2:(decide (65536<=b))=false:=by simp;omega
 have e3:(decide (256<=b))=false:=by simp;omega
 have e4:IntKind.u8.wrap b=b:=by unfold IntKind.wrap;simp[IntKind.bits,IntKind.signed];omega
 have e5:0<=b/\b<256:=Zo;go_enter Tryz.func192,Tryz.ntmps192;go_wp2_with fail;go_ret;refine⟨?_,Below.refl _ _⟩;clear e1 e2 e3 e4;obtain⟨k,rfl⟩:∃k:Nat,b=k:=⟨b.toNat,by omega⟩;refine(congrArg (λn:Int=>Ending.returned (.int .i64 (wrap64 (wrap64 n)))) (lG _ lenN Zk Zk k Zo _)).trans ?_;exact congrArg (λn:Int=>Ending.returned (.int .i64 n)) (of_decide_eq_true (List.all_eq_true.1 zV k (List.mem_range.2 Zo)))
theorem uY(b:Int)(w:World)(h0:0<=b)(h1:b<8):Calls Tryz.prog 186 #[.int .u64 b] w (jG (uZ b) w):=by
 have e4:IntKind.u64.wrap b=b:=by unfold IntKind.wrap;simp[IntKind.bits,IntKind.signed];omega
 go_enter Tryz.func186,Tryz.ntmps186;go_wp2_with fail;refine(gO _ w h0 h1).mono ?_;rintro e w1 ⟨rfl,hb⟩;go_wp2_with fail;go_ret;exact⟨rfl,hb⟩
theorem NA(b:Int)(w:World)(h0:0<=b)(h1:b<8):Calls Tryz.prog 182 #[.int .i64 b] w (jG (E4 b) w):=by
 have h:b=0\/b=1\/b=2\/b=3\/b=4\/b=5\/b=6\/b=7:=Zo;rcases h with rfl|rfl|rfl|rfl|rfl|rfl|rfl|rfl
 ·go_enter Tryz.func182,Tryz.ntmps182;go_wp2_with fail;go_ret;exact⟨by kernel_rfl,Below.refl _ _⟩
 all_goals
  go_enter Tryz.func182,Tryz.ntmps182
  go_wp2_with fail
  refine(uY _ w Zd Zd).mono ?_
  rintro e w1 ⟨rfl,hb⟩
  simp only[uZ]
  go_wp2_with fail
  go_ret
  exact⟨by kernel_rfl,hb⟩
theorem mS(b:Int)(w:World)(h0:0<=b)(h1:b<256):Calls Tryz.prog 194 #[.int .u8 b] w (λe w'=>e=.returned (.int .u8 (Qi b))/\Below w.heap.size w w'):=by
 go_enter Tryz.func194,Tryz.ntmps194;go_wp2_with fail;go_ret;refine⟨?_,Below.refl _ _⟩;obtain⟨k,rfl⟩:∃k:Nat,b=k:=⟨b.toNat,by omega⟩;refine congrArg (λn:Int=>Ending.returned (.int .u8 n)) (?_:_=Qi (k:Int));exact lG _ (λk=>Qi (k:Int)) Zk Zk k Zo _
theorem MW(b:Int)(w:World)(h0:0<=b)(h1:b<256):Calls Tryz.prog 193 #[.int .i64 b] w (jG (Qi b) w):=by
 have e4:IntKind.u8.wrap b=b:=by unfold IntKind.wrap;simp[IntKind.bits,IntKind.signed];omega
 go_enter Tryz.func193,Tryz.ntmps193;go_wp2_with fail;refine(mS _ w h0 h1).mono ?_;rintro e w1 ⟨rfl,hb⟩;have e5:=Ss b h0 h1;go_wp2_with fail;go_ret;exact⟨by simp,hb⟩
theorem QM(b:Int)(w:World)(h0:0<=b)(h1:b<256):Calls Tryz.prog 190 #[.int .i64 b] w (jG (UL b) w):=by
 have d1:decide (b<0)=false:=by simp;omega
 have d2:decide (255<b)=false:=by simp;omega
 have e5:=Ss b h0 h1;unfold UL;rw[d1,d2];go_enter Tryz.func190,Tryz.ntmps190;go_wp2_with fail;refine(MW _ w h0 h1).mono ?_;rintro e w1 ⟨rfl,hb⟩;go_wp2_with fail;go_ret;exact⟨by simp,hb⟩
theorem KJ(b:Int)(w:World)(h0:0<=b)(h1:b<8):Calls Tryz.prog 189 #[.int .i64 b] w (jG (Ds b) w):=by
 have d1:decide (b<0)=false:=by simp;omega
 have d2:decide (8<=b)=false:=by simp;omega
 have e5:=Ss b h0 Zo;unfold Ds;rw[d1,d2];go_enter Tryz.func189,Tryz.ntmps189;go_wp2_with fail;refine(MW _ w h0 Zo).mono ?_;rintro e w1 ⟨rfl,hb⟩;go_wp2_with fail;go_ret;exact⟨by simp,hb⟩
def nO(J:X6)(x:Xj):Env:=Ix [J.ii,x.ii] [J.bb,x.bb]
def uH:St:=⟨[],[(1,175,(ct [vs 0 9,[.bool (.var 0)],vs 9 4,[.bool (.var 1)],vs 13 12,[.bool (.var 2)],vs 25 4,[.bool (.var 3),.int (.var 29)]]))],[],10,0⟩
def fX:List SV:=[.c (.ptr 1 0),.agg ((ct [vs 30 4,[.bool (.var 4),.bool (.var 5)]]))]
theorem nP(J:X6)(x:Xj)(g1:Nat)(w:World)(h1:Bk w g1 175 J.l.toArray):Calls Tryz.prog 135 #[.pointer (some ⟨g1,0,none⟩),.agg x.l.toArray] w λen w'=>en=.returned (Yn (J.next x).2)/\Bk w' g1 175 ((J.next x).1.l).toArray/\Al [g1] w w':=by
 refine p1 (nO J x) [] 60 uH fX (J.next x) (λr=>(Yn r.2,(r.1.l).toArray)) Xt Ci h1 ?_;exact vS1
def vS(J:Yd)(x:Xj):Env:=Ix [J.ii,x.ii] [J.bb,x.bb]
def cor_st:St:=⟨[],[(1,179,(ct [vs 0 9,[.bool (.var 0)],vs 9 4,[.bool (.var 1)],vs 13 12,[.bool (.var 2)],vs 25 4,[.bool (.var 3)],vs 29 4,[.bool (.var 4)],vs 33 4,[.bool (.var 5),.int (.var 37)]]))],[],10,0⟩
def qO:List SV:=[.c (.ptr 1 0),.agg ((ct [vs 38 4,[.bool (.var 6),.bool (.var 7)]]))]
theorem vW(J:Yd)(x:Xj)(g1:Nat)(w:World)(h1:Bk w g1 179 J.l.toArray):Calls Tryz.prog 145 #[.pointer (some ⟨g1,0,none⟩),.agg x.l.toArray] w λen w'=>en=.returned (Yn (J.next x).2)/\Bk w' g1 179 ((J.next x).1.l).toArray/\Al [g1] w w':=by
 refine p1 (vS J x) [] 60 cor_st qO (J.next x) (λr=>(Yn r.2,(r.1.l).toArray)) Xt Ci h1 ?_;exact vS1
end Go.Proofs.YtaipogljokblkaaGreatDoor
