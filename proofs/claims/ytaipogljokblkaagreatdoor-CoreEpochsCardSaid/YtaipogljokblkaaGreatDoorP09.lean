/- Core: PJ, PV, LA, LB, LC, VA, CPile, CCor. -/
import Derived.Test.YtaipogljokblkaaGreatDoorP07
set_option linter.all false
set_option maxRecDepth 100000
set_option maxHeartbeats 8000000
namespace Go.Proofs.YtaipogljokblkaaGreatDoor
open Go Go.RowKit
namespace Xy
def new(op:AV):Xy:={Xy.zero with op:=op}
def done(J:Xy)(a b:Int):Xy × Xi:=({J with pc:=-1,last:=X3 a b},X3 a b)
def push(J:Xy)(x:Xr):Xy × Xi:=
 if J.pc==0 then({J with pc:=1},Xu)
 else if J.pc==1 then
  if !x.ok then J.done 4 0 else({J with node:=x.word,pc:=2},Xq (Xh x.word 1) (Y6 J.op.val))
 else if J.pc==5 then
  if x.ok then J.done 1 0 else({J with pc:=3},Xm (root 0))
 else if J.pc==2 then({J with pc:=3},Xm (root 0))
 else if J.pc==3 then({J with Qo:=x.word,pc:=4},Xq (Xh J.node 2) (Yx x.word))
 else if J.pc==4 then({J with pc:=5},Xp (root 0) J.Qo (A4 J.Qo J.node))
 else(J,J.last)
def pop(J:Xy)(x:Xr):Xy × Xi:=
 if J.pc==3 then
  if x.ok then({J with pc:=4},Xm (Xh J.Qo 1)) else({J with pc:=1},Xg (root 0) 0)
 else if J.pc==0 then({J with pc:=1},Xg (root 0) 0)
 else if J.pc==1 then
  let J:={J with Qo:=x.word}
  if x.word.sl==0 then J.done 2 0 else
  if J.op.kind==3 then({J with pc:=4},Xm (Xh J.Qo 1)) else({J with pc:=2},Xm (Xh J.Qo 2))
 else if J.pc==2 then({J with pc:=3},Xp (root 0) J.Qo (A4 J.Qo x.word))
 else if J.pc==4 then
  let J:={J with val:=x.word.nm}
  if J.op.kind==3 then J.done 1 J.val else({J with pc:=5},Xk J.Qo)
 else if J.pc==5 then J.done 1 J.val
 else(J,J.last)
def next(J:Xy)(x:Xr):Xy × Xi:=if J.op.kind==1 then J.push x else J.pop x
end Xy
namespace Xx
def new(op:AV):Xx:={Xx.zero with op:=op}
def done(J:Xx)(a b:Int):Xx × Xi:=({J with pc:=-1,last:=X3 a b},X3 a b)
def enqueue(J:Xx)(x:Xr):Xx × Xi:=
 if J.pc==0 then({J with pc:=1},Xu)
 else if J.pc==1 then
  if !x.ok then J.done 4 0 else({J with node:=x.word,pc:=2},Xq (Xh x.word 1) (Y6 J.op.val))
 else if J.pc==3 then({J with t:=x.word,pc:=4},Xm (Xh x.word 2))
 else if J.pc==4 then({J with n:=x.word,pc:=5},Xm (root 1))
 else if J.pc==5 then
  if !B7 x.word J.t then({J with pc:=3},Xg (root 1) 0) else
  if !(J.n.sl==0) then({J with pc:=6},Xp (root 1) J.t (A4 J.t J.n)) else
  ({J with pc:=7},Xp (Xh J.t 2) J.n (A4 J.n J.node))
 else if J.pc==7 then
  if x.ok then({J with pc:=8},Xp (root 1) J.t (A4 J.t J.node)) else({J with pc:=3},Xg (root 1) 0)
 else if J.pc==2 then({J with pc:=3},Xg (root 1) 0)
 else if J.pc==6 then({J with pc:=3},Xg (root 1) 0)
 else if J.pc==8 then J.done 1 0
 else(J,J.last)
def dequeue(J:Xx)(x:Xr):Xx × Xi:=
 if J.pc==1 then({J with h:=x.word,pc:=2},Xm (root 1))
 else if J.pc==2 then({J with t:=x.word,pc:=3},Xg (Xh J.h 2) 1)
 else if J.pc==3 then({J with n:=x.word,pc:=4},Xm (root 0))
 else if J.pc==4 then
  if !B7 x.word J.h then({J with pc:=1},Xg (root 0) 0) else
  if J.n.sl==0 then J.done 2 0 else
  if J.h.sl==J.t.sl then({J with pc:=5},Xp (root 1) J.t (A4 J.t J.n)) else
  ({J with pc:=6},Xm (Xh J.n 1))
 else if J.pc==6 then({J with val:=x.word.nm,pc:=7},Xp (root 0) J.h (A4 J.h J.n))
 else if J.pc==7 then
  if x.ok then({J with pc:=8},Xk J.h) else({J with pc:=1},Xg (root 0) 0)
 else if J.pc==0 then({J with pc:=1},Xg (root 0) 0)
 else if J.pc==5 then({J with pc:=1},Xg (root 0) 0)
 else if J.pc==8 then J.done 1 J.val
 else(J,J.last)
def next(J:Xx)(x:Xr):Xx × Xi:=if J.op.kind==4 then J.enqueue x else J.dequeue x
end Xx
def OD(n:Int):Int:=
 Int.tmod n 2*128+Int.tmod (Int.tdiv n 2) 2*64+Int.tmod (Int.tdiv n 4) 2*32+Int.tmod (Int.tdiv n 8) 2*16+
 Int.tmod (Int.tdiv n 16) 2*8+Int.tmod (Int.tdiv n 32) 2*4+Int.tmod (Int.tdiv n 64) 2*2+Int.tmod (Int.tdiv n 128) 2
def MG(a:Int):Int:=bif decide (a<0)||decide (255<a) then-1 else 2*OD a+1
def Yw(b:Int):Int:=bif decide (b<0)||decide (8<=b) then-1 else 2*OD b
def Bb(b:Int):Int:=bif decide (4<=b) then b-4 else bif decide (2<=b) then b-2 else 0
def Bv(a b:Int):Int:=
 bif Bb a==b then a else bif Bb (Bb a)==b then Bb a else Bb (Bb a)
def F0(n:Int):Int:=bif n==2 then 2 else bif n==4 then 4 else bif n==8 then 8 else 1
def Fq(b:Int):Yc:=root (wr (0+wr (8+b)))
namespace Xc
def new(op:AV):Xc:={Xc.zero with op:=op}
def done(J:Xc)(a:DI):Xc × Xi:=({J with pc:=-1,last:=X3 a.code a.val},X3 a.code a.val)
def Fu(J:Xc)(c:Xi):Xc × Xi:=
 bif !(c.kind==12) then(J,c) else
 let J:={J with answer:=c.BR}
 bif !(c.BR.code==1)||J.op.kind==8 then J.done c.BR else({J with pc:=12},Xm (root 17))
def GZ(J:Xc)(x:Xr):Xc × Xi:=
 match J.inner with
 |none=>(J,Xi.zero)
 |some I=>Xc.Fu {J with inner:=some (I.next x).1} (I.next x).2
def perform(J:Xc):Xc × Xi:=
 Xc.GZ {J with inner:=some (Xf.from_ (Xh J.base 2) (MG J.op.key) J.op),pc:=11} Xr.zero
def CD(J:Xc):Xc × Xi:=
 bif J.Ao==J.wanted then J.perform else({J with child:=Bv J.wanted J.Ao,pc:=3},Xu)
def AG(J:Xc)(z:Int):Xc × Xi:=
 ({J with size:=z,wanted:=Int.tmod J.op.key z,Ao:=Int.tmod J.op.key z,pc:=2},Xm (Fq (Int.tmod J.op.key z)))
def sized(J:Xc)(x:Xr):Xc × Xi:=J.AG (F0 x.word.nm)
def BC(J:Xc)(x:Xr):Xc × Xi:=
 bif !(x.word.sl==0) then Xc.CD {J with base:=x.word} else
 bif J.Ao==0 then J.done ⟨4,0⟩ else({J with Ao:=Bb J.Ao,pc:=2},Xm (Fq (Bb J.Ao)))
def D8(J:Xc)(x:Xr):Xc × Xi:=
 let r:=Cq J.walk x
 let J:={J with walk:=r.1}
 bif r.2.2 then(J,r.2.1) else
 bif Li J.walk then({J with sentinel:=Yx (Yu J.walk),pc:=6},Yi J.node) else
 ({J with pc:=7},Xq (Xh J.node 2) (Yx (Yu J.walk)))
def An(J:Xc):Xc:={J with walk:=some (Xj.new (Xh J.base 2) (Yw J.child)),pc:=5}
def DJ(J:Xc):Xc × Xi:=Xc.CD {J with base:=J.sentinel,Ao:=J.child}
def Am(J:Xc)(x:Xr):Xc × Xi:=
 bif J.pc==3 then
  bif !x.ok then J.perform else({J with node:=x.word,pc:=4},Xq (Xh x.word 0) (Y6 (Yw J.child)))
 else bif J.pc==8 then
  bif x.ok then({J with sentinel:=J.node,pc:=9},Xm (Fq J.child)) else J.An.D8 x
 else bif J.pc==4 then J.An.D8 x
 else bif J.pc==5 then J.D8 x
 else bif J.pc==7 then({J with pc:=8},Xp (AM J.walk) (Yu J.walk) (A4 (Yu J.walk) J.node))
 else bif J.pc==6 then({J with pc:=9},Xm (Fq J.child))
 else bif J.pc==9 then
  bif x.word.sl==0 then({J with pc:=10},Xp (Fq J.child) x.word (A4 x.word J.sentinel)) else J.DJ
 else bif J.pc==10 then J.DJ
 else(J,J.last)
def AX(J:Xc)(x:Xr):Xc × Xi:=
 ({J with count:=x.word,pc:=13},Xp (root 17) x.word (Y5 x.word (bif J.op.kind==7 then-1 else 1)))
def Ck(J:Xc)(x:Xr):Xc × Xi:=
 bif !x.ok then({J with pc:=12},Xm (root 17)) else
 bif J.op.kind==7 then J.done J.answer else bif J.size==8 then J.done J.answer else bif decide (J.count.nm<wr (2*J.size)) then J.done J.answer else
 ({J with pc:=14},Xm (root 16))
def AD(J:Xc)(x:Xr):Xc × Xi:=
 bif x.word.nm==J.size then({J with pc:=15},Xp (root 16) x.word (Y5 x.word J.size)) else J.done J.answer
def next(J:Xc)(x:Xr):Xc × Xi:=
 bif J.pc==0 then({J with pc:=1},Xm (root 16))
 else bif J.pc==1 then J.sized x
 else bif J.pc==2 then J.BC x
 else bif J.pc==11 then J.GZ x
 else bif J.pc==12 then J.AX x
 else bif J.pc==13 then J.Ck x
 else bif J.pc==14 then J.AD x
 else bif J.pc==15 then J.done J.answer
 else bif J.pc==-1 then(J,J.last)
 else J.Am x
end Xc
def Dg(n:Nat)(w:Xe):Prop:=0<=w.sl/\w.sl<=n/\(w.sl=0->w.gn=0)
def Df(n:Nat)(w:Xe):Prop:=1<=w.sl/\w.sl<=n
def vU(n:Nat)(a:Yc):Prop:=1<=a.sl/\a.sl<=n/\0<=a.fd/\a.fd<10
def Jo(n:Nat)(a:Yc):Prop:=vU n a\/(a.sl=0/\a.gn=0/\0<=a.fd/\a.fd<24)
def CP(st:Int)(n:Nat)(a:Yc)(w:Xe):Prop:=Dg n w/\(st=2->a.sl=0->a.fd=0->Df n w)
def TU(c:Xi):Prop:=(c.i=2/\c.j=1)\/(c.i=1/\c.j=0)\/(c.i=5/\c.j=4)\/(c.i=4/\c.j=3)\/(c.i=8/\c.j=7)\/(c.i=7/\c.j=6)\/(c.i=2/\c.j=5)\/(c.i=5/\c.j=8)
def Kz(st:Int)(n:Nat)(c:Xi):Prop:=
 (c.kind=3/\Jo n c.AJ)\/(c.kind=4/\vU n c.AJ/\Dg n c.new/\c.new.tg=0)\/
 (c.kind=5/\Jo n c.AJ/\CP st n c.AJ c.new/\c.new.tg=wr (c.AU.tg+1))\/
 (c.kind=6/\Jo n c.AJ/\0<=c.i/\c.i<9/\c.j=0)\/(c.kind=7/\TU c)\/c.kind=8\/(c.kind=9/\Df n c.AU)\/(c.kind=10/\Df n c.AU)\/c.kind=12
def Qq(st:Int)(n:Nat)(c:Xi)(x:Xr):Prop:=
 Dg n x.word/\(c.kind=8->x.ok=true->Df n x.word)/\(st=2->(c.kind=3\/c.kind=6)->c.AJ.sl=0->c.AJ.fd=0->Df n x.word)
section
variable{st:Int}{n:Nat}{a:Yc}{w o m:Xe}{i:Int}
theorem Bu(h:Jo n a):Kz st n (Xm a):=fq ⟨rfl,h⟩
def GK(h:vU n a)(b:Dg n w)(c:w.tg=0:=by rfl):Kz st n (Xq a w):=db (fq ⟨rfl,h,b,c⟩)
theorem DR{v:Int}(h:vU n a):Kz st n (Xq a (Y6 v)):=db (fq ⟨rfl,h,⟨hJ 0,ma n,λ_=>rfl⟩,rfl⟩)
theorem DQ(h:vU n a)(b:Dg n w):Kz st n (Xq a (Yx w)):=db (fq ⟨rfl,h,b,rfl⟩)
theorem BB(h:Jo n a)(b:CP st n a m)(c:m.tg=wr (o.tg+1)):Kz st n (Xp a o m):=d2 (fq ⟨rfl,h,b,c⟩)
theorem Cj(h:Jo n a)(b:0<=i)(c:i<9):Kz st n (Xg a i):=d2 (db (fq ⟨rfl,h,b,c,rfl⟩))
def JP{j:Int}(h:TU (Yt i j)):Kz st n (Yt i j):=d4 (fq ⟨rfl,h⟩)
theorem DS:Kz st n (Yt 2 1):=JP (fq ⟨rfl,rfl⟩)
theorem DT:Kz st n (Yt 1 0):=JP (db (fq ⟨rfl,rfl⟩))
theorem Dy:Kz st n Xu:=d4 (db (fq rfl))
theorem Eo(h:Df n w):Kz st n (Yi w):=d4 (d2 (fq ⟨rfl,h⟩))
theorem Dn(h:Df n w):Kz st n (Xk w):=d4 (d2 (db (fq ⟨rfl,h⟩)))
theorem Ep{c v:Int}:Kz st n (X3 c v):=d4 (d2 (db (db rfl)))
theorem JA:(Xm a).kind=3:=rfl
theorem Hn:(Xq a w).kind=4:=rfl
theorem J9:(Xp a o m).kind=5:=rfl
theorem EE:(Xg a i).kind=6:=rfl
theorem JB{j:Int}:(Yt i j).kind=7:=rfl
theorem G8:Xu.kind=8:=rfl
theorem JC:(Yi w).kind=9:=rfl
theorem Gb:(Xk w).kind=10:=rfl
theorem JD{c v:Int}:(X3 c v).kind=12:=rfl
theorem Yy:Dg n Xe.zero:=⟨hJ 0,ma n,λ_=>rfl⟩
theorem Cy{k:Int}:Dg n (Y6 k):=⟨hJ 0,ma n,λ_=>rfl⟩
theorem CY{k:Int}:Dg n (Y5 w k):=⟨hJ 0,ma n,λ_=>rfl⟩
theorem Es(h:Dg n w):Dg n (Yx w):=h
theorem Ey(h:Dg n w):Dg n (A4 o w):=h
theorem Dj(h:Dg n w):Dg n (Zc w):=h
theorem G3(h:Df n w):Df n (Yx w):=h
theorem Jp(h:Df n w):Df n (A4 o w):=h
theorem ET(h:Df n w):Dg n w:=⟨by have:=h.1;omega,h.2,λe=>by have:=h.1;omega⟩
theorem Er(h:Dg n w)(b:¬w.sl=0):Df n w:=⟨by have:=h.1;omega,h.2.1⟩
theorem Eu(h:vU n a):Jo n a:=fq h
theorem Bw{k:Int}(h:Df n w)(b:0<=k)(c:k<10):vU n (Xh w k):=⟨h.1,h.2,b,c⟩
theorem Zi{k:Int}(h:Dg n w)(b:0<=k)(c:k<10):Jo n (Xh w k):=by
 by_cases e:w.sl=0
 ·exact db ⟨e,h.2.2 e,b,Int.lt_of_lt_of_le c Zo⟩
 ·exact fq (Bw (Er h e) b c)
theorem Bo{k:Int}(b:0<=k)(c:k<24):Jo n (root k):=db ⟨rfl,rfl,b,c⟩
theorem F6(h:st≠2)(b:Dg n w):CP st n a w:=⟨b,λe=>absurd e h⟩
theorem Nz(b:Df n w):CP st n a w:=⟨ET b,λ_ _ _=>b⟩
theorem JO(h:¬a.fd=0)(b:Dg n w):CP st n a w:=⟨b,λ_ _ e=>absurd e h⟩
theorem Nh:(A4 o w).tg=wr (o.tg+1):=rfl
theorem E7:(Zc o).tg=wr (o.tg+1):=rfl
theorem FW{k:Int}:(Y5 o k).tg=wr (o.tg+1):=rfl
theorem Hp{k:Int}:(Xh w k).fd=k:=rfl
theorem JK{k:Int}:(root k).fd=k:=rfl
theorem Jw{k:Int}:(root k).sl=0:=rfl
theorem EJ:(Xg a i).AJ=a:=rfl
theorem JW:(Xm a).AJ=a:=rfl
end
def Qf(n:Nat)(J:Xy)(c:Xi):Prop:=
 Dg n J.Qo/\(J.pc=-1\/(0<=J.pc/\J.pc<=5))/\(J.pc=-1↔c.kind=12)/\
 (J.op.kind=1->(J.pc=1->c.kind=8)/\(2<=J.pc->Df n J.node))/\(J.op.kind≠1->2<=J.pc->Df n J.Qo)
def yY{st:Int}{n:Nat}{J:Xy}{c:Xi}{x:Xr}(f:st≠2)(h:Qf n J c)(k:c.kind≠12)(g:Qq st n c x):Qf n (J.next x).1 (J.next x).2/\Kz st n (J.next x).2:=by
 obtain⟨pc,b,op,node,j,d⟩:=J;simp only[Qf,Qq] at h g;generalize e:Xy.next ⟨pc,b,op,node,j,d⟩ x=r;simp only[Xy.next,Xy.push,Xy.pop,Xy.done] at e;(repeat' split at e)<;>(subst e;grind [Qf,Bu,DR,DQ,BB,Cj,DS,DT,Dy,Eo,Dn,Ep,JA,Hn,J9,EE,JB,G8,JC,Gb,JD,Yy,Cy,CY,Es,Ey,Dj,G3,Jp,ET,Er,Eu,Bw,Zi,Bo,F6,Nz,JO,Nh,E7,FW,Hp,JK,Jw,EJ,JW])
def bX(n:Nat)(J:Xx)(c:Xi):Prop:=
 Dg n J.t/\Dg n J.n/\Dg n J.h/\(J.pc=-1\/(0<=J.pc/\J.pc<=8))/\(J.pc=-1↔c.kind=12)/\
 (J.op.kind=4->(J.pc=1->c.kind=8)/\(2<=J.pc->Df n J.node))/\
 (J.op.kind≠4->(J.pc=1->c.kind=6/\c.AJ=root 0)/\(2<=J.pc->J.pc≠5->Df n J.h)/\(6<=J.pc->Df n J.n))
def yi{n:Nat}{J:Xx}{c:Xi}{x:Xr}(h:bX n J c)(f:c.kind≠12)(g:Qq 2 n c x):bX n (J.next x).1 (J.next x).2/\Kz 2 n (J.next x).2:=by
 obtain⟨pc,d,op,node,q,t,s,j⟩:=J;simp only[bX,Qq] at h g;have k:pc=-1\/pc=0\/pc=1\/pc=2\/pc=3\/pc=4\/pc=5\/pc=6\/pc=7\/pc=8:=Zo;have l:pc≠-1:=λe=>f (h.2.2.2.2.1.1 e);generalize b:Xx.next _ x=r;by_cases p:op.kind=4<;>(rcases k with rfl|rfl|rfl|rfl|rfl|rfl|rfl|rfl|rfl|rfl)<;>simp only[Xx.next,Xx.enqueue,Xx.dequeue,Xx.done,jn,p,Int.reduceEq,Int.reduceNeg,ko,jx,↓reduceIte] at b<;>(repeat' split at b)<;>
  first|exact absurd rfl l|(subst b;grind [bX,Bu,DR,DQ,BB,Cj,DS,DT,Dy,Eo,Dn,Ep,JA,Hn,J9,EE,JB,G8,JC,Gb,JD,Yy,Cy,CY,Es,Ey,Dj,G3,Jp,ET,Er,Eu,Bw,Zi,Bo,F6,Nz,JO,Nh,E7,FW,Hp,JK,Jw,EJ,JW])
def Qd(n:Nat)(W:Xj):Prop:=
 Jo n W.start/\Jo n W.prev/\Dg n W.As/\Dg n W.next/\(W.pc=-1\/(0<=W.pc/\W.pc<=8))/\(2<=W.pc->Df n W.As)/\(W.found=true->W.pc=-1/\Df n W.As)
def mX{n:Nat}{a:Yc}{k:Int}(h:Jo n a):Qd n (Xj.new a k):=by
 grind [Qd,Xj.new,Xj.zero,Dg,Xe.zero]
def wF{st:Int}{n:Nat}{W:Xj}{x:Xr}(f:st≠2)(h:Qd n W)(j:W.pc≠-1)(l:Dg n x.word):
  Qd n (W.step x).1/\((W.step x).2.2=true->Kz st n (W.step x).2.1/\(W.step x).2.1.kind≠12/\(W.step x).1.pc≠-1/\(W.step x).1.found=false)/\((W.step x).2.2=false->(W.step x).1.pc=-1):=by
 obtain⟨pc,c,start,d,prev,g,next,k,b⟩:=W
 simp only[Qd] at h
 generalize e:Xj.step ⟨pc,c,start,d,prev,g,next,k,b⟩ x=r
 simp only[Xj.step,Xj.again,Xj.behind,Xj.finish,Xj.on] at e
 (repeat' split at e)<;>(subst e;grind [Qd,Bu,DR,DQ,BB,Cj,DS,DT,Dy,Eo,Dn,Ep,JA,Hn,J9,EE,JB,G8,JC,Gb,JD,Yy,Cy,CY,Es,Ey,Dj,G3,Jp,ET,Er,Eu,Bw,Zi,Bo,F6,Nz,JO,Nh,E7,FW,Hp,JK,Jw,EJ,JW])
def Mf(n:Nat)(o:Option Xj):Prop:=∀W,o=some W->Qd n W
def Qe(o:Option Xj):Prop:=Li o=true
def Hf(o:Option Xj):Prop:=∃W,o=some W/\W.pc≠-1
def Jj(n:Nat)(J:Xf)(c:Xi):Prop:=
 Jo n J.start/\Mf n J.walk/\(J.pc=-1\/(0<=J.pc/\J.pc<=7))/\(J.pc=-1↔c.kind=12)/\(J.op.kind=6\/J.op.kind=7\/J.op.kind=8)/\
 (J.op.kind=6->(J.pc=1->c.kind=8)/\(2<=J.pc->Df n J.node)/\(J.pc=4->Hf J.walk))/\
 (J.op.kind=7->J.pc<=6/\(J.pc=1\/J.pc=6->Hf J.walk)/\(2<=J.pc->J.pc<=5->Qe J.walk))/\
 (J.op.kind=8->J.pc<=2/\(J.pc=1->Hf J.walk)/\(J.pc=2->Qe J.walk))
def Lh{st:Int}{n:Nat}{o:Option Xj}{x:Xr}(b:st≠2)(h:Mf n o)(d:Hf o)(f:Dg n x.word):
  Mf n (Cq o x).1/\((Cq o x).2.2=true->Kz st n (Cq o x).2.1/\(Cq o x).2.1.kind≠12/\Hf (Cq o x).1):=by
 obtain⟨W,rfl,c⟩:=d
 have a:=wF b (h W rfl) c f
 refine⟨λg e=>?_,λe=>?_⟩
 ·cases e;exact a.1
 ·exact⟨(a.2.1 e).1,(a.2.1 e).2.1,_,rfl,(a.2.1 e).2.2.1⟩
def FA{n:Nat}{o:Option Xj}(h:Mf n o):Dg n (Yu o)/\Dg n (CG o)/\Jo n (AM o)/\(Qe o->Df n (Yu o)):=by
 cases o with
 |none=>exact⟨Yy,Yy,Bo (k:=0) Zo Zo,λe=>by cases e⟩
 |some W=>have:=h W rfl;exact⟨this.2.2.1,this.2.2.2.1,this.2.1,λe=>(this.2.2.2.2.2.2 e).2⟩
def QN{n:Nat}{a:Yc}{k:Int}(h:Jo n a):Mf n (some (Xj.new a k))/\Hf (some (Xj.new a k)):=
 ⟨λW e=>by cases e;exact mX h,_,rfl,by simp[Xj.new,Xj.zero]⟩
def xp{st:Int}{n:Nat}{J:Xf}{x:Xr}(f:st≠2)(ha:Jo n J.start)(i:J.op.kind=6)(j:Df n J.node)(k:Mf n J.walk)(l:Hf J.walk)(m:J.pc=4)(p:Dg n x.word):Jj n (J.AE x).1 (J.AE x).2/\Kz st n (J.AE x).2:=by
 obtain⟨e,g⟩:=Lh (x:=x) f k l p;obtain⟨pc,h,start,q,op,a,node,t⟩:=J;generalize d:Xf.AE _ x=r;simp only[Xf.AE] at d e g ha i j m;generalize Cq a x=s at d e g;obtain⟨o,c,b⟩:=s;have u:=FA e;simp only at d e g u;(repeat' split at d)<;>(subst d;grind [Jj,Bu,DR,DQ,BB,Cj,DS,DT,Dy,Eo,Dn,Ep,JA,Hn,J9,EE,JB,G8,JC,Gb,JD,Yy,Cy,CY,Es,Ey,Dj,G3,Jp,ET,Er,Eu,Bw,Zi,Bo,F6,Nz,JO,Nh,E7,FW,Hp,JK,Jw,EJ,JW])
def vy{st:Int}{n:Nat}{J:Xf}{x:Xr}(f:st≠2)(ha:Jo n J.start)(i:J.op.kind=7\/J.op.kind=8)(j:Mf n J.walk)(k:Hf J.walk)(l:J.pc=1)(m:Dg n x.word):Jj n (J.Ay x).1 (J.Ay x).2/\Kz st n (J.Ay x).2:=by
 obtain⟨e,g⟩:=Lh (x:=x) f j k m;obtain⟨pc,h,start,p,op,a,node,q⟩:=J;generalize d:Xf.Ay _ x=r;simp only[Xf.Ay,Xf.done] at d e g ha i l;generalize Cq a x=s at d e g;obtain⟨o,c,b⟩:=s;have t:=FA e;simp only at d e g t;(repeat' split at d)<;>(subst d;grind [Jj,Qe,Bu,DR,DQ,BB,Cj,DS,DT,Dy,Eo,Dn,Ep,JA,Hn,J9,EE,JB,G8,JC,Gb,JD,Yy,Cy,CY,Es,Ey,Dj,G3,Jp,ET,Er,Eu,Bw,Zi,Bo,F6,Nz,JO,Nh,E7,FW,Hp,JK,Jw,EJ,JW])
def yL{st:Int}{n:Nat}{J:Xf}{x:Xr}(f:st≠2)(ha:Jo n J.start)(i:J.op.kind=7)(j:Mf n J.walk)(k:Hf J.walk)(l:J.pc=6)(m:Dg n x.word):Jj n (J.A6 x).1 (J.A6 x).2/\Kz st n (J.A6 x).2:=by
 obtain⟨e,g⟩:=Lh (x:=x) f j k m;obtain⟨pc,h,start,p,op,a,node,q⟩:=J;generalize d:Xf.A6 _ x=r;simp only[Xf.A6,Xf.done] at d e g ha i l;generalize Cq a x=s at d e g;obtain⟨o,c,b⟩:=s;have t:=FA e;simp only at d e g t;(repeat' split at d)<;>(subst d;grind [Jj,Qe,Bu,DR,DQ,BB,Cj,DS,DT,Dy,Eo,Dn,Ep,JA,Hn,J9,EE,JB,G8,JC,Gb,JD,Yy,Cy,CY,Es,Ey,Dj,G3,Jp,ET,Er,Eu,Bw,Zi,Bo,F6,Nz,JO,Nh,E7,FW,Hp,JK,Jw,EJ,JW])
def sP{st:Int}{n:Nat}{J:Xf}{c:Xi}{x:Xr}(f:st≠2)(h:Jj n J c)(A:c.kind≠12)(B:Qq st n c x):Jj n (J.next x).1 (J.next x).2/\Kz st n (J.next x).2:=by
 obtain⟨ha,o,G,p,b,q,H,I⟩:=h;have C:=FA o;have a:=@QN n J.start J.key ha;have K:J.pc≠-1:=λe=>A (p.1 e);have s:J.pc=0\/J.pc=1\/J.pc=2\/J.pc=3\/J.pc=4\/J.pc=5\/J.pc=6\/J.pc=7:=Zo;have t:=λ(J:Xf)=>@xp st n J x f;have u:=λ(J:Xf)=>@vy st n J x f;have v:=λ(J:Xf)=>@yL st n J x f;have g:=t J;have i:=u J;have j:=v J;have k:=t (J.An 4);have l:=u (J.An 1);have m:=v (J.An 6);clear t u v;obtain⟨pc,y,start,D,op,z,node,E⟩:=J;obtain⟨d,F,-⟩:=B;simp only[Xf.An] at*;generalize w:Xf.next _ x=r;rcases b with b|b|b<;>(rcases s with rfl|rfl|rfl|rfl|rfl|rfl|rfl|rfl)<;>
  simp only[Xf.next,Xf.insert,Xf.Ak,Xf.get,Xf.done,Xf.An,jn,b,Int.reduceEq,Int.reduceNeg,ko,jx,↓reduceIte] at w<;>(repeat' split at w)<;>
  (subst w;first
   |(exfalso;omega)
   |exact k ha b ((q b).2.1 Zd) a.1 a.2 (by trivial) d
   |exact g ha b ((q b).2.1 Zd) o ((q b).2.2 rfl) (by trivial) d
   |exact l ha (by rw[b];decide) a.1 a.2 (by trivial) d
   |exact i ha (by rw[b];decide) o (by grind) (by trivial) d
   |exact m ha b a.1 a.2 (by trivial) d
   |exact j ha b o (by grind) (by trivial) d
   |(clear g i j k l m a;clear o;grind [Jj,Bu,DR,DQ,BB,Cj,DS,DT,Dy,Eo,Dn,Ep,JA,Hn,J9,EE,JB,G8,JC,Gb,JD,Yy,Cy,CY,Es,Ey,Dj,G3,Jp,ET,Er,Eu,Bw,Zi,Bo,F6,Nz,JO,Nh,E7,FW,Hp,JK,Jw,EJ,JW])
   |(clear g i j k l m a;grind [Jj,Bu,DR,DQ,BB,Cj,DS,DT,Dy,Eo,Dn,Ep,JA,Hn,J9,EE,JB,G8,JC,Gb,JD,Yy,Cy,CY,Es,Ey,Dj,G3,Jp,ET,Er,Eu,Bw,Zi,Bo,F6,Nz,JO,Nh,E7,FW,Hp,JK,Jw,EJ,JW]))
def FK{n:Int}(a:-9223372036854775808<=n)(b:n<9223372036854775808):wr n=n:=IntWalk.i64_in _ ⟨a,Zo⟩
def N2(n:Nat)(s:Zv):Prop:=Jo n s.prev/\Dg n s.As
structure JY(n:Nat)(C:Xb):Prop where
 spot:N2 n C.spot
 nx:Dg n C.next
 s0:N2 n C.s0
 s1:N2 n C.s1
 s2:N2 n C.s2
 fd:Dg n C.found
 lv:C.level=0\/C.level=1\/C.level=2
structure TY(n:Nat)(C:Xb):Prop where
 b:JY n C
 pc:C.pc=-1\/C.pc=0\/(2<=C.pc/\C.pc<=9)
 on:3<=C.pc->C.pc<=8->Df n C.spot.As
def FC{n:Nat}:N2 n Zv.zero:=⟨Bo (k:=0) Zo Zo,Yy⟩
def lL{n:Nat}{b:Int}:TY n (Xb.new b):=
 ⟨⟨FC,Yy,FC,FC,FC,Yy,fq rfl⟩,db (fq rfl),λh=>by simp[Xb.new,Xb.zero] at h⟩
def Nb(st:Int)(n:Nat)(r:Xb × Xi × Bool):Prop:=
 TY n r.1/\(r.2.2=true->Kz st n r.2.1/\r.2.1.kind≠12/\r.1.pc≠-1)/\(r.2.2=false->r.1.pc=-1)
section
variable{st:Int}{n:Nat}{C:Xb}{x:Xr}
def JR(h:JY n C):Nb st n C.enter:=by
 have a:=h.lv;refine⟨⟨⟨h.spot,h.nx,h.s0,h.s1,h.s2,h.fd,h.lv⟩,db (db ⟨hJ 2,by show(2:Int)<=9;decide⟩),λh=>?_⟩,λ_=>⟨Cj h.spot.1 Zo Zo,by show(6:Int)≠12;decide,by show(2:Int)≠-1;decide⟩,λh=>by cases h⟩;have:(3:Int)<=2:=h;omega
def Hs(h:JY n C):Nb st n C.again:=by
 refine JR ⟨⟨Bo Zd Zd,h.spot.2⟩,h.nx,h.s0,h.s1,h.s2,h.fd,db (db rfl)⟩
def LV(h:JY n C)(a:Df n C.spot.As):Nb st n C.behind:=by
 have b:=h.lv;refine⟨⟨⟨h.spot,h.nx,h.s0,h.s1,h.s2,h.fd,h.lv⟩,db (db ⟨by show(2:Int)<=3;decide,by show(3:Int)<=9;decide⟩),λ_ _=>a⟩,λ_=>⟨Cj (Zi h.spot.2 Zo Zo) Zo Zo,by show(6:Int)≠12;decide,by show(3:Int)≠-1;decide⟩,λh=>by cases h⟩
def lK{l:Int}{s:Zv}(h:JY n C)(a:N2 n s):JY n (C.EW l s):=by
 unfold Xb.EW;split
 ·exact⟨h.spot,h.nx,a,h.s1,h.s2,h.fd,h.lv⟩
 ·split
  ·exact⟨h.spot,h.nx,h.s0,a,h.s2,h.fd,h.lv⟩
  ·exact⟨h.spot,h.nx,h.s0,h.s1,a,h.fd,h.lv⟩
def rC(C:Xb)(l:Int)(s:Zv):(C.EW l s).spot=C.spot/\(C.EW l s).level=C.level/\(C.EW l s).pc=C.pc:=by
 unfold Xb.EW;split
 ·exact⟨rfl,rfl,rfl⟩
 ·split<;>exact⟨rfl,rfl,rfl⟩
def JQ(h:JY n C):Nb st n C.lower:=by
 have a:=lK (l:=C.level) h h.spot;obtain⟨e,f,g⟩:=rC C C.level C.spot;unfold Xb.lower;generalize C.EW C.level C.spot=D at a e f g;clear h;simp only;clear e f g;split
 ·split
  ·refine⟨⟨⟨a.spot,a.nx,a.s0,a.s1,a.s2,Es a.spot.2,a.lv⟩,fq rfl,λh=>?_⟩,λh=>(by cases h),λ_=>rfl⟩;have:(3:Int)<=-1:=h;omega
  ·refine⟨⟨⟨a.spot,a.nx,a.s0,a.s1,a.s2,a.fd,a.lv⟩,fq rfl,λh=>?_⟩,λh=>(by cases h),λ_=>rfl⟩;have:(3:Int)<=-1:=h;omega
 ·rename_i j;have b:D.level≠0:=by simpa using j
  have c:=a.lv;have i:D.level-1=0\/D.level-1=1\/D.level-1=2:=Zo;split
  ·exact JR ⟨⟨Bo Zo Zo,a.spot.2⟩,a.nx,a.s0,a.s1,a.s2,a.fd,i⟩
  ·rename_i k;have d:¬D.spot.prev.sl=0:=by simpa using k
   have ha:vU n D.spot.prev:=by
    rcases a.spot.1 with h|h
    ·exact h
    ·exact absurd h.1 d
   refine⟨⟨⟨⟨Eu ⟨ha.1,ha.2.1,by show(0:Int)<=2+(D.level-1);omega,by show 2+(D.level-1)<10;omega⟩,a.spot.2⟩,a.nx,a.s0,a.s1,a.s2,a.fd,i⟩,db (db ⟨by show(2:Int)<=9;decide,by show(9:Int)<=9;decide⟩),λ_ h=>?_⟩,λ_=>⟨JP ?_,by show(7:Int)≠12;decide,by show(9:Int)≠-1;decide⟩,λh=>by cases h⟩
   ·have:(9:Int)<=8:=h;omega
   ·rcases c with h|h|h
    ·exact absurd h b
    ·simp only[h];exact d4 (d2 (fq ⟨rfl,rfl⟩))
    ·simp only[h];exact d4 (d2 (db ⟨rfl,rfl⟩))
def xy{l:Int}(h:l=0\/l=1\/l=2):TU (Yt (3*l+1) (3*l)):=by
 rcases h with rfl|rfl|rfl
 ·exact db (fq ⟨rfl,rfl⟩)
 ·exact d2 (db (fq ⟨rfl,rfl⟩))
 ·exact d4 (db (fq ⟨rfl,rfl⟩))
def xz{l:Int}(h:l=0\/l=1\/l=2):TU (Yt (3*l+2) (3*l+1)):=by
 rcases h with rfl|rfl|rfl
 ·exact fq ⟨rfl,rfl⟩
 ·exact d2 (fq ⟨rfl,rfl⟩)
 ·exact d4 (fq ⟨rfl,rfl⟩)
def Wv(h:JY n C):Nb st n C.on:=by
 unfold Xb.on;split
 ·exact JQ h
 ·rename_i b;have a:¬C.spot.As.sl=0:=by simpa using b
  exact⟨⟨⟨h.spot,h.nx,h.s0,h.s1,h.s2,h.fd,h.lv⟩,db (db ⟨by show(2:Int)<=8;decide,by show(8:Int)<=9;decide⟩),λ_ _=>Er h.spot.2 a⟩,λ_=>⟨JP (xy h.lv),by show(7:Int)≠12;decide,by show(8:Int)≠-1;decide⟩,λh=>by cases h⟩
def uL(f:st≠2)(h:TY n C)(A:C.pc≠-1)(e:Dg n x.word):Nb st n (C.step x):=by
 have B:=h.b.lv;have a:=h.b;unfold Xb.step;split
 ·split
  ·exact Hs a
  ·simp only;split
   ·rename_i d _ _;have d:C.pc=2:=by simpa using d
    exact JQ ⟨⟨a.spot.1,e⟩,a.nx,a.s0,a.s1,a.s2,a.fd,a.lv⟩
   ·rename_i d _ p;have d:C.pc=2:=by simpa using d
    have g:¬x.word.sl=0:=by simpa using p
    exact LV ⟨⟨a.spot.1,e⟩,a.nx,a.s0,a.s1,a.s2,a.fd,a.lv⟩ (Er e g)
 split
 ·rename_i i;have i:C.pc=3:=by simpa using i
  have c:=h.on Zo Zo;exact⟨⟨⟨a.spot,e,a.s0,a.s1,a.s2,a.fd,a.lv⟩,db (db ⟨by show(2:Int)<=4;decide,by show(4:Int)<=9;decide⟩),λ_ _=>c⟩,λ_=>⟨Bu (Zi a.spot.2 Zd Zd),by show(3:Int)≠12;decide,by show(4:Int)≠-1;decide⟩,λh=>by cases h⟩
 split
 ·rename_i j;have j:C.pc=4:=by simpa using j
  have c:=h.on Zo Zo;exact⟨⟨⟨a.spot,a.nx,a.s0,a.s1,a.s2,a.fd,a.lv⟩,db (db ⟨by show(2:Int)<=5;decide,by show(5:Int)<=9;decide⟩),λ_ _=>c⟩,λ_=>⟨Bu a.spot.1,by show(3:Int)≠12;decide,by show(5:Int)≠-1;decide⟩,λh=>by cases h⟩
 split
 ·rename_i k;have k:C.pc=5:=by simpa using k
  have c:=h.on Zo Zo;split
  ·exact Hs a
  split
  ·exact⟨⟨⟨a.spot,a.nx,a.s0,a.s1,a.s2,a.fd,a.lv⟩,db (db ⟨by show(2:Int)<=6;decide,by show(6:Int)<=9;decide⟩),λ_ _=>c⟩,λ_=>⟨BB a.spot.1 (F6 f (Ey a.nx)) rfl,by show(5:Int)≠12;decide,by show(6:Int)≠-1;decide⟩,λh=>by cases h⟩
  split
  ·exact JQ a
  ·exact⟨⟨⟨⟨Zi a.spot.2 Zo Zo,a.spot.2⟩,a.nx,a.s0,a.s1,a.s2,a.fd,a.lv⟩,db (db ⟨by show(2:Int)<=7;decide,by show(7:Int)<=9;decide⟩),λ_ _=>c⟩,λ_=>⟨JP (xz a.lv),by show(7:Int)≠12;decide,by show(7:Int)≠-1;decide⟩,λh=>by cases h⟩
 split
 ·rename_i l;have l:C.pc=6:=by simpa using l
  have c:=h.on Zo Zo;split
  ·exact Wv ⟨⟨a.spot.1,Ey a.nx⟩,a.nx,a.s0,a.s1,a.s2,a.fd,a.lv⟩
  ·exact Hs a
 split
 ·exact Hs a
 split
 ·rename_i m;have m:C.pc=7:=by simpa using m
  exact Wv ⟨⟨a.spot.1,a.nx⟩,a.nx,a.s0,a.s1,a.s2,a.fd,a.lv⟩
 split
 ·rename_i o;have o:C.pc=8:=by simpa using o
  exact LV a (h.on Zo Zo)
 split
 ·exact JR a
 ·rename_i q r s t u v w y z;simp only[jn] at q r s t u v w y z;have:=h.pc;omega
end
def mG(n:Int)(w:World)(e:Ending)(w':World):Prop:=e=.returned (.int .i64 n)/\Below w.heap.size w w'
def zT(b:Int):Int:=bif decide (4<=b) then 3 else bif decide (2<=b) then 2 else bif decide (1<=b) then 1 else 0
def qP:((List.range 256).all λk=>decide (0<=OD (k:Int)/\OD (k:Int)<256))=true:=Zk
def SO(b:Int)(c:0<=b)(d:b<256):0<=OD b/\OD b<256:=by
 have h:=g9.1 qP b.toNat (jt.2 Zo);have a:=iz h;rwa [show((b.toNat:Nat):Int)=b from Zo] at a
def xx(n:Int)(a:-9223372036854775808<=n)(b:n<9223372036854775808):wr n=n:=IntWalk.i64_in _ ⟨a,Zo⟩
def XN(k:Nat):Int:=bif decide (128<=k) then 8 else bif decide (64<=k) then 7 else bif decide (32<=k) then 6 else bif decide (16<=k) then 5 else bif decide (8<=k) then 4 else bif decide (4<=k) then 3 else bif decide (2<=k) then 2 else bif decide (1<=k) then 1 else 0
def xo:((List.range 8).all λk=>decide (wrap64 (wrap64 (XN k))=zT (k:Int)))=true:=Zk
def oO(T:ByteArray)(f:Nat->Int)(g:T.size=256)(h:((List.range 256).all λk=>decide (((T.data.getD k 0).toNat:Int)=f k))=true)(k:Nat)(b:k<256)(a:k<T.size):((T[k]'a).toNat:Int)=f k:=by
 have c:=g9.1 h k (jt.2 b);have d:=iz c;rw[←d];have e:k<T.data.size:=a;rw[kn,mn e];rfl
def kN(b:Int)(w:World)(g:0<=b)(h:b<8):Kp 192 #[.int .u64 b] w (mG (zT b) w):=by
 have a:(decide (4294967296<=b))=false:=by simp;omega
 have c:(decide (65536<=b))=false:=by simp;omega
 have d:(decide (256<=b))=false:=by simp;omega
 have e:IntKind.u8.wrap b=b:=by unfold IntKind.wrap;simp[IntKind.bits,IntKind.signed];omega
 have i:0<=b/\b<256:=Zo;go_enter Tryz.func192,Tryz.ntmps192;go_wp2_with fail;go_ret;refine⟨?_,fx _ _⟩;clear a c d e;obtain⟨k,rfl⟩:∃k:Nat,b=k:=⟨b.toNat,Zo⟩;refine(iy (λn:Int=>Ending.returned (.int .i64 (wrap64 (wrap64 n)))) (oO _ XN Zk Zk k Zo _)).trans ?_;exact iy (λn:Int=>Ending.returned (.int .i64 n)) (iz (g9.1 xo k (jt.2 Zo)))
def zS(b:Int)(w:World)(a:0<=b)(c:b<8):Kp 186 #[.int .u64 b] w (mG (zT b) w):=by
 have g:IntKind.u64.wrap b=b:=by unfold IntKind.wrap;simp[IntKind.bits,IntKind.signed];omega
 go_enter Tryz.func186,Tryz.ntmps186;go_wp2_with fail;refine(kN _ w a c).mono ?_;rintro e h ⟨rfl,d⟩;go_wp2_with fail;go_ret;exact⟨rfl,d⟩
def NN(b:Int)(w:World)(c:0<=b)(d:b<8):Kp 182 #[.int .i64 b] w (mG (Bb b) w):=by
 have h:b=0\/b=1\/b=2\/b=3\/b=4\/b=5\/b=6\/b=7:=Zo;rcases h with rfl|rfl|rfl|rfl|rfl|rfl|rfl|rfl
 ·go_enter Tryz.func182,Tryz.ntmps182;go_wp2_with fail;go_ret;exact⟨Zk,fx _ _⟩
 all_goals
  go_enter Tryz.func182,Tryz.ntmps182
  go_wp2_with fail
  refine(zS _ w Zd Zd).mono ?_
  rintro e g ⟨rfl,a⟩
  simp only[zT]
  go_wp2_with fail
  go_ret
  exact⟨Zk,a⟩
def qO(b:Int)(w:World)(a:0<=b)(c:b<256):Kp 194 #[.int .u8 b] w (λe w'=>e=.returned (.int .u8 (OD b))/\Below w.heap.size w w'):=by
 go_enter Tryz.func194,Tryz.ntmps194;go_wp2_with fail;go_ret;refine⟨?_,fx _ _⟩;obtain⟨k,rfl⟩:∃k:Nat,b=k:=⟨b.toNat,Zo⟩;refine iy (λn:Int=>Ending.returned (.int .u8 n)) (?_:_=OD (k:Int));exact oO _ (λk=>OD (k:Int)) Zk Zk k Zo _
def Nk(b:Int)(w:World)(a:0<=b)(c:b<256):Kp 193 #[.int .i64 b] w (mG (OD b) w):=by
 have g:IntKind.u8.wrap b=b:=by unfold IntKind.wrap;simp[IntKind.bits,IntKind.signed];omega
 go_enter Tryz.func193,Tryz.ntmps193;go_wp2_with fail;refine(qO _ w a c).mono ?_;rintro e h ⟨rfl,d⟩;have i:=SO b a c;go_wp2_with fail;go_ret;exact⟨by simp,d⟩
def Rr(b:Int)(w:World)(a:0<=b)(c:b<256):Kp 190 #[.int .i64 b] w (mG (MG b) w):=by
 have d1:decide (b<0)=false:=by simp;omega
 have d2:decide (255<b)=false:=by simp;omega
 have g:=SO b a c;unfold MG;rw[d1,d2];go_enter Tryz.func190,Tryz.ntmps190;go_wp2_with fail;refine(Nk _ w a c).mono ?_;rintro e h ⟨rfl,d⟩;go_wp2_with fail;go_ret;exact⟨by simp,d⟩
def KV(b:Int)(w:World)(a:0<=b)(d:b<8):Kp 189 #[.int .i64 b] w (mG (Yw b) w):=by
 have d1:decide (b<0)=false:=by simp;omega
 have d2:decide (8<=b)=false:=by simp;omega
 have g:=SO b a Zo;unfold Yw;rw[d1,d2];go_enter Tryz.func189,Tryz.ntmps189;go_wp2_with fail;refine(Nk _ w a Zo).mono ?_;rintro e h ⟨rfl,c⟩;go_wp2_with fail;go_ret;exact⟨by simp,c⟩
def rK(J:Xy)(x:Xr):Env:=IB [J.ii,x.ii] [J.bb,x.bb]
def yX:St:=⟨[],[(1,175,(ct [vs 0 9,[.bV 0],vs 9 4,[.bV 1],vs 13 12,[.bV 2],vs 25 4,[.bV 3,.iV 29]]))],[],10,0⟩
def jV:List SV:=[.c (.ptr 1 0),.agg ((ct [vs 30 4,[.bV 4,.bV 5]]))]
def rL(J:Xy)(x:Xr)(a:Nat)(w:World)(b:Bk w a 175 J.l.toArray):Kp 135 #[.pointer (some ⟨a,0,none⟩),.agg x.l.toArray] w λc w'=>c=.returned (Yq (J.next x).2)/\Bk w' a 175 ((J.next x).1.l).toArray/\Aq [a] w w':=by
 refine p1 (rK J x) [] 60 yX jV (J.next x) (λr=>(Yq r.2,(r.1.l).toArray)) X6 CF b ?_;exact vS1
def qt(J:Xx)(x:Xr):Env:=IB [J.ii,x.ii] [J.bb,x.bb]
def yh:St:=⟨[],[(1,179,(ct [vs 0 9,[.bV 0],vs 9 4,[.bV 1],vs 13 12,[.bV 2],vs 25 4,[.bV 3],vs 29 4,[.bV 4],vs 33 4,[.bV 5,.iV 37]]))],[],10,0⟩
def uH:List SV:=[.c (.ptr 1 0),.agg ((ct [vs 38 4,[.bV 6,.bV 7]]))]
def qu(J:Xx)(x:Xr)(a:Nat)(w:World)(b:Bk w a 179 J.l.toArray):Kp 145 #[.pointer (some ⟨a,0,none⟩),.agg x.l.toArray] w λc w'=>c=.returned (Yq (J.next x).2)/\Bk w' a 179 ((J.next x).1.l).toArray/\Aq [a] w w':=by
 refine p1 (qt J x) [] 60 yh uH (J.next x) (λr=>(Yq r.2,(r.1.l).toArray)) X6 CF b ?_;exact vS1
