/- Core: SymP, PM, PW, PN, PT, Rfi, Rfj, PL, PS, CClimb0, CClimb1, CClimb2, CPlace, Rfk. -/
import Derived.Test.YtaipogljokblkaaGreatDoorP06
set_option linter.all false
set_option maxRecDepth 100000
set_option maxHeartbeats 8000000
namespace Go.Proofs.YtaipogljokblkaaGreatDoor
open Go Go.RowKit
def mixed:Tryz.prog.follows .mixedOrders=true:=Zk
structure Xe where
 sl:Int
 gn:Int
 tg:Int
 nm:Int
 mark:Bool
 deriving DecidableEq
def Xe.l(x:Xe):List Value:=[.int .i64 x.sl]++[.int .i64 x.gn]++[.int .i64 x.tg]++[.int .i64 x.nm]++[.bool x.mark]
def Xe.zero:Xe:=⟨0,0,0,0,false⟩
structure Yc where
 sl:Int
 gn:Int
 fd:Int
 deriving DecidableEq
def Yc.l(x:Yc):List Value:=[.int .i64 x.sl]++[.int .i64 x.gn]++[.int .i64 x.fd]
def Yc.zero:Yc:=⟨0,0,0⟩
structure DI where
 code:Int
 val:Int
 deriving DecidableEq
def DI.l(x:DI):List Value:=[.int .i64 x.code]++[.int .i64 x.val]
def DI.zero:DI:=⟨0,0⟩
structure AV where
 kind:Int
 key:Int
 val:Int
 Al:Int
 deriving DecidableEq
def AV.l(x:AV):List Value:=[.int .i64 x.kind]++[.int .i64 x.key]++[.int .i64 x.val]++[.int .i64 x.Al]
def AV.zero:AV:=⟨0,0,0,0⟩
structure Xi where
 kind:Int
 AJ:Yc
 AU:Xe
 new:Xe
 i:Int
 j:Int
 BR:DI
 deriving DecidableEq
def Xi.l(x:Xi):List Value:=[.int .i64 x.kind]++x.AJ.l++x.AU.l++x.new.l++[.int .i64 x.i]++[.int .i64 x.j]++x.BR.l
def Xi.zero:Xi:=⟨0,Yc.zero,Xe.zero,Xe.zero,0,0,DI.zero⟩
structure Xr where
 word:Xe
 ok:Bool
 deriving DecidableEq
def Xr.l(x:Xr):List Value:=x.word.l++[.bool x.ok]
def Xr.zero:Xr:=⟨Xe.zero,false⟩
structure Bx where
 kind:Int
 AJ:Yc
 AU:Xe
 new:Xe
 deriving DecidableEq
def Bx.l(x:Bx):List Value:=[.int .i64 x.kind]++x.AJ.l++x.AU.l++x.new.l
def Bx.zero:Bx:=⟨0,Yc.zero,Xe.zero,Xe.zero⟩
structure BL where
 is:Bool
 low:Int
 KS:Int
 deriving DecidableEq
def BL.l(x:BL):List Value:=[.bool x.is]++[.int .i64 x.low]++[.int .i64 x.KS]
def BL.zero:BL:=⟨false,0,0⟩
structure Xw where
 ref:Xe
 A9:Int
 AF:Int
 deriving DecidableEq
def Xw.l(x:Xw):List Value:=x.ref.l++[.int .i64 x.A9]++[.int .i64 x.AF]
def Xw.zero:Xw:=⟨Xe.zero,0,0⟩
structure Xj where
 pc:Int
 last:Xi
 start:Yc
 key:Int
 prev:Yc
 As:Xe
 next:Xe
 k:Int
 found:Bool
 deriving DecidableEq
def Xj.l(x:Xj):List Value:=[.int .i64 x.pc]++x.last.l++x.start.l++[.int .i64 x.key]++x.prev.l++x.As.l++x.next.l++[.int .i64 x.k]++[.bool x.found]
def Xj.zero:Xj:=⟨0,Xi.zero,Yc.zero,0,Yc.zero,Xe.zero,Xe.zero,0,false⟩
structure Zv where
 prev:Yc
 As:Xe
 deriving DecidableEq
def Zv.l(x:Zv):List Value:=x.prev.l++x.As.l
def Zv.zero:Zv:=⟨Yc.zero,Xe.zero⟩
structure Xb where
 pc:Int
 last:Xi
 spot:Zv
 DC:Int
 level:Int
 next:Xe
 k:Int
 s0:Zv
 s1:Zv
 s2:Zv
 found:Xe
 deriving DecidableEq
def Xb.l(x:Xb):List Value:=[.int .i64 x.pc]++x.last.l++x.spot.l++[.int .i64 x.DC]++[.int .i64 x.level]++x.next.l++[.int .i64 x.k]++x.s0.l++x.s1.l++x.s2.l++x.found.l
def Xb.zero:Xb:=⟨0,Xi.zero,Zv.zero,0,0,Xe.zero,0,Zv.zero,Zv.zero,Zv.zero,Xe.zero⟩
structure Xy where
 pc:Int
 last:Xi
 op:AV
 node:Xe
 Qo:Xe
 val:Int
 deriving DecidableEq
def Xy.l(x:Xy):List Value:=[.int .i64 x.pc]++x.last.l++x.op.l++x.node.l++x.Qo.l++[.int .i64 x.val]
def Xy.zero:Xy:=⟨0,Xi.zero,AV.zero,Xe.zero,Xe.zero,0⟩
structure Xx where
 pc:Int
 last:Xi
 op:AV
 node:Xe
 h:Xe
 t:Xe
 n:Xe
 val:Int
 deriving DecidableEq
def Xx.l(x:Xx):List Value:=[.int .i64 x.pc]++x.last.l++x.op.l++x.node.l++x.h.l++x.t.l++x.n.l++[.int .i64 x.val]
def Xx.zero:Xx:=⟨0,Xi.zero,AV.zero,Xe.zero,Xe.zero,Xe.zero,Xe.zero,0⟩
structure Xf where
 pc:Int
 last:Xi
 start:Yc
 key:Int
 op:AV
 walk:Option Xj
 node:Xe
 val:Int
 deriving DecidableEq
def Xf.l(x:Xf)(p_walk:Value):List Value:=[.int .i64 x.pc]++x.last.l++x.start.l++[.int .i64 x.key]++x.op.l++[p_walk]++x.node.l++[.int .i64 x.val]
def Xf.zero:Xf:=⟨0,Xi.zero,Yc.zero,0,AV.zero,none,Xe.zero,0⟩
structure Xa where
 pc:Int
 last:Xi
 op:AV
 Ab:Option Xb
 node:Xe
 level:Int
 TD:Int
 val:Int
 deriving DecidableEq
def Xa.l(x:Xa)(p_climb:Value):List Value:=[.int .i64 x.pc]++x.last.l++x.op.l++[p_climb]++x.node.l++[.int .i64 x.level]++[.int .i64 x.TD]++[.int .i64 x.val]
def Xa.zero:Xa:=⟨0,Xi.zero,AV.zero,none,Xe.zero,0,0,0⟩
structure Xc where
 pc:Int
 last:Xi
 op:AV
 size:Int
 wanted:Int
 Ao:Int
 child:Int
 base:Xe
 node:Xe
 sentinel:Xe
 walk:Option Xj
 inner:Option Xf
 answer:DI
 count:Xe
 deriving DecidableEq
def Xc.l(x:Xc)(p_walk:Value)(p_inner:Value):List Value:=[.int .i64 x.pc]++x.last.l++x.op.l++[.int .i64 x.size]++[.int .i64 x.wanted]++[.int .i64 x.Ao]++[.int .i64 x.child]++x.base.l++x.node.l++x.sentinel.l++[p_walk]++[p_inner]++x.answer.l++x.count.l
def Xc.zero:Xc:=⟨0,Xi.zero,AV.zero,0,0,0,0,Xe.zero,Xe.zero,Xe.zero,none,none,DI.zero,Xe.zero⟩
abbrev wr(n:Int):Int:=IntKind.i64.wrap n
def Yx(w:Xe):Xe:=⟨w.sl,w.gn,0,0,false⟩
def A4(w r:Xe):Xe:=⟨r.sl,r.gn,wr (w.tg+1),0,false⟩
def Zc(w:Xe):Xe:=⟨w.sl,w.gn,wr (w.tg+1),w.nm,true⟩
def Y6(n:Int):Xe:=⟨0,0,0,n,false⟩
def Y5(w:Xe)(a:Int):Xe:=⟨0,0,wr (w.tg+1),wr (w.nm+a),false⟩
def Xh(w:Xe)(n:Int):Yc:=⟨w.sl,w.gn,n⟩
def B7(a b:Xe):Bool:=a.sl==b.sl&&(a.tg==b.tg&&(a.nm==b.nm&&a.mark==b.mark))
def root(n:Int):Yc:=⟨0,0,n⟩
def Xm(a:Yc):Xi:=⟨3,a,.zero,.zero,0,0,.zero⟩
def Xq(a:Yc)(w:Xe):Xi:=⟨4,a,.zero,w,0,0,.zero⟩
def Xp(a:Yc)(o n:Xe):Xi:=⟨5,a,o,n,0,0,.zero⟩
def Xg(a:Yc)(i:Int):Xi:=⟨6,a,.zero,.zero,i,0,.zero⟩
def Yt(i j:Int):Xi:=⟨7,.zero,.zero,.zero,i,j,.zero⟩
def Xu:Xi:=⟨8,.zero,.zero,.zero,0,0,.zero⟩
def Yi(w:Xe):Xi:=⟨9,.zero,w,.zero,0,0,.zero⟩
def Xk(w:Xe):Xi:=⟨10,.zero,w,.zero,0,0,.zero⟩
def X3(a b:Int):Xi:=⟨12,.zero,.zero,.zero,0,0,⟨a,b⟩⟩
def Yq(c:Xi):Value:=.agg c.l.toArray
def IE(c:Xi × Bool):Value:=.tuple #[.agg c.1.l.toArray,.bool c.2]
namespace Xj
def new(start:Yc)(key:Int):Xj:={Xj.zero with start:=start,key:=key,prev:=start}
def again(W:Xj):Xj × Xi × Bool:=({W with prev:=W.start,pc:=1},Xg W.start 1,true)
def behind(W:Xj):Xj × Xi × Bool:=({W with pc:=2},Xg (Xh W.As 2) 0,true)
def finish(W:Xj)(b:Bool):Xj × Xi × Bool:=({W with pc:=-1,found:=b},Xi.zero,false)
def on(W:Xj):Xj × Xi × Bool:=if W.As.sl==0 then W.finish false else({W with pc:=8},Yt 1 0,true)
def step(W:Xj)(x:Xr):Xj × Xi × Bool:=
 if W.pc==1 then
  if x.word.mark then W.again else
  let W:={W with As:=x.word}
  if x.word.sl==0 then W.finish false else W.behind
 else if W.pc==2 then({W with next:=x.word,pc:=3},Xm (Xh W.As 0),true)
 else if W.pc==3 then({W with k:=x.word.nm,pc:=4},Xm W.prev,true)
 else if W.pc==4 then
  if !B7 x.word W.As then W.again else
  if W.next.mark then({W with pc:=5},Xp W.prev W.As (A4 W.As W.next),true) else
  if decide (W.key<=W.k) then W.finish (W.k==W.key) else
  ({W with prev:=Xh W.As 2,pc:=7},Yt 2 1,true)
 else if W.pc==5 then
  if x.ok then({W with pc:=6},Xk W.As,true) else W.again
 else if W.pc==0 then W.again
 else if W.pc==6 then Xj.on {W with As:=A4 W.As W.next}
 else if W.pc==7 then Xj.on {W with As:=W.next}
 else if W.pc==8 then W.behind
 else(W,Xi.zero,false)
end Xj
namespace Xb
def new(DC:Int):Xb:={Xb.zero with DC:=DC}
def BU(C:Xb)(l:Int):Zv:=if l==0 then C.s0 else if l==1 then C.s1 else C.s2
def EW(C:Xb)(l:Int)(s:Zv):Xb:=if l==0 then{C with s0:=s} else if l==1 then{C with s1:=s} else{C with s2:=s}
def enter(C:Xb):Xb × Xi × Bool:=({C with pc:=2},Xg C.spot.prev (3*C.level+1),true)
def again(C:Xb):Xb × Xi × Bool:=Xb.enter {C with level:=2,spot:={C.spot with prev:=root 2}}
def behind(C:Xb):Xb × Xi × Bool:=({C with pc:=3},Xg (Xh C.spot.As (2+C.level)) (3*C.level),true)
def lower(C:Xb):Xb × Xi × Bool:=
 let C:=C.EW C.level C.spot
 if C.level==0 then
  let C:={C with pc:=-1}
  if !(C.spot.As.sl==0)&&C.k==C.DC then({C with found:=Yx C.spot.As},Xi.zero,false) else(C,Xi.zero,false)
 else
  let C:={C with level:=C.level-1}
  if C.spot.prev.sl==0 then Xb.enter {C with spot:={C.spot with prev:=root C.level}} else
  ({C with spot:={C.spot with prev:={C.spot.prev with fd:=2+C.level}},pc:=9},Yt (3*C.level+2) (3*C.level+5),true)
def on(C:Xb):Xb × Xi × Bool:=
 if C.spot.As.sl==0 then C.lower else({C with pc:=8},Yt (3*C.level+1) (3*C.level),true)
def step(C:Xb)(x:Xr):Xb × Xi × Bool:=
 if C.pc==2 then
  if x.word.mark then C.again else
  let C:={C with spot:={C.spot with As:=x.word}}
  if x.word.sl==0 then C.lower else C.behind
 else if C.pc==3 then({C with next:=x.word,pc:=4},Xm (Xh C.spot.As 0),true)
 else if C.pc==4 then({C with k:=x.word.nm,pc:=5},Xm C.spot.prev,true)
 else if C.pc==5 then
  if !B7 x.word C.spot.As then C.again else
  if C.next.mark then({C with pc:=6},Xp C.spot.prev C.spot.As (A4 C.spot.As C.next),true) else
  if decide (C.DC<=C.k) then C.lower else
  ({C with spot:={C.spot with prev:=Xh C.spot.As (2+C.level)},pc:=7},Yt (3*C.level+2) (3*C.level+1),true)
 else if C.pc==6 then
  if x.ok then Xb.on {C with spot:={C.spot with As:=A4 C.spot.As C.next}} else C.again
 else if C.pc==0 then C.again
 else if C.pc==7 then Xb.on {C with spot:={C.spot with As:=C.next}}
 else if C.pc==8 then C.behind
 else if C.pc==9 then C.enter
 else(C,Xi.zero,false)
end Xb
structure B5 where
 a:Option Go.Addr
 n:Nat
 c:Nat
 deriving DecidableEq
def B5.v(s:B5):Value:=.slice s.a s.n s.c
structure Xd where
 call:Xi
 step:Int
 AH:Bx
 word:Xe
 clock:Xe
 index:Int
 seen:B5
 Au:B5
 Aa:Int
 me:Int
 Ae:Int
 most:Int
 h0:Xe
 h1:Xe
 h2:Xe
 h3:Xe
 h4:Xe
 h5:Xe
 h6:Xe
 h7:Xe
 h8:Xe
 span:BL
 notes:B5
 A7:Int
 Az:Xr
 deriving DecidableEq
def Xd.l(x:Xd):List Value:=x.call.l++[.int .i64 x.step]++x.AH.l++x.word.l++x.clock.l++[.int .i64 x.index]++[x.seen.v]++[x.Au.v]++[.int .i64 x.Aa]++[.int .i64 x.me]++[.int .i64 x.Ae]++[.int .i64 x.most]++x.h0.l++x.h1.l++x.h2.l++x.h3.l++x.h4.l++x.h5.l++x.h6.l++x.h7.l++x.h8.l++x.span.l++[x.notes.v]++[.int .i64 x.A7]++x.Az.l
def Xd.zero:Xd:=⟨Xi.zero,0,Bx.zero,Xe.zero,Xe.zero,0,⟨none,0,0⟩,⟨none,0,0⟩,0,0,0,0,Xe.zero,Xe.zero,Xe.zero,Xe.zero,Xe.zero,Xe.zero,Xe.zero,Xe.zero,Xe.zero,BL.zero,⟨none,0,0⟩,0,Xr.zero⟩
def wz(w:Xe):Bool:=w.sl==0&&(w.gn==0&&(w.tg==0&&(w.nm==0&&!w.mark)))
def uq(a b:Xe):Bool:=a.sl==b.sl&&(a.gn==b.gn&&(a.tg==b.tg&&(a.nm==b.nm&&a.mark==b.mark)))
def XD(f n:Xe):Bool:=f.sl==n.sl&&(f.gn==n.gn&&(f.tg==0&&(f.nm==0&&!f.mark)))
namespace Xd
def AO(R:Xd):Bool:=R.Aa==2||R.Aa==3
def dating(R:Xd):Bool:=R.Aa==3||R.Aa==5
def EU(R:Xd):Bool:=R.Aa==4||R.Aa==5
def ask(R:Xd)(step:Int)(a:Bx):Xd:={R with step:=step,AH:=a}
def load(R:Xd)(step:Int)(a:Yc):Xd:=R.ask step ⟨1,a,.zero,.zero⟩
def advance(R:Xd)(step:Int):Xd:=R.ask step ⟨3,root 24,R.clock,Y5 R.clock 1⟩
def Dc(R:Xd)(n:Int):Xe:=
 bif n==0 then R.h0 else bif n==1 then R.h1 else bif n==2 then R.h2 else bif n==3 then R.h3 else bif n==4 then R.h4 else bif n==5 then R.h5 else bif n==6 then R.h6 else bif n==7 then R.h7 else R.h8
def SZ(R:Xd)(n:Int)(w:Xe):Xd:=
 bif n==0 then{R with h0:=w} else bif n==1 then{R with h1:=w} else bif n==2 then{R with h2:=w} else bif n==3 then{R with h3:=w} else bif n==4 then{R with h4:=w} else
 bif n==5 then{R with h5:=w} else bif n==6 then{R with h6:=w} else bif n==7 then{R with h7:=w} else{R with h8:=w}
def AL(a n:Int):Yc:=⟨0,0,wr (wr (25+wr (a*9))+n)⟩
def post(R:Xd)(step n:Int)(w:Xe):Xd:=(R.SZ n w).ask step ⟨2,AL R.me n,.zero,w⟩
def Fl(s:BL):Xe:=bif s.is then⟨0,0,s.KS,s.low,true⟩ else .zero
def DV(R:Xd)(step:Int)(s:BL):Xd:=Xd.ask {R with span:=s} step ⟨2,⟨0,0,wr (79+R.me)⟩,.zero,Fl s⟩
def clear(R:Xd):Xd:={R with call:=.zero,step:=0,AH:=.zero,word:=.zero,clock:=.zero,index:=0,seen:=⟨none,0,0⟩,Au:=⟨none,0,0⟩}
def finish(R:Xd)(x:Xr):Xd:={R.clear with Az:=x}
def done(R:Xd):Xd:=R.finish ⟨.zero,true⟩
def IN(R:Xd):List Int->Xd
 |[]=>R.done
 |n::r=>bif wz (R.Dc n) then R.IN r else Xd.post {R with index:=n} 4 n .zero
def Cw(R:Xd)(l:List Int):Xd:=
 bif R.EU&&!(!R.span.is&&(R.span.low==0&&R.span.KS==0)) then R.DV 2 .zero else
 bif R.AO then R.IN l else R.done
def A8(R:Xd)(c:Xi):Xd:={R.clear with call:=c}
def enter(R:Xd):Xd:=bif R.EU then R.load 3 (root 24) else R.done
def alloc(R:Xd):Xd:=bif R.dating then R.load 8 (root 24) else R.ask 1 ⟨4,.zero,.zero,.zero⟩
def hold(R:Xd)(i j:Int):Xd:=bif R.AO&&!uq (R.Dc i) (R.Dc j) then R.post 2 i (R.Dc j) else R.done
def Aw(R:Xd)(c:Xi):Xd:=
 let T:=R.A8 c
 bif c.kind==1 then T.enter else bif c.kind==2 then T.Cw [0,1,2,3,4,5,6,7,8] else bif c.kind==3 then T.load 1 c.AJ else
 bif c.kind==4 then T.ask 1 ⟨2,c.AJ,c.AU,c.new⟩ else bif c.kind==5 then T.ask 1 ⟨3,c.AJ,c.AU,c.new⟩ else
 bif c.kind==6 then T.load 5 c.AJ else bif c.kind==7 then T.hold c.i c.j else bif c.kind==8 then T.alloc else
 T.ask 2 ⟨5,.zero,c.AU,.zero⟩
def FV(R:Xd)(x:Xr):Xd:=
 let R:={R with word:=x.word}
 bif R.dating then R.load 6 (root 24) else
 bif R.Aa==2&&(!(x.word.sl==0)&&!XD (R.Dc R.call.i) x.word) then R.post 7 R.call.i (Yx x.word) else R.finish ⟨x.word,true⟩
def MS(R:Xd)(i a:Int):Bool:=
 bif R.Aa==3 then !wz (R.Dc i)&&(R.Dc i).nm==a else R.span.is&&R.span.KS==a
def Io(R:Xd)(x:Xr):Xd:=
 bif R.MS R.call.i x.word.nm then R.finish ⟨R.word,true⟩ else
 bif R.Aa==3 then R.post 7 R.call.i (Y6 x.word.nm) else
 R.DV 7 ⟨true,bif R.span.is then R.span.low else x.word.nm,x.word.nm⟩
end Xd
def cG(R:Xd):R.EU=(R.Aa==4||R.Aa==5):=rfl
def Uw(R:Xd):R.dating=(R.Aa==3||R.Aa==5):=rfl
def cH(R:Xd):R.AO=(R.Aa==2||R.Aa==3):=rfl
def BL.nul(s:BL):Bool:=!s.is&&(s.low==0&&s.KS==0)
def Sn(s:BL):(!s.is&&(s.low==0&&s.KS==0))=s.nul:=rfl
def cI(R:Xd)(i a:Int):R.MS i a=(bif R.Aa==3 then !wz (R.Dc i)&&(R.Dc i).nm==a else R.span.is&&R.span.KS==a):=rfl
def IB(a:List (List Int))(b:List (List Bool)):Env:=⟨λi=>a.flatten.getD i 0,λi=>b.flatten.getD i false,λ_=>.nilIface,λ_=>rfl⟩
def IA (a:List (List Int)) (b:List (List Bool)) (v:List Value) (h:∀ u∈v,u.oneCell' = true):Env:=⟨fun i=>a.flatten.getD i 0,fun i=>b.flatten.getD i false,fun i=>v.getD i .nilIface,fun i=>by
 rw[List.getD_eq_getElem?_getD];cases c:v[i]? with
 |none=>rfl
 |some u=>exact h u (List.mem_of_getElem? c)⟩
def AS{v:List Value}(h:v.all (·.oneCell')=true):∀u∈v,u.oneCell'=true:=λu a=>g9.1 h u a
def Xe.ii(x:Xe):List Int:=[x.sl,x.gn,x.tg,x.nm]
def Xe.bb(x:Xe):List Bool:=[x.mark]
def Yc.ii(x:Yc):List Int:=[x.sl,x.gn,x.fd]
def DI.ii(x:DI):List Int:=[x.code,x.val]
def AV.ii(x:AV):List Int:=[x.kind,x.key,x.val,x.Al]
def Xi.ii(x:Xi):List Int:=[[x.kind],x.AJ.ii,x.AU.ii,x.new.ii,[x.i,x.j],x.BR.ii].flatten
def Xi.bb(x:Xi):List Bool:=[x.AU.bb,x.new.bb].flatten
def Xr.ii(x:Xr):List Int:=x.word.ii
def Xr.bb(x:Xr):List Bool:=[x.word.bb,[x.ok]].flatten
def Bx.ii(x:Bx):List Int:=[[x.kind],x.AJ.ii,x.AU.ii,x.new.ii].flatten
def Bx.bb(x:Bx):List Bool:=[x.AU.bb,x.new.bb].flatten
def BL.ii(x:BL):List Int:=[x.low,x.KS]
def BL.bb(x:BL):List Bool:=[x.is]
def Xj.ii(x:Xj):List Int:=[[x.pc],x.last.ii,x.start.ii,[x.key],x.prev.ii,x.As.ii,x.next.ii,[x.k]].flatten
def Xj.bb(x:Xj):List Bool:=[x.last.bb,x.As.bb,x.next.bb,[x.found]].flatten
def Zv.ii(x:Zv):List Int:=[x.prev.ii,x.As.ii].flatten
def Zv.bb(x:Zv):List Bool:=x.As.bb
def Xb.ii(x:Xb):List Int:=[[x.pc],x.last.ii,x.spot.ii,[x.DC,x.level],x.next.ii,[x.k],x.s0.ii,x.s1.ii,x.s2.ii,x.found.ii].flatten
def Xb.bb(x:Xb):List Bool:=[x.last.bb,x.spot.bb,x.next.bb,x.s0.bb,x.s1.bb,x.s2.bb,x.found.bb].flatten
def Xy.ii(x:Xy):List Int:=[[x.pc],x.last.ii,x.op.ii,x.node.ii,x.Qo.ii,[x.val]].flatten
def Xy.bb(x:Xy):List Bool:=[x.last.bb,x.node.bb,x.Qo.bb].flatten
def Xx.ii(x:Xx):List Int:=[[x.pc],x.last.ii,x.op.ii,x.node.ii,x.h.ii,x.t.ii,x.n.ii,[x.val]].flatten
def Xx.bb(x:Xx):List Bool:=[x.last.bb,x.node.bb,x.h.bb,x.t.bb,x.n.bb].flatten
def Xf.ii(x:Xf):List Int:=[[x.pc],x.last.ii,x.start.ii,[x.key],x.op.ii,x.node.ii,[x.val]].flatten
def Xf.bb(x:Xf):List Bool:=[x.last.bb,x.node.bb].flatten
def Xa.ii(x:Xa):List Int:=[[x.pc],x.last.ii,x.op.ii,x.node.ii,[x.level,x.TD,x.val]].flatten
def Xa.bb(x:Xa):List Bool:=[x.last.bb,x.node.bb].flatten
def Xc.bb(x:Xc):List Bool:=[x.last.bb,x.base.bb,x.node.bb,x.sentinel.bb,x.count.bb].flatten
def Xd.ii(x:Xd):List Int:=[x.call.ii,[x.step],x.AH.ii,x.word.ii,x.clock.ii,[x.index,x.Aa,x.me,x.Ae,x.most],x.h0.ii,x.h1.ii,x.h2.ii,x.h3.ii,x.h4.ii,x.h5.ii,x.h6.ii,x.h7.ii,x.h8.ii,x.span.ii,[x.A7],x.Az.ii].flatten
def Xd.bb(x:Xd):List Bool:=[x.call.bb,x.AH.bb,x.word.bb,x.clock.bb,x.h0.bb,x.h1.bb,x.h2.bb,x.h3.bb,x.h4.bb,x.h5.bb,x.h6.bb,x.h7.bb,x.h8.bb,x.span.bb,x.Az.bb].flatten
def Xd.iL(x:Xd):List Int:=[x.call.ii,[x.step],x.AH.ii,x.word.ii,x.clock.ii,[x.index,(x.seen.n:Int),(x.Au.n:Int),x.Aa,x.me,x.Ae,x.most],x.h0.ii,x.h1.ii,x.h2.ii,x.h3.ii,x.h4.ii,x.h5.ii,x.h6.ii,x.h7.ii,x.h8.ii,x.span.ii,[(x.notes.n:Int),x.A7],x.Az.ii].flatten
section
variable{α R:Type}{t:Yd α}{e:Env}{Q:α->R->Prop}{s:Gj}{a b r:R}{c d f:Bool}
def pN(h:PO t e Q s (bif c then b else a)):PO t e Q s (bif !c then a else b):=wh h
def pA(h:PO t e Q s (bif c then(bif d then a else b) else b)):PO t e Q s (bif c&&d then a else b):=wj h
def pO(h:PO t e Q s (bif c then a else(bif d then a else b))):PO t e Q s (bif c||d then a else b):=P7 h
def pB(h:PO t e Q s (bif c then(bif d then a else b) else(bif f then a else b))):PO t e Q s (bif (bif c then d else f) then a else b):=R1 h
def pF(h:PO t e Q s b)(i:c=false:=by assumption):PO t e Q s (bif c then a else b):=Jz i h
def pT(h:PO t e Q s a)(i:c=true:=by assumption):PO t e Q s (bif c then a else b):=Jy i h
def pU(h:PO t e Q s b)(i:c=false:=by with_unfolding_all rfl):PO t e Q s (bif c then a else b):=Jz i h
def pV(h:PO t e Q s a)(i:c=true:=by with_unfolding_all rfl):PO t e Q s (bif c then a else b):=Jy i h
def pC(h:PO t e Q (IZ (t.nx s) true s) a)(i:PO t e Q (IZ (t.nx s) false s) b)(j:(t.nx s).den e=c:=by kernel_rfl):PO t e Q s (bif c then a else b):=R0 j h i
def pK(h:c=true->PO t e Q (IZ (t.nx s) true s) a)(i:c=false->PO t e Q (IZ (t.nx s) false s) b)(j:(t.nx s).den e=c:=by kernel_rfl):PO t e Q s (bif c then a else b):=wi j h i
end
def Cp{e:Env}{b:BT}{v:Bool}{s:Gj}(h:b.den e=v)(i:Bd e s):Bd e ((b,v)::s):=Ds h i
def CF{e:Env}:Bd e []:=Ht rfl
def l1{t:Yd (SV × Heap)}{e:Env}{T:TypeId}{h:Heap}{s:Gj}{R:Type}{a:R}{g:R->Value × Array Value}(i:(t.lv s).all (mK (VG T h))=true:=by kernel_rfl)(j:∀k,(t.lv s).map (λo=>o.map (rX e k))=(t.lv s).map λ_=>some (g a):=by intro k;kernel_rfl):PO t e (λx r=>Q1 e T h x (g r)) s a:=rH i j
def l2{i:Nat}{t:Yd (SV × Heap)}{e:Env}{T h:TypeId}{j:Heap}{s:Gj}{R:Type}{a:R}{g:R->Value × Array Value × Option (Array Value)}(l:(t.lv s).all (mK (T1 i T h j))=true:=by kernel_rfl)(m:∀k,(t.lv s).map (λo=>o.map (rV i e k))=(t.lv s).map λ_=>some (g a):=by intro k;kernel_rfl):PO t e (λx r=>Q2 i e T h j x (g r)) s a:=rG l m
def lE{t:Yd (SV × Nat × Heap)}{e:Env}{T:TypeId}{h:Heap}{s:Gj}{R:Type}{a:R}{g:R->Value × Nat × Array Value}(i:(t.lv s).all (mK (TT T h))=true:=by kernel_rfl)(j:∀k,(t.lv s).map (λo=>o.map (rU e k))=(t.lv s).map λ_=>some (g a):=by intro k;kernel_rfl):PO t e (λx r=>QE e T h x (g r)) s a:=rF i j
def l0{t:Yd (SV × Heap)}{e:Env}{s:Gj}{R:Type}{a:R}{g:R->Value}(h:(t.lv s).all (mK λ_=>true)=true:=by kernel_rfl)(i:∀k,(t.lv s).map (λo=>o.map (zB e k))=(t.lv s).map λ_=>some (g a):=by intro k;kernel_rfl):PO t e (λx r=>Q0 e x (g r)) s a:=rI h i
section
variable{P:Program}{f:Nat}{T:TypeId}{g:Nat}{w:World}{args' row:Array Value}{R:Type}
def p1(e:Env)(S:List X8)(n:Nat)(st:St)(args:List SV)(r:R)(G:R->Value × Array Value)(o:E5 P e S)(k:Bd e st.Co)(p:Bk w g T row)(h:PO (Dq (exec P S n (.call f args) st)) e (λx r=>Q1 e T st.hp x (G r)) st.Co r)
  (q:P.follows .mixedOrders=true:=by exact mixed)(u:st.hp=[(1,T,cellAt 1 st.hp)]:=by kernel_rfl)(v:row=Yp e (DF [g]) (cellAt 1 st.hp):=by kernel_rfl)(i:Rt (Ym st.hp) st.hp=true:=by kernel_rfl)(j:args.all (Jk (Ym st.hp))=true:=by kernel_rfl)(ha:args'=(args.map (SV.den e (DF [g]))).toArray:=by kernel_rfl)
  (l:HJ S=true:=by kernel_rfl)(m:¬f=DG:=by decide):Calls P f args' w λy w'=>y=.returned (G r).1/\Bk w' g T (G r).2/\Aq [g] w w':=po1 q o u k (Y1 p v) i j ha h l m
def p0(e:Env)(S:List X8)(n:Nat)(st:St)(args:List SV)(r:R)(G:R->Value)(m:E5 P e S)(j:Bd e st.Co)(h:PO (Dq (exec P S n (.call f args) st)) e (λx r=>Q0 e x (G r)) st.Co r)
  (o:P.follows .mixedOrders=true:=by exact mixed)(p:st.hp=[]:=by kernel_rfl)(i:args.all (Jk [])=true:=by kernel_rfl)(ha:args'=(args.map (SV.den e (DF []))).toArray:=by kernel_rfl)(k:HJ S=true:=by kernel_rfl)(l:¬f=DG:=by decide):
  Calls P f args' w λq w'=>q=.returned (G r)/\Aq [] w w':=po0 o m p j h i ha k l
def pE{Φ:Hg}{F:Nat->Prop}(e:Env)(S:List X8)(n:Nat)(st:St)(args:List SV)(r:R)(G:R->Value × Nat × Array Value)(m:DE P e Φ S)(k:Bd e st.Co)(o:Bk w g T row)(f1:Φ.P st.ph w F)(f2:¬F g)(f3:∀b,F b->b<w.heap.size)
  (h:PO (Ro (exec P S n (.call f args) st)) e (λx r=>QE e T st.hp x (G r)) st.Co r)
  (p:P.follows .mixedOrders=true:=by exact mixed)(q:st.hp=[(1,T,cellAt 1 st.hp)]:=by kernel_rfl)(u:row=Yp e (DF [g]) (cellAt 1 st.hp):=by kernel_rfl)(i:Rt (Ym st.hp) st.hp=true:=by kernel_rfl)(j:args.all (Jk (Ym st.hp))=true:=by kernel_rfl)(ha:args'=(args.map (SV.den e (DF [g]))).toArray:=by kernel_rfl)(l:¬f=DG:=by decide):
  Calls P f args' w λv w'=>KG Φ (G r).2.1 F g T (G r).2.2 (G r).1 w v w':=poE p m q k (Y1 o u) f1 f2 f3 h i j ha l
def p2{j:List Nat}(e:Env)(S:List X8)(n:Nat)(st:St)(args:List SV)(i:Nat)(T A:TypeId)(r:R)(V:R->Value)(u:R->Value->List Value)(k:R->Option (Array Value))(Sub:R->World->Value->List Nat->Prop)
  (H:E5 P e S)(v:Bd e st.Co)(m:∀x∈st.hp,Bk w (DF j x.1) x.2.1 (Yp e (DF j) x.2.2))(B:j.Nodup)
  (C:∀r w,k r=none->Sub r w (.pointer none) [])(D:∀r w g cs,k r=some cs->Bk w g A cs->Sub r w (.pointer (some ⟨g,0,none⟩)) [g])
  (h:PO (Dq (exec P S n (.call f args) st)) e (λx r=>Q2 i e T A st.hp x (V r,(u r (.pointer none)).toArray,k r)) st.Co r)
  (hJL:∀r q,u r q=(u r (.pointer none)).set i q:=by intro r q;rfl)
  (I:P.follows .mixedOrders=true:=by exact mixed)(y:(st.hp.map λx=>DF j x.1)=j:=by kernel_rfl)(J:Ym st.hp=st.hp.map (·.1):=by kernel_rfl)(o:Rt (Ym st.hp) st.hp=true:=by kernel_rfl)(p:args.all (Jk (Ym st.hp))=true:=by kernel_rfl)(ha:args'=(args.map (SV.den e (DF j))).toArray:=by kernel_rfl)
  (l1:FH 1 (Ym st.hp)=true:=by kernel_rfl)(K:DF j 1=g:=by kernel_rfl)(E:HJ S=true:=by kernel_rfl)(F:¬f=DG:=by decide):Calls P f args' w λL w'=>Gh (Sub r) T (u r) (V r) g j w L w':=
 po2 i T A g V u k Sub I H v m o p (by rw [y];exact B) ha (fun l G=>by
  rw[J] at G;obtain⟨z,M,rfl⟩:=j7.1 G;have:=n9 (f:=λx:Nat × TypeId × List SC=>DF j x.1) M;rwa [y] at this) l1 K (hJL r) (C r) (D r) h E F
end
def Cq(o:Option Xj)(x:Xr):Option Xj × Xi × Bool:=
 match o with
 |none=>(none,Xi.zero,false)
 |some W=>(some (W.step x).1,(W.step x).2.1,(W.step x).2.2)
def Li(o:Option Xj):Bool:=match o with|none=>false|some W=>W.found
def AM(o:Option Xj):Yc:=match o with|none=>Yc.zero|some W=>W.prev
def Yu(o:Option Xj):Xe:=match o with|none=>Xe.zero|some W=>W.As
def CG(o:Option Xj):Xe:=match o with|none=>Xe.zero|some W=>W.next
namespace Xf
def from_(start:Yc)(key:Int)(op:AV):Xf:={Xf.zero with start:=start,key:=key,op:=op}
def done(J:Xf)(a b:Int):Xf × Xi:=({J with pc:=-1,last:=X3 a b},X3 a b)
def An(J:Xf)(step:Int):Xf:={J with walk:=some (Xj.new J.start J.key),pc:=step}
def AE(J:Xf)(x:Xr):Xf × Xi:=
 let r:=Cq J.walk x
 let J:={J with walk:=r.1}
 if r.2.2 then(J,r.2.1) else
 if Li J.walk then({J with pc:=5},Yi J.node) else
 ({J with pc:=6},Xq (Xh J.node 2) (Yx (Yu J.walk)))
def insert(J:Xf)(x:Xr):Xf × Xi:=
 if J.pc==0 then({J with pc:=1},Xu)
 else if J.pc==1 then
  if !x.ok then J.done 4 0 else({J with node:=x.word,pc:=2},Xq (Xh x.word 0) (Y6 J.key))
 else if J.pc==2 then({J with pc:=3},Xq (Xh J.node 1) (Y6 J.op.val))
 else if J.pc==7 then
  if x.ok then J.done 1 0 else(J.An 4).AE x
 else if J.pc==3 then(J.An 4).AE x
 else if J.pc==4 then J.AE x
 else if J.pc==5 then J.done 3 0
 else if J.pc==6 then({J with pc:=7},Xp (AM J.walk) (Yu J.walk) (A4 (Yu J.walk) J.node))
 else(J,J.last)
def Ay(J:Xf)(x:Xr):Xf × Xi:=
 let r:=Cq J.walk x
 let J:={J with walk:=r.1}
 if r.2.2 then(J,r.2.1) else
 if !Li J.walk then J.done 2 0 else
 ({J with pc:=2},Xm (Xh (Yu J.walk) 1))
def A6(J:Xf)(x:Xr):Xf × Xi:=
 let r:=Cq J.walk x
 let J:={J with walk:=r.1}
 if r.2.2 then(J,r.2.1) else J.done 1 J.val
def Ak(J:Xf)(x:Xr):Xf × Xi:=
 if J.pc==3 then
  if x.ok then({J with pc:=4},Xp (AM J.walk) (Yu J.walk) (A4 (Yu J.walk) (CG J.walk))) else(J.An 1).Ay x
 else if J.pc==0 then(J.An 1).Ay x
 else if J.pc==1 then J.Ay x
 else if J.pc==2 then({J with val:=x.word.nm,pc:=3},Xp (Xh (Yu J.walk) 2) (CG J.walk) (Zc (CG J.walk)))
 else if J.pc==4 then
  if x.ok then({J with pc:=5},Xk (Yu J.walk)) else(J.An 6).A6 x
 else if J.pc==6 then J.A6 x
 else if J.pc==5 then J.done 1 J.val
 else(J,J.last)
def get(J:Xf)(x:Xr):Xf × Xi:=
 if J.pc==0 then(J.An 1).Ay x
 else if J.pc==1 then J.Ay x
 else if J.pc==2 then J.done 1 x.word.nm
 else(J,J.last)
def next(J:Xf)(x:Xr):Xf × Xi:=
 if J.op.kind==6 then J.insert x
 else if J.op.kind==7 then J.Ak x
 else J.get x
end Xf
def DD(w:World)(p:Value)(W:Option Xj)(F:List Nat):Prop:=
 match W with
 |none=>p=.pointer none/\F=[]
 |some W=>∃g,p=.pointer (some ⟨g,0,none⟩)/\F=[g]/\Bk w g 261 W.l.toArray
def LitR(w:World)(g:Nat)(J:Xf)(F:List Nat):Prop:=
 ∃q a,F=g::a/\Bk w g 206 (J.l q).toArray/\DD w q J.walk a
def K5(w:World)(g:Nat)(J:Xf)(F:List Nat):Prop:=LitR w g J F/\F.Nodup
def FD(C:Xb)(l:Int):Zv:=if decide (l<0) then Zv.zero else if decide (3<=l) then Zv.zero else C.BU l
def Yg(o:Option Xb)(x:Xr):Option Xb × Xi × Bool:=
 match o with
 |none=>(none,Xi.zero,false)
 |some C=>(some (C.step x).1,(C.step x).2.1,(C.step x).2.2)
def Bh(o:Option Xb):Xe:=match o with|none=>Xe.zero|some C=>C.found
def Za(o:Option Xb)(l:Int):Zv:=match o with|none=>Zv.zero|some C=>FD C l
def mW(f n:Xe):Bool:=f.sl==n.sl&&(f.gn==n.gn&&(f.tg==0&&(f.nm==0&&!f.mark)))
def XE(a b:Xe):Bool:=a.sl==b.sl&&a.gn==b.gn
namespace Xa
def new(op:AV):Xa:={Xa.zero with op:=op}
def done(J:Xa)(a b:Int):Xa × Xi:=({J with pc:=-1,last:=X3 a b},X3 a b)
def An(J:Xa)(step a:Int):Xa:={J with Ab:=some (Xb.new a),pc:=step}
def part(J:Xa)(b:Int):Xa × Xi:=({J with TD:=b,pc:=101},Xm (Xh J.node 7))
def link(J:Xa):Xa × Xi:=bif decide (J.op.Al<=J.level) then J.part 1 else({J with pc:=9},Xm (Xh J.node (wr (2+J.level))))
def look(J:Xa):Xa × Xi:=({J with pc:=4},Xm (Xh J.node (wr (2+J.level))))
def Cg(J:Xa)(a:Int):Xa × Xi:=
 let J:={J with level:=a}
 bif decide (a<J.op.Al) then({J with pc:=7},Xq (Xh J.node (wr (2+a))) (Yx (Za J.Ab a).As)) else
 ({J with pc:=8},Xp (Za J.Ab 0).prev (Za J.Ab 0).As (A4 (Za J.Ab 0).As J.node))
def BP(J:Xa)(x:Xr):Xa × Xi:=
 let r:=Yg J.Ab x
 let J:={J with Ab:=r.1}
 bif r.2.2 then(J,r.2.1) else
 bif !((Bh J.Ab).sl==0) then({J with pc:=6},Yi J.node) else J.Cg 0
def insert(J:Xa)(x:Xr):Xa × Xi:=
 bif J.pc==0 then({J with pc:=1},Xu)
 else bif J.pc==1 then
  bif !x.ok then J.done 4 0 else({J with node:=x.word,pc:=2},Xq (Xh x.word 0) (Y6 J.op.key))
 else bif J.pc==2 then({J with pc:=3},Xq (Xh J.node 1) (Y6 J.op.val))
 else bif J.pc==3 then({J with pc:=4},Xq (Xh J.node 6) (Y6 J.op.Al))
 else bif J.pc==6 then J.done 3 0
 else bif J.pc==8 then
  bif x.ok then Xa.link {J with level:=1} else(J.An 5 J.op.key).BP x
 else bif J.pc==4 then(J.An 5 J.op.key).BP x
 else bif J.pc==5 then J.BP x
 else bif J.pc==7 then J.Cg (wr (J.level+1))
 else(J,J.last)
def AK(J:Xa)(x:Xr):Xa × Xi:=
 let r:=Yg J.Ab x
 let J:={J with Ab:=r.1}
 bif r.2.2 then(J,r.2.1) else
 bif !mW (Bh J.Ab) J.node then J.part 1 else J.link
def raise(J:Xa)(x:Xr):Xa × Xi:=
 let s:=Za J.Ab J.level
 bif J.pc==9 then
  bif x.word.mark then J.part 1 else
  bif !XE x.word s.As then({J with pc:=10},Xp (Xh J.node (wr (2+J.level))) x.word (A4 x.word s.As)) else
  ({J with pc:=11},Xp s.prev s.As (A4 s.As J.node))
 else bif J.pc==10 then
  bif !x.ok then J.link else({J with pc:=11},Xp s.prev s.As (A4 s.As J.node))
 else bif J.pc==11 then
  bif x.ok then Xa.link {J with level:=wr (J.level+1)} else(J.An 12 J.op.key).AK x
 else bif J.pc==12 then J.AK x
 else(J,J.last)
def Bt(J:Xa)(x:Xr)(n:Int):Xa × Xi:=
 let r:=Yg J.Ab x
 let J:={J with Ab:=r.1}
 bif r.2.2 then(J,r.2.1) else
 let J:={J with node:=Bh J.Ab}
 bif J.node.sl==0 then J.done 2 0 else({J with pc:=2},Xm (Xh J.node n))
def Ca(J:Xa)(x:Xr):Xa × Xi:=
 let r:=Yg J.Ab x
 let J:={J with Ab:=r.1}
 bif r.2.2 then(J,r.2.1) else J.part 2
def Ak(J:Xa)(x:Xr):Xa × Xi:=
 bif J.pc==0 then(J.An 1 J.op.key).Bt x 6
 else bif J.pc==1 then J.Bt x 6
 else bif J.pc==2 then
  bif decide (x.word.nm<1) then({J with level:=0,pc:=3},Xm (Xh J.node 1)) else
  bif decide (3<x.word.nm) then({J with level:=0,pc:=3},Xm (Xh J.node 1)) else
  ({J with level:=wr (x.word.nm-1),pc:=3},Xm (Xh J.node 1))
 else bif J.pc==3 then Xa.look {J with val:=x.word.nm}
 else bif J.pc==4 then
  bif !x.word.mark then({J with pc:=5},Xp (Xh J.node (wr (2+J.level))) x.word (Zc x.word)) else
  bif J.level==0 then J.done 2 0 else Xa.look {J with level:=wr (J.level-1)}
 else bif J.pc==5 then
  bif !x.ok then J.look else
  bif decide (0<J.level) then Xa.look {J with level:=wr (J.level-1)} else(J.An 6 (wr (J.op.key+1))).Ca x
 else bif J.pc==6 then J.Ca x
 else(J,J.last)
def fin(J:Xa)(x:Xr):Xa × Xi:=
 let r:=Yg J.Ab x
 let J:={J with Ab:=r.1}
 bif r.2.2 then(J,r.2.1) else({J with pc:=104},Xk J.node)
def finish(J:Xa)(x:Xr):Xa × Xi:=
 bif J.pc==101 then
  bif x.word.nm==0 then({J with pc:=102},Xp (Xh J.node 7) x.word (Y5 x.word J.TD)) else(J.An 103 (wr (J.op.key+1))).fin x
 else bif J.pc==102 then
  bif x.ok then J.done 1 J.val else(J.An 103 (wr (J.op.key+1))).fin x
 else bif J.pc==104 then J.done 1 J.val
 else J.fin x
def get(J:Xa)(x:Xr):Xa × Xi:=
 bif J.pc==0 then(J.An 1 J.op.key).Bt x 1
 else bif J.pc==1 then J.Bt x 1
 else bif J.pc==2 then J.done 1 x.word.nm
 else(J,J.last)
def next(J:Xa)(x:Xr):Xa × Xi:=
 bif J.pc==-1 then(J,J.last)
 else bif decide (101<=J.pc) then J.finish x
 else bif J.op.kind==6&&decide (9<=J.pc) then J.raise x
 else bif J.op.kind==6 then J.insert x
 else bif J.op.kind==7 then J.Ak x
 else J.get x
end Xa
def Ci(w:World)(p:Value)(C:Option Xb)(F:List Nat):Prop:=
 match C with
 |none=>p=.pointer none/\F=[]
 |some C=>∃g,p=.pointer (some ⟨g,0,none⟩)/\F=[g]/\Bk w g 284 C.l.toArray
def SteR(w:World)(g:Nat)(J:Xa)(F:List Nat):Prop:=
 ∃q a,F=g::a/\Bk w g 191 (J.l q).toArray/\Ci w q J.Ab a
def WM(w:World)(g:Nat)(J:Xa)(F:List Nat):Prop:=SteR w g J F/\F.Nodup
def yx(C:Xb):Prop:=C.level=0\/C.level=1\/C.level=2
def bE(C:Xb)(x:Xr):Env:=IB [[C.pc],C.last.ii,C.spot.ii,[C.DC],C.next.ii,[C.k],C.s0.ii,C.s1.ii,C.s2.ii,C.found.ii,x.ii] [C.bb,x.bb]
def lQ:St:=⟨[],[(1,284,(ct [vs 0 9,[.bV 0],vs 9 4,[.bV 1],vs 13 11,[.bV 2,.iV 24,.int (.lit 0)],vs 25 4,[.bV 3],vs 29 8,[.bV 4],vs 37 7,[.bV 5],vs 44 7,[.bV 6],vs 51 4,[.bV 7]]))],[],10,0⟩
def Wy:List SV:=[.c (.ptr 1 0),.agg ((ct [vs 55 4,[.bV 8,.bV 9]]))]
def bF(C:Xb)(x:Xr)(a:Nat)(w:World)(b:Bk w a 284 ({C with level:=0}:Xb).l.toArray):Kp 206 #[.pointer (some ⟨a,0,none⟩),.agg x.l.toArray] w λc w'=>c=.returned (IE (Xb.step {C with level:=0} x).2)/\Bk w' a 284 ((Xb.step {C with level:=0} x).1.l).toArray/\Aq [a] w w':=by
 refine p1 (bE C x) [] 60 lQ Wy (Xb.step {C with level:=0} x) (λr=>(IE r.2,(r.1.l).toArray)) X6 CF b ?_;exact vS8
def bC(C:Xb)(x:Xr):Env:=IB [[C.pc],C.last.ii,C.spot.ii,[C.DC],C.next.ii,[C.k],C.s0.ii,C.s1.ii,C.s2.ii,C.found.ii,x.ii] [C.bb,x.bb]
def lP:St:=⟨[],[(1,284,(ct [vs 0 9,[.bV 0],vs 9 4,[.bV 1],vs 13 11,[.bV 2,.iV 24,.int (.lit 1)],vs 25 4,[.bV 3],vs 29 8,[.bV 4],vs 37 7,[.bV 5],vs 44 7,[.bV 6],vs 51 4,[.bV 7]]))],[],10,0⟩
def Wx:List SV:=[.c (.ptr 1 0),.agg ((ct [vs 55 4,[.bV 8,.bV 9]]))]
def bD(C:Xb)(x:Xr)(a:Nat)(w:World)(b:Bk w a 284 ({C with level:=1}:Xb).l.toArray):Kp 206 #[.pointer (some ⟨a,0,none⟩),.agg x.l.toArray] w λc w'=>c=.returned (IE (Xb.step {C with level:=1} x).2)/\Bk w' a 284 ((Xb.step {C with level:=1} x).1.l).toArray/\Aq [a] w w':=by
 refine p1 (bC C x) [] 60 lP Wx (Xb.step {C with level:=1} x) (λr=>(IE r.2,(r.1.l).toArray)) X6 CF b ?_;exact vS8
def bA(C:Xb)(x:Xr):Env:=IB [[C.pc],C.last.ii,C.spot.ii,[C.DC],C.next.ii,[C.k],C.s0.ii,C.s1.ii,C.s2.ii,C.found.ii,x.ii] [C.bb,x.bb]
def lO:St:=⟨[],[(1,284,(ct [vs 0 9,[.bV 0],vs 9 4,[.bV 1],vs 13 11,[.bV 2,.iV 24,.int (.lit 2)],vs 25 4,[.bV 3],vs 29 8,[.bV 4],vs 37 7,[.bV 5],vs 44 7,[.bV 6],vs 51 4,[.bV 7]]))],[],10,0⟩
def Ww:List SV:=[.c (.ptr 1 0),.agg ((ct [vs 55 4,[.bV 8,.bV 9]]))]
def bB(C:Xb)(x:Xr)(a:Nat)(w:World)(b:Bk w a 284 ({C with level:=2}:Xb).l.toArray):Kp 206 #[.pointer (some ⟨a,0,none⟩),.agg x.l.toArray] w λc w'=>c=.returned (IE (Xb.step {C with level:=2} x).2)/\Bk w' a 284 ((Xb.step {C with level:=2} x).1.l).toArray/\Aq [a] w w':=by
 refine p1 (bA C x) [] 60 lO Ww (Xb.step {C with level:=2} x) (λr=>(IE r.2,(r.1.l).toArray)) X6 CF b ?_;exact vS8
def ZO(C:Xb):Env:=IB [C.ii] [C.bb]
def jT:St:=⟨[],[(1,284,(ct [vs 0 9,[.bV 0],vs 9 4,[.bV 1],vs 13 11,[.bV 2],vs 24 6,[.bV 3],vs 30 8,[.bV 4],vs 38 7,[.bV 5],vs 45 7,[.bV 6],vs 52 4,[.bV 7]]))],[],10,0⟩
def V4:List SV:=[.c (.ptr 1 0),.c (.int (.lit 0))]
def ZP(C:Xb)(a:Nat)(w:World)(b:Bk w a 284 C.l.toArray):Kp 208 #[.pointer (some ⟨a,0,none⟩),.int .i64 0] w λc w'=>c=.returned (.tuple #[.agg ((C.s0,())).1.prev.l.toArray,.agg ((C.s0,())).1.As.l.toArray])/\Bk w' a 284 (C.l).toArray/\Aq [a] w w':=by
 refine p1 (ZO C) [] 60 jT V4 ((C.s0,())) (λr=>(.tuple #[.agg r.1.prev.l.toArray,.agg r.1.As.l.toArray],(C.l).toArray)) X6 CF b ?_;exact vS1
def ZM(C:Xb):Env:=IB [C.ii] [C.bb]
def jS:St:=⟨[],[(1,284,(ct [vs 0 9,[.bV 0],vs 9 4,[.bV 1],vs 13 11,[.bV 2],vs 24 6,[.bV 3],vs 30 8,[.bV 4],vs 38 7,[.bV 5],vs 45 7,[.bV 6],vs 52 4,[.bV 7]]))],[],10,0⟩
def V3:List SV:=[.c (.ptr 1 0),.c (.int (.lit 1))]
def ZN(C:Xb)(a:Nat)(w:World)(b:Bk w a 284 C.l.toArray):Kp 208 #[.pointer (some ⟨a,0,none⟩),.int .i64 1] w λc w'=>c=.returned (.tuple #[.agg ((C.s1,())).1.prev.l.toArray,.agg ((C.s1,())).1.As.l.toArray])/\Bk w' a 284 (C.l).toArray/\Aq [a] w w':=by
 refine p1 (ZM C) [] 60 jS V3 ((C.s1,())) (λr=>(.tuple #[.agg r.1.prev.l.toArray,.agg r.1.As.l.toArray],(C.l).toArray)) X6 CF b ?_;exact vS1
def ZJ(C:Xb):Env:=IB [C.ii] [C.bb]
def jR:St:=⟨[],[(1,284,(ct [vs 0 9,[.bV 0],vs 9 4,[.bV 1],vs 13 11,[.bV 2],vs 24 6,[.bV 3],vs 30 8,[.bV 4],vs 38 7,[.bV 5],vs 45 7,[.bV 6],vs 52 4,[.bV 7]]))],[],10,0⟩
def V0:List SV:=[.c (.ptr 1 0),.c (.int (.lit 2))]
def ZK(C:Xb)(a:Nat)(w:World)(b:Bk w a 284 C.l.toArray):Kp 208 #[.pointer (some ⟨a,0,none⟩),.int .i64 2] w λc w'=>c=.returned (.tuple #[.agg ((C.s2,())).1.prev.l.toArray,.agg ((C.s2,())).1.As.l.toArray])/\Bk w' a 284 (C.l).toArray/\Aq [a] w w':=by
 refine p1 (ZJ C) [] 60 jR V0 ((C.s2,())) (λr=>(.tuple #[.agg r.1.prev.l.toArray,.agg r.1.As.l.toArray],(C.l).toArray)) X6 CF b ?_;exact vS1
def ZH(C:Xb)(l:Int):Env:=IB [C.ii,[l]] [C.bb]
def jQ:St:=⟨[],[(1,284,(ct [vs 0 9,[.bV 0],vs 9 4,[.bV 1],vs 13 11,[.bV 2],vs 24 6,[.bV 3],vs 30 8,[.bV 4],vs 38 7,[.bV 5],vs 45 7,[.bV 6],vs 52 4,[.bV 7]]))],[],10,0⟩
def Vz:List SV:=[.c (.ptr 1 0),.c (.iV 56)]
def ZI(C:Xb)(l:Int)(a:Nat)(w:World)(b:Bk w a 284 C.l.toArray)(d:l<0\/3<=l):Kp 208 #[.pointer (some ⟨a,0,none⟩),.int .i64 l] w λc w'=>c=.returned (.tuple #[.agg ((Zv.zero,())).1.prev.l.toArray,.agg ((Zv.zero,())).1.As.l.toArray])/\Bk w' a 284 (C.l).toArray/\Aq [a] w w':=by
 refine p1 (ZH C l) [] 60 jQ Vz ((Zv.zero,())) (λr=>(.tuple #[.agg r.1.prev.l.toArray,.agg r.1.As.l.toArray],(C.l).toArray)) X6 CF b ?_;refine Ed (show _=(bif decide (l<0) then(Zv.zero,()) else bif decide (3<=l) then(Zv.zero,()) else(Zv.zero,())) by cases decide (l<0)<;>cases decide (3<=l)<;>rfl) ?_;repeat' (first|with_reducible (first|refine pN ?_|refine pA ?_|refine pO ?_|refine pB ?_|refine Jz (by with_unfolding_all assumption) ?_|refine Jy (by with_unfolding_all assumption) ?_|refine pU ?_|refine pV ?_|refine pK (λh=>?_) (λh=>?_))|refine Hl ?_|refine Hm ?_|refine Ed (DB _ _ _) ?_|exact Ta (by simp only[decide_eq_false_iff_not] at*;omega)|exact l1)
def Rm(C:Xb)(l:Int)(a:Nat)(w:World)(b:Bk w a 284 C.l.toArray):Kp 208 #[.pointer (some ⟨a,0,none⟩),.int .i64 l] w λd w'=>
  d=.returned (.tuple #[.agg (FD C l).prev.l.toArray,.agg (FD C l).As.l.toArray])/\Bk w' a 284 C.l.toArray/\Aq [a] w w':=by
 by_cases c:l<0\/3<=l
 ·have e:FD C l=Zv.zero:=by
   unfold FD;rcases c with h|h
   ·simp[h]
   ·simp[h]
  rw[e];exact ZI C l a w b c
 ·have h:l=0\/l=1\/l=2:=Zo;rcases h with rfl|rfl|rfl
  ·exact ZP C a w b
  ·exact ZN C a w b
  ·exact ZK C a w b
def Dz(C:Xb)(x:Xr)(a:Nat)(w:World)(c:yx C)(b:Bk w a 284 C.l.toArray):Kp 206 #[.pointer (some ⟨a,0,none⟩),.agg x.l.toArray] w λd w'=>
  d=.returned (IE (Xb.step C x).2)/\Bk w' a 284 (Xb.step C x).1.l.toArray/\Aq [a] w w':=by
 rcases c with h|h|h
 ·have e:C={C with level:=0}:=by cases C;simp only at h;subst h;rfl
  rw[e] at b ⊢;exact bF C x a w b
 ·have e:C={C with level:=1}:=by cases C;simp only at h;subst h;rfl
  rw[e] at b ⊢;exact bD C x a w b
 ·have e:C={C with level:=2}:=by cases C;simp only at h;subst h;rfl
  rw[e] at b ⊢;exact bB C x a w b
def outS(e:Env)(k:Nat->Nat)(L:Nat)(a:SV × Heap):Value × Array Value:=(a.1.den e k,Yp e k (cellAt L a.2))
def pS{P:Program}{f:Nat}{w:World}{b row:Array Value}{T r:TypeId}(e:Env)(st:St)(args:List SV)(L:Nat)(c:Bd e st.Co)
  (D:P.follows .mixedOrders=true:=by exact mixed)(j:st.hp=[]:=by kernel_rfl)(d:args.all (Jk [])=true:=by kernel_rfl)(ha:b=(args.map (SV.den e (DF []))).toArray:=by kernel_rfl)(s:¬f=DG:=by decide)
  (E:((Dq (exec P [] 120 (.call f args) st)).lv st.Co).all (mK λa=>tC r L a.2)=true:=by kernel_rfl)
  (F:∀k,((Dq (exec P [] 120 (.call f args) st)).lv st.Co).map (λo=>o.map (outS e k L))=((Dq (exec P [] 120 (.call f args) st)).lv st.Co).map λ_=>some (.tuple #[.iface T (.pointer (some ⟨k L,0,none⟩)),.nilIface],row):=by intro k;kernel_rfl):
  Calls P f b w λy w'=>∃g,y=.returned (.tuple #[.iface T (.pointer (some ⟨g,0,none⟩)),.nilIface])/\w.heap.size<=g/\Bk w' g r row/\Aq [] w w':=by
 have t:=MI (Dq (exec P [] 120 (.call f args) st)) st.Co c
 have n:=g9.1 E _ t
 cases u:(Dq (exec P [] 120 (.call f args) st)).BD e with
 |none=>rw[u] at n;cases n
 |some x=>
  obtain⟨v,G⟩:=x
  rw[u] at n t
  have n:tC r L G=true:=n
  refine(CZ D X6 u c (Db []) (λz p=>by rw[j] at p;cases p) (by rw[j];rfl) (by rw[j];exact d) (λz p=>by rw[j] at p;cases p) ha Zr s).mono λy w' H=>?_
  obtain⟨A,q⟩:=H
  obtain⟨i,I,J⟩:=List.getElem_of_mem t
  have B:=iy (λl=>l[i]?) (F A)
  simp only[kf,gl I,j5,J,j5,gu] at B
  injection B with K M
  have m:=IQ n
  have C:=q.CJ
  rw[j] at C
  refine⟨A L,q.ret.trans (by rw[←K]),(q.new _ m).resolve_left (λh=>by rw[j] at h;cases h),?_,C⟩
  have:=q.U' _ m
  simp only at this
  rw[M] at this
  exact this
