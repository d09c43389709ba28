/- Core: SymP, PM, PW, PN, PT, Rfi, Rfj, PL, Rfk. -/
import Derived.Test.YtaipogljokblkaaGreatDoorZ07
import Derived.Test.YtaipogljokblkaaGreatDoorProg
set_option linter.all false
set_option maxRecDepth 100000
set_option maxHeartbeats 8000000
namespace Go.Proofs.YtaipogljokblkaaGreatDoor
open Go Go.RowKit
set_option linter.unusedSimpArgs false
set_option linter.unusedVariables false
set_option linter.unusedSectionVars false
theorem mixed:Tryz.prog.follows .mixedOrders = true:=by kernel_rfl
structure Xf where
 sl:Int
 gn:Int
 tg:Int
 nm:Int
 mark:Bool
 deriving DecidableEq
def Xf.l (x:Xf):List Value:=[.int .i64 x.sl]++[.int .i64 x.gn]++[.int .i64 x.tg]++[.int .i64 x.nm]++[.bool x.mark]
def Xf.zero:Xf:=⟨0,0,0,0,false⟩
structure Yj where
 sl:Int
 gn:Int
 fd:Int
 deriving DecidableEq
def Yj.l (x:Yj):List Value:=[.int .i64 x.sl]++[.int .i64 x.gn]++[.int .i64 x.fd]
def Yj.zero:Yj:=⟨0,0,0⟩
structure GAns where
 code:Int
 val:Int
 deriving DecidableEq
def GAns.l (x:GAns):List Value:=[.int .i64 x.code]++[.int .i64 x.val]
def GAns.zero:GAns:=⟨0,0⟩
structure GOp where
 kind:Int
 key:Int
 val:Int
 tall:Int
 deriving DecidableEq
def GOp.l (x:GOp):List Value:=[.int .i64 x.kind]++[.int .i64 x.key]++[.int .i64 x.val]++[.int .i64 x.tall]
def GOp.zero:GOp:=⟨0,0,0,0⟩
structure Xg where
 kind:Int
 adr:Yj
 old:Xf
 new:Xf
 i:Int
 j:Int
 ans:GAns
 deriving DecidableEq
def Xg.l (x:Xg):List Value:=[.int .i64 x.kind]++x.adr.l++x.old.l++x.new.l++[.int .i64 x.i]++[.int .i64 x.j]++x.ans.l
def Xg.zero:Xg:=⟨0,Yj.zero,Xf.zero,Xf.zero,0,0,GAns.zero⟩
structure Xi where
 word:Xf
 ok:Bool
 deriving DecidableEq
def Xi.l (x:Xi):List Value:=x.word.l++[.bool x.ok]
def Xi.zero:Xi:=⟨Xf.zero,false⟩
structure GAcc where
 kind:Int
 adr:Yj
 old:Xf
 new:Xf
 deriving DecidableEq
def GAcc.l (x:GAcc):List Value:=[.int .i64 x.kind]++x.adr.l++x.old.l++x.new.l
def GAcc.zero:GAcc:=⟨0,Yj.zero,Xf.zero,Xf.zero⟩
structure GSpan where
 is:Bool
 low:Int
 high:Int
 deriving DecidableEq
def GSpan.l (x:GSpan):List Value:=[.bool x.is]++[.int .i64 x.low]++[.int .i64 x.high]
def GSpan.zero:GSpan:=⟨false,0,0⟩
structure Xp where
 ref:Xf
 birth:Int
 death:Int
 deriving DecidableEq
def Xp.l (x:Xp):List Value:=x.ref.l++[.int .i64 x.birth]++[.int .i64 x.death]
def Xp.zero:Xp:=⟨Xf.zero,0,0⟩
structure Xt where
 pc:Int
 last:Xg
 start:Yj
 key:Int
 prev:Yj
 cur:Xf
 next:Xf
 k:Int
 found:Bool
 deriving DecidableEq
def Xt.l (x:Xt):List Value:=[.int .i64 x.pc]++x.last.l++x.start.l++[.int .i64 x.key]++x.prev.l++x.cur.l++x.next.l++[.int .i64 x.k]++[.bool x.found]
def Xt.zero:Xt:=⟨0,Xg.zero,Yj.zero,0,Yj.zero,Xf.zero,Xf.zero,0,false⟩
structure GSpot where
 prev:Yj
 cur:Xf
 deriving DecidableEq
def GSpot.l (x:GSpot):List Value:=x.prev.l++x.cur.l
def GSpot.zero:GSpot:=⟨Yj.zero,Xf.zero⟩
structure Xe where
 pc:Int
 last:Xg
 spot:GSpot
 bound:Int
 level:Int
 next:Xf
 k:Int
 s0:GSpot
 s1:GSpot
 s2:GSpot
 found:Xf
 deriving DecidableEq
def Xe.l (x:Xe):List Value:=[.int .i64 x.pc]++x.last.l++x.spot.l++[.int .i64 x.bound]++[.int .i64 x.level]++x.next.l++[.int .i64 x.k]++x.s0.l++x.s1.l++x.s2.l++x.found.l
def Xe.zero:Xe:=⟨0,Xg.zero,GSpot.zero,0,0,Xf.zero,0,GSpot.zero,GSpot.zero,GSpot.zero,Xf.zero⟩
structure Yg where
 pc:Int
 last:Xg
 op:GOp
 node:Xf
 top:Xf
 val:Int
 deriving DecidableEq
def Yg.l (x:Yg):List Value:=[.int .i64 x.pc]++x.last.l++x.op.l++x.node.l++x.top.l++[.int .i64 x.val]
def Yg.zero:Yg:=⟨0,Xg.zero,GOp.zero,Xf.zero,Xf.zero,0⟩
structure GCorJ where
 pc:Int
 last:Xg
 op:GOp
 node:Xf
 h:Xf
 t:Xf
 n:Xf
 val:Int
 deriving DecidableEq
def GCorJ.l (x:GCorJ):List Value:=[.int .i64 x.pc]++x.last.l++x.op.l++x.node.l++x.h.l++x.t.l++x.n.l++[.int .i64 x.val]
def GCorJ.zero:GCorJ:=⟨0,Xg.zero,GOp.zero,Xf.zero,Xf.zero,Xf.zero,Xf.zero,0⟩
structure Xn where
 pc:Int
 last:Xg
 start:Yj
 key:Int
 op:GOp
 walk:Option Xt
 node:Xf
 val:Int
 deriving DecidableEq
def Xn.l (x:Xn) (p_walk:Value):List Value:=[.int .i64 x.pc]++x.last.l++x.start.l++[.int .i64 x.key]++x.op.l++[p_walk]++x.node.l++[.int .i64 x.val]
def Xn.zero:Xn:=⟨0,Xg.zero,Yj.zero,0,GOp.zero,none,Xf.zero,0⟩
structure Xc where
 pc:Int
 last:Xg
 op:GOp
 climb:Option Xe
 node:Xf
 level:Int
 by_:Int
 val:Int
 deriving DecidableEq
def Xc.l (x:Xc) (p_climb:Value):List Value:=[.int .i64 x.pc]++x.last.l++x.op.l++[p_climb]++x.node.l++[.int .i64 x.level]++[.int .i64 x.by_]++[.int .i64 x.val]
def Xc.zero:Xc:=⟨0,Xg.zero,GOp.zero,none,Xf.zero,0,0,0⟩
structure Xb where
 pc:Int
 last:Xg
 op:GOp
 size:Int
 wanted:Int
 bucket:Int
 child:Int
 base:Xf
 node:Xf
 sentinel:Xf
 walk:Option Xt
 inner:Option Xn
 answer:GAns
 count:Xf
 deriving DecidableEq
def Xb.l (x:Xb) (p_walk:Value) (p_inner:Value):List Value:=[.int .i64 x.pc]++x.last.l++x.op.l++[.int .i64 x.size]++[.int .i64 x.wanted]++[.int .i64 x.bucket]++[.int .i64 x.child]++x.base.l++x.node.l++x.sentinel.l++[p_walk]++[p_inner]++x.answer.l++x.count.l
def Xb.zero:Xb:=⟨0,Xg.zero,GOp.zero,0,0,0,0,Xf.zero,Xf.zero,Xf.zero,none,none,GAns.zero,Xf.zero⟩
abbrev wr (n:Int):Int:=IntKind.i64.wrap n
def wref (w:Xf):Xf:=⟨w.sl,w.gn,0,0,false⟩
def wto (w r:Xf):Xf:=⟨r.sl,r.gn,wr (w.tg+1),0,false⟩
def wmarked (w:Xf):Xf:=⟨w.sl,w.gn,wr (w.tg+1),w.nm,true⟩
def wnum (n:Int):Xf:=⟨0,0,0,n,false⟩
def wcount (w:Xf) (by_:Int):Xf:=⟨0,0,wr (w.tg+1),wr (w.nm+by_),false⟩
def Xx (w:Xf) (n:Int):Yj:=⟨w.sl,w.gn,n⟩
def wsame (a b:Xf):Bool:=a.sl==b.sl && (a.tg==b.tg && (a.nm==b.nm && a.mark==b.mark))
def root (n:Int):Yj:=⟨0,0,n⟩
def cload (a:Yj):Xg:=⟨3,a,.zero,.zero,0,0,.zero⟩
def cstore (a:Yj) (w:Xf):Xg:=⟨4,a,.zero,w,0,0,.zero⟩
def cswap (a:Yj) (o n:Xf):Xg:=⟨5,a,o,n,0,0,.zero⟩
def cprotect (a:Yj) (i:Int):Xg:=⟨6,a,.zero,.zero,i,0,.zero⟩
def chold (i j:Int):Xg:=⟨7,.zero,.zero,.zero,i,j,.zero⟩
def calloc:Xg:=⟨8,.zero,.zero,.zero,0,0,.zero⟩
def cdrop (w:Xf):Xg:=⟨9,.zero,w,.zero,0,0,.zero⟩
def cretire (w:Xf):Xg:=⟨10,.zero,w,.zero,0,0,.zero⟩
def cdone (code val:Int):Xg:=⟨12,.zero,.zero,.zero,0,0,⟨code,val⟩⟩
def X8 (c:Xg):Value:=.agg c.l.toArray
def vcall2 (c:Xg × Bool):Value:=.tuple #[.agg c.1.l.toArray,.bool c.2]
namespace Xt
def new (start:Yj) (key:Int):Xt:={ Xt.zero with start:=start,key:=key,prev:=start }
def again (W:Xt):Xt × Xg × Bool:=({ W with prev:=W.start,pc:=1 },cprotect W.start 1,true)
def behind (W:Xt):Xt × Xg × Bool:=({ W with pc:=2 },cprotect (Xx W.cur 2) 0,true)
def finish (W:Xt) (b:Bool):Xt × Xg × Bool:=({ W with pc:=-1,found:=b },Xg.zero,false)
def on (W:Xt):Xt × Xg × Bool:=if W.cur.sl==0 then W.finish false else ({ W with pc:=8 },chold 1 0,true)
def step (W:Xt) (x:Xi):Xt × Xg × Bool :=
 if W.pc==1 then
  if x.word.mark then W.again else
  let W:={ W with cur:=x.word }
  if x.word.sl==0 then W.finish false else W.behind
 else if W.pc==2 then ({ W with next:=x.word,pc:=3 },cload (Xx W.cur 0),true)
 else if W.pc==3 then ({ W with k:=x.word.nm,pc:=4 },cload W.prev,true)
 else if W.pc==4 then
  if !wsame x.word W.cur then W.again else
  if W.next.mark then ({ W with pc:=5 },cswap W.prev W.cur (wto W.cur W.next),true) else
  if decide (W.key≤W.k) then W.finish (W.k==W.key) else
  ({ W with prev:=Xx W.cur 2,pc:=7 },chold 2 1,true)
 else if W.pc==5 then
  if x.ok then ({ W with pc:=6 },cretire W.cur,true) else W.again
 else if W.pc==0 then W.again
 else if W.pc==6 then Xt.on { W with cur:=wto W.cur W.next }
 else if W.pc==7 then Xt.on { W with cur:=W.next }
 else if W.pc==8 then W.behind
 else (W,Xg.zero,false)
end Xt
namespace Xe
def new (bound:Int):Xe:={ Xe.zero with bound:=bound }
def getS (C:Xe) (l:Int):GSpot:=if l==0 then C.s0 else if l==1 then C.s1 else C.s2
def putS (C:Xe) (l:Int) (s:GSpot):Xe:=if l==0 then { C with s0:=s } else if l==1 then { C with s1:=s } else { C with s2:=s }
def enter (C:Xe):Xe × Xg × Bool:=({ C with pc:=2 },cprotect C.spot.prev (3*C.level+1),true)
def again (C:Xe):Xe × Xg × Bool:=Xe.enter { C with level:=2,spot:={ C.spot with prev:=root 2 } }
def behind (C:Xe):Xe × Xg × Bool:=({ C with pc:=3 },cprotect (Xx C.spot.cur (2+C.level)) (3*C.level),true)
def lower (C:Xe):Xe × Xg × Bool :=
 let C:=C.putS C.level C.spot
 if C.level==0 then
  let C:={ C with pc:=-1 }
  if !(C.spot.cur.sl==0) && C.k==C.bound then ({ C with found:=wref C.spot.cur },Xg.zero,false) else (C,Xg.zero,false)
 else
  let C:={ C with level:=C.level - 1 }
  if C.spot.prev.sl==0 then Xe.enter { C with spot:={ C.spot with prev:=root C.level } } else
  ({ C with spot:={ C.spot with prev:={ C.spot.prev with fd:=2+C.level } },pc:=9 },chold (3*C.level+2) (3*C.level+5),true)
def on (C:Xe):Xe × Xg × Bool :=
 if C.spot.cur.sl==0 then C.lower else ({ C with pc:=8 },chold (3*C.level+1) (3*C.level),true)
def step (C:Xe) (x:Xi):Xe × Xg × Bool :=
 if C.pc==2 then
  if x.word.mark then C.again else
  let C:={ C with spot:={ C.spot with cur:=x.word } }
  if x.word.sl==0 then C.lower else C.behind
 else if C.pc==3 then ({ C with next:=x.word,pc:=4 },cload (Xx C.spot.cur 0),true)
 else if C.pc==4 then ({ C with k:=x.word.nm,pc:=5 },cload C.spot.prev,true)
 else if C.pc==5 then
  if !wsame x.word C.spot.cur then C.again else
  if C.next.mark then ({ C with pc:=6 },cswap C.spot.prev C.spot.cur (wto C.spot.cur C.next),true) else
  if decide (C.bound≤C.k) then C.lower else
  ({ C with spot:={ C.spot with prev:=Xx C.spot.cur (2+C.level) },pc:=7 },chold (3*C.level+2) (3*C.level+1),true)
 else if C.pc==6 then
  if x.ok then Xe.on { C with spot:={ C.spot with cur:=wto C.spot.cur C.next } } else C.again
 else if C.pc==0 then C.again
 else if C.pc==7 then Xe.on { C with spot:={ C.spot with cur:=C.next } }
 else if C.pc==8 then C.behind
 else if C.pc==9 then C.enter
 else (C,Xg.zero,false)
end Xe
structure GSl where
 a:Option Go.Addr
 n:Nat
 c:Nat
 deriving DecidableEq
def GSl.v (s:GSl):Value:=.slice s.a s.n s.c
structure Xa where
 call:Xg
 step:Int
 acc:GAcc
 word:Xf
 clock:Xf
 index:Int
 seen:GSl
 doomed:GSl
 engine:Int
 me:Int
 threads:Int
 most:Int
 h0:Xf
 h1:Xf
 h2:Xf
 h3:Xf
 h4:Xf
 h5:Xf
 h6:Xf
 h7:Xf
 h8:Xf
 span:GSpan
 notes:GSl
 freed:Int
 reply:Xi
 deriving DecidableEq
def Xa.l (x:Xa):List Value:=x.call.l++[.int .i64 x.step]++x.acc.l++x.word.l++x.clock.l++[.int .i64 x.index]++[x.seen.v]++[x.doomed.v]++[.int .i64 x.engine]++[.int .i64 x.me]++[.int .i64 x.threads]++[.int .i64 x.most]++x.h0.l++x.h1.l++x.h2.l++x.h3.l++x.h4.l++x.h5.l++x.h6.l++x.h7.l++x.h8.l++x.span.l++[x.notes.v]++[.int .i64 x.freed]++x.reply.l
def Xa.zero:Xa:=⟨Xg.zero,0,GAcc.zero,Xf.zero,Xf.zero,0,⟨none,0,0⟩,⟨none,0,0⟩,0,0,0,0,Xf.zero,Xf.zero,Xf.zero,Xf.zero,Xf.zero,Xf.zero,Xf.zero,Xf.zero,Xf.zero,GSpan.zero,⟨none,0,0⟩,0,Xi.zero⟩
def wz (w:Xf):Bool:=w.sl==0 && (w.gn==0 && (w.tg==0 && (w.nm==0 && !w.mark)))
def weq (a b:Xf):Bool:=a.sl==b.sl && (a.gn==b.gn && (a.tg==b.tg && (a.nm==b.nm && a.mark==b.mark)))
def weqr (f n:Xf):Bool:=f.sl==n.sl && (f.gn==n.gn && (f.tg==0 && (f.nm==0 && !f.mark)))
namespace Xa
def keeping (R:Xa):Bool:=R.engine==2 || R.engine==3
def dating (R:Xa):Bool:=R.engine==3 || R.engine==5
def spanning (R:Xa):Bool:=R.engine==4 || R.engine==5
def ask (R:Xa) (step:Int) (a:GAcc):Xa:={ R with step:=step,acc:=a }
def load (R:Xa) (step:Int) (a:Yj):Xa:=R.ask step ⟨1,a,.zero,.zero⟩
def advance (R:Xa) (step:Int):Xa:=R.ask step ⟨3,root 24,R.clock,wcount R.clock 1⟩
def getH (R:Xa) (n:Int):Xf :=
 bif n==0 then R.h0 else bif n==1 then R.h1 else bif n==2 then R.h2 else bif n==3 then R.h3 else bif n==4 then R.h4 else bif n==5 then R.h5 else bif n==6 then R.h6 else bif n==7 then R.h7 else R.h8
def putH (R:Xa) (n:Int) (w:Xf):Xa :=
 bif n==0 then { R with h0:=w } else bif n==1 then { R with h1:=w } else bif n==2 then { R with h2:=w } else bif n==3 then { R with h3:=w } else bif n==4 then { R with h4:=w } else
 bif n==5 then { R with h5:=w } else bif n==6 then { R with h6:=w } else bif n==7 then { R with h7:=w } else { R with h8:=w }
def keep (me n:Int):Yj:=⟨0,0,wr (wr (25+wr (me*9))+n)⟩
def post (R:Xa) (step n:Int) (w:Xf):Xa:=(R.putH n w).ask step ⟨2,keep R.me n,.zero,w⟩
def spanW (s:GSpan):Xf:=bif s.is then ⟨0,0,s.high,s.low,true⟩ else .zero
def announce (R:Xa) (step:Int) (s:GSpan):Xa:=Xa.ask { R with span:=s } step ⟨2,⟨0,0,wr (79+R.me)⟩,.zero,spanW s⟩
def clear (R:Xa):Xa:={ R with call:=.zero,step:=0,acc:=.zero,word:=.zero,clock:=.zero,index:=0,seen:=⟨none,0,0⟩,doomed:=⟨none,0,0⟩ }
def finish (R:Xa) (x:Xi):Xa:={ R.clear with reply:=x }
def done (R:Xa):Xa:=R.finish ⟨.zero,true⟩
def leaveK (R:Xa):List Int→Xa
 | []=>R.done
 | n :: r=>bif wz (R.getH n) then R.leaveK r else Xa.post { R with index:=n } 4 n .zero
def leave (R:Xa) (l:List Int):Xa :=
 bif R.spanning && !(!R.span.is && (R.span.low==0 && R.span.high==0)) then R.announce 2 .zero else
 bif R.keeping then R.leaveK l else R.done
def turn (R:Xa) (c:Xg):Xa:={ R.clear with call:=c }
def enter (R:Xa):Xa:=bif R.spanning then R.load 3 (root 24) else R.done
def alloc (R:Xa):Xa:=bif R.dating then R.load 8 (root 24) else R.ask 1 ⟨4,.zero,.zero,.zero⟩
def hold (R:Xa) (i j:Int):Xa:=bif R.keeping && !weq (R.getH i) (R.getH j) then R.post 2 i (R.getH j) else R.done
def begin1 (R:Xa) (c:Xg):Xa :=
 let T:=R.turn c
 bif c.kind==1 then T.enter else bif c.kind==2 then T.leave [0,1,2,3,4,5,6,7,8] else bif c.kind==3 then T.load 1 c.adr else
 bif c.kind==4 then T.ask 1 ⟨2,c.adr,c.old,c.new⟩ else bif c.kind==5 then T.ask 1 ⟨3,c.adr,c.old,c.new⟩ else
 bif c.kind==6 then T.load 5 c.adr else bif c.kind==7 then T.hold c.i c.j else bif c.kind==8 then T.alloc else
 T.ask 2 ⟨5,.zero,c.old,.zero⟩
def tookLoad (R:Xa) (x:Xi):Xa :=
 let R:={ R with word:=x.word }
 bif R.dating then R.load 6 (root 24) else
 bif R.engine==2 && (!(x.word.sl==0) && !weqr (R.getH R.call.i) x.word) then R.post 7 R.call.i (wref x.word) else R.finish ⟨x.word,true⟩
def covers (R:Xa) (i now:Int):Bool :=
 bif R.engine==3 then !wz (R.getH i) && (R.getH i).nm==now else R.span.is && R.span.high==now
def tookClock (R:Xa) (x:Xi):Xa :=
 bif R.covers R.call.i x.word.nm then R.finish ⟨R.word,true⟩ else
 bif R.engine==3 then R.post 7 R.call.i (wnum x.word.nm) else
 R.announce 7 ⟨true,bif R.span.is then R.span.low else x.word.nm,x.word.nm⟩
end Xa
theorem un_sp (R:Xa):R.spanning = (R.engine==4 || R.engine==5):=rfl
theorem un_da (R:Xa):R.dating = (R.engine==3 || R.engine==5):=rfl
theorem un_ke (R:Xa):R.keeping = (R.engine==2 || R.engine==3):=rfl
def GSpan.nul (s:GSpan):Bool:=!s.is && (s.low==0 && s.high==0)
theorem un_nul (s:GSpan):(!s.is && (s.low==0 && s.high==0)) = s.nul:=rfl
theorem un_co (R:Xa) (i now:Int):R.covers i now = (bif R.engine==3 then !wz (R.getH i) && (R.getH i).nm==now else R.span.is && R.span.high==now):=rfl
def mkE (a:List (List Int)) (b:List (List Bool)):Env:=⟨fun i=>a.flatten.getD i 0,fun i=>b.flatten.getD i false,fun _=>.nilIface,fun _=>rfl⟩
def mkV (a:List (List Int)) (b:List (List Bool)) (v:List Value) (h:∀ u∈v,u.oneCell' = true):Env:=⟨fun i=>a.flatten.getD i 0,fun i=>b.flatten.getD i false,fun i=>v.getD i .nilIface,fun i=>by
 rw [List.getD_eq_getElem?_getD]
 cases hi:v[i]? with
 | none=>rfl
 | some u=>exact h u (List.mem_of_getElem? hi)⟩
theorem Yk {v:List Value} (h:v.all (·.oneCell') = true):∀ u∈v,u.oneCell' = true:=fun u hu=>List.all_eq_true.1 h u hu
def Xf.ii (x:Xf):List Int:=[x.sl,x.gn,x.tg,x.nm]
def Xf.bb (x:Xf):List Bool:=[x.mark]
def Yj.ii (x:Yj):List Int:=[x.sl,x.gn,x.fd]
def GAns.ii (x:GAns):List Int:=[x.code,x.val]
def GOp.ii (x:GOp):List Int:=[x.kind,x.key,x.val,x.tall]
def Xg.ii (x:Xg):List Int:=[[x.kind],x.adr.ii,x.old.ii,x.new.ii,[x.i,x.j],x.ans.ii].flatten
def Xg.bb (x:Xg):List Bool:=[x.old.bb,x.new.bb].flatten
def Xi.ii (x:Xi):List Int:=x.word.ii
def Xi.bb (x:Xi):List Bool:=[x.word.bb,[x.ok]].flatten
def GAcc.ii (x:GAcc):List Int:=[[x.kind],x.adr.ii,x.old.ii,x.new.ii].flatten
def GAcc.bb (x:GAcc):List Bool:=[x.old.bb,x.new.bb].flatten
def GSpan.ii (x:GSpan):List Int:=[x.low,x.high]
def GSpan.bb (x:GSpan):List Bool:=[x.is]
def Xt.ii (x:Xt):List Int:=[[x.pc],x.last.ii,x.start.ii,[x.key],x.prev.ii,x.cur.ii,x.next.ii,[x.k]].flatten
def Xt.bb (x:Xt):List Bool:=[x.last.bb,x.cur.bb,x.next.bb,[x.found]].flatten
def GSpot.ii (x:GSpot):List Int:=[x.prev.ii,x.cur.ii].flatten
def GSpot.bb (x:GSpot):List Bool:=x.cur.bb
def Xe.ii (x:Xe):List Int:=[[x.pc],x.last.ii,x.spot.ii,[x.bound,x.level],x.next.ii,[x.k],x.s0.ii,x.s1.ii,x.s2.ii,x.found.ii].flatten
def Xe.bb (x:Xe):List Bool:=[x.last.bb,x.spot.bb,x.next.bb,x.s0.bb,x.s1.bb,x.s2.bb,x.found.bb].flatten
def Yg.ii (x:Yg):List Int:=[[x.pc],x.last.ii,x.op.ii,x.node.ii,x.top.ii,[x.val]].flatten
def Yg.bb (x:Yg):List Bool:=[x.last.bb,x.node.bb,x.top.bb].flatten
def GCorJ.ii (x:GCorJ):List Int:=[[x.pc],x.last.ii,x.op.ii,x.node.ii,x.h.ii,x.t.ii,x.n.ii,[x.val]].flatten
def GCorJ.bb (x:GCorJ):List Bool:=[x.last.bb,x.node.bb,x.h.bb,x.t.bb,x.n.bb].flatten
def Xn.ii (x:Xn):List Int:=[[x.pc],x.last.ii,x.start.ii,[x.key],x.op.ii,x.node.ii,[x.val]].flatten
def Xn.bb (x:Xn):List Bool:=[x.last.bb,x.node.bb].flatten
def Xc.ii (x:Xc):List Int:=[[x.pc],x.last.ii,x.op.ii,x.node.ii,[x.level,x.by_,x.val]].flatten
def Xc.bb (x:Xc):List Bool:=[x.last.bb,x.node.bb].flatten
def Xb.bb (x:Xb):List Bool:=[x.last.bb,x.base.bb,x.node.bb,x.sentinel.bb,x.count.bb].flatten
def Xa.ii (x:Xa):List Int:=[x.call.ii,[x.step],x.acc.ii,x.word.ii,x.clock.ii,[x.index,x.engine,x.me,x.threads,x.most],x.h0.ii,x.h1.ii,x.h2.ii,x.h3.ii,x.h4.ii,x.h5.ii,x.h6.ii,x.h7.ii,x.h8.ii,x.span.ii,[x.freed],x.reply.ii].flatten
def Xa.bb (x:Xa):List Bool:=[x.call.bb,x.acc.bb,x.word.bb,x.clock.bb,x.h0.bb,x.h1.bb,x.h2.bb,x.h3.bb,x.h4.bb,x.h5.bb,x.h6.bb,x.h7.bb,x.h8.bb,x.span.bb,x.reply.bb].flatten
def Xa.iL (x:Xa):List Int:=[x.call.ii,[x.step],x.acc.ii,x.word.ii,x.clock.ii,[x.index,(x.seen.n:Int),(x.doomed.n:Int),x.engine,x.me,x.threads,x.most],x.h0.ii,x.h1.ii,x.h2.ii,x.h3.ii,x.h4.ii,x.h5.ii,x.h6.ii,x.h7.ii,x.h8.ii,x.span.ii,[(x.notes.n:Int),x.freed],x.reply.ii].flatten
section
variable {α R:Type} {t:Xy α} {e:Env} {Q:α→R→Prop} {s:Asm} {a b r:R} {c d f:Bool}
theorem pN (h:PO t e Q s (bif c then b else a)):PO t e Q s (bif !c then a else b):=po_not h
theorem pA (h:PO t e Q s (bif c then (bif d then a else b) else b)):PO t e Q s (bif c && d then a else b):=po_and h
theorem pO (h:PO t e Q s (bif c then a else (bif d then a else b))):PO t e Q s (bif c || d then a else b):=po_or h
theorem pB (h:PO t e Q s (bif c then (bif d then a else b) else (bif f then a else b))):PO t e Q s (bif (bif c then d else f) then a else b):=po_bb h
theorem pF (h:PO t e Q s b) (hc:c = false:=by assumption):PO t e Q s (bif c then a else b):=po_ff hc h
theorem pT (h:PO t e Q s a) (hc:c = true:=by assumption):PO t e Q s (bif c then a else b):=po_tt hc h
theorem pU (h:PO t e Q s b) (hc:c = false:=by with_unfolding_all rfl):PO t e Q s (bif c then a else b):=po_ff hc h
theorem pV (h:PO t e Q s a) (hc:c = true:=by with_unfolding_all rfl):PO t e Q s (bif c then a else b):=po_tt hc h
theorem pC (h1:PO t e Q (addA (t.nx s) true s) a) (h2:PO t e Q (addA (t.nx s) false s) b) (hc:(t.nx s).den e = c:=by kernel_rfl):PO t e Q s (bif c then a else b):=po_br hc h1 h2
theorem pK (h1:c = true→PO t e Q (addA (t.nx s) true s) a) (h2:c = false→PO t e Q (addA (t.nx s) false s) b) (hc:(t.nx s).den e = c:=by kernel_rfl):PO t e Q s (bif c then a else b):=po_brk hc h1 h2
end
theorem asC {e:Env} {b:BT} {v:Bool} {s:Asm} (h:b.den e = v) (hs:AsmOk e s):AsmOk e ((b,v) :: s):=asm_cons h hs
theorem asN {e:Env}:AsmOk e []:=asm_nil rfl
theorem l1 {t:Xy (SV × Heap)} {e:Env} {T:TypeId} {hp:Heap} {s:Asm} {R:Type} {a:R} {g:R→Value × Array Value} (h1:(t.lv s).all (okO (ok1 T hp)) = true:=by kernel_rfl) (h2:∀ k,(t.lv s).map (fun o=>o.map (out1 e k)) = (t.lv s).map fun _=>some (g a):=by intro k;kernel_rfl):PO t e (fun x r=>Q1 e T hp x (g r)) s a:=po1_leaf h1 h2
theorem l2 {i:Nat} {t:Xy (SV × Heap)} {e:Env} {T T2:TypeId} {hp:Heap} {s:Asm} {R:Type} {a:R} {g:R→Value × Array Value × Option (Array Value)} (h1:(t.lv s).all (okO (ok2 i T T2 hp)) = true:=by kernel_rfl) (h2:∀ k,(t.lv s).map (fun o=>o.map (out2 i e k)) = (t.lv s).map fun _=>some (g a):=by intro k;kernel_rfl):PO t e (fun x r=>Q2 i e T T2 hp x (g r)) s a:=po2_leaf h1 h2
theorem lE {t:Xy (SV × Nat × Heap)} {e:Env} {T:TypeId} {hp:Heap} {s:Asm} {R:Type} {a:R} {g:R→Value × Nat × Array Value} (h1:(t.lv s).all (okO (okE T hp)) = true:=by kernel_rfl) (h2:∀ k,(t.lv s).map (fun o=>o.map (outE e k)) = (t.lv s).map fun _=>some (g a):=by intro k;kernel_rfl):PO t e (fun x r=>QE e T hp x (g r)) s a:=poE_leaf h1 h2
theorem l0 {t:Xy (SV × Heap)} {e:Env} {s:Asm} {R:Type} {a:R} {g:R→Value} (h1:(t.lv s).all (okO fun _=>true) = true:=by kernel_rfl) (h2:∀ k,(t.lv s).map (fun o=>o.map (out0 e k)) = (t.lv s).map fun _=>some (g a):=by intro k;kernel_rfl):PO t e (fun x r=>Q0 e x (g r)) s a:=po0_leaf h1 h2
section
variable {P:Program} {f:Nat} {T:TypeId} {g:Nat} {w:World} {args' row:Array Value} {R:Type}
theorem p1 (e:Env) (S:List Xs) (n:Nat) (st:St) (args:List SV) (r:R) (G:R→Value × Array Value) (hS:SumsOk P e S) (hasm:AsmOk e st.asm) (hb:Bk w g T row) (h:PO (packT (exec P S n (.call f args) st)) e (fun x r=>Q1 e T st.hp x (G r)) st.asm r)
  (hm:P.follows .mixedOrders = true:=by exact mixed) (hp:st.hp = [(1,T,cellAt 1 st.hp)]:=by kernel_rfl) (hr:row = Ye e (kof [g]) (cellAt 1 st.hp):=by kernel_rfl) (closed:okH (Yf st.hp) st.hp = true:=by kernel_rfl) (cargs:args.all (okV (Yf st.hp)) = true:=by kernel_rfl) (ha:args' = (args.map (SV.den e (kof [g]))).toArray:=by kernel_rfl)
  (hpl:plainS S = true:=by kernel_rfl) (hnf:¬ f = invF:=by decide):Calls P f args' w fun en w'=>en = .returned (G r).1∧Bk w' g T (G r).2∧Chg [g] w w':=po1 hm hS hp hasm (Yb hb hr) closed cargs ha h hpl hnf
theorem p0 (e:Env) (S:List Xs) (n:Nat) (st:St) (args:List SV) (r:R) (G:R→Value) (hS:SumsOk P e S) (hasm:AsmOk e st.asm) (h:PO (packT (exec P S n (.call f args) st)) e (fun x r=>Q0 e x (G r)) st.asm r)
  (hm:P.follows .mixedOrders = true:=by exact mixed) (hp:st.hp = []:=by kernel_rfl) (cargs:args.all (okV []) = true:=by kernel_rfl) (ha:args' = (args.map (SV.den e (kof []))).toArray:=by kernel_rfl) (hpl:plainS S = true:=by kernel_rfl) (hnf:¬ f = invF:=by decide) :
  Calls P f args' w fun en w'=>en = .returned (G r)∧Chg [] w w':=po0 hm hS hp hasm h cargs ha hpl hnf
theorem pE {Φ:Phi} {F:Nat→Prop} (e:Env) (S:List Xs) (n:Nat) (st:St) (args:List SV) (r:R) (G:R→Value × Nat × Array Value) (hS:SumsOkE P e Φ S) (hasm:AsmOk e st.asm) (hb:Bk w g T row) (f1:Φ.P st.ph w F) (f2:¬ F g) (f3:∀ b,F b→b < w.heap.size)
  (h:PO (packE (exec P S n (.call f args) st)) e (fun x r=>QE e T st.hp x (G r)) st.asm r)
  (hm:P.follows .mixedOrders = true:=by exact mixed) (hp:st.hp = [(1,T,cellAt 1 st.hp)]:=by kernel_rfl) (hr:row = Ye e (kof [g]) (cellAt 1 st.hp):=by kernel_rfl) (closed:okH (Yf st.hp) st.hp = true:=by kernel_rfl) (cargs:args.all (okV (Yf st.hp)) = true:=by kernel_rfl) (ha:args' = (args.map (SV.den e (kof [g]))).toArray:=by kernel_rfl) (hnf:¬ f = invF:=by decide) :
  Calls P f args' w fun en w'=>EPost Φ (G r).2.1 F g T (G r).2.2 (G r).1 w en w':=poE hm hS hp hasm (Yb hb hr) f1 f2 f3 h closed cargs ha hnf
theorem p2 {gs:List Nat} (e:Env) (S:List Xs) (n:Nat) (st:St) (args:List SV) (i:Nat) (T T2:TypeId) (r:R) (V:R→Value) (JL:R→Value→List Value) (sub:R→Option (Array Value)) (Sub:R→World→Value→List Nat→Prop)
  (hS:SumsOk P e S) (hasm:AsmOk e st.asm) (blocks:∀ x∈st.hp,Bk w (kof gs x.1) x.2.1 (Ye e (kof gs) x.2.2)) (hnd:gs.Nodup)
  (hs0:∀ r w,sub r = none→Sub r w (.pointer none) []) (hs1:∀ r w g cs,sub r = some cs→Bk w g T2 cs→Sub r w (.pointer (some ⟨g,0,none⟩)) [g])
  (h:PO (packT (exec P S n (.call f args) st)) e (fun x r=>Q2 i e T T2 st.hp x (V r,(JL r (.pointer none)).toArray,sub r)) st.asm r)
  (hJL:∀ r q,JL r q = (JL r (.pointer none)).set i q:=by intro r q;rfl)
  (hm:P.follows .mixedOrders = true:=by exact mixed) (hin:(st.hp.map fun x=>kof gs x.1) = gs:=by kernel_rfl) (hl:Yf st.hp = st.hp.map (·.1):=by kernel_rfl) (closed:okH (Yf st.hp) st.hp = true:=by kernel_rfl) (cargs:args.all (okV (Yf st.hp)) = true:=by kernel_rfl) (ha:args' = (args.map (SV.den e (kof gs))).toArray:=by kernel_rfl)
  (l1:hasL 1 (Yf st.hp) = true:=by kernel_rfl) (hg:kof gs 1 = g:=by kernel_rfl) (hpl:plainS S = true:=by kernel_rfl) (hnf:¬ f = invF:=by decide):Calls P f args' w fun en w'=>Post2 (Sub r) T (JL r) (V r) g gs w en w' :=
 po2 i T T2 g V JL sub Sub hm hS hasm blocks closed cargs (by rw [hin];exact hnd) ha (fun l hx=>by
  rw [hl] at hx
  obtain ⟨z,hz,rfl⟩:=List.mem_map.1 hx
  have:=List.mem_map_of_mem (f:=fun x:Nat × TypeId × List SC=>kof gs x.1) hz
  rwa [hin] at this) l1 hg (hJL r) (hs0 r) (hs1 r) h hpl hnf
end
def walkS (o:Option Xt) (x:Xi):Option Xt × Xg × Bool :=
 match o with
 | none=>(none,Xg.zero,false)
 | some W=>(some (W.step x).1,(W.step x).2.1,(W.step x).2.2)
def walkF (o:Option Xt):Bool:=match o with | none=>false | some W=>W.found
def walkPrev (o:Option Xt):Yj:=match o with | none=>Yj.zero | some W=>W.prev
def walkCur (o:Option Xt):Xf:=match o with | none=>Xf.zero | some W=>W.cur
def walkNx (o:Option Xt):Xf:=match o with | none=>Xf.zero | some W=>W.next
namespace Xn
def from_ (start:Yj) (key:Int) (op:GOp):Xn:={ Xn.zero with start:=start,key:=key,op:=op }
def done (J:Xn) (code val:Int):Xn × Xg:=({ J with pc:=-1,last:=cdone code val },cdone code val)
def seek (J:Xn) (step:Int):Xn:={ J with walk:=some (Xt.new J.start J.key),pc:=step }
def insWalk (J:Xn) (x:Xi):Xn × Xg :=
 let r:=walkS J.walk x
 let J:={ J with walk:=r.1 }
 if r.2.2 then (J,r.2.1) else
 if walkF J.walk then ({ J with pc:=5 },cdrop J.node) else
 ({ J with pc:=6 },cstore (Xx J.node 2) (wref (walkCur J.walk)))
def insert (J:Xn) (x:Xi):Xn × Xg :=
 if J.pc==0 then ({ J with pc:=1 },calloc)
 else if J.pc==1 then
  if !x.ok then J.done 4 0 else ({ J with node:=x.word,pc:=2 },cstore (Xx x.word 0) (wnum J.key))
 else if J.pc==2 then ({ J with pc:=3 },cstore (Xx J.node 1) (wnum J.op.val))
 else if J.pc==7 then
  if x.ok then J.done 1 0 else (J.seek 4).insWalk x
 else if J.pc==3 then (J.seek 4).insWalk x
 else if J.pc==4 then J.insWalk x
 else if J.pc==5 then J.done 3 0
 else if J.pc==6 then ({ J with pc:=7 },cswap (walkPrev J.walk) (walkCur J.walk) (wto (walkCur J.walk) J.node))
 else (J,J.last)
def remWalk (J:Xn) (x:Xi):Xn × Xg :=
 let r:=walkS J.walk x
 let J:={ J with walk:=r.1 }
 if r.2.2 then (J,r.2.1) else
 if !walkF J.walk then J.done 2 0 else
 ({ J with pc:=2 },cload (Xx (walkCur J.walk) 1))
def remWalk6 (J:Xn) (x:Xi):Xn × Xg :=
 let r:=walkS J.walk x
 let J:={ J with walk:=r.1 }
 if r.2.2 then (J,r.2.1) else J.done 1 J.val
def remove (J:Xn) (x:Xi):Xn × Xg :=
 if J.pc==3 then
  if x.ok then ({ J with pc:=4 },cswap (walkPrev J.walk) (walkCur J.walk) (wto (walkCur J.walk) (walkNx J.walk))) else (J.seek 1).remWalk x
 else if J.pc==0 then (J.seek 1).remWalk x
 else if J.pc==1 then J.remWalk x
 else if J.pc==2 then ({ J with val:=x.word.nm,pc:=3 },cswap (Xx (walkCur J.walk) 2) (walkNx J.walk) (wmarked (walkNx J.walk)))
 else if J.pc==4 then
  if x.ok then ({ J with pc:=5 },cretire (walkCur J.walk)) else (J.seek 6).remWalk6 x
 else if J.pc==6 then J.remWalk6 x
 else if J.pc==5 then J.done 1 J.val
 else (J,J.last)
def get (J:Xn) (x:Xi):Xn × Xg :=
 if J.pc==0 then (J.seek 1).remWalk x
 else if J.pc==1 then J.remWalk x
 else if J.pc==2 then J.done 1 x.word.nm
 else (J,J.last)
def next (J:Xn) (x:Xi):Xn × Xg :=
 if J.op.kind==6 then J.insert x
 else if J.op.kind==7 then J.remove x
 else J.get x
end Xn
def WalkP (w:World) (p:Value) (W:Option Xt) (F:List Nat):Prop :=
 match W with
 | none=>p = .pointer none∧F = []
 | some W=>∃ g,p = .pointer (some ⟨g,0,none⟩)∧F = [g]∧Bk w g 261 W.l.toArray
def LitR (w:World) (g:Nat) (J:Xn) (F:List Nat):Prop :=
 ∃ q F1,F = g :: F1∧Bk w g 206 (J.l q).toArray∧WalkP w q J.walk F1
def LitP (w:World) (g:Nat) (J:Xn) (F:List Nat):Prop:=LitR w g J F∧F.Nodup
def outS (e:Env) (k:Nat→Nat) (L:Nat) (a:SV × Heap):Value × Array Value:=(a.1.den e k,Ye e k (cellAt L a.2))
theorem pS {P:Program} {f:Nat} {w:World} {args' row:Array Value} {T T2:TypeId} (e:Env) (st:St) (args:List SV) (L:Nat) (hasm:AsmOk e st.asm)
  (hm:P.follows .mixedOrders = true:=by exact mixed) (hp:st.hp = []:=by kernel_rfl) (cargs:args.all (okV []) = true:=by kernel_rfl) (ha:args' = (args.map (SV.den e (kof []))).toArray:=by kernel_rfl) (hnf:¬ f = invF:=by decide)
  (h1:((packT (exec P [] 120 (.call f args) st)).lv st.asm).all (okO fun a=>isT T2 L a.2) = true:=by kernel_rfl)
  (h2:∀ k,((packT (exec P [] 120 (.call f args) st)).lv st.asm).map (fun o=>o.map (outS e k L)) = ((packT (exec P [] 120 (.call f args) st)).lv st.asm).map fun _=>some (.tuple #[.iface T (.pointer (some ⟨k L,0,none⟩)),.nilIface],row):=by intro k;kernel_rfl) :
  Calls P f args' w fun en w'=>∃ g,en = .returned (.tuple #[.iface T (.pointer (some ⟨g,0,none⟩)),.nilIface])∧w.heap.size≤g∧Bk w' g T2 row∧Chg [] w w':=by
 have hs:=lv_sel (packT (exec P [] 120 (.call f args) st)) st.asm hasm
 have h3:=List.all_eq_true.1 h1 _ hs
 cases hx:(packT (exec P [] 120 (.call f args) st)).sel e with
 | none=>rw [hx] at h3;cases h3
 | some x =>
  obtain ⟨v,h'⟩:=x
  rw [hx] at h3 hs
  have h3:isT T2 L h' = true:=h3
  refine (sym_packA hm Xd hx hasm (kof_even []) (fun z hz=>by rw [hp] at hz;cases hz) (by rw [hp];rfl) (by rw [hp];exact cargs) (fun z hz=>by rw [hp] at hz;cases hz) ha (by rfl) hnf).mono fun en w' hq=>?_
  obtain ⟨k',q⟩:=hq
  obtain ⟨i,hi,he⟩:=List.getElem_of_mem hs
  have h4:=congrArg (fun l=>l[i]?) (h2 k')
  simp only [List.getElem?_map,List.getElem?_eq_getElem hi,Option.map_some,he,Option.map_some,Option.some.injEq] at h4
  injection h4 with h5 h6
  have m:=isT_mem h3
  have hc:=q.chg
  rw [hp] at hc
  refine ⟨k' L,q.ret.trans (by rw [← h5]),(q.new _ m).resolve_left (fun h=>by rw [hp] at h;cases h),?_,hc⟩
  have:=q.blk _ m
  simp only at this
  rw [h6] at this
  exact this
end Go.Proofs.YtaipogljokblkaaGreatDoor
