/- Core: MP, PJ, MV, CPile, CCor, VG, VH, CStep, CRo, CSm, CGood, LA. -/
import Derived.Test.YtaipogljokblkaaGreatDoorZ08
import Derived.Test.YtaipogljokblkaaGreatDoorZ13
import Derived.Test.YtaipogljokblkaaGreatDoorZ09
import Derived.Test.YtaipogljokblkaaGreatDoorZ07
import Derived.Test.YtaipogljokblkaaGreatDoorZ14
set_option linter.all false
set_option maxRecDepth 100000
set_option maxHeartbeats 8000000
namespace Go.Proofs.YtaipogljokblkaaGreatDoor
open Go Go.RowKit
set_option linter.unusedSimpArgs false
set_option linter.unusedVariables false
set_option linter.unusedSectionVars false
structure GSlot where
 gen:Int
 used:Bool
 cell:Int→Xf
def GSlot.zero:GSlot:=⟨0,false,fun _=>.zero⟩
structure Pl where
 nb:Nat
 ns:Nat
 board:Int→Xf
 slot:Int→GSlot
 free:List Int
 steps:Int
 made:Int
 fault:Bool
def upd {α:Type} (f:Int→α) (i:Int) (x:α):Int→α:=fun j=>bif j==i then x else f j
theorem upd_same {α:Type} (f:Int→α) (i:Int) (x:α):upd f i x i = x:=by simp [upd]
theorem upd_far {α:Type} (f:Int→α) {i j:Int} (x:α) (h:j≠i):upd f i x j = f j:=by
 unfold upd
 rw [show (j==i) = false from by simp [h]]
 rfl
namespace Pl
def exists_ (p:Pl) (n:Int):Bool:=decide (1≤n) && decide (n≤(p.ns:Int))
def has (p:Pl) (a:Yj):Bool :=
 bif a.sl==0 then a.gn==0 && (decide (0≤a.fd) && decide (a.fd < (p.nb:Int))) else p.exists_ a.sl && (decide (0≤a.fd) && decide (a.fd < 10))
def valid (p:Pl) (a:GAcc):Bool :=
 bif a.kind==1 || (a.kind==2 || a.kind==3) then p.has a.adr else bif a.kind==4 then true else bif a.kind==5 then p.exists_ a.old.sl else false
def live (p:Pl) (n gen:Int):Bool:=n==0 || ((p.slot n).used && (p.slot n).gen==gen)
def right (p:Pl) (a:GAcc):Bool :=
 bif a.kind==4 then true else bif a.kind==5 then p.live a.old.sl a.old.gn else p.live a.adr.sl a.adr.gn
def get (p:Pl) (a:Yj):Xf:=bif a.sl==0 then p.board a.fd else (p.slot a.sl).cell a.fd
def put (p:Pl) (a:Yj) (x:Xf):Pl :=
 bif a.sl==0 then { p with board:=upd p.board a.fd x } else
 { p with slot:=upd p.slot a.sl { p.slot a.sl with cell:=upd (p.slot a.sl).cell a.fd x } }
def refused (kind:Int):Xi:=bif kind==1 || kind==3 then ⟨wnum (-1),false⟩ else Xi.zero
def alloc (p:Pl) (birth:Int):Pl × Xi :=
 match p.free.getLast? with
 | none=>(p,Xi.zero)
 | some n=>({ p with free:=p.free.dropLast,slot:=upd p.slot n ⟨wr ((p.slot n).gen+1),true,upd (fun _=>.zero) 9 (wnum birth)⟩,made:=wr (p.made+1) },⟨⟨n,wr ((p.slot n).gen+1),0,0,false⟩,true⟩)
def touch (p:Pl) (a:GAcc):Pl × Xi :=
 bif a.kind==1 then (p,⟨p.get a.adr,true⟩) else
 bif a.kind==3 then
  bif wsame (p.get a.adr) a.old then (p.put a.adr a.new,⟨p.get a.adr,true⟩) else (p,⟨p.get a.adr,false⟩)
 else (p.put a.adr a.new,⟨.zero,true⟩)
def act (p:Pl) (a:GAcc):Pl × Xi :=
 let p:={ p with steps:=wr (p.steps+1) }
 bif !p.right a then ({ p with fault:=true },refused a.kind) else
 bif a.kind==4 then p.alloc a.new.nm else
 bif a.kind==5 then ({ p with slot:=upd p.slot a.old.sl { p.slot a.old.sl with used:=false },free:=p.free++[a.old.sl] },⟨.zero,true⟩) else
 p.touch a
def peek (p:Pl) (a:Yj):Xf × Bool:=bif p.has a && p.live a.sl a.gn then (p.get a,true) else (.zero,false)
end Pl
namespace Yg
def new (op:GOp):Yg:={ Yg.zero with op:=op }
def done (J:Yg) (code val:Int):Yg × Xg:=({ J with pc:=-1,last:=cdone code val },cdone code val)
def push (J:Yg) (x:Xi):Yg × Xg :=
 if J.pc==0 then ({ J with pc:=1 },calloc)
 else if J.pc==1 then
  if !x.ok then J.done 4 0 else ({ J with node:=x.word,pc:=2 },cstore (Xx x.word 1) (wnum J.op.val))
 else if J.pc==5 then
  if x.ok then J.done 1 0 else ({ J with pc:=3 },cload (root 0))
 else if J.pc==2 then ({ J with pc:=3 },cload (root 0))
 else if J.pc==3 then ({ J with top:=x.word,pc:=4 },cstore (Xx J.node 2) (wref x.word))
 else if J.pc==4 then ({ J with pc:=5 },cswap (root 0) J.top (wto J.top J.node))
 else (J,J.last)
def pop (J:Yg) (x:Xi):Yg × Xg :=
 if J.pc==3 then
  if x.ok then ({ J with pc:=4 },cload (Xx J.top 1)) else ({ J with pc:=1 },cprotect (root 0) 0)
 else if J.pc==0 then ({ J with pc:=1 },cprotect (root 0) 0)
 else if J.pc==1 then
  let J:={ J with top:=x.word }
  if x.word.sl==0 then J.done 2 0 else
  if J.op.kind==3 then ({ J with pc:=4 },cload (Xx J.top 1)) else ({ J with pc:=2 },cload (Xx J.top 2))
 else if J.pc==2 then ({ J with pc:=3 },cswap (root 0) J.top (wto J.top x.word))
 else if J.pc==4 then
  let J:={ J with val:=x.word.nm }
  if J.op.kind==3 then J.done 1 J.val else ({ J with pc:=5 },cretire J.top)
 else if J.pc==5 then J.done 1 J.val
 else (J,J.last)
def next (J:Yg) (x:Xi):Yg × Xg:=if J.op.kind==1 then J.push x else J.pop x
end Yg
namespace GCorJ
def new (op:GOp):GCorJ:={ GCorJ.zero with op:=op }
def done (J:GCorJ) (code val:Int):GCorJ × Xg:=({ J with pc:=-1,last:=cdone code val },cdone code val)
def enqueue (J:GCorJ) (x:Xi):GCorJ × Xg :=
 if J.pc==0 then ({ J with pc:=1 },calloc)
 else if J.pc==1 then
  if !x.ok then J.done 4 0 else ({ J with node:=x.word,pc:=2 },cstore (Xx x.word 1) (wnum J.op.val))
 else if J.pc==3 then ({ J with t:=x.word,pc:=4 },cload (Xx x.word 2))
 else if J.pc==4 then ({ J with n:=x.word,pc:=5 },cload (root 1))
 else if J.pc==5 then
  if !wsame x.word J.t then ({ J with pc:=3 },cprotect (root 1) 0) else
  if !(J.n.sl==0) then ({ J with pc:=6 },cswap (root 1) J.t (wto J.t J.n)) else
  ({ J with pc:=7 },cswap (Xx J.t 2) J.n (wto J.n J.node))
 else if J.pc==7 then
  if x.ok then ({ J with pc:=8 },cswap (root 1) J.t (wto J.t J.node)) else ({ J with pc:=3 },cprotect (root 1) 0)
 else if J.pc==2 then ({ J with pc:=3 },cprotect (root 1) 0)
 else if J.pc==6 then ({ J with pc:=3 },cprotect (root 1) 0)
 else if J.pc==8 then J.done 1 0
 else (J,J.last)
def dequeue (J:GCorJ) (x:Xi):GCorJ × Xg :=
 if J.pc==1 then ({ J with h:=x.word,pc:=2 },cload (root 1))
 else if J.pc==2 then ({ J with t:=x.word,pc:=3 },cprotect (Xx J.h 2) 1)
 else if J.pc==3 then ({ J with n:=x.word,pc:=4 },cload (root 0))
 else if J.pc==4 then
  if !wsame x.word J.h then ({ J with pc:=1 },cprotect (root 0) 0) else
  if J.n.sl==0 then J.done 2 0 else
  if J.h.sl==J.t.sl then ({ J with pc:=5 },cswap (root 1) J.t (wto J.t J.n)) else
  ({ J with pc:=6 },cload (Xx J.n 1))
 else if J.pc==6 then ({ J with val:=x.word.nm,pc:=7 },cswap (root 0) J.h (wto J.h J.n))
 else if J.pc==7 then
  if x.ok then ({ J with pc:=8 },cretire J.h) else ({ J with pc:=1 },cprotect (root 0) 0)
 else if J.pc==0 then ({ J with pc:=1 },cprotect (root 0) 0)
 else if J.pc==5 then ({ J with pc:=1 },cprotect (root 0) 0)
 else if J.pc==8 then J.done 1 J.val
 else (J,J.last)
def next (J:GCorJ) (x:Xi):GCorJ × Xg:=if J.op.kind==4 then J.enqueue x else J.dequeue x
end GCorJ
inductive GJob where
 | pile (J:Yg) | cor (J:GCorJ) | lit (J:Xn) | vau (J:Xb) | ste (J:Xc)
namespace GJob
def next:GJob→Xi→GJob × Xg
 | .pile J,x=>(.pile (J.next x).1,(J.next x).2)
 | .cor J,x=>(.cor (J.next x).1,(J.next x).2)
 | .lit J,x=>(.lit (J.next x).1,(J.next x).2)
 | .vau J,x=>(.vau (J.next x).1,(J.next x).2)
 | .ste J,x=>(.ste (J.next x).1,(J.next x).2)
def new (st:Int) (op:GOp):GJob :=
 bif st==1 then .pile (.new op) else bif st==2 then .cor (.new op) else bif st==3 then .lit (.from_ (root 0) op.key op) else
 bif st==4 then .vau (.new op) else .ste (.new op)
end GJob
structure MV where
 st:Int
 eng:Int
 doing:Int
 call:Xg
 op:GOp
 job:Option GJob
 ans:GAns
 M:MR
def cleave:Xg:={ Xg.zero with kind:=2 }
def center:Xg:={ Xg.zero with kind:=1 }
def cscan:Xg:={ Xg.zero with kind:=11 }
namespace MV
def busyR (V:MV):Bool:=!(V.M.R.step==0)
def busy (V:MV):Bool:=!(V.doing==0)
def begin_ (V:MV) (d:Int) (c:Xg):MV:={ V with doing:=d,call:=c,M:=V.M.begin_ c }
def adv1 (V:MV):MV :=
 bif V.doing==1 || V.doing==2 then
  match V.job with
  | none=>V
  | some J =>
   let r:=J.next V.M.R.reply
   bif !(r.2.kind==12) then MV.begin_ { V with job:=some r.1 } 2 r.2 else
   MV.begin_ { V with job:=some r.1,ans:=r.2.ans } 3 cleave
 else { V with doing:=0 }
def quiet (V:MV):Bool:=!(!(V.doing==0) && !V.busyR)
def adv:Nat→MV→MV
 | 0,V=>V
 | n+1,V=>bif V.quiet then V else adv n V.adv1
def advance (V:MV):MV:=adv 16 V
def give (V:MV) (op:GOp):MV:=(MV.begin_ { V with op:=op,job:=some (GJob.new V.st op),ans:=.zero } 1 center).advance
def scan (V:MV):MV:=(MV.begin_ { V with op:=.zero,job:=none,ans:=.zero } 4 cscan).advance
def real (V:MV) (a:GAcc):Int :=
 bif V.call.kind==6 then
  bif V.busyR then -1 else bif V.eng==3 || V.eng==5 then 1 else 0
 else bif V.call.kind==8 then
  bif !(a.kind==4) then -1 else 0
 else bif V.call.kind==3 || (V.call.kind==4 || (V.call.kind==5 || V.call.kind==9)) then 0 else -1
end MV
structure GStride where
 over:Bool
 ans:GAns
 real:Int
namespace MV
def step (V:MV) (p:Pl):MV × Pl × GStride :=
 let r:=p.act V.M.R.acc
 let V1:={ V with M:=V.M.took r.2 }
 let V2:=V1.advance
 (V2,r.1,bif V2.doing==0 then ⟨true,V2.ans,V1.real V.M.R.acc⟩ else ⟨false,.zero,V1.real V.M.R.acc⟩)
end MV
structure Yh where
 thread:Int
 begins:Bool
 op:GOp
 real:Bool
 ends:Bool
 ans:GAns
 deriving DecidableEq
def Yh.l (x:Yh):List Value:=[.int .i64 x.thread]++[.bool x.begins]++x.op.l++[.bool x.real]++[.bool x.ends]++x.ans.l
def Yh.zero:Yh:=⟨0,false,.zero,false,false,.zero⟩
structure MT where
 V:MV
 queue:List GOp
 given:Int
 last:Int
structure MPa where
 st:Int
 heap:Pl
 ths:List MT
 beats:List Yh
namespace MPa
def has (P:MPa) (k:Int):Bool:=decide (0≤k) && decide (k < (P.ths.length:Int))
def idleT (T:MT):Bool:=!T.V.busy && T.queue.isEmpty
def ready (T:MT):MT:=bif T.V.busy then T else match T.queue with
 | []=>T
 | op :: r=>{ T with V:=T.V.give op,queue:=r }
def beatOp (T:MT):GOp:=bif T.V.busy then .zero else T.queue.headD .zero
def pickT (P:MPa) (k:Nat) (T:MT):MPa × Yh :=
 let T1:=ready T
 let r:=T1.V.step P.heap
 let b:Yh:=⟨k,!T.V.busy,beatOp T,r.2.2.real==0,r.2.2.over,r.2.2.ans⟩
 let bs:=bif r.2.2.real==1 && decide (0≤T.last) then P.beats.modify T.last.toNat (fun b=>{ b with real:=true }) else P.beats
 ({ P with heap:=r.2.1,ths:=P.ths.set k { T1 with V:=r.1,last:=P.beats.length },beats:=bs++[b] },b)
end MPa
def pile_env (J:Yg) (x:Xi):Env:=mkE [J.ii,x.ii] [J.bb,x.bb]
def pile_st:St:=⟨[],[(1,175,(ct [vs 0 9,[.bool (.var 0)],vs 9 4,[.bool (.var 1)],vs 13 12,[.bool (.var 2)],vs 25 4,[.bool (.var 3),.int (.var 29)]]))],[],10,0⟩
def pile_args:List SV:=[.c (.ptr 1 0),.agg ((ct [vs 30 4,[.bool (.var 4),.bool (.var 5)]]))]
theorem pile_any (J:Yg) (x:Xi) (g1:Nat) (w:World) (h1:Bk w g1 175 J.l.toArray):Calls Tryz.prog 135 #[.pointer (some ⟨g1,0,none⟩),.agg x.l.toArray] w fun en w'=>en = .returned (X8 (J.next x).2)∧Bk w' g1 175 ((J.next x).1.l).toArray∧Chg [g1] w w':=by
 refine p1 (pile_env J x) [] 60 pile_st pile_args (J.next x) (fun r=>(X8 r.2,(r.1.l).toArray)) Xd asN h1 ?_
 exact vS2
def cor_env (J:GCorJ) (x:Xi):Env:=mkE [J.ii,x.ii] [J.bb,x.bb]
def cor_st:St:=⟨[],[(1,179,(ct [vs 0 9,[.bool (.var 0)],vs 9 4,[.bool (.var 1)],vs 13 12,[.bool (.var 2)],vs 25 4,[.bool (.var 3)],vs 29 4,[.bool (.var 4)],vs 33 4,[.bool (.var 5),.int (.var 37)]]))],[],10,0⟩
def cor_args:List SV:=[.c (.ptr 1 0),.agg ((ct [vs 38 4,[.bool (.var 6),.bool (.var 7)]]))]
theorem cor_any (J:GCorJ) (x:Xi) (g1:Nat) (w:World) (h1:Bk w g1 179 J.l.toArray):Calls Tryz.prog 145 #[.pointer (some ⟨g1,0,none⟩),.agg x.l.toArray] w fun en w'=>en = .returned (X8 (J.next x).2)∧Bk w' g1 179 ((J.next x).1.l).toArray∧Chg [g1] w w':=by
 refine p1 (cor_env J x) [] 60 cor_st cor_args (J.next x) (fun r=>(X8 r.2,(r.1.l).toArray)) Xd asN h1 ?_
 exact vS2
structure GVer where
 st:Int
 eng:Int
 doing:Int
 call:Xg
 op:GOp
 ans:GAns
def GVer.l (x:GVer) (p_rite p_job:Value):List Value:=[.int .i64 x.st]++[.int .i64 x.eng]++[p_rite]++[.int .i64 x.doing]++x.call.l++x.op.l++[p_job]++x.ans.l
def advG:List (Xg × Bool)→GVer→Nat→GVer × Nat
 | [],V,n=>(V,n)
 | (c,b) :: r,V,n =>
  bif !(c.kind==12) then
   bif b then ({ V with doing:=2,call:=c },n+2) else advG r { V with doing:=2,call:=c } (n+2)
  else
   bif b then ({ V with doing:=3,call:=cleave,ans:=c.ans },n+2) else ({ V with doing:=0,call:=cleave,ans:=c.ans },n+2)
def advV (V:GVer) (b:Bool) (l:List (Xg × Bool)):GVer × Nat :=
 bif !(V.doing==0) then
  bif !b then bif V.doing==1 then advG l V 0 else bif V.doing==2 then advG l V 0 else ({ V with doing:=0 },0) else (V,0)
 else (V,0)
def GStride.l (x:GStride):List Value:=[.bool x.over]++x.ans.l++[.int .i64 x.real]
def realOf (V:GVer) (b0:Bool) (a:GAcc):Int :=
 bif V.call.kind==6 then bif b0 then -1 else bif V.eng==3 then 1 else bif V.eng==5 then 1 else 0
 else bif V.call.kind==8 then bif !(a.kind==4) then -1 else 0
 else bif V.call.kind==3 then 0 else bif V.call.kind==4 then 0 else bif V.call.kind==5 then 0 else bif V.call.kind==9 then 0 else -1
def stepF (V2:GVer) (z:Int):GStride:=bif V2.doing==0 then ⟨true,V2.ans,z⟩ else ⟨false,.zero,z⟩
theorem stepF_bif (V2:GVer) (c:Bool) (a b:Int):stepF V2 (bif c then a else b) = bif c then stepF V2 a else stepF V2 b:=by cases c <;> rfl
def vstep_env (V:GVer) (pr:Go.Addr) (jv:Value) (ph:Go.Addr) (a:GAcc) (x:Xi) (bq:Bool) (V2:GVer) (hjv:jv.oneCell' = true):Env:=mkV [[V.st,V.eng,V.doing],V.call.ii,V.op.ii,V.ans.ii,a.ii,x.ii,[V2.st,V2.eng,V2.doing],V2.call.ii,V2.op.ii,V2.ans.ii] [V.call.bb,a.bb,x.bb,[bq],V2.call.bb] [.pointer (some pr),jv,.pointer (some ph)] (by intro u hu;simp at hu;rcases hu with rfl | rfl | rfl <;> first | rfl | assumption)
def vstep_st:St:=⟨[],[(1,126,(ct [[.int (.var 0),.int (.var 1),.raw 0],vs 2 9,[.bool (.var 0)],vs 11 4,[.bool (.var 1)],vs 15 8,[.raw 1,.int (.var 23),.int (.var 24)]]))],[(.eq (.var 2) (.lit 0),false),(.nil 0,false),(.nil 2,false)],10,0⟩
def vstep_args:List SV:=[.c (.ptr 1 0),.c (.raw 2)]
def vstep_S:List Xs:=[⟨false,57,1,[],[.c (.raw 0)],.tup [(true,(ct [vs 25 8,[.bool (.var 2)],vs 33 4,[.bool (.var 3)]])),(false,[.bool (.lit true)])],[]⟩,⟨false,42,101,[],[.c (.raw 2),.agg ((ct [vs 25 8,[.bool (.var 2)],vs 33 4,[.bool (.var 3)]]))],.tup [(true,(ct [vs 37 4,[.bool (.var 4),.bool (.var 5)]])),(false,[.lit .nilIface])],[]⟩,⟨false,58,202,[],[.c (.raw 0),.agg ((ct [vs 37 4,[.bool (.var 4),.bool (.var 5)]]))],.c (.lit .nilIface),[]⟩,⟨false,72,203,[],[.c (.raw 0)],.c (.bool (.var 6)),[]⟩,⟨true,56,126,((ct [[.int (.var 0),.int (.var 1),.raw 0],vs 2 9,[.bool (.var 0)],vs 11 4,[.bool (.var 1)],vs 15 8,[.raw 1,.int (.var 23),.int (.var 24)]])),[],.tup [],((ct [[.int (.var 41),.int (.var 42),.raw 0],vs 43 9,[.bool (.var 7)],vs 52 4,[.bool (.var 8)],vs 56 8,[.raw 1,.int (.var 64),.int (.var 65)]]))++[.raw 20303]⟩]
theorem vstep_any {Φ:Phi} {F:Nat→Prop} (V:GVer) (pr:Go.Addr) (jv:Value) (ph:Go.Addr) (a:GAcc) (x:Xi) (bq:Bool) (V2:GVer) (g1:Nat) (w:World) (h1:Bk w g1 126 (V.l (.pointer (some pr)) (jv)).toArray) (hjv:jv.oneCell' = true) (hd:(V.doing==0) = false) (H0:∀ w F,Φ.P 0 w F→(∀ b,F b→b < w.heap.size)→Calls Tryz.prog 57 #[.pointer (some pr)] w fun en w'=>en = .returned (.tuple #[.agg a.l.toArray,.bool true])∧Opq Φ 0 F none w w') (H1:∀ w F,Φ.P 0 w F→(∀ b,F b→b < w.heap.size)→Calls Tryz.prog 42 #[.pointer (some ph),.agg a.l.toArray] w fun en w'=>en = .returned (.tuple #[.agg x.l.toArray,.nilIface])∧Opq Φ 1 F none w w') (H2:∀ w F,Φ.P 1 w F→(∀ b,F b→b < w.heap.size)→Calls Tryz.prog 58 #[.pointer (some pr),.agg x.l.toArray] w fun en w'=>en = .returned (.nilIface)∧Opq Φ 2 F none w w') (H3:∀ w F,Φ.P 2 w F→(∀ b,F b→b < w.heap.size)→Calls Tryz.prog 72 #[.pointer (some pr)] w fun en w'=>en = .returned (.bool bq)∧Opq Φ 2 F none w w') (G0:∀ g w F,Bk w g 126 (V.l (.pointer (some pr)) jv).toArray→Φ.P 2 w F→¬ F g→(∀ b,F b→b < w.heap.size)→Calls Tryz.prog 56 #[.pointer (some ⟨g,2,none⟩)] w fun en w'=>en = .returned (.tuple #[])∧Bk w' g 126 (V2.l (.pointer (some pr)) jv).toArray∧Opq Φ 3 F (some g) w w') (f1:Φ.P 0 w F) (f2:¬ F g1) (f3:∀ b,F b→b < w.heap.size):Calls Tryz.prog 37 #[.pointer (some ⟨g1,0,none⟩),.pointer (some ph)] w fun en w'=>EPost Φ 3 F g1 126 (V2.l (.pointer (some pr)) jv).toArray (.tuple #[.agg ((bif V2.doing==0 then (⟨true,V2.ans,realOf V bq a⟩:GStride) else ⟨false,.zero,realOf V bq a⟩)).l.toArray,.nilIface]) w en w':=by
 refine pE (vstep_env V pr jv ph a x bq V2 hjv) vstep_S 200 vstep_st vstep_args ((bif V2.doing==0 then (⟨true,V2.ans,realOf V bq a⟩:GStride) else ⟨false,.zero,realOf V bq a⟩)) (fun r=>(.tuple #[.agg r.l.toArray,.nilIface],3,(V2.l (.pointer (some pr)) jv).toArray)) (X6 (so_eff 0 0 fun hq w F hP hb=>Yr Tryz.func57 (H0 w F hP hb)) (X6 (so_eff 0 1 fun hq w F hP hb=>Yr Tryz.func42 (H1 w F hP hb)) (X6 (so_eff 1 2 fun hq w F hP hb=>Yr Tryz.func58 (H2 w F hP hb)) (X6 (so_eff 2 2 fun hq w F hP hb=>Yr Tryz.func72 (H3 w F hP hb)) (X6 (so_effg 20303 2 3 2 Tryz.func56 G0) sumsE_nil))))) (asC hd (asC rfl (asC rfl asN))) h1 f1 f2 f3 ?_
 refine po_eq (show _ = stepF V2 (realOf V bq a) from rfl) ?_
 unfold realOf
 simp only [stepF_bif]
 exact vS6
def croot0_env:Env:=⟨fun _=>0,fun _=>false,fun _=>.nilIface,fun _=>rfl⟩
def croot0_st:St:=⟨[],[],[],10,0⟩
def croot0_args:List SV:=[.c (.int (.lit 0))]
def croot0_L:SV × Heap:=((.agg (zs 3)),[])
theorem croot0_tree:packT (exec Tryz.prog [] 120 (.call 66 croot0_args) croot0_st) = .leaf croot0_L:=by kernel_rfl
theorem croot0_any (w:World):Calls Tryz.prog 66 #[.int .i64 0] w fun en w'=>en = .returned (.agg #[.int .i64 0,.int .i64 0,.int .i64 0])∧Chg [] w w':=by
 refine (sym_packA (S:=[]) (e:=croot0_env) (st:=croot0_st) (args:=croot0_args) (k:=kof []) mixed Xd (v:=croot0_L.1) (hp':=croot0_L.2) (by rw [croot0_tree];rfl) (asm_nil rfl) (kof_even []) (fun z hz=>by cases hz) (by kernel_rfl) (by kernel_rfl) (fun z hz=>by cases hz) (by kernel_rfl)).mono fun en w' hp=>?_
 obtain ⟨k',hp⟩:=hp
 exact ⟨hp.ret.trans (by kernel_rfl),chg_to hp.chg (ls:=[]) (by kernel_rfl) (by simp)⟩
def croot1_env:Env:=⟨fun _=>0,fun _=>false,fun _=>.nilIface,fun _=>rfl⟩
def croot1_st:St:=⟨[],[],[],10,0⟩
def croot1_args:List SV:=[.c (.int (.lit 1))]
def croot1_L:SV × Heap:=((.agg ([(.int (.lit 0)),(.int (.lit 0)),(.int (.lit 1))])),[])
theorem croot1_tree:packT (exec Tryz.prog [] 120 (.call 66 croot1_args) croot1_st) = .leaf croot1_L:=by kernel_rfl
theorem croot1_any (w:World):Calls Tryz.prog 66 #[.int .i64 1] w fun en w'=>en = .returned (.agg #[.int .i64 0,.int .i64 0,.int .i64 1])∧Chg [] w w':=by
 refine (sym_packA (S:=[]) (e:=croot1_env) (st:=croot1_st) (args:=croot1_args) (k:=kof []) mixed Xd (v:=croot1_L.1) (hp':=croot1_L.2) (by rw [croot1_tree];rfl) (asm_nil rfl) (kof_even []) (fun z hz=>by cases hz) (by kernel_rfl) (by kernel_rfl) (fun z hz=>by cases hz) (by kernel_rfl)).mono fun en w' hp=>?_
 obtain ⟨k',hp⟩:=hp
 exact ⟨hp.ret.trans (by kernel_rfl),chg_to hp.chg (ls:=[]) (by kernel_rfl) (by simp)⟩
def bcells_env:Env:=⟨fun _=>0,fun _=>false,fun _=>.nilIface,fun _=>rfl⟩
def bcells_st:St:=⟨[],[],[],10,0⟩
def bcells_args:List SV:=[]
def bcells_L:SV × Heap:=((.c (.int (.lit 85))),[])
theorem bcells_tree:packT (exec Tryz.prog [] 120 (.call 41 bcells_args) bcells_st) = .leaf bcells_L:=by kernel_rfl
theorem bcells_any (w:World):Calls Tryz.prog 41 #[] w fun en w'=>en = .returned (.int .i64 85)∧Chg [] w w':=by
 refine (sym_packA (S:=[]) (e:=bcells_env) (st:=bcells_st) (args:=bcells_args) (k:=kof []) mixed Xd (v:=bcells_L.1) (hp':=bcells_L.2) (by rw [bcells_tree];rfl) (asm_nil rfl) (kof_even []) (fun z hz=>by cases hz) (by kernel_rfl) (by kernel_rfl) (fun z hz=>by cases hz) (by kernel_rfl)).mono fun en w' hp=>?_
 obtain ⟨k',hp⟩:=hp
 exact ⟨hp.ret.trans (by kernel_rfl),chg_to hp.chg (ls:=[]) (by kernel_rfl) (by simp)⟩
def bera_env:Env:=⟨fun _=>0,fun _=>false,fun _=>.nilIface,fun _=>rfl⟩
def bera_st:St:=⟨[],[],[],10,0⟩
def bera_args:List SV:=[]
def bera_L:SV × Heap:=((.agg ([(.int (.lit 0)),(.int (.lit 0)),(.int (.lit 24))])),[])
theorem bera_tree:packT (exec Tryz.prog [] 120 (.call 43 bera_args) bera_st) = .leaf bera_L:=by kernel_rfl
theorem bera_any (w:World):Calls Tryz.prog 43 #[] w fun en w'=>en = .returned (.agg #[.int .i64 0,.int .i64 0,.int .i64 24])∧Chg [] w w':=by
 refine (sym_packA (S:=[]) (e:=bera_env) (st:=bera_st) (args:=bera_args) (k:=kof []) mixed Xd (v:=bera_L.1) (hp':=bera_L.2) (by rw [bera_tree];rfl) (asm_nil rfl) (kof_even []) (fun z hz=>by cases hz) (by kernel_rfl) (by kernel_rfl) (fun z hz=>by cases hz) (by kernel_rfl)).mono fun en w' hp=>?_
 obtain ⟨k',hp⟩:=hp
 exact ⟨hp.ret.trans (by kernel_rfl),chg_to hp.chg (ls:=[]) (by kernel_rfl) (by simp)⟩
def gnum1_env:Env:=⟨fun _=>0,fun _=>false,fun _=>.nilIface,fun _=>rfl⟩
def gnum1_st:St:=⟨[],[],[],10,0⟩
def gnum1_args:List SV:=[.c (.int (.lit 1))]
def gnum1_L:SV × Heap:=((.agg (zs 3++[(.int (.lit 1)),(.bool (.lit false))])),[])
theorem gnum1_tree:packT (exec Tryz.prog [] 120 (.call 44 gnum1_args) gnum1_st) = .leaf gnum1_L:=by kernel_rfl
theorem gnum1_any (w:World):Calls Tryz.prog 44 #[.int .i64 1] w fun en w'=>en = .returned (.agg #[.int .i64 0,.int .i64 0,.int .i64 0,.int .i64 1,.bool false])∧Chg [] w w':=by
 refine (sym_packA (S:=[]) (e:=gnum1_env) (st:=gnum1_st) (args:=gnum1_args) (k:=kof []) mixed Xd (v:=gnum1_L.1) (hp':=gnum1_L.2) (by rw [gnum1_tree];rfl) (asm_nil rfl) (kof_even []) (fun z hz=>by cases hz) (by kernel_rfl) (by kernel_rfl) (fun z hz=>by cases hz) (by kernel_rfl)).mono fun en w' hp=>?_
 obtain ⟨k',hp⟩:=hp
 exact ⟨hp.ret.trans (by kernel_rfl),chg_to hp.chg (ls:=[]) (by kernel_rfl) (by simp)⟩
def pgood_env (st eng thr slots most:Int):Env:=⟨fun i=>([st,eng,thr,slots,most]:List Int).getD i 0,fun _=>false,fun _=>.nilIface,fun _=>rfl⟩
def pgood_st:St:=⟨[],[],[(.le (.lit 1) (.var 0),true),(.le (.var 0) (.lit 5),true),(.le (.lit 1) (.var 1),true),(.le (.var 1) (.lit 5),true),(.le (.lit 1) (.var 2),true),(.le (.var 2) (.lit 6),true),(.le (.lit 0) (.var 3),true),(.le (.var 3) (.lit 1024),true),(.le (.lit 1) (.var 4),true),(.le (.var 4) (.lit 64),true)],10,0⟩
def pgood_args:List SV:=[.agg (vs 0 5)]
def pgood_L:SV × Heap:=((.c (.bool (.le (.var 4) (.lit 64)))),[])
theorem pgood_tree:packT (exec Tryz.prog [] 120 (.call 21 pgood_args) pgood_st) = .leaf pgood_L:=by kernel_rfl
theorem pgood_any (st eng thr slots most:Int) (w:World) (a0:1≤st) (b0:st≤5) (a1:1≤eng) (b1:eng≤5) (a2:1≤thr) (b2:thr≤6) (a3:0≤slots) (b3:slots≤1024) (a4:1≤most) (b4:most≤64):Calls Tryz.prog 21 #[.agg #[.int .i64 st,.int .i64 eng,.int .i64 thr,.int .i64 slots,.int .i64 most]] w fun en w'=>en = .returned (.bool true)∧Chg [] w w':=by
 refine (sym_packA (S:=[]) (e:=(pgood_env st eng thr slots most)) (st:=pgood_st) (args:=pgood_args) (k:=kof []) mixed Xd (v:=pgood_L.1) (hp':=pgood_L.2) (by rw [pgood_tree];rfl) (asm_cons (show BT.den (pgood_env st eng thr slots most) (.le (.lit 1) (.var 0)) = true from decide_eq_true a0) (asm_cons (show BT.den (pgood_env st eng thr slots most) (.le (.var 0) (.lit 5)) = true from decide_eq_true b0) (asm_cons (show BT.den (pgood_env st eng thr slots most) (.le (.lit 1) (.var 1)) = true from decide_eq_true a1) (asm_cons (show BT.den (pgood_env st eng thr slots most) (.le (.var 1) (.lit 5)) = true from decide_eq_true b1) (asm_cons (show BT.den (pgood_env st eng thr slots most) (.le (.lit 1) (.var 2)) = true from decide_eq_true a2) (asm_cons (show BT.den (pgood_env st eng thr slots most) (.le (.var 2) (.lit 6)) = true from decide_eq_true b2) (asm_cons (show BT.den (pgood_env st eng thr slots most) (.le (.lit 0) (.var 3)) = true from decide_eq_true a3) (asm_cons (show BT.den (pgood_env st eng thr slots most) (.le (.var 3) (.lit 1024)) = true from decide_eq_true b3) (asm_cons (show BT.den (pgood_env st eng thr slots most) (.le (.lit 1) (.var 4)) = true from decide_eq_true a4) (asm_cons (show BT.den (pgood_env st eng thr slots most) (.le (.var 4) (.lit 64)) = true from decide_eq_true b4) (asm_nil rfl))))))))))) (kof_even []) (fun z hz=>by cases hz) (by kernel_rfl) (by kernel_rfl) (fun z hz=>by cases hz) (by kernel_rfl)).mono fun en w' hp=>?_
 obtain ⟨k',hp⟩:=hp
 have e1:en = .returned (.bool (decide (most≤64))):=hp.ret.trans (by kernel_rfl)
 rw [decide_eq_true b4] at e1
 exact ⟨e1,chg_to hp.chg (ls:=[]) (by kernel_rfl) (by simp)⟩
def WOk (n:Nat) (w:Xf):Prop:=0≤w.sl∧w.sl≤n∧(w.sl = 0→w.gn = 0)
def WOn (n:Nat) (w:Xf):Prop:=1≤w.sl∧w.sl≤n
def AOn (n:Nat) (a:Yj):Prop:=1≤a.sl∧a.sl≤n∧0≤a.fd∧a.fd < 10
def AOk (n:Nat) (a:Yj):Prop:=AOn n a∨(a.sl = 0∧a.gn = 0∧0≤a.fd∧a.fd < 24)
def CP (st:Int) (n:Nat) (a:Yj) (w:Xf):Prop:=WOk n w∧(st = 2→a.sl = 0→a.fd = 0→WOn n w)
def HoldOk (c:Xg):Prop:=(c.i = 2∧c.j = 1)∨(c.i = 1∧c.j = 0)∨(c.i = 5∧c.j = 4)∨(c.i = 4∧c.j = 3)∨(c.i = 8∧c.j = 7)∨(c.i = 7∧c.j = 6)∨(c.i = 2∧c.j = 5)∨(c.i = 5∧c.j = 8)
def COk (st:Int) (n:Nat) (c:Xg):Prop :=
 (c.kind = 3∧AOk n c.adr)∨(c.kind = 4∧AOn n c.adr∧WOk n c.new) ∨
 (c.kind = 5∧AOk n c.adr∧CP st n c.adr c.new∧c.new.tg = wr (c.old.tg+1)) ∨
 (c.kind = 6∧AOk n c.adr∧0≤c.i∧c.i < 9∧c.j = 0)∨(c.kind = 7∧HoldOk c)∨c.kind = 8∨(c.kind = 9∧WOn n c.old)∨(c.kind = 10∧WOn n c.old)∨c.kind = 12
def XOk (st:Int) (n:Nat) (c:Xg) (x:Xi):Prop :=
 WOk n x.word∧(c.kind = 8→x.ok = true→WOn n x.word)∧(st = 2→(c.kind = 3∨c.kind = 6)→c.adr.sl = 0→c.adr.fd = 0→WOn n x.word)
section
variable {st:Int} {n:Nat} {a:Yj} {w o m:Xf} {i:Int}
theorem cok_load (h:AOk n a):COk st n (cload a):=Or.inl ⟨rfl,h⟩
theorem cok_store (h:AOn n a) (h1:WOk n w):COk st n (cstore a w):=Or.inr (Or.inl ⟨rfl,h,h1⟩)
theorem cok_swap (h:AOk n a) (h1:CP st n a m) (h2:m.tg = wr (o.tg+1)):COk st n (cswap a o m):=Or.inr (Or.inr (Or.inl ⟨rfl,h,h1,h2⟩))
theorem cok_protect (h:AOk n a) (h1:0≤i) (h2:i < 9):COk st n (cprotect a i):=Or.inr (Or.inr (Or.inr (Or.inl ⟨rfl,h,h1,h2,rfl⟩)))
theorem cok_hold {j:Int} (h:HoldOk (chold i j)):COk st n (chold i j):=Or.inr (Or.inr (Or.inr (Or.inr (Or.inl ⟨rfl,h⟩))))
theorem cok_hold21:COk st n (chold 2 1):=cok_hold (Or.inl ⟨rfl,rfl⟩)
theorem cok_hold10:COk st n (chold 1 0):=cok_hold (Or.inr (Or.inl ⟨rfl,rfl⟩))
theorem cok_alloc:COk st n calloc:=Or.inr (Or.inr (Or.inr (Or.inr (Or.inr (Or.inl rfl)))))
theorem cok_drop (h:WOn n w):COk st n (cdrop w):=Or.inr (Or.inr (Or.inr (Or.inr (Or.inr (Or.inr (Or.inl ⟨rfl,h⟩))))))
theorem cok_retire (h:WOn n w):COk st n (cretire w):=Or.inr (Or.inr (Or.inr (Or.inr (Or.inr (Or.inr (Or.inr (Or.inl ⟨rfl,h⟩)))))))
theorem cok_done {c v:Int}:COk st n (cdone c v):=Or.inr (Or.inr (Or.inr (Or.inr (Or.inr (Or.inr (Or.inr (Or.inr rfl)))))))
theorem k_load:(cload a).kind = 3:=rfl
theorem k_store:(cstore a w).kind = 4:=rfl
theorem k_swap:(cswap a o m).kind = 5:=rfl
theorem k_protect:(cprotect a i).kind = 6:=rfl
theorem k_hold {j:Int}:(chold i j).kind = 7:=rfl
theorem k_alloc:calloc.kind = 8:=rfl
theorem k_drop:(cdrop w).kind = 9:=rfl
theorem k_retire:(cretire w).kind = 10:=rfl
theorem k_done {c v:Int}:(cdone c v).kind = 12:=rfl
theorem Yi:WOk n Xf.zero:=⟨Int.le_refl 0,Int.natCast_nonneg n,fun _=>rfl⟩
theorem wok_num {k:Int}:WOk n (wnum k):=⟨Int.le_refl 0,Int.natCast_nonneg n,fun _=>rfl⟩
theorem wok_count {k:Int}:WOk n (wcount w k):=⟨Int.le_refl 0,Int.natCast_nonneg n,fun _=>rfl⟩
theorem wok_ref (h:WOk n w):WOk n (wref w):=h
theorem wok_to (h:WOk n w):WOk n (wto o w):=h
theorem wok_marked (h:WOk n w):WOk n (wmarked w):=h
theorem won_ref (h:WOn n w):WOn n (wref w):=h
theorem won_to (h:WOn n w):WOn n (wto o w):=h
theorem won_wok (h:WOn n w):WOk n w:=⟨by have:=h.1;omega,h.2,fun e=>by have:=h.1;omega⟩
theorem wok_won (h:WOk n w) (h1:¬ w.sl = 0):WOn n w:=⟨by have:=h.1;omega,h.2.1⟩
theorem aon_aok (h:AOn n a):AOk n a:=Or.inl h
theorem aon_field {k:Int} (h:WOn n w) (h0:0≤k) (h1:k < 10):AOn n (Xx w k):=⟨h.1,h.2,h0,h1⟩
theorem Yv {k:Int} (h:WOk n w) (h0:0≤k) (h1:k < 10):AOk n (Xx w k):=by
 by_cases e:w.sl = 0
 ·exact Or.inr ⟨e,h.2.2 e,h0,Int.lt_of_lt_of_le h1 (by omega)⟩
 ·exact Or.inl (aon_field (wok_won h e) h0 h1)
theorem aok_root {k:Int} (h0:0≤k) (h1:k < 24):AOk n (root k):=Or.inr ⟨rfl,rfl,h0,h1⟩
theorem cp_of (h:st≠2) (h1:WOk n w):CP st n a w:=⟨h1,fun e=>absurd e h⟩
theorem cp_on (h1:WOn n w):CP st n a w:=⟨won_wok h1,fun _ _ _=>h1⟩
theorem cp_far (h:¬ a.fd = 0) (h1:WOk n w):CP st n a w:=⟨h1,fun _ _ e=>absurd e h⟩
theorem tg_to:(wto o w).tg = wr (o.tg+1):=rfl
theorem tg_marked:(wmarked o).tg = wr (o.tg+1):=rfl
theorem tg_count {k:Int}:(wcount o k).tg = wr (o.tg+1):=rfl
theorem f_field {k:Int}:(Xx w k).fd = k:=rfl
theorem f_root {k:Int}:(root k).fd = k:=rfl
theorem s_root {k:Int}:(root k).sl = 0:=rfl
theorem a_protect:(cprotect a i).adr = a:=rfl
theorem a_load:(cload a).adr = a:=rfl
end
def PileI (n:Nat) (J:Yg) (c:Xg):Prop :=
 WOk n J.top∧(J.pc = -1∨(0≤J.pc∧J.pc≤5))∧(J.pc = -1↔c.kind = 12) ∧
 (J.op.kind = 1→(J.pc = 1→c.kind = 8)∧(2≤J.pc→WOn n J.node))∧(J.op.kind≠1→2≤J.pc→WOn n J.top)
theorem pile_ok {st:Int} {n:Nat} {J:Yg} {c:Xg} {x:Xi} (hst:st≠2) (h:PileI n J c) (hc:c.kind≠12) (hx:XOk st n c x):PileI n (J.next x).1 (J.next x).2∧COk st n (J.next x).2:=by
 obtain ⟨pc,last,op,node,top,val⟩:=J
 simp only [PileI,XOk] at h hx
 generalize hr:Yg.next ⟨pc,last,op,node,top,val⟩ x = r
 simp only [Yg.next,Yg.push,Yg.pop,Yg.done] at hr
 (repeat' split at hr) <;> (subst hr;grind [PileI,cok_load,cok_store,cok_swap,cok_protect,cok_hold21,cok_hold10,cok_alloc,cok_drop,cok_retire,cok_done,k_load,k_store,k_swap,k_protect,k_hold,k_alloc,k_drop,k_retire,k_done,Yi,wok_num,wok_count,wok_ref,wok_to,wok_marked,won_ref,won_to,won_wok,wok_won,aon_aok,aon_field,Yv,aok_root,cp_of,cp_on,cp_far,tg_to,tg_marked,tg_count,f_field,f_root,s_root,a_protect,a_load])
def CorI (n:Nat) (J:GCorJ) (c:Xg):Prop :=
 WOk n J.t∧WOk n J.n∧WOk n J.h∧(J.pc = -1∨(0≤J.pc∧J.pc≤8))∧(J.pc = -1↔c.kind = 12) ∧
 (J.op.kind = 4→(J.pc = 1→c.kind = 8)∧(2≤J.pc→WOn n J.node)) ∧
 (J.op.kind≠4→(J.pc = 1→c.kind = 6∧c.adr = root 0)∧(2≤J.pc→J.pc≠5→WOn n J.h)∧(6≤J.pc→WOn n J.n))
theorem cor_ok {n:Nat} {J:GCorJ} {c:Xg} {x:Xi} (h:CorI n J c) (hc:c.kind≠12) (hx:XOk 2 n c x):CorI n (J.next x).1 (J.next x).2∧COk 2 n (J.next x).2:=by
 obtain ⟨pc,last,op,node,hh,t,nn,val⟩:=J
 simp only [CorI,XOk] at h hx
 have hp:pc = -1∨pc = 0∨pc = 1∨pc = 2∨pc = 3∨pc = 4∨pc = 5∨pc = 6∨pc = 7∨pc = 8:=by omega
 have hn:pc≠-1:=fun e=>hc (h.2.2.2.2.1.1 e)
 generalize hr:GCorJ.next _ x = r
 by_cases hk:op.kind = 4 <;> (rcases hp with rfl | rfl | rfl | rfl | rfl | rfl | rfl | rfl | rfl | rfl) <;> simp only [GCorJ.next,GCorJ.enqueue,GCorJ.dequeue,GCorJ.done,beq_iff_eq,hk,Int.reduceEq,Int.reduceNeg,if_true,if_false,↓reduceIte] at hr <;> (repeat' split at hr) <;>
  first | exact absurd rfl hn | (subst hr;grind [CorI,cok_load,cok_store,cok_swap,cok_protect,cok_hold21,cok_hold10,cok_alloc,cok_drop,cok_retire,cok_done,k_load,k_store,k_swap,k_protect,k_hold,k_alloc,k_drop,k_retire,k_done,Yi,wok_num,wok_count,wok_ref,wok_to,wok_marked,won_ref,won_to,won_wok,wok_won,aon_aok,aon_field,Yv,aok_root,cp_of,cp_on,cp_far,tg_to,tg_marked,tg_count,f_field,f_root,s_root,a_protect,a_load])
def WalkI (n:Nat) (W:Xt):Prop :=
 AOk n W.start∧AOk n W.prev∧WOk n W.cur∧WOk n W.next∧(W.pc = -1∨(0≤W.pc∧W.pc≤8))∧(2≤W.pc→WOn n W.cur)∧(W.found = true→W.pc = -1∧WOn n W.cur)
theorem walk_new {n:Nat} {a:Yj} {k:Int} (h:AOk n a):WalkI n (Xt.new a k):=by
 grind [WalkI,Xt.new,Xt.zero,WOk,Xf.zero]
theorem walk_ok {st:Int} {n:Nat} {W:Xt} {x:Xi} (hst:st≠2) (h:WalkI n W) (hp:W.pc≠-1) (hx:WOk n x.word) :
  WalkI n (W.step x).1∧((W.step x).2.2 = true→COk st n (W.step x).2.1∧(W.step x).2.1.kind≠12∧(W.step x).1.pc≠-1∧(W.step x).1.found = false)∧((W.step x).2.2 = false→(W.step x).1.pc = -1):=by
 obtain ⟨pc,last,start,key,prev,cur,next,k,found⟩:=W
 simp only [WalkI] at h
 generalize hr:Xt.step ⟨pc,last,start,key,prev,cur,next,k,found⟩ x = r
 simp only [Xt.step,Xt.again,Xt.behind,Xt.finish,Xt.on] at hr
 (repeat' split at hr) <;> (subst hr;grind [WalkI,cok_load,cok_store,cok_swap,cok_protect,cok_hold21,cok_hold10,cok_alloc,cok_drop,cok_retire,cok_done,k_load,k_store,k_swap,k_protect,k_hold,k_alloc,k_drop,k_retire,k_done,Yi,wok_num,wok_count,wok_ref,wok_to,wok_marked,won_ref,won_to,won_wok,wok_won,aon_aok,aon_field,Yv,aok_root,cp_of,cp_on,cp_far,tg_to,tg_marked,tg_count,f_field,f_root,s_root,a_protect,a_load])
end Go.Proofs.YtaipogljokblkaaGreatDoor
