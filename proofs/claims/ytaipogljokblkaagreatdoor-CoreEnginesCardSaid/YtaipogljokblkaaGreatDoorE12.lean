/- Core: MP, CR0, PU, MR, MV, VG, CVer, VH, CRo, CSm, EaA. -/
import Derived.Test.YtaipogljokblkaaGreatDoorE06
import Derived.Test.YtaipogljokblkaaGreatDoorE09
import Derived.Test.YtaipogljokblkaaGreatDoorE10
import Derived.Test.YtaipogljokblkaaGreatDoorE11
import Derived.Test.YtaipogljokblkaaGreatDoorE07
import Derived.Test.YtaipogljokblkaaGreatDoorE01
set_option linter.all false
set_option maxRecDepth 100000
set_option maxHeartbeats 8000000
namespace Go.Proofs.YtaipogljokblkaaGreatDoor
open Go Go.RowKit
set_option linter.unusedSimpArgs false
set_option linter.unusedVariables false
set_option linter.unusedSectionVars false
structure IK where
 As:Int
 used:Bool
 cell:Int->Xe
def IK.zero:IK:=⟨0,false,λ_=>.zero⟩
structure Pl where
 nb:Nat
 ns:Nat
 board:Int->Xe
 slot:Int->IK
 free:List Int
 steps:Int
 made:Int
 fault:Bool
def Ap{α:Type}(f:Int->α)(i:Int)(x:α):Int->α:=λj=>bif j==i then x else f j
theorem A9{α:Type}(f:Int->α)(i:Int)(x:α):Ap f i x i=x:=by simp[Ap]
theorem Yi{α:Type}(f:Int->α){i j:Int}(x:α)(h:j≠i):Ap f i x j=f j:=by
 unfold Ap;rw[show(j==i)=false from by simp[h]];rfl
namespace Pl
def BD(p:Pl)(n:Int):Bool:=decide (1<=n)&&decide (n<=(p.ns:Int))
def has(p:Pl)(a:X9):Bool:=
 bif a.sl==0 then a.gn==0&&(decide (0<=a.fd)&&decide (a.fd<(p.nb:Int))) else p.BD a.sl&&(decide (0<=a.fd)&&decide (a.fd<10))
def valid(p:Pl)(a:Bn):Bool:=
 bif a.kind==1||(a.kind==2||a.kind==3) then p.has a.Ay else bif a.kind==4 then true else bif a.kind==5 then p.BD a.Bb.sl else false
def live(p:Pl)(n As:Int):Bool:=n==0||((p.slot n).used&&(p.slot n).As==As)
def right(p:Pl)(a:Bn):Bool:=
 bif a.kind==4 then true else bif a.kind==5 then p.live a.Bb.sl a.Bb.gn else p.live a.Ay.sl a.Ay.gn
def get(p:Pl)(a:X9):Xe:=bif a.sl==0 then p.board a.fd else(p.slot a.sl).cell a.fd
def put(p:Pl)(a:X9)(x:Xe):Pl:=
 bif a.sl==0 then{p with board:=Ap p.board a.fd x} else
 {p with slot:=Ap p.slot a.sl {p.slot a.sl with cell:=Ap (p.slot a.sl).cell a.fd x}}
def refused(kind:Int):Xj:=bif kind==1||kind==3 then⟨Yy (-1),false⟩ else Xj.zero
def alloc(p:Pl)(A4:Int):Pl × Xj:=
 match p.free.getLast? with
 |none=>(p,Xj.zero)
 |some n=>({p with free:=p.free.dropLast,slot:=Ap p.slot n ⟨wr ((p.slot n).As+1),true,Ap (λ_=>.zero) 9 (Yy A4)⟩,made:=wr (p.made+1)},⟨⟨n,wr ((p.slot n).As+1),0,0,false⟩,true⟩)
def touch(p:Pl)(a:Bn):Pl × Xj:=
 bif a.kind==1 then(p,⟨p.get a.Ay,true⟩) else
 bif a.kind==3 then
  bif Dm (p.get a.Ay) a.Bb then(p.put a.Ay a.new,⟨p.get a.Ay,true⟩) else(p,⟨p.get a.Ay,false⟩)
 else(p.put a.Ay a.new,⟨.zero,true⟩)
def act(p:Pl)(a:Bn):Pl × Xj:=
 let p:={p with steps:=wr (p.steps+1)}
 bif !p.right a then({p with fault:=true},refused a.kind) else
 bif a.kind==4 then p.alloc a.new.nm else
 bif a.kind==5 then({p with slot:=Ap p.slot a.Bb.sl {p.slot a.Bb.sl with used:=false},free:=p.free++[a.Bb.sl]},⟨.zero,true⟩) else
 p.touch a
end Pl
def rcE(R:Xb)(c:Xf):Env:=Ik [R.ii,c.ii] [R.bb,c.bb] [R.seen.v,R.An.v,R.notes.v] (AE rfl)
def rxE(R:Xb)(x:Xj):Env:=Ik [R.ii,x.ii] [R.bb,x.bb] [R.seen.v,R.An.v,R.notes.v] (AE rfl)
def eD:List SC:=(ct [vs 0 8,[.bool (.var 0)],vs 8 4,[.bool (.var 1)],vs 12 13,[.bool (.var 2)],vs 25 4,[.bool (.var 3)],vs 29 4,[.bool (.var 4)],vs 33 4,[.bool (.var 5),.int (.var 37),.AN 0,.AN 1],vs 38 8,[.bool (.var 6)],vs 46 4,[.bool (.var 7)],vs 50 4,[.bool (.var 8)],vs 54 4,[.bool (.var 9)],vs 58 4,[.bool (.var 10)],vs 62 4,[.bool (.var 11)],vs 66 4,[.bool (.var 12)],vs 70 4,[.bool (.var 13)],vs 74 4,[.bool (.var 14),.bool (.var 15),.int (.var 78),.int (.var 79),.AN 2],vs 80 5,[.bool (.var 16),.bool (.var 17)]])
namespace Xb
def look(R:Xb)(n:Int):Xb × Bool:=
 bif R.A2 then
  bif decide (wr (R.Af*9)<=n) then(R,false) else(Xb.load {R with index:=n} 13 ⟨0,0,wr (wr (25+wr (wr (Int.tdiv n 9)*9))+Int.tmod n 9)⟩,true)
 else bif decide (R.Af<=n) then(R,false) else(Xb.load {R with index:=n} 13 ⟨0,0,wr (79+n)⟩,true)
def scan(R:Xb):Xb:=bif R.Aa==1 then R.done else bif R.Aa==4 then R.load 12 (root 24) else(R.look 0).1
def noted(R:Xb):Xb:=bif decide (R.most<=(R.notes.n:Int)) then R.scan else R.done
def GM(R:Xb):Xb:=bif R.Aa==1 then R.done else bif R.Aa==4 then R.load 10 (root 24) else R.load 9 (Xg R.call.Bb 9)
end Xb
def Bp:BA:=⟨none,0,0⟩
def DY(w:Xe):AJ:=bif w.mark then⟨true,w.nm,w.tg⟩ else⟨false,0,0⟩
structure MR where
 R:Xb
 ns:List Xq
 ds:List Xq
 ss:List Xe
namespace MR
def wrap(M:MR)(R:Xb):MR:=bif R.step==0 then⟨R,M.ns,[],[]⟩ else⟨R,M.ns,M.ds,M.ss⟩
def scan(M:MR):MR:=M.wrap M.R.scan
def noted(M:MR):MR:=bif decide (M.R.most<=(M.ns.length:Int)) then M.scan else M.wrap M.R.done
def note(M:MR)(A4 CS:Int):MR:={M with ns:=M.ns++[⟨Yt M.R.call.Bb,A4,CS⟩]}
def retire(M:MR):MR:=bif M.R.Aa==2 then(M.note 0 0).noted else M.wrap M.R.GM
def Aj(M:MR)(c:Xf):MR:=
 bif c.kind==10 then MR.retire ⟨M.R.Aw c,M.ns,[],[]⟩ else
 bif c.kind==11 then MR.scan ⟨M.R.Aw c,M.ns,[],[]⟩ else⟨M.R.Aq c,M.ns,[],[]⟩
def reap(M:MR):MR:=
 match M.ds with
 |[]=>M.wrap M.R.done
 |d::_=>{M with R:=M.R.ask 16 ⟨5,.zero,d.ref,.zero⟩}
def stays(M:MR):Xq->Bool:=
 bif M.R.Aa==2 then Gu M.ss else bif M.R.Aa==3 then G9 (M.ss.map (·.nm)) else
 bif M.R.Aa==5 then ET (M.ss.map DY) else DF M.R.clock.nm
def sift(M:MR):MR:=MR.reap {M with ds:=M.ns.filter λn=>!M.stays n}
def AK(M:MR)(x:Xj):MR:=
 let M:={M with ss:=M.ss++[x.word]}
 bif (M.R.look (M.R.index+1)).2 then{M with R:=(M.R.look (M.R.index+1)).1} else
 bif !(M.R.Aa==4) then M.sift else
 bif Ew M.R.clock.nm (M.ss.map DY) then{M with R:=M.R.advance 14} else{M with R:=M.R.load 15 (root 24)}
def Gq(M:MR):MR:=
 match M.ds with
 |[]=>M
 |d::ds=>MR.reap ⟨{M.R with Be:=wr (M.R.Be+1)},M.ns.erase d,ds,M.ss⟩
def Av(M:MR)(x:Xj):MR:=
 let R:=M.R
 bif R.step==1 then M.wrap (R.finish x) else
 bif R.step==2 then M.wrap R.done else
 bif R.step==3 then M.wrap (R.Cy 2 ⟨true,x.word.nm,x.word.nm⟩) else
 bif R.step==4 then M.wrap (R.Fz (([0,1,2,3,4,5,6,7,8]:List Int).filter λn=>decide (R.index<n))) else
 bif R.step==5 then M.wrap (R.Ev x) else
 bif R.step==6 then M.wrap (R.Cb x) else
 bif R.step==7 then M.wrap (R.load 5 R.call.Ay) else
 bif R.step==8 then M.wrap (R.ask 1 ⟨4,.zero,.zero,Yy x.word.nm⟩) else
 bif R.step==9 then M.wrap (Xb.load {R with word:=x.word} 10 (root 24)) else
 bif R.step==10 then
  let M:=MR.note {M with R:={R with clock:=x.word}} R.word.nm x.word.nm
  bif R.dating then{M with R:=M.R.advance 11} else M.noted
 else
 bif R.step==11 then M.noted else
 bif R.step==12 then M.wrap (Xb.look {R with clock:=x.word} 0).1 else
 bif R.step==13 then M.AK x else
 bif R.step==14 then M.wrap (R.load 15 (root 24)) else
 bif R.step==15 then MR.sift {M with R:={R with clock:=x.word}} else
 M.Gq
end MR
inductive Xx where
 |pile (J:Xk)|XK (J:Xt)|lit (J:Xh)|K2 (J:Xa)|FJ (J:Xc)
namespace Xx
def next:Xx->Xj->Xx × Xf
 |.pile J,x=>(.pile (J.next x).1,(J.next x).2)
 |.XK J,x=>(.XK (J.next x).1,(J.next x).2)
 |.lit J,x=>(.lit (J.next x).1,(J.next x).2)
 |.K2 J,x=>(.K2 (J.next x).1,(J.next x).2)
 |.FJ J,x=>(.FJ (J.next x).1,(J.next x).2)
def new(st:Int)(op:A3):Xx:=
 bif st==1 then .pile (.new op) else bif st==2 then .XK (.new op) else bif st==3 then .lit (.from_ (root 0) op.key op) else
 bif st==4 then .K2 (.new op) else .FJ (.new op)
end Xx
structure MV where
 st:Int
 eng:Int
 Ae:Int
 call:Xf
 op:A3
 BF:Option Xx
 A5:Yu
 M:MR
def AP:Xf:={Xf.zero with kind:=2}
def AB:Xf:={Xf.zero with kind:=1}
def UF:Xf:={Xf.zero with kind:=11}
namespace MV
def DK(V:MV):Bool:=!(V.M.R.step==0)
def busy(V:MV):Bool:=!(V.Ae==0)
def Aj(V:MV)(d:Int)(c:Xf):MV:={V with Ae:=d,call:=c,M:=V.M.Aj c}
def GC(V:MV):MV:=
 bif V.Ae==1||V.Ae==2 then
  match V.BF with
  |none=>V
  |some J=>
   let r:=J.next V.M.R.AF
   bif !(r.2.kind==12) then MV.Aj {V with BF:=some r.1} 2 r.2 else
   MV.Aj {V with BF:=some r.1,A5:=r.2.A5} 3 AP
 else{V with Ae:=0}
def quiet(V:MV):Bool:=!(!(V.Ae==0)&&!V.DK)
def Lv:Nat->MV->MV
 |0,V=>V
 |n+1,V=>bif V.quiet then V else Lv n V.GC
def advance(V:MV):MV:=Lv 16 V
def Jw(V:MV)(op:A3):MV:=(MV.Aj {V with op:=op,BF:=some (Xx.new V.st op),A5:=.zero} 1 AB).advance
def scan(V:MV):MV:=(MV.Aj {V with op:=.zero,BF:=none,A5:=.zero} 4 UF).advance
def real(V:MV)(a:Bn):Int:=
 bif V.call.kind==6 then
  bif V.DK then-1 else bif V.eng==3||V.eng==5 then 1 else 0
 else bif V.call.kind==8 then
  bif !(a.kind==4) then-1 else 0
 else bif V.call.kind==3||(V.call.kind==4||(V.call.kind==5||V.call.kind==9)) then 0 else-1
end MV
structure Ha where
 over:Bool
 A5:Yu
 real:Int
namespace MV
def step(V:MV)(p:Pl):MV × Pl × Ha:=
 let r:=p.act V.M.R.BN
 let V1:={V with M:=V.M.Av r.2}
 let V2:=V1.advance
 (V2,r.1,bif V2.Ae==0 then⟨true,V2.A5,V1.real V.M.R.BN⟩ else⟨false,.zero,V1.real V.M.R.BN⟩)
end MV
structure Ym where
 Cj:Int
 qD:Bool
 op:A3
 real:Bool
 ends:Bool
 A5:Yu
 deriving DecidableEq
def Ym.l(x:Ym):List Value:=[.int .i64 x.Cj]++[.bool x.qD]++x.op.l++[.bool x.real]++[.bool x.ends]++x.A5.l
def Ym.zero:Ym:=⟨0,false,.zero,false,false,.zero⟩
structure MT where
 V:MV
 queue:List A3
 Cw:Int
 last:Int
structure Ai where
 st:Int
 heap:Pl
 A8:List MT
 Ao:List Ym
namespace Ai
def has(P:Ai)(k:Int):Bool:=decide (0<=k)&&decide (k<(P.A8.length:Int))
def Co(T:MT):Bool:=!T.V.busy&&T.queue.isEmpty
def ready(T:MT):MT:=bif T.V.busy then T else match T.queue with
 |[]=>T
 |op::r=>{T with V:=T.V.Jw op,queue:=r}
def D9(T:MT):A3:=bif T.V.busy then .zero else T.queue.headD .zero
def Cg(P:Ai)(k:Nat)(T:MT):Ai × Ym:=
 let T1:=ready T
 let r:=T1.V.step P.heap
 let b:Ym:=⟨k,!T.V.busy,D9 T,r.2.2.real==0,r.2.2.over,r.2.2.A5⟩
 let bs:=bif r.2.2.real==1&&decide (0<=T.last) then P.Ao.modify T.last.toNat (λb=>{b with real:=true}) else P.Ao
 ({P with heap:=r.2.1,A8:=P.A8.set k {T1 with V:=r.1,last:=P.Ao.length},Ao:=bs++[b]},b)
end Ai
structure DA where
 st:Int
 eng:Int
 Ae:Int
 call:Xf
 op:A3
 A5:Yu
def DA.l(x:DA)(p_rite p_job:Value):List Value:=[.int .i64 x.st]++[.int .i64 x.eng]++[p_rite]++[.int .i64 x.Ae]++x.call.l++x.op.l++[p_job]++x.A5.l
def Si:List (Xf × Bool)->DA->Nat->DA × Nat
 |[],V,n=>(V,n)
 |(c,b)::r,V,n=>
  bif !(c.kind==12) then
   bif b then({V with Ae:=2,call:=c},n+2) else Si r {V with Ae:=2,call:=c} (n+2)
  else
   bif b then({V with Ae:=3,call:=AP,A5:=c.A5},n+2) else({V with Ae:=0,call:=AP,A5:=c.A5},n+2)
def Pr(V:DA)(b:Bool)(l:List (Xf × Bool)):DA × Nat:=
 bif !(V.Ae==0) then
  bif !b then bif V.Ae==1 then Si l V 0 else bif V.Ae==2 then Si l V 0 else({V with Ae:=0},0) else(V,0)
 else(V,0)
def qI(V:DA)(pr:Go.Addr)(jv:Value)(b0:Bool)(hjv:jv.oneCell'=true):Env:=Ik [[V.st,V.eng,V.Ae],V.call.ii,V.op.ii,V.A5.ii] [V.call.bb,[b0]] [.pointer (some pr),jv] (by intro u hu;simp at hu;rcases hu with rfl|rfl<;>first|rfl|assumption)
def wC:St:=⟨[],[(1,126,(ct [[.int (.var 0),.int (.var 1),.AN 0],vs 2 9,[.bool (.var 0)],vs 11 4,[.bool (.var 1)],vs 15 8,[.AN 1,.int (.var 23),.int (.var 24)]]))],[(.eq (.var 2) (.lit 1),false),(.eq (.var 2) (.lit 2),false),(.nil 0,false)],10,0⟩
def iA:List SV:=[.c (.ptr 1 2)]
def advl_S:List Xv:=[⟨false,72,1,[],[.c (.AN 0)],.c (.bool (.var 2)),[]⟩]
theorem qJ{Φ:GF}{F:Nat->Prop}(V:DA)(pr:Go.Addr)(jv:Value)(b0:Bool)(g1:Nat)(w:World)(h1:Bk w g1 126 (V.l (.pointer (some pr)) (jv)).toArray)(hjv:jv.oneCell'=true)(hd1:(V.Ae==1)=false)(hd2:(V.Ae==2)=false)(H0:∀w F,Φ.P 0 w F->(∀b,F b->b<w.heap.size)->Calls Tryz.prog 72 #[.pointer (some pr)] w λen w'=>en=.returned (.bool b0)/\EH Φ 0 F none w w')(f1:Φ.P 0 w F)(f2:¬F g1)(f3:∀b,F b->b<w.heap.size):Calls Tryz.prog 56 #[.pointer (some ⟨g1,2,none⟩)] w λen w'=>Ki Φ 0 F g1 126 (((bif !(V.Ae==0) then bif !b0 then({V with Ae:=0}:DA) else V else V)).l (.pointer (some pr)) jv).toArray (.tuple #[]) w en w':=by
 refine pE (qI V pr jv b0 hjv) advl_S 60 wC iA ((bif !(V.Ae==0) then bif !b0 then({V with Ae:=0}:DA) else V else V)) (λr=>(.tuple #[],0,(r.l (.pointer (some pr)) jv).toArray)) (X6 (AM 0 0 λhq w F hP hb=>Yz Tryz.func72 (H0 w F hP hb)) Gi) (BO hd1 (BO hd2 (BO rfl BY))) h1 f1 f2 f3 ?_;exact vS5
def iW(V:DA)(pr:Go.Addr)(jv:Value)(d:Int)(c:Xf)(hjv:jv.oneCell'=true):Env:=Ik [[V.st,V.eng,V.Ae],V.call.ii,V.op.ii,V.A5.ii,[d],c.ii] [V.call.bb,c.bb] [.pointer (some pr),jv] (by intro u hu;simp at hu;rcases hu with rfl|rfl<;>first|rfl|assumption)
def rS:St:=⟨[],[(1,126,(ct [[.int (.var 0),.int (.var 1),.AN 0],vs 2 9,[.bool (.var 0)],vs 11 4,[.bool (.var 1)],vs 15 8,[.AN 1,.int (.var 23),.int (.var 24)]]))],[(.nil 0,false)],10,0⟩
def aT:List SV:=[.c (.ptr 1 2),.c (.int (.var 25)),.agg ((ct [vs 26 8,[.bool (.var 2)],vs 34 4,[.bool (.var 3)],vs 38 4]))]
def xR:List Xv:=[⟨false,71,101,[],[.c (.AN 0),.agg ((ct [vs 26 8,[.bool (.var 2)],vs 34 4,[.bool (.var 3)],vs 38 4]))],.c (.lit .nilIface),[]⟩]
theorem iX{Φ:GF}{F:Nat->Prop}(V:DA)(pr:Go.Addr)(jv:Value)(d:Int)(c:Xf)(g1:Nat)(w:World)(h1:Bk w g1 126 (V.l (.pointer (some pr)) (jv)).toArray)(hjv:jv.oneCell'=true)(H0:∀w F,Φ.P 0 w F->(∀b,F b->b<w.heap.size)->Calls Tryz.prog 71 #[.pointer (some pr),.agg c.l.toArray] w λen w'=>en=.returned (.nilIface)/\EH Φ 1 F none w w')(f1:Φ.P 0 w F)(f2:¬F g1)(f3:∀b,F b->b<w.heap.size):Calls Tryz.prog 55 #[.pointer (some ⟨g1,2,none⟩),.int .i64 d,.agg c.l.toArray] w λen w'=>Ki Φ 1 F g1 126 ((({V with Ae:=d,call:=c}:DA)).l (.pointer (some pr)) jv).toArray (.tuple #[]) w en w':=by
 refine pE (iW V pr jv d c hjv) xR 60 rS aT (({V with Ae:=d,call:=c}:DA)) (λr=>(.tuple #[],1,(r.l (.pointer (some pr)) jv).toArray)) (X6 (AM 0 1 λhq w F hP hb=>Yz Tryz.func71 (H0 w F hP hb)) Gi) (BO rfl BY) h1 f1 f2 f3 ?_;exact vS5
def aR(V:DA)(pr:Go.Addr)(jv:Value)(hjv:jv.oneCell'=true):Env:=Ik [[V.st,V.eng,V.Ae],V.call.ii,V.op.ii,V.A5.ii] [V.call.bb] [.pointer (some pr),jv] (by intro u hu;simp at hu;rcases hu with rfl|rfl<;>first|rfl|assumption)
def iU:St:=⟨[],[(1,126,(ct [[.int (.var 0),.int (.var 1),.AN 0],vs 2 9,[.bool (.var 0)],vs 11 4,[.bool (.var 1)],vs 15 8,[.AN 1,.int (.var 23),.int (.var 24)]]))],[(.nil 0,false)],10,0⟩
def Vq:List SV:=[.c (.ptr 1 0)]
def rR:List Xv:=[]
theorem aS{Φ:GF}{F:Nat->Prop}(V:DA)(pr:Go.Addr)(jv:Value)(g1:Nat)(w:World)(h1:Bk w g1 126 (V.l (.pointer (some pr)) (jv)).toArray)(hjv:jv.oneCell'=true)(f1:Φ.P 0 w F)(f2:¬F g1)(f3:∀b,F b->b<w.heap.size):Calls Tryz.prog 35 #[.pointer (some ⟨g1,0,none⟩)] w λen w'=>Ki Φ 0 F g1 126 ((V).l (.pointer (some pr)) jv).toArray (.bool (!(V.Ae==0))) w en w':=by
 refine pE (aR V pr jv hjv) rR 60 iU Vq (V) (λr=>(.bool (!(V.Ae==0)),0,(r.l (.pointer (some pr)) jv).toArray)) Gi (BO rfl BY) h1 f1 f2 f3 ?_;exact vS5
def Ha.l(x:Ha):List Value:=[.bool x.over]++x.A5.l++[.int .i64 x.real]
def He(V:DA)(b0:Bool)(a:Bn):Int:=
 bif V.call.kind==6 then bif b0 then-1 else bif V.eng==3 then 1 else bif V.eng==5 then 1 else 0
 else bif V.call.kind==8 then bif !(a.kind==4) then-1 else 0
 else bif V.call.kind==3 then 0 else bif V.call.kind==4 then 0 else bif V.call.kind==5 then 0 else bif V.call.kind==9 then 0 else-1
def Ze(V2:DA)(z:Int):Ha:=bif V2.Ae==0 then⟨true,V2.A5,z⟩ else⟨false,.zero,z⟩
theorem cF(V2:DA)(c:Bool)(a b:Int):Ze V2 (bif c then a else b)=bif c then Ze V2 a else Ze V2 b:=by cases c<;>rfl
def XJ:Env:=⟨λ_=>0,λ_=>false,λ_=>.nilIface,λ_=>rfl⟩
def Qv:St:=⟨[],[],[],10,0⟩
def M3:List SV:=[.c (.int (.lit 0))]
def O0:SV × Yh:=((.agg (zs 3)),[])
theorem UH:CR (exec Tryz.prog [] 120 (.call 66 M3) Qv)=.leaf O0:=Zk
theorem Oz(w:World):Calls Tryz.prog 66 #[.int .i64 0] w λen w'=>en=.returned (.agg #[.int .i64 0,.int .i64 0,.int .i64 0])/\Ak [] w w':=by
 refine(Ct (S:=[]) (e:=XJ) (st:=Qv) (args:=M3) (k:=Dk []) mixed Xu (v:=O0.1) (hp':=O0.2) (by rw[UH];rfl) (GY rfl) (Cv []) (λz hz=>by cases hz) Zk Zk (λz hz=>by cases hz) Zk).mono λen w' hp=>?_;obtain⟨k',hp⟩:=hp;exact⟨hp.ret.trans Zk,FQ hp.BV (ls:=[]) Zk Zs⟩
def XI:Env:=⟨λ_=>0,λ_=>false,λ_=>.nilIface,λ_=>rfl⟩
def Qu:St:=⟨[],[],[],10,0⟩
def M2:List SV:=[.c (.int (.lit 1))]
def Oy:SV × Yh:=((.agg ([(.int (.lit 0)),(.int (.lit 0)),(.int (.lit 1))])),[])
theorem UG:CR (exec Tryz.prog [] 120 (.call 66 M2) Qu)=.leaf Oy:=Zk
theorem Ox(w:World):Calls Tryz.prog 66 #[.int .i64 1] w λen w'=>en=.returned (.agg #[.int .i64 0,.int .i64 0,.int .i64 1])/\Ak [] w w':=by
 refine(Ct (S:=[]) (e:=XI) (st:=Qu) (args:=M2) (k:=Dk []) mixed Xu (v:=Oy.1) (hp':=Oy.2) (by rw[UG];rfl) (GY rfl) (Cv []) (λz hz=>by cases hz) Zk Zk (λz hz=>by cases hz) Zk).mono λen w' hp=>?_;obtain⟨k',hp⟩:=hp;exact⟨hp.ret.trans Zk,FQ hp.BV (ls:=[]) Zk Zs⟩
def YA:Env:=⟨λ_=>0,λ_=>false,λ_=>.nilIface,λ_=>rfl⟩
def QB:St:=⟨[],[],[],10,0⟩
def M6:List SV:=[]
def O7:SV × Yh:=((.c (.int (.lit 85))),[])
theorem US:CR (exec Tryz.prog [] 120 (.call 41 M6) QB)=.leaf O7:=Zk
theorem YB(w:World):Calls Tryz.prog 41 #[] w λen w'=>en=.returned (.int .i64 85)/\Ak [] w w':=by
 refine(Ct (S:=[]) (e:=YA) (st:=QB) (args:=M6) (k:=Dk []) mixed Xu (v:=O7.1) (hp':=O7.2) (by rw[US];rfl) (GY rfl) (Cv []) (λz hz=>by cases hz) Zk Zk (λz hz=>by cases hz) Zk).mono λen w' hp=>?_;obtain⟨k',hp⟩:=hp;exact⟨hp.ret.trans Zk,FQ hp.BV (ls:=[]) Zk Zs⟩
def pZ:Env:=⟨λ_=>0,λ_=>false,λ_=>.nilIface,λ_=>rfl⟩
def ZX:St:=⟨[],[],[],10,0⟩
def Q7:List SV:=[]
def Yl:SV × Yh:=((.agg ([(.int (.lit 0)),(.int (.lit 0)),(.int (.lit 24))])),[])
theorem gY:CR (exec Tryz.prog [] 120 (.call 43 Q7) ZX)=.leaf Yl:=Zk
theorem qA(w:World):Calls Tryz.prog 43 #[] w λen w'=>en=.returned (.agg #[.int .i64 0,.int .i64 0,.int .i64 24])/\Ak [] w w':=by
 refine(Ct (S:=[]) (e:=pZ) (st:=ZX) (args:=Q7) (k:=Dk []) mixed Xu (v:=Yl.1) (hp':=Yl.2) (by rw[gY];rfl) (GY rfl) (Cv []) (λz hz=>by cases hz) Zk Zk (λz hz=>by cases hz) Zk).mono λen w' hp=>?_;obtain⟨k',hp⟩:=hp;exact⟨hp.ret.trans Zk,FQ hp.BV (ls:=[]) Zk Zs⟩
def fT:Env:=⟨λ_=>0,λ_=>false,λ_=>.nilIface,λ_=>rfl⟩
def Uv:St:=⟨[],[],[],10,0⟩
def Ob:List SV:=[.c (.int (.lit 1))]
def RX:SV × Yh:=((.agg (zs 3++[(.int (.lit 1)),(.bool (.lit false))])),[])
theorem WU:CR (exec Tryz.prog [] 120 (.call 44 Ob) Uv)=.leaf RX:=Zk
theorem fU(w:World):Calls Tryz.prog 44 #[.int .i64 1] w λen w'=>en=.returned (.agg #[.int .i64 0,.int .i64 0,.int .i64 0,.int .i64 1,.bool false])/\Ak [] w w':=by
 refine(Ct (S:=[]) (e:=fT) (st:=Uv) (args:=Ob) (k:=Dk []) mixed Xu (v:=RX.1) (hp':=RX.2) (by rw[WU];rfl) (GY rfl) (Cv []) (λz hz=>by cases hz) Zk Zk (λz hz=>by cases hz) Zk).mono λen w' hp=>?_;obtain⟨k',hp⟩:=hp;exact⟨hp.ret.trans Zk,FQ hp.BV (ls:=[]) Zk Zs⟩
structure Vw where
 root:Int->Xe
 As:Int->Int
 held:Int->Prop
 cell:Int->Int->Xe
namespace Vw
def get(v:Vw)(a:X9):Xe:=if a.sl=0 then v.root a.fd else v.cell a.sl a.fd
def put(v:Vw)(a:X9)(w:Xe):Vw:=if a.sl=0 then{v with root:=Ap v.root a.fd w} else{v with cell:=Ap v.cell a.sl (Ap (v.cell a.sl) a.fd w)}
def take(v:Vw)(s g:Int):Vw:=⟨v.root,Ap v.As s g,λt=>t=s\/v.held t,Ap v.cell s λ_=>.zero⟩
def drop(v:Vw)(s:Int):Vw:={v with held:=λt=>t≠s/\v.held t}
def Ad(v:Vw)(a:X9):Prop:=(a.sl=0/\a.gn=0/\0<=a.fd/\a.fd<24)\/(a.sl≠0/\v.held a.sl/\a.gn=v.As a.sl/\0<=a.fd/\a.fd<9)
def Rf(v:Vw)(w:Xe):Prop:=w.sl≠0/\v.held w.sl/\w.gn=v.As w.sl
end Vw
inductive Yc(Q:Yu->Vw->Prop):Nat->Nat->Vw->Xx->Xf->Prop
 |done {a n v J c} (hk:c.kind=12) (h:Q c.A5 v):Yc Q a n v J c
 |look {a n v J c} (hk:c.kind=3) (ha:v.Ad c.Ay) (h:Yc Q a n v (J.next ⟨v.get c.Ay,true⟩).1 (J.next ⟨v.get c.Ay,true⟩).2):Yc Q a (n+1) v J c
 |eG {a n v J c} (hk:c.kind=6) (hi:0<=c.i/\c.i<9) (ha:v.Ad c.Ay) (h:Yc Q a n v (J.next ⟨v.get c.Ay,true⟩).1 (J.next ⟨v.get c.Ay,true⟩).2):Yc Q a (n+5) v J c
 |store {a n v J c} (hk:c.kind=4) (ha:v.Ad c.Ay) (h:Yc Q a n (v.put c.Ay c.new) (J.next ⟨.zero,true⟩).1 (J.next ⟨.zero,true⟩).2):Yc Q a (n+1) v J c
 |swap {a n v J c} (hk:c.kind=5) (ha:v.Ad c.Ay) (hs:Dm (v.get c.Ay) c.Bb=true) (h:Yc Q a n (v.put c.Ay c.new) (J.next ⟨v.get c.Ay,true⟩).1 (J.next ⟨v.get c.Ay,true⟩).2):Yc Q a (n+1) v J c
 |hold {a n v J c} (hk:c.kind=7) (hi:0<=c.i/\c.i<9) (h:Yc Q a n v (J.next ⟨.zero,true⟩).1 (J.next ⟨.zero,true⟩).2):Yc Q a (n+1) v J c
 |alloc {a n v J c} (hk:c.kind=8) (h:∀s g,s≠0->¬v.held s->Yc Q a n (v.take s g) (J.next ⟨⟨s,g,0,0,false⟩,true⟩).1 (J.next ⟨⟨s,g,0,0,false⟩,true⟩).2):Yc Q (a+1) (n+2) v J c
 |drop {a n v J c} (hk:c.kind=9) (hr:v.Rf c.Bb) (h:Yc Q a n (v.drop c.Bb.sl) (J.next ⟨.zero,true⟩).1 (J.next ⟨.zero,true⟩).2):Yc Q a (n+1) v J c
 |retire {a n v J c} (hk:c.kind=10) (hr:v.Rf c.Bb) (h:Yc Q a n (v.drop c.Bb.sl) (J.next ⟨.zero,true⟩).1 (J.next ⟨.zero,true⟩).2):Yc Q a (n+40) v J c
section
variable{Q:Yu->Vw->Prop}{a n m:Nat}{v:Vw}{J:Xx}{c:Xf}{s g f:Int}{w:Xe}
theorem Yc.more(h:Yc Q a n v J c):∀{a' n':Nat},a<=a'->n<=n'->Yc Q a' n' v J c:=by
 induction h with
 |done hk h=>intro a' n' _ _;exact .done hk h
 |@look a n v J c hk ha _ ih=>
  intro a' n' h1 h2;obtain⟨k,rfl⟩:∃k,n'=k+1:=⟨n'-1,by omega⟩;exact .look hk ha (ih h1 Zo)
 |@eG a n v J c hk hi ha _ ih=>
  intro a' n' h1 h2;obtain⟨k,rfl⟩:∃k,n'=k+5:=⟨n'-5,by omega⟩;exact .eG hk hi ha (ih h1 Zo)
 |@store a n v J c hk ha _ ih=>
  intro a' n' h1 h2;obtain⟨k,rfl⟩:∃k,n'=k+1:=⟨n'-1,by omega⟩;exact .store hk ha (ih h1 Zo)
 |@swap a n v J c hk ha hs _ ih=>
  intro a' n' h1 h2;obtain⟨k,rfl⟩:∃k,n'=k+1:=⟨n'-1,by omega⟩;exact .swap hk ha hs (ih h1 Zo)
 |@hold a n v J c hk hi _ ih=>
  intro a' n' h1 h2;obtain⟨k,rfl⟩:∃k,n'=k+1:=⟨n'-1,by omega⟩;exact .hold hk hi (ih h1 Zo)
 |@alloc a n v J c hk _ ih=>
  intro a' n' h1 h2;obtain⟨k,rfl⟩:∃k,n'=k+2:=⟨n'-2,by omega⟩;obtain⟨b,rfl⟩:∃b,a'=b+1:=⟨a'-1,by omega⟩;exact .alloc hk λs g h3 h4=>ih s g h3 h4 Zo Zo
 |@drop a n v J c hk hr _ ih=>
  intro a' n' h1 h2;obtain⟨k,rfl⟩:∃k,n'=k+1:=⟨n'-1,by omega⟩;exact .drop hk hr (ih h1 Zo)
 |@retire a n v J c hk hr _ ih=>
  intro a' n' h1 h2;obtain⟨k,rfl⟩:∃k,n'=k+40:=⟨n'-40,by omega⟩;exact .retire hk hr (ih h1 Zo)
theorem AY(h0:0<=f)(h1:f<24):v.Ad (root f):=Or.inl ⟨rfl,rfl,h0,h1⟩
theorem Yd(h:v.Rf w)(h0:0<=f)(h1:f<9):v.Ad (Xg w f):=Or.inr ⟨h.1,h.2.1,h.2.2,h0,h1⟩
theorem BU:v.get (root f)=v.root f:=rfl
theorem Yp(h:w.sl≠0):v.get (Xg w f)=v.cell w.sl f:=if_neg h
theorem Gx:v.put (root f) w={v with root:=Ap v.root f w}:=rfl
theorem BC{x:Xe}(h:w.sl≠0):v.put (Xg w f) x={v with cell:=Ap v.cell w.sl (Ap (v.cell w.sl) f x)}:=if_neg h
theorem Yx(w:Xe):Dm w w=true:=by simp[Dm]
end
section
variable{Q:Yu->Vw->Prop}{a n:Nat}{v v':Vw}{J J':Xx}{c':Xf}{ad:X9}{w o y:Xe}{i j:Int}
theorem Yc.ld(ha:v.Ad ad)(hg:v.get ad=y)(h:Yc Q a n v (J.next ⟨y,true⟩).1 (J.next ⟨y,true⟩).2):Yc Q a (n+1) v J (Yv ad):=.look rfl ha (by rw[show v.get (Yv ad).Ay=y from hg];exact h)
theorem Yc.pr(ha:v.Ad ad)(hg:v.get ad=y)(h:Yc Q a n v (J.next ⟨y,true⟩).1 (J.next ⟨y,true⟩).2)(hi:0<=i/\i<9:=by omega):Yc Q a (n+5) v J (AA ad i):=.eG rfl hi ha (by rw[show v.get (AA ad i).Ay=y from hg];exact h)
theorem Yc.st(ha:v.Ad ad)(hp:v.put ad w=v')(h:Yc Q a n v' (J.next ⟨.zero,true⟩).1 (J.next ⟨.zero,true⟩).2):Yc Q a (n+1) v J (AV ad w):=.store rfl ha (by rw[show v.put (AV ad w).Ay (AV ad w).new=v' from hp];exact h)
theorem Yc.sw(ha:v.Ad ad)(hg:v.get ad=y)(hs:Dm y o=true)(hp:v.put ad w=v')(h:Yc Q a n v' (J.next ⟨y,true⟩).1 (J.next ⟨y,true⟩).2):Yc Q a (n+1) v J (Y6 ad o w):=
 .swap rfl ha (by rw[show v.get (Y6 ad o w).Ay=y from hg];exact hs) (by rw[show v.put (Y6 ad o w).Ay (Y6 ad o w).new=v' from hp,show v.get (Y6 ad o w).Ay=y from hg];exact h)
theorem Yc.hd(h:Yc Q a n v (J.next ⟨.zero,true⟩).1 (J.next ⟨.zero,true⟩).2)(hi:0<=i/\i<9:=by omega):Yc Q a (n+1) v J (FD i j):=.hold rfl hi h
theorem Yc.al(h:∀s g,s≠0->¬v.held s->Yc Q a n (v.take s g) (J.next ⟨⟨s,g,0,0,false⟩,true⟩).1 (J.next ⟨⟨s,g,0,0,false⟩,true⟩).2):Yc Q (a+1) (n+2) v J Dd:=.alloc rfl h
theorem Yc.dr(hr:v.Rf w)(h:Yc Q a n (v.drop w.sl) (J.next ⟨.zero,true⟩).1 (J.next ⟨.zero,true⟩).2):Yc Q a (n+1) v J (Kg w):=.drop rfl hr h
theorem Yc.rt(hr:v.Rf w)(h:Yc Q a n (v.drop w.sl) (J.next ⟨.zero,true⟩).1 (J.next ⟨.zero,true⟩).2):Yc Q a (n+40) v J (EC w):=.retire rfl hr h
theorem Yc.dn{x z:Int}(h:Q ⟨x,z⟩ v):Yc Q a n v J (BK x z):=.done rfl h
end
def CU(v:Vw)(f:Int):Xe->List Int->Prop
 |w,[]=>w.sl=0
 |w,s::r=>w.sl=s/\v.Rf w/\CU v f (v.cell s f) r
section
variable{v v':Vw}{f s g:Int}{w:Xe}{l:List Int}
theorem CU.held(h:CU v f w l):∀s∈l,s≠0/\v.held s:=by
 induction l generalizing w with
 |nil=>intro s hs;cases hs
 |cons a r ih=>
  intro s hs;obtain⟨rfl,h1,h2⟩:=h;rcases List.mem_cons.1 hs with rfl|hs
  ·exact⟨h1.1,h1.2.1⟩
  ·exact ih h2 s hs
theorem CU.same(h:CU v f w l)(hs:∀s∈l,v'.held s/\v'.As s=v.As s/\v'.cell s f=v.cell s f):CU v' f w l:=by
 induction l generalizing w with
 |nil=>exact h
 |cons a r ih=>
  obtain⟨rfl,h1,h2⟩:=h;obtain⟨a1,a2,a3⟩:=hs w.sl (List.mem_cons_self ..);exact⟨rfl,⟨h1.1,a1,h1.2.2.trans a2.symm⟩,by rw[a3];exact ih h2 λs hm=>hs s (List.mem_cons_of_mem _ hm)⟩
theorem CU.ref(h:CU v f w l){w':Xe}(h1:w'.sl=w.sl)(h2:w'.gn=w.gn):CU v f w' l:=by
 cases l with
 |nil=>exact h1.trans h
 |cons a r=>obtain⟨rfl,h3,h4⟩:=h;exact⟨h1,⟨by rw[h1];exact h3.1,by rw[h1];exact h3.2.1,by rw[h2,h1];exact h3.2.2⟩,h4⟩
end
end Go.Proofs.YtaipogljokblkaaGreatDoor
