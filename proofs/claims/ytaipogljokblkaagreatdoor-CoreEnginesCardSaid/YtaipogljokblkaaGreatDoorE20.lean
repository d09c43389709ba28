/- Core: CVk. -/
import Derived.Test.YtaipogljokblkaaGreatDoorE19
import Derived.Test.YtaipogljokblkaaGreatDoorE09
import Derived.Test.YtaipogljokblkaaGreatDoorE01
set_option linter.all false
set_option maxRecDepth 100000
set_option maxHeartbeats 8000000
namespace Go.Proofs.YtaipogljokblkaaGreatDoor
open Go Go.RowKit
set_option linter.unusedSimpArgs false
set_option linter.unusedVariables false
set_option linter.unusedSectionVars false
def vkE(J:Xa)(pw pi:Option Go.Addr)(x:Xj)(l:List Int)(b:List Bool):Env:=Ik [J.last.ii,[J.op.key,J.op.val,J.op.Ah,J.size,J.wanted,J.Am,J.child],J.base.ii,J.node.ii,J.sentinel.ii,J.answer.ii,J.count.ii,x.ii,l] [J.bb,b] [.pointer pw,.pointer pi] (AE rfl)
def vkS(p k:Int)(a:FH):St:=⟨[],[(1,186,(ct [[.int (.lit p)],vs 0 8,[.bool (.var 0)],vs 8 4,[.bool (.var 1)],vs 12 4,[.int (.lit k)],vs 16 11,[.bool (.var 2)],vs 27 4,[.bool (.var 3)],vs 31 4,[.bool (.var 4),.AN 0,.AN 1],vs 35 6,[.bool (.var 5)]]))],a,10,0⟩
def vkA(b:BT):List SV:=[.c (.ptr 1 0),.agg ((ct [vs 41 4,[.bool (.var 6),.bool b]]))]
def vkR(i j:Nat):Xv:=⟨false,182,0,[],[.c (.int (.var i))],.c (.int (.var j)),[]⟩
def vkO:Xv:=⟨false,190,0,[],[.c (.int (.var 16))],.c (.int (.var 45)),[]⟩
def vkW:List Xv:=[vkO,vkR 20 46,vkR 46 47,vkR 47 48]
def vkL(J:Xa):List Int:=[Gy J.op.key,Eh J.wanted,Eh (Eh J.wanted),Eh (Eh (Eh J.wanted))]
section
variable{J:Xa}{pw pi:Option Go.Addr}{x:Xj}{b:List Bool}
theorem Vp(hw0:0<=J.wanted)(hw1:J.wanted<8)(hk0:0<=J.op.key)(hk1:J.op.key<256):Eb Tryz.prog (vkE J pw pi x (vkL J) b) vkW:=
 Ys (FZ Tryz.func190 λw=>PS _ w hk0 hk1) (Ys (FZ Tryz.func182 λw=>MP _ w hw0 hw1) (Ys (FZ Tryz.func182 λw=>MP _ w (FL hw0 hw1).1 (FL hw0 hw1).2) (Ys (FZ Tryz.func182 λw=>MP _ w (FL ((FL hw0 hw1).1) ((FL hw0 hw1).2)).1 (FL ((FL hw0 hw1).1) ((FL hw0 hw1).2)).2) Xu)))
end
section
variable(k:Int)(hk:k=6\/k=7\/k=8)(J:Xa)(pw pi:Option Go.Addr)(x:Xj)(g1:Nat)(w:World)
abbrev wR(p:Int):Prop:=Bk w g1 186 (({J with pc:=p,op:={J.op with kind:=k}}:Xa).l (.pointer pw) (.pointer pi)).toArray
abbrev vkC(x:Xj)(r:Xa × Xf):Prop:=Calls Tryz.prog 176 #[.pointer (some ⟨g1,0,none⟩),.agg x.l.toArray] w λen w'=>QG pw pi r.1 (Yk r.2) J.inner g1 w en w'
variable(hw0:0<=J.wanted)(hw1:J.wanted<8)(hk0:0<=J.op.key)(hk1:J.op.key<256)
include hk hw0 hw1 hk0 hk1
theorem rQ(h1:wR k J pw pi g1 w 2)(hway:OM J.wanted J.Am)(hsl:(x.word.sl==0)=false):vkC J pw pi g1 w x (Xa.EF ({J with pc:=2,op:={J.op with kind:=k}}:Xa) x):=by
 refine poV (e:=vkE J pw pi x (vkL J) x.bb) (S:=vkW) (n:=120) (st:=vkS 2 k [(.eq (.var 41) (.lit 0),false)]) (args:=vkA (.var 7)) (r:=(Xa.EF ({J with pc:=2,op:={J.op with kind:=k}}:Xa) x)) (V:=λr=>Yk r.2) (pw:=pw) (pi:=pi) (I0:=J.inner) mixed (Vp hw0 hw1 hk0 hk1) rfl (BO hsl BY) (Yw h1 Zk) rfl ?_;rcases hk with rfl|rfl|rfl;all_goals
  exact vS7
theorem rP(h1:wR k J pw pi g1 w 3):vkC J pw pi g1 w ({x with ok:=false}:Xj) (Xa.Al ({J with pc:=3,op:={J.op with kind:=k}}:Xa) ({x with ok:=false}:Xj)):=by
 refine poV (e:=vkE J pw pi x [Gy J.op.key] [x.word.mark]) (S:=[vkO]) (n:=120) (st:=vkS 3 k []) (args:=vkA (.lit false)) (r:=(Xa.Al ({J with pc:=3,op:={J.op with kind:=k}}:Xa) ({x with ok:=false}:Xj))) (V:=λr=>Yk r.2) (pw:=pw) (pi:=pi) (I0:=J.inner) mixed (Ys (FZ Tryz.func190 λw=>PS _ w hk0 hk1) Xu) rfl BY (Yw h1 Zk) rfl ?_;rcases hk with rfl|rfl|rfl;all_goals
  exact vS7
theorem rO(h1:wR k J pw pi g1 w 9)(hway:OM J.wanted J.child)(hsl:(x.word.sl==0)=false):vkC J pw pi g1 w x (Xa.Al ({J with pc:=9,op:={J.op with kind:=k}}:Xa) x):=by
 refine poV (e:=vkE J pw pi x (vkL J) x.bb) (S:=vkW) (n:=120) (st:=vkS 9 k [(.eq (.var 41) (.lit 0),false)]) (args:=vkA (.var 7)) (r:=(Xa.Al ({J with pc:=9,op:={J.op with kind:=k}}:Xa) x)) (V:=λr=>Yk r.2) (pw:=pw) (pi:=pi) (I0:=J.inner) mixed (Vp hw0 hw1 hk0 hk1) rfl (BO hsl BY) (Yw h1 Zk) rfl ?_;rcases hk with rfl|rfl|rfl;all_goals
  exact vS7
theorem iT(h1:wR k J pw pi g1 w 10)(hway:OM J.wanted J.child):vkC J pw pi g1 w x (Xa.Al ({J with pc:=10,op:={J.op with kind:=k}}:Xa) x):=by
 refine poV (e:=vkE J pw pi x (vkL J) x.bb) (S:=vkW) (n:=120) (st:=vkS 10 k []) (args:=vkA (.var 7)) (r:=(Xa.Al ({J with pc:=10,op:={J.op with kind:=k}}:Xa) x)) (V:=λr=>Yk r.2) (pw:=pw) (pi:=pi) (I0:=J.inner) mixed (Vp hw0 hw1 hk0 hk1) rfl BY (Yw h1 Zk) rfl ?_;rcases hk with rfl|rfl|rfl;all_goals
  exact vS7
end
end Go.Proofs.YtaipogljokblkaaGreatDoor
