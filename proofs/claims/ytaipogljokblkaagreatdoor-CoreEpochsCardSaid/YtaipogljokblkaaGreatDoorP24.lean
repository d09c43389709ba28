/- Core: CVk. -/
import Derived.Test.YtaipogljokblkaaGreatDoorP15
set_option linter.all false
set_option maxRecDepth 100000
set_option maxHeartbeats 8000000
namespace Go.Proofs.YtaipogljokblkaaGreatDoor
open Go Go.RowKit
def zu(J:Xc)(pw pi:Option Go.Addr)(x:Xr)(l:List Int)(b:List Bool):Env:=IA [J.last.ii,[J.op.key,J.op.val,J.op.Al,J.size,J.wanted,J.Ao,J.child],J.base.ii,J.node.ii,J.sentinel.ii,J.answer.ii,J.count.ii,x.ii,l] [J.bb,b] [.pointer pw,.pointer pi] (AS rfl)
def vkS(p k:Int)(a:Gj):St:=⟨[],[(1,186,(ct [[.int (.lit p)],vs 0 8,[.bV 0],vs 8 4,[.bV 1],vs 12 4,[.int (.lit k)],vs 16 11,[.bV 2],vs 27 4,[.bV 3],vs 31 4,[.bV 4,.Ba 0,.Ba 1],vs 35 6,[.bV 5]]))],a,10,0⟩
def vkA(b:BT):List SV:=[.c (.ptr 1 0),.agg ((ct [vs 41 4,[.bV 6,.bool b]]))]
def vkR(i j:Nat):X8:=⟨false,182,0,[],[.c (.int (.var i))],.c (.int (.var j)),[]⟩
def vkO:X8:=⟨false,190,0,[],[.c (.iV 16)],.c (.iV 45),[]⟩
def vkW:List X8:=[vkO,vkR 20 46,vkR 46 47,vkR 47 48]
def vkL(J:Xc):List Int:=[MG J.op.key,Bb J.wanted,Bb (Bb J.wanted),Bb (Bb (Bb J.wanted))]
section
variable{J:Xc}{pw pi:Option Go.Addr}{x:Xr}{b:List Bool}
theorem XI(hw0:0<=J.wanted)(hw1:J.wanted<8)(hk0:0<=J.op.key)(hk1:J.op.key<256):E5 Tryz.prog (zu J pw pi x (vkL J) b) vkW:=
 Yz (G6 Tryz.func190 λw=>Rr _ w hk0 hk1) (Yz (G6 Tryz.func182 λw=>NN _ w hw0 hw1) (Yz (G6 Tryz.func182 λw=>NN _ w (Gm hw0 hw1).1 (Gm hw0 hw1).2) (Yz (G6 Tryz.func182 λw=>NN _ w (Gm ((Gm hw0 hw1).1) ((Gm hw0 hw1).2)).1 (Gm ((Gm hw0 hw1).1) ((Gm hw0 hw1).2)).2) X6)))
end
section
variable(k:Int)(hk:k=6\/k=7\/k=8)(J:Xc)(pw pi:Option Go.Addr)(x:Xr)(g1:Nat)(w:World)
abbrev ta(p:Int):Prop:=Bk w g1 186 (({J with pc:=p,op:={J.op with kind:=k}}:Xc).l (.pointer pw) (.pointer pi)).toArray
abbrev vkC(x:Xr)(r:Xc × Xi):Prop:=Kp 176 #[.pointer (some ⟨g1,0,none⟩),.agg x.l.toArray] w λa c=>Sd pw pi r.1 (Yq r.2) J.inner g1 w a c
variable(hw0:0<=J.wanted)(hw1:J.wanted<8)(hk0:0<=J.op.key)(hk1:J.op.key<256)
include hk hw0 hw1 hk0 hk1
theorem wO(c:ta k J pw pi g1 w 2)(hway:EK J.wanted J.Ao)(a:(x.word.sl==0)=false):vkC J pw pi g1 w x (Xc.BC ({J with pc:=2,op:={J.op with kind:=k}}:Xc) x):=by
 refine poV (e:=zu J pw pi x (vkL J) x.bb) (S:=vkW) (n:=120) (st:=vkS 2 k [(.eq (.var 41) (.lit 0),false)]) (args:=vkA (.var 7)) (r:=(Xc.BC ({J with pc:=2,op:={J.op with kind:=k}}:Xc) x)) (V:=λr=>Yq r.2) (pw:=pw) (pi:=pi) (I0:=J.inner) mixed (XI hw0 hw1 hk0 hk1) rfl (Cp a CF) (Y1 c Zk) rfl ?_;rcases hk with rfl|rfl|rfl;all_goals
  exact vS7
theorem wN(a:ta k J pw pi g1 w 3):vkC J pw pi g1 w ({x with ok:=false}:Xr) (Xc.Am ({J with pc:=3,op:={J.op with kind:=k}}:Xc) ({x with ok:=false}:Xr)):=by
 refine poV (e:=zu J pw pi x [MG J.op.key] [x.word.mark]) (S:=[vkO]) (n:=120) (st:=vkS 3 k []) (args:=vkA (.lit false)) (r:=(Xc.Am ({J with pc:=3,op:={J.op with kind:=k}}:Xc) ({x with ok:=false}:Xr))) (V:=λr=>Yq r.2) (pw:=pw) (pi:=pi) (I0:=J.inner) mixed (Yz (G6 Tryz.func190 λw=>Rr _ w hk0 hk1) X6) rfl CF (Y1 a Zk) rfl ?_;rcases hk with rfl|rfl|rfl;all_goals
  exact vS7
theorem wM(c:ta k J pw pi g1 w 9)(hway:EK J.wanted J.child)(a:(x.word.sl==0)=false):vkC J pw pi g1 w x (Xc.Am ({J with pc:=9,op:={J.op with kind:=k}}:Xc) x):=by
 refine poV (e:=zu J pw pi x (vkL J) x.bb) (S:=vkW) (n:=120) (st:=vkS 9 k [(.eq (.var 41) (.lit 0),false)]) (args:=vkA (.var 7)) (r:=(Xc.Am ({J with pc:=9,op:={J.op with kind:=k}}:Xc) x)) (V:=λr=>Yq r.2) (pw:=pw) (pi:=pi) (I0:=J.inner) mixed (XI hw0 hw1 hk0 hk1) rfl (Cp a CF) (Y1 c Zk) rfl ?_;rcases hk with rfl|rfl|rfl;all_goals
  exact vS7
theorem nF(a:ta k J pw pi g1 w 10)(hway:EK J.wanted J.child):vkC J pw pi g1 w x (Xc.Am ({J with pc:=10,op:={J.op with kind:=k}}:Xc) x):=by
 refine poV (e:=zu J pw pi x (vkL J) x.bb) (S:=vkW) (n:=120) (st:=vkS 10 k []) (args:=vkA (.var 7)) (r:=(Xc.Am ({J with pc:=10,op:={J.op with kind:=k}}:Xc) x)) (V:=λr=>Yq r.2) (pw:=pw) (pi:=pi) (I0:=J.inner) mixed (XI hw0 hw1 hk0 hk1) rfl CF (Y1 a Zk) rfl ?_;rcases hk with rfl|rfl|rfl;all_goals
  exact vS7
end
