/- Core: CAdv, VK, VL. -/
import Derived.Test.YtaipogljokblkaaGreatDoorE12
import Derived.Test.YtaipogljokblkaaGreatDoorE07
import Derived.Test.YtaipogljokblkaaGreatDoorE09
import Derived.Test.YtaipogljokblkaaGreatDoorE01
import Derived.Test.YtaipogljokblkaaGreatDoorE22
import Derived.Test.YtaipogljokblkaaGreatDoorE24
set_option linter.all false
set_option maxRecDepth 100000
set_option maxHeartbeats 8000000
namespace Go.Proofs.YtaipogljokblkaaGreatDoor
open Go Go.RowKit
set_option linter.unusedSimpArgs false
set_option linter.unusedVariables false
set_option linter.unusedSectionVars false
def wE(V:DA)(pr:Go.Addr)(jv:Value)(b0:Bool)(x0:Xj)(y0:Xf)(b1:Bool)(x1:Xj)(y1:Xf)(b2:Bool)(x2:Xj)(y2:Xf)(b3:Bool)(x3:Xj)(y3:Xf)(b4:Bool)(x4:Xj)(y4:Xf)(b5:Bool)(hjv:jv.oneCell'=true):Env:=Ik [[V.st,V.eng,V.Ae],V.call.ii,V.op.ii,V.A5.ii,x0.ii,y0.ii,x1.ii,y1.ii,x2.ii,y2.ii,x3.ii,y3.ii,x4.ii,y4.ii] [V.call.bb,[b0],x0.bb,y0.bb,[b1],x1.bb,y1.bb,[b2],x2.bb,y2.bb,[b3],x3.bb,y3.bb,[b4],x4.bb,y4.bb,[b5]] [.pointer (some pr),jv] (by intro u hu;simp at hu;rcases hu with rfl|rfl<;>first|rfl|assumption)
def adv_st:St:=⟨[],[(1,126,(ct [[.int (.var 0),.int (.var 1),.AN 0],vs 2 9,[.bool (.var 0)],vs 11 4,[.bool (.var 1)],vs 15 8,[.AN 1,.int (.var 23),.int (.var 24)]]))],[(.fD 1,false),(.nil 0,false)],10,0⟩
def qK:List SV:=[.c (.ptr 1 2)]
def adv_S:List Xv:=[⟨false,72,1,[],[.c (.AN 0)],.c (.bool (.var 2)),[]⟩,⟨false,73,1,[],[.c (.AN 0)],.agg ((ct [vs 25 4,[.bool (.var 3),.bool (.var 4)]])),[]⟩,⟨false,1000000000,101,[.bool (.not (.var 2))],[.c (.AN 1),.agg ((ct [vs 25 4,[.bool (.var 3),.bool (.var 4)]]))],.agg ((ct [vs 29 8,[.bool (.var 5)],vs 37 4,[.bool (.var 6)],vs 41 4])),[]⟩,⟨false,71,202,[.bool (.not (.var 2)),.bool (.not (.eq (.var 29) (.lit 12)))],[.c (.AN 0),.agg ((ct [vs 29 8,[.bool (.var 5)],vs 37 4,[.bool (.var 6)],vs 41 4]))],.c (.lit .nilIface),[]⟩,⟨false,71,202,[.bool (.not (.var 2)),.bool (.eq (.var 29) (.lit 12))],[.c (.AN 0),.agg ([.int (.lit 2)]++zs 7++[.bool (.lit false)]++zs 4++[.bool (.lit false)]++zs 4)],.c (.lit .nilIface),[]⟩,⟨false,72,203,[],[.c (.AN 0)],.c (.bool (.var 7)),[]⟩,⟨false,73,203,[],[.c (.AN 0)],.agg ((ct [vs 45 4,[.bool (.var 8),.bool (.var 9)]])),[]⟩,⟨false,1000000000,303,[.bool (.not (.var 2)),.bool (.not (.var 7)),.bool (.not (.eq (.var 29) (.lit 12)))],[.c (.AN 1),.agg ((ct [vs 45 4,[.bool (.var 8),.bool (.var 9)]]))],.agg ((ct [vs 49 8,[.bool (.var 10)],vs 57 4,[.bool (.var 11)],vs 61 4])),[]⟩,⟨false,71,404,[.bool (.not (.var 2)),.bool (.not (.var 7)),.bool (.not (.eq (.var 29) (.lit 12))),.bool (.not (.eq (.var 49) (.lit 12)))],[.c (.AN 0),.agg ((ct [vs 49 8,[.bool (.var 10)],vs 57 4,[.bool (.var 11)],vs 61 4]))],.c (.lit .nilIface),[]⟩,⟨false,71,404,[.bool (.not (.var 2)),.bool (.not (.var 7)),.bool (.not (.eq (.var 29) (.lit 12))),.bool (.eq (.var 49) (.lit 12))],[.c (.AN 0),.agg ([.int (.lit 2)]++zs 7++[.bool (.lit false)]++zs 4++[.bool (.lit false)]++zs 4)],.c (.lit .nilIface),[]⟩,⟨false,72,405,[],[.c (.AN 0)],.c (.bool (.var 12)),[]⟩,⟨false,73,405,[],[.c (.AN 0)],.agg ((ct [vs 65 4,[.bool (.var 13),.bool (.var 14)]])),[]⟩,⟨false,1000000000,505,[.bool (.not (.var 2)),.bool (.not (.var 7)),.bool (.not (.var 12)),.bool (.not (.eq (.var 29) (.lit 12))),.bool (.not (.eq (.var 49) (.lit 12)))],[.c (.AN 1),.agg ((ct [vs 65 4,[.bool (.var 13),.bool (.var 14)]]))],.agg ((ct [vs 69 8,[.bool (.var 15)],vs 77 4,[.bool (.var 16)],vs 81 4])),[]⟩,⟨false,71,606,[.bool (.not (.var 2)),.bool (.not (.var 7)),.bool (.not (.var 12)),.bool (.not (.eq (.var 29) (.lit 12))),.bool (.not (.eq (.var 49) (.lit 12))),.bool (.not (.eq (.var 69) (.lit 12)))],[.c (.AN 0),.agg ((ct [vs 69 8,[.bool (.var 15)],vs 77 4,[.bool (.var 16)],vs 81 4]))],.c (.lit .nilIface),[]⟩,⟨false,71,606,[.bool (.not (.var 2)),.bool (.not (.var 7)),.bool (.not (.var 12)),.bool (.not (.eq (.var 29) (.lit 12))),.bool (.not (.eq (.var 49) (.lit 12))),.bool (.eq (.var 69) (.lit 12))],[.c (.AN 0),.agg ([.int (.lit 2)]++zs 7++[.bool (.lit false)]++zs 4++[.bool (.lit false)]++zs 4)],.c (.lit .nilIface),[]⟩,⟨false,72,607,[],[.c (.AN 0)],.c (.bool (.var 17)),[]⟩,⟨false,73,607,[],[.c (.AN 0)],.agg ((ct [vs 85 4,[.bool (.var 18),.bool (.var 19)]])),[]⟩,⟨false,1000000000,707,[.bool (.not (.var 2)),.bool (.not (.var 7)),.bool (.not (.var 12)),.bool (.not (.var 17)),.bool (.not (.eq (.var 29) (.lit 12))),.bool (.not (.eq (.var 49) (.lit 12))),.bool (.not (.eq (.var 69) (.lit 12)))],[.c (.AN 1),.agg ((ct [vs 85 4,[.bool (.var 18),.bool (.var 19)]]))],.agg ((ct [vs 89 8,[.bool (.var 20)],vs 97 4,[.bool (.var 21)],vs 101 4])),[]⟩,⟨false,71,808,[.bool (.not (.var 2)),.bool (.not (.var 7)),.bool (.not (.var 12)),.bool (.not (.var 17)),.bool (.not (.eq (.var 29) (.lit 12))),.bool (.not (.eq (.var 49) (.lit 12))),.bool (.not (.eq (.var 69) (.lit 12))),.bool (.not (.eq (.var 89) (.lit 12)))],[.c (.AN 0),.agg ((ct [vs 89 8,[.bool (.var 20)],vs 97 4,[.bool (.var 21)],vs 101 4]))],.c (.lit .nilIface),[]⟩,⟨false,71,808,[.bool (.not (.var 2)),.bool (.not (.var 7)),.bool (.not (.var 12)),.bool (.not (.var 17)),.bool (.not (.eq (.var 29) (.lit 12))),.bool (.not (.eq (.var 49) (.lit 12))),.bool (.not (.eq (.var 69) (.lit 12))),.bool (.eq (.var 89) (.lit 12))],[.c (.AN 0),.agg ([.int (.lit 2)]++zs 7++[.bool (.lit false)]++zs 4++[.bool (.lit false)]++zs 4)],.c (.lit .nilIface),[]⟩,⟨false,72,809,[],[.c (.AN 0)],.c (.bool (.var 22)),[]⟩,⟨false,73,809,[],[.c (.AN 0)],.agg ((ct [vs 105 4,[.bool (.var 23),.bool (.var 24)]])),[]⟩,⟨false,1000000000,909,[.bool (.not (.var 2)),.bool (.not (.var 7)),.bool (.not (.var 12)),.bool (.not (.var 17)),.bool (.not (.var 22)),.bool (.not (.eq (.var 29) (.lit 12))),.bool (.not (.eq (.var 49) (.lit 12))),.bool (.not (.eq (.var 69) (.lit 12))),.bool (.not (.eq (.var 89) (.lit 12)))],[.c (.AN 1),.agg ((ct [vs 105 4,[.bool (.var 23),.bool (.var 24)]]))],.agg ((ct [vs 109 8,[.bool (.var 25)],vs 117 4,[.bool (.var 26)],vs 121 4])),[]⟩,⟨false,71,1010,[.bool (.not (.var 2)),.bool (.not (.var 7)),.bool (.not (.var 12)),.bool (.not (.var 17)),.bool (.not (.var 22)),.bool (.not (.eq (.var 29) (.lit 12))),.bool (.not (.eq (.var 49) (.lit 12))),.bool (.not (.eq (.var 69) (.lit 12))),.bool (.not (.eq (.var 89) (.lit 12))),.bool (.not (.eq (.var 109) (.lit 12)))],[.c (.AN 0),.agg ((ct [vs 109 8,[.bool (.var 25)],vs 117 4,[.bool (.var 26)],vs 121 4]))],.c (.lit .nilIface),[]⟩,⟨false,71,1010,[.bool (.not (.var 2)),.bool (.not (.var 7)),.bool (.not (.var 12)),.bool (.not (.var 17)),.bool (.not (.var 22)),.bool (.not (.eq (.var 29) (.lit 12))),.bool (.not (.eq (.var 49) (.lit 12))),.bool (.not (.eq (.var 69) (.lit 12))),.bool (.not (.eq (.var 89) (.lit 12))),.bool (.eq (.var 109) (.lit 12))],[.c (.AN 0),.agg ([.int (.lit 2)]++zs 7++[.bool (.lit false)]++zs 4++[.bool (.lit false)]++zs 4)],.c (.lit .nilIface),[]⟩,⟨false,72,1011,[],[.c (.AN 0)],.c (.bool (.var 27)),[]⟩]
theorem ZZ{Φ:GF}{F:Nat->Prop}(V:DA)(pr:Go.Addr)(jv:Value)(b0:Bool)(x0:Xj)(y0:Xf)(b1:Bool)(x1:Xj)(y1:Xf)(b2:Bool)(x2:Xj)(y2:Xf)(b3:Bool)(x3:Xj)(y3:Xf)(b4:Bool)(x4:Xj)(y4:Xf)(b5:Bool)(g1:Nat)(w:World)(h1:Bk w g1 126 (V.l (.pointer (some pr)) (jv)).toArray)(hjv:jv.oneCell'=true)(hjn:zF jv=false)(hstop:(y0.kind==12)=false->b1=false->(y1.kind==12)=false->b2=false->(y2.kind==12)=false->b3=false->(y3.kind==12)=false->b4=false->(y4.kind==12)=false->b5=false->False)(H0:∀w F,Φ.P 0 w F->(∀b,F b->b<w.heap.size)->Calls Tryz.prog 72 #[.pointer (some pr)] w λen w'=>en=.returned (.bool b0)/\EH Φ 0 F none w w')(H1:∀w F,Φ.P 0 w F->(∀b,F b->b<w.heap.size)->Calls Tryz.prog 73 #[.pointer (some pr)] w λen w'=>en=.returned (.agg x0.l.toArray)/\EH Φ 0 F none w w')(H2:b0=false->∀w F,Φ.P 0 w F->(∀b,F b->b<w.heap.size)->AI Tryz.prog Dl #[jv,.agg x0.l.toArray] w λen w'=>en=.returned (.agg y0.l.toArray)/\EH Φ 1 F none w w')(H3:b0=false->(y0.kind==12)=false->∀w F,Φ.P 1 w F->(∀b,F b->b<w.heap.size)->Calls Tryz.prog 71 #[.pointer (some pr),.agg y0.l.toArray] w λen w'=>en=.returned (.nilIface)/\EH Φ 2 F none w w')(H4:b0=false->(y0.kind==12)=true->∀w F,Φ.P 1 w F->(∀b,F b->b<w.heap.size)->Calls Tryz.prog 71 #[.pointer (some pr),.agg AP.l.toArray] w λen w'=>en=.returned (.nilIface)/\EH Φ 2 F none w w')(H5:∀w F,Φ.P 2 w F->(∀b,F b->b<w.heap.size)->Calls Tryz.prog 72 #[.pointer (some pr)] w λen w'=>en=.returned (.bool b1)/\EH Φ 2 F none w w')(H6:∀w F,Φ.P 2 w F->(∀b,F b->b<w.heap.size)->Calls Tryz.prog 73 #[.pointer (some pr)] w λen w'=>en=.returned (.agg x1.l.toArray)/\EH Φ 2 F none w w')(H7:b0=false->b1=false->(y0.kind==12)=false->∀w F,Φ.P 2 w F->(∀b,F b->b<w.heap.size)->AI Tryz.prog Dl #[jv,.agg x1.l.toArray] w λen w'=>en=.returned (.agg y1.l.toArray)/\EH Φ 3 F none w w')(H8:b0=false->b1=false->(y0.kind==12)=false->(y1.kind==12)=false->∀w F,Φ.P 3 w F->(∀b,F b->b<w.heap.size)->Calls Tryz.prog 71 #[.pointer (some pr),.agg y1.l.toArray] w λen w'=>en=.returned (.nilIface)/\EH Φ 4 F none w w')(H9:b0=false->b1=false->(y0.kind==12)=false->(y1.kind==12)=true->∀w F,Φ.P 3 w F->(∀b,F b->b<w.heap.size)->Calls Tryz.prog 71 #[.pointer (some pr),.agg AP.l.toArray] w λen w'=>en=.returned (.nilIface)/\EH Φ 4 F none w w')(H10:∀w F,Φ.P 4 w F->(∀b,F b->b<w.heap.size)->Calls Tryz.prog 72 #[.pointer (some pr)] w λen w'=>en=.returned (.bool b2)/\EH Φ 4 F none w w')(H11:∀w F,Φ.P 4 w F->(∀b,F b->b<w.heap.size)->Calls Tryz.prog 73 #[.pointer (some pr)] w λen w'=>en=.returned (.agg x2.l.toArray)/\EH Φ 4 F none w w')(H12:b0=false->b1=false->b2=false->(y0.kind==12)=false->(y1.kind==12)=false->∀w F,Φ.P 4 w F->(∀b,F b->b<w.heap.size)->AI Tryz.prog Dl #[jv,.agg x2.l.toArray] w λen w'=>en=.returned (.agg y2.l.toArray)/\EH Φ 5 F none w w')(H13:b0=false->b1=false->b2=false->(y0.kind==12)=false->(y1.kind==12)=false->(y2.kind==12)=false->∀w F,Φ.P 5 w F->(∀b,F b->b<w.heap.size)->Calls Tryz.prog 71 #[.pointer (some pr),.agg y2.l.toArray] w λen w'=>en=.returned (.nilIface)/\EH Φ 6 F none w w')(H14:b0=false->b1=false->b2=false->(y0.kind==12)=false->(y1.kind==12)=false->(y2.kind==12)=true->∀w F,Φ.P 5 w F->(∀b,F b->b<w.heap.size)->Calls Tryz.prog 71 #[.pointer (some pr),.agg AP.l.toArray] w λen w'=>en=.returned (.nilIface)/\EH Φ 6 F none w w')(H15:∀w F,Φ.P 6 w F->(∀b,F b->b<w.heap.size)->Calls Tryz.prog 72 #[.pointer (some pr)] w λen w'=>en=.returned (.bool b3)/\EH Φ 6 F none w w')(H16:∀w F,Φ.P 6 w F->(∀b,F b->b<w.heap.size)->Calls Tryz.prog 73 #[.pointer (some pr)] w λen w'=>en=.returned (.agg x3.l.toArray)/\EH Φ 6 F none w w')(H17:b0=false->b1=false->b2=false->b3=false->(y0.kind==12)=false->(y1.kind==12)=false->(y2.kind==12)=false->∀w F,Φ.P 6 w F->(∀b,F b->b<w.heap.size)->AI Tryz.prog Dl #[jv,.agg x3.l.toArray] w λen w'=>en=.returned (.agg y3.l.toArray)/\EH Φ 7 F none w w')(H18:b0=false->b1=false->b2=false->b3=false->(y0.kind==12)=false->(y1.kind==12)=false->(y2.kind==12)=false->(y3.kind==12)=false->∀w F,Φ.P 7 w F->(∀b,F b->b<w.heap.size)->Calls Tryz.prog 71 #[.pointer (some pr),.agg y3.l.toArray] w λen w'=>en=.returned (.nilIface)/\EH Φ 8 F none w w')(H19:b0=false->b1=false->b2=false->b3=false->(y0.kind==12)=false->(y1.kind==12)=false->(y2.kind==12)=false->(y3.kind==12)=true->∀w F,Φ.P 7 w F->(∀b,F b->b<w.heap.size)->Calls Tryz.prog 71 #[.pointer (some pr),.agg AP.l.toArray] w λen w'=>en=.returned (.nilIface)/\EH Φ 8 F none w w')(H20:∀w F,Φ.P 8 w F->(∀b,F b->b<w.heap.size)->Calls Tryz.prog 72 #[.pointer (some pr)] w λen w'=>en=.returned (.bool b4)/\EH Φ 8 F none w w')(H21:∀w F,Φ.P 8 w F->(∀b,F b->b<w.heap.size)->Calls Tryz.prog 73 #[.pointer (some pr)] w λen w'=>en=.returned (.agg x4.l.toArray)/\EH Φ 8 F none w w')(H22:b0=false->b1=false->b2=false->b3=false->b4=false->(y0.kind==12)=false->(y1.kind==12)=false->(y2.kind==12)=false->(y3.kind==12)=false->∀w F,Φ.P 8 w F->(∀b,F b->b<w.heap.size)->AI Tryz.prog Dl #[jv,.agg x4.l.toArray] w λen w'=>en=.returned (.agg y4.l.toArray)/\EH Φ 9 F none w w')(H23:b0=false->b1=false->b2=false->b3=false->b4=false->(y0.kind==12)=false->(y1.kind==12)=false->(y2.kind==12)=false->(y3.kind==12)=false->(y4.kind==12)=false->∀w F,Φ.P 9 w F->(∀b,F b->b<w.heap.size)->Calls Tryz.prog 71 #[.pointer (some pr),.agg y4.l.toArray] w λen w'=>en=.returned (.nilIface)/\EH Φ 10 F none w w')(H24:b0=false->b1=false->b2=false->b3=false->b4=false->(y0.kind==12)=false->(y1.kind==12)=false->(y2.kind==12)=false->(y3.kind==12)=false->(y4.kind==12)=true->∀w F,Φ.P 9 w F->(∀b,F b->b<w.heap.size)->Calls Tryz.prog 71 #[.pointer (some pr),.agg AP.l.toArray] w λen w'=>en=.returned (.nilIface)/\EH Φ 10 F none w w')(H25:∀w F,Φ.P 10 w F->(∀b,F b->b<w.heap.size)->Calls Tryz.prog 72 #[.pointer (some pr)] w λen w'=>en=.returned (.bool b5)/\EH Φ 10 F none w w')(f1:Φ.P 0 w F)(f2:¬F g1)(f3:∀b,F b->b<w.heap.size):Calls Tryz.prog 56 #[.pointer (some ⟨g1,2,none⟩)] w λen w'=>Ki Φ (Pr V b0 [(y0,b1),(y1,b2),(y2,b3),(y3,b4),(y4,b5)]).2 F g1 126 ((Pr V b0 [(y0,b1),(y1,b2),(y2,b3),(y3,b4),(y4,b5)]).1.l (.pointer (some pr)) jv).toArray (.tuple #[]) w en w':=by
 refine pE (wE V pr jv b0 x0 y0 b1 x1 y1 b2 x2 y2 b3 x3 y3 b4 x4 y4 b5 hjv) adv_S 400 adv_st qK (Pr V b0 [(y0,b1),(y1,b2),(y2,b3),(y3,b4),(y4,b5)]) (λr=>(.tuple #[],r.2,(r.1.l (.pointer (some pr)) jv).toArray)) (X6 (AM 0 0 λhq w F hP hb=>Yz Tryz.func72 (H0 w F hP hb)) (X6 (AM 0 0 λhq w F hP hb=>Yz Tryz.func73 (H1 w F hP hb)) (X6 (AM 0 1 λhq w F hP hb=>H2 (Xp (hq (.not (.var 2)) Zs)) w F hP hb) (X6 (AM 1 2 λhq w F hP hb=>Yz Tryz.func71 (H3 (Xp (hq (.not (.var 2)) Zs)) (Xp (hq (.not (.eq (.var 29) (.lit 12))) Zs)) w F hP hb)) (X6 (AM 1 2 λhq w F hP hb=>Yz Tryz.func71 (H4 (Xp (hq (.not (.var 2)) Zs)) (hq (.eq (.var 29) (.lit 12)) Zs) w F hP hb)) (X6 (AM 2 2 λhq w F hP hb=>Yz Tryz.func72 (H5 w F hP hb)) (X6 (AM 2 2 λhq w F hP hb=>Yz Tryz.func73 (H6 w F hP hb)) (X6 (AM 2 3 λhq w F hP hb=>H7 (Xp (hq (.not (.var 2)) Zs)) (Xp (hq (.not (.var 7)) Zs)) (Xp (hq (.not (.eq (.var 29) (.lit 12))) Zs)) w F hP hb) (X6 (AM 3 4 λhq w F hP hb=>Yz Tryz.func71 (H8 (Xp (hq (.not (.var 2)) Zs)) (Xp (hq (.not (.var 7)) Zs)) (Xp (hq (.not (.eq (.var 29) (.lit 12))) Zs)) (Xp (hq (.not (.eq (.var 49) (.lit 12))) Zs)) w F hP hb)) (X6 (AM 3 4 λhq w F hP hb=>Yz Tryz.func71 (H9 (Xp (hq (.not (.var 2)) Zs)) (Xp (hq (.not (.var 7)) Zs)) (Xp (hq (.not (.eq (.var 29) (.lit 12))) Zs)) (hq (.eq (.var 49) (.lit 12)) Zs) w F hP hb)) (X6 (AM 4 4 λhq w F hP hb=>Yz Tryz.func72 (H10 w F hP hb)) (X6 (AM 4 4 λhq w F hP hb=>Yz Tryz.func73 (H11 w F hP hb)) (X6 (AM 4 5 λhq w F hP hb=>H12 (Xp (hq (.not (.var 2)) Zs)) (Xp (hq (.not (.var 7)) Zs)) (Xp (hq (.not (.var 12)) Zs)) (Xp (hq (.not (.eq (.var 29) (.lit 12))) Zs)) (Xp (hq (.not (.eq (.var 49) (.lit 12))) Zs)) w F hP hb) (X6 (AM 5 6 λhq w F hP hb=>Yz Tryz.func71 (H13 (Xp (hq (.not (.var 2)) Zs)) (Xp (hq (.not (.var 7)) Zs)) (Xp (hq (.not (.var 12)) Zs)) (Xp (hq (.not (.eq (.var 29) (.lit 12))) Zs)) (Xp (hq (.not (.eq (.var 49) (.lit 12))) Zs)) (Xp (hq (.not (.eq (.var 69) (.lit 12))) Zs)) w F hP hb)) (X6 (AM 5 6 λhq w F hP hb=>Yz Tryz.func71 (H14 (Xp (hq (.not (.var 2)) Zs)) (Xp (hq (.not (.var 7)) Zs)) (Xp (hq (.not (.var 12)) Zs)) (Xp (hq (.not (.eq (.var 29) (.lit 12))) Zs)) (Xp (hq (.not (.eq (.var 49) (.lit 12))) Zs)) (hq (.eq (.var 69) (.lit 12)) Zs) w F hP hb)) (X6 (AM 6 6 λhq w F hP hb=>Yz Tryz.func72 (H15 w F hP hb)) (X6 (AM 6 6 λhq w F hP hb=>Yz Tryz.func73 (H16 w F hP hb)) (X6 (AM 6 7 λhq w F hP hb=>H17 (Xp (hq (.not (.var 2)) Zs)) (Xp (hq (.not (.var 7)) Zs)) (Xp (hq (.not (.var 12)) Zs)) (Xp (hq (.not (.var 17)) Zs)) (Xp (hq (.not (.eq (.var 29) (.lit 12))) Zs)) (Xp (hq (.not (.eq (.var 49) (.lit 12))) Zs)) (Xp (hq (.not (.eq (.var 69) (.lit 12))) Zs)) w F hP hb) (X6 (AM 7 8 λhq w F hP hb=>Yz Tryz.func71 (H18 (Xp (hq (.not (.var 2)) Zs)) (Xp (hq (.not (.var 7)) Zs)) (Xp (hq (.not (.var 12)) Zs)) (Xp (hq (.not (.var 17)) Zs)) (Xp (hq (.not (.eq (.var 29) (.lit 12))) Zs)) (Xp (hq (.not (.eq (.var 49) (.lit 12))) Zs)) (Xp (hq (.not (.eq (.var 69) (.lit 12))) Zs)) (Xp (hq (.not (.eq (.var 89) (.lit 12))) Zs)) w F hP hb)) (X6 (AM 7 8 λhq w F hP hb=>Yz Tryz.func71 (H19 (Xp (hq (.not (.var 2)) Zs)) (Xp (hq (.not (.var 7)) Zs)) (Xp (hq (.not (.var 12)) Zs)) (Xp (hq (.not (.var 17)) Zs)) (Xp (hq (.not (.eq (.var 29) (.lit 12))) Zs)) (Xp (hq (.not (.eq (.var 49) (.lit 12))) Zs)) (Xp (hq (.not (.eq (.var 69) (.lit 12))) Zs)) (hq (.eq (.var 89) (.lit 12)) Zs) w F hP hb)) (X6 (AM 8 8 λhq w F hP hb=>Yz Tryz.func72 (H20 w F hP hb)) (X6 (AM 8 8 λhq w F hP hb=>Yz Tryz.func73 (H21 w F hP hb)) (X6 (AM 8 9 λhq w F hP hb=>H22 (Xp (hq (.not (.var 2)) Zs)) (Xp (hq (.not (.var 7)) Zs)) (Xp (hq (.not (.var 12)) Zs)) (Xp (hq (.not (.var 17)) Zs)) (Xp (hq (.not (.var 22)) Zs)) (Xp (hq (.not (.eq (.var 29) (.lit 12))) Zs)) (Xp (hq (.not (.eq (.var 49) (.lit 12))) Zs)) (Xp (hq (.not (.eq (.var 69) (.lit 12))) Zs)) (Xp (hq (.not (.eq (.var 89) (.lit 12))) Zs)) w F hP hb) (X6 (AM 9 10 λhq w F hP hb=>Yz Tryz.func71 (H23 (Xp (hq (.not (.var 2)) Zs)) (Xp (hq (.not (.var 7)) Zs)) (Xp (hq (.not (.var 12)) Zs)) (Xp (hq (.not (.var 17)) Zs)) (Xp (hq (.not (.var 22)) Zs)) (Xp (hq (.not (.eq (.var 29) (.lit 12))) Zs)) (Xp (hq (.not (.eq (.var 49) (.lit 12))) Zs)) (Xp (hq (.not (.eq (.var 69) (.lit 12))) Zs)) (Xp (hq (.not (.eq (.var 89) (.lit 12))) Zs)) (Xp (hq (.not (.eq (.var 109) (.lit 12))) Zs)) w F hP hb)) (X6 (AM 9 10 λhq w F hP hb=>Yz Tryz.func71 (H24 (Xp (hq (.not (.var 2)) Zs)) (Xp (hq (.not (.var 7)) Zs)) (Xp (hq (.not (.var 12)) Zs)) (Xp (hq (.not (.var 17)) Zs)) (Xp (hq (.not (.var 22)) Zs)) (Xp (hq (.not (.eq (.var 29) (.lit 12))) Zs)) (Xp (hq (.not (.eq (.var 49) (.lit 12))) Zs)) (Xp (hq (.not (.eq (.var 69) (.lit 12))) Zs)) (Xp (hq (.not (.eq (.var 89) (.lit 12))) Zs)) (hq (.eq (.var 109) (.lit 12)) Zs) w F hP hb)) (X6 (AM 10 10 λhq w F hP hb=>Yz Tryz.func72 (H25 w F hP hb)) Gi)))))))))))))))))))))))))) (BO hjn (BO rfl BY)) h1 f1 f2 f3 ?_;repeat' (first|with_reducible (first|refine pN ?_|refine pA ?_|refine pO ?_|refine pB ?_|refine Jd (by with_unfolding_all assumption) ?_|refine Jc (by with_unfolding_all assumption) ?_|refine pU ?_|refine pV ?_|refine pK (λh=>?_) (λh=>?_))|refine GN ?_|refine GO ?_|refine Dr (Df _ _ _) ?_|exact R9 (by exact hstop (by assumption) (by assumption) (by assumption) (by assumption) (by assumption) (by assumption) (by assumption) (by assumption) (by assumption) (by assumption))|exact lE)
abbrev JM:=Xx × MR
def rep(s:JM):Xj:=s.2.R.AF
def ask(s:JM):Xf:=(s.1.next (rep s)).2
def Bu(s:JM):JM:=((s.1.next (rep s)).1,s.2.Aj (bif (ask s).kind==12 then AP else ask s))
def J5(s:JM):Bool:=!(s.2.R.step==0)
def Cn:Nat->JM->JM
 |0,s=>s
 |k+1,s=>Bu (Cn k s)
def rounds:Nat->JM->List (Xf × Bool)
 |0,_=>[]
 |n+1,s=>(ask s,J5 (Bu s))::rounds n (Bu s)
theorem ZH(k:Nat)(s:JM):Cn k (Bu s)=Cn (k+1) s:=by
 induction k with
 |zero=>rfl
 |succ k ih=>show Bu (Cn k (Bu s))=Bu (Cn (k+1) s);rw[ih]
def Va(s:JM):Prop:=∀k,(∀i≤k,J5 (Cn i s)=false)->(∀i<k,((ask (Cn i s)).kind==12)=false)->(Cn k s).1.Ok/\Vj (Cn k s).2/\(((ask (Cn k s)).kind==12)=false->So (ask (Cn k s)))
def JU:Nat->JM->Prop
 |0,_=>False
 |n+1,s=>((ask s).kind==12)=false->J5 (Bu s)=false->JU n (Bu s)
def RJ(gr:Nat)(jv:Value)(M:MR)(J:Xx)(w:World)(F:Nat->Prop):Prop:=
 ∃Fr Fj,Lx w gr M Fr/\Lt w jv J Fj/\(∀b∈Fr,b∉Fj)/\∀b,F b↔b∈Fr\/b∈Fj
section
variable{gr:Nat}{jv:Value}{M:MR}{J:Xx}{w w':World}{F:Nat->Prop}
theorem RJ.AG(h:RJ gr jv M J w F)(hs:∀b,F b->w'.heap[b]?=w.heap[b]?):RJ gr jv M J w' F:=by
 obtain⟨Fr,Fj,h1,h2,h3,h4⟩:=h;exact⟨Fr,Fj,h1.same λb hb=>hs b ((h4 b).2 (Or.inl hb)),h2.same λb hb=>hs b ((h4 b).2 (Or.inr hb)),h3,h4⟩
theorem RJ.lt(h:RJ gr jv M J w F):∀b,F b->b<w.heap.size:=by
 obtain⟨Fr,Fj,h1,h2,h3,h4⟩:=h;intro b hb;rcases(h4 b).1 hb with hb|hb
 ·exact h1.lt b hb
 ·exact h2.lt b hb
end
def Hw(gr:Nat)(jv:Value)(s:JM):GF:=⟨λi w F=>RJ gr jv (Cn (i/2) s).2 (bif i%2==1 then(Cn (i/2+1) s).1 else(Cn (i/2) s).1) w F,λ_ _ _ _ h hs=>h.AG hs⟩
section
variable{gr:Nat}{jv:Value}{s:JM}{w:World}{F:Nat->Prop}
theorem Ix{k:Nat}:(Hw gr jv s).P (2*k) w F↔RJ gr jv (Cn k s).2 (Cn k s).1 w F:=by
 show RJ gr jv (Cn (2*k/2) s).2 _ w F↔_;rw[show 2*k/2=k from by omega,show(2*k%2==1)=false from by simp];exact Iff.rfl
theorem wZ{k:Nat}:(Hw gr jv s).P (2*k+1) w F↔RJ gr jv (Cn k s).2 (Cn (k+1) s).1 w F:=by
 show RJ gr jv (Cn ((2*k+1)/2) s).2 _ w F↔_;rw[show(2*k+1)/2=k from by omega,show((2*k+1)%2==1)=true from by simp];exact Iff.rfl
theorem KQ{Φ:GF}{j:Nat}{M':MR}{J:Xx}{V:Value}{en:Ending}{w':World}{Fr Fj:List Nat}(h2:Lt w jv J Fj)(h3:∀b∈Fr,b∉Fj)(h4:∀b,F b↔b∈Fr\/b∈Fj)
  (hj:∀w F,RJ gr jv M' J w F->Φ.P j w F)(hp:IE (λw F=>Lx w gr M' F) V Fr w en w'):en=.returned V/\EH Φ j F none w w':=by
 obtain⟨F',p1,p2,p3,p4⟩:=hp
 have Ax:∀b∈Fj,w'.heap[b]?=w.heap[b]?:=λb hb=>p4.Ax b (h2.lt b hb) λhx=>h3 b hx hb
 have h2':=h2.same Ax
 refine⟨p1,RE p4 (λb hb=>(h4 b).2 (Or.inl hb)) ⟨λb=>b∈F'\/b∈Fj,hj _ _ ⟨F',Fj,p2,h2',λb hb hx=>?_,λb=>Iff.rfl⟩,λb hb=>?_,λb hb=>?_⟩⟩
 ·rcases p3 b hb with h|h
  ·exact h3 b h hx
  ·have:=h2.lt b hx;omega
 ·rcases hb with hb|hb
  ·exact(p3 b hb).imp (λh=>(h4 b).2 (Or.inl h)) id
  ·exact Or.inl ((h4 b).2 (Or.inr hb))
 ·rcases hb with hb|hb
  ·exact p2.lt b hb
  ·exact h2'.lt b hb
theorem tZ{Φ:GF}{j:Nat}{M:MR}{J':Xx}{V:Value}{en:Ending}{w':World}{Fr Fj:List Nat}(h1:Lx w gr M Fr)(h3:∀b∈Fr,b∉Fj)(h4:∀b,F b↔b∈Fr\/b∈Fj)
  (hj:∀w F,RJ gr jv M J' w F->Φ.P j w F)(hp:IE (λw F=>Lt w jv J' F) V Fj w en w'):en=.returned V/\EH Φ j F none w w':=by
 obtain⟨F',p1,p2,p3,p4⟩:=hp
 have Ax:∀b∈Fr,w'.heap[b]?=w.heap[b]?:=λb hb=>p4.Ax b (h1.lt b hb) λhx=>h3 b hb hx
 have h1':=h1.same Ax
 refine⟨p1,RE p4 (λb hb=>(h4 b).2 (Or.inr hb)) ⟨λb=>b∈Fr\/b∈F',hj _ _ ⟨Fr,F',h1',p2,λb hb hx=>?_,λb=>Iff.rfl⟩,λb hb=>?_,λb hb=>?_⟩⟩
 ·rcases p3 b hx with h|h
  ·exact h3 b hb h
  ·have:=h1.lt b hb;omega
 ·rcases hb with hb|hb
  ·exact Or.inl ((h4 b).2 (Or.inl hb))
  ·exact(p3 b hb).imp (λh=>(h4 b).2 (Or.inr h)) id
 ·rcases hb with hb|hb
  ·exact h1'.lt b hb
  ·exact p2.lt b hb
theorem FM(k:Nat):∀w F,(Hw gr jv s).P (2*k) w F->(∀b,F b->b<w.heap.size)->Calls Tryz.prog 72 #[.pointer (some ⟨gr,0,none⟩)] w λen w'=>en=.returned (.bool (J5 (Cn k s)))/\EH (Hw gr jv s) (2*k) F none w w':=λw F hP _=>by
 obtain⟨Fr,Fj,h1,h2,h3,h4⟩:=Ix.1 hP;exact(R6 h1).mono λen w' hp=>KQ h2 h3 h4 (λw F h=>Ix.2 h) hp
theorem Fu(k:Nat):∀w F,(Hw gr jv s).P (2*k) w F->(∀b,F b->b<w.heap.size)->Calls Tryz.prog 73 #[.pointer (some ⟨gr,0,none⟩)] w λen w'=>en=.returned (.agg (rep (Cn k s)).l.toArray)/\EH (Hw gr jv s) (2*k) F none w w':=λw F hP _=>by
 obtain⟨Fr,Fj,h1,h2,h3,h4⟩:=Ix.1 hP;exact(lG h1).mono λen w' hp=>KQ h2 h3 h4 (λw F h=>Ix.2 h) hp
theorem NT(k:Nat)(ok:(Cn k s).1.Ok):∀w F,(Hw gr jv s).P (2*k) w F->(∀b,F b->b<w.heap.size)->AI Tryz.prog Dl #[jv,.agg (rep (Cn k s)).l.toArray] w λen w'=>en=.returned (.agg (ask (Cn k s)).l.toArray)/\EH (Hw gr jv s) (2*k+1) F none w w':=λw F hP _=>by
 obtain⟨Fr,Fj,h1,h2,h3,h4⟩:=Ix.1 hP;exact(nZ _ _ _ _ _ h2 ok).mono λen w' hp=>tZ h1 h3 h4 (λw F h=>wZ.2 h) hp
theorem Fx(k:Nat)(c:Xf)(hc:(bif (ask (Cn k s)).kind==12 then AP else ask (Cn k s))=c)(ok:Vj (Cn k s).2)(hb:J5 (Cn k s)=false)(gc:So c):∀w F,(Hw gr jv s).P (2*k+1) w F->(∀b,F b->b<w.heap.size)->
  Calls Tryz.prog 71 #[.pointer (some ⟨gr,0,none⟩),.agg c.l.toArray] w λen w'=>en=.returned .nilIface/\EH (Hw gr jv s) (2*k+2) F none w w':=λw F hP _=>by
 obtain⟨Fr,Fj,h1,h2,h3,h4⟩:=wZ.1 hP
 have hs:(Cn k s).2.R.step=0:=by unfold J5 at hb;simpa using hb
 refine(ZY c h1 ok hs gc).mono λen w' hp=>KQ h2 h3 h4 (λw F h=>?_) hp
 have e:(Cn (k+1) s).2=(Cn k s).2.Aj c:=by show(Bu (Cn k s)).2=_;unfold Bu;rw[hc]
 exact(Ix (k:=k+1)).2 (by rw[e];exact h)
end
theorem Jx:So AP:=Or.inr (Or.inl rfl)
theorem wD(V:DA)(g gr:Nat)(jv:Value)(s:JM)(w:World)(F:Nat->Prop)(hb:Bk w g 126 (V.l (.pointer (some ⟨gr,0,none⟩)) jv).toArray)(h:RJ gr jv s.2 s.1 w F)(hg:¬F g)(ok:Va s)(st:J5 s=false->JU 5 s):
  Calls Tryz.prog 56 #[.pointer (some ⟨g,2,none⟩)] w (Ki (Hw gr jv s) (Pr V (J5 s) (rounds 5 s)).2 F g 126 ((Pr V (J5 s) (rounds 5 s)).1.l (.pointer (some ⟨gr,0,none⟩)) jv).toArray (.tuple #[]) w):=by
 obtain⟨Fr,Fj,h1,h2,h3,h4⟩:=id h
 obtain⟨v1,v2⟩:=h2.val
 have lev:∀{k:Nat},((ask (Cn k s)).kind==12)=true->(bif (ask (Cn k s)).kind==12 then AP else ask (Cn k s))=AP:=λe=>by rw[e];rfl
 have beg:∀{k:Nat},((ask (Cn k s)).kind==12)=false->(bif (ask (Cn k s)).kind==12 then AP else ask (Cn k s))=ask (Cn k s):=λe=>by rw[e];rfl
 cases hb0:J5 s with
 |true=>
  have el:∀l,Pr V true l=(V,0):=λl=>by unfold Pr;cases V.Ae==0<;>rfl
  have nf:∀{P:Prop},J5 (Cn 0 s)=false->P:=λh=>by rw[show J5 (Cn 0 s)=J5 s from rfl,hb0] at h;cases h
  have q:=ZZ (Φ:=Hw gr jv s) (F:=F) V ⟨gr,0,none⟩ jv (J5 (Cn 0 s)) (rep (Cn 0 s)) (BK 0 0) (J5 (Cn 1 s)) (rep (Cn 1 s)) (BK 0 0) (J5 (Cn 2 s)) (rep (Cn 2 s)) (BK 0 0) (J5 (Cn 3 s)) (rep (Cn 3 s)) (BK 0 0)
   (J5 (Cn 4 s)) (rep (Cn 4 s)) (BK 0 0) (J5 (Cn 5 s)) g w hb v1 v2 (λa0=>by cases a0)
   (FM 0) (Fu 0) (λb0=>nf b0) (λb0 _=>nf b0) (λb0 _=>nf b0)
   (FM 1) (Fu 1) (λb0 _ _=>nf b0) (λb0 _ _ _=>nf b0) (λb0 _ _ _=>nf b0)
   (FM 2) (Fu 2) (λb0 _ _ _ _=>nf b0) (λb0 _ _ _ _ _=>nf b0) (λb0 _ _ _ _ _=>nf b0)
   (FM 3) (Fu 3) (λb0 _ _ _ _ _ _=>nf b0) (λb0 _ _ _ _ _ _ _=>nf b0) (λb0 _ _ _ _ _ _ _=>nf b0)
   (FM 4) (Fu 4) (λb0 _ _ _ _ _ _ _ _=>nf b0) (λb0 _ _ _ _ _ _ _ _ _=>nf b0) (λb0 _ _ _ _ _ _ _ _ _=>nf b0)
   (FM 5) (Ix (k:=0).2 h) hg h.lt
  rw[show J5 (Cn 0 s)=true from hb0,el] at q
  rw[el]
  exact q
 |false=>
 replace st:=st hb0
 rw[←hb0]
 exact ZZ (Φ:=Hw gr jv s) (F:=F) V ⟨gr,0,none⟩ jv (J5 (Cn 0 s)) (rep (Cn 0 s)) (ask (Cn 0 s)) (J5 (Cn 1 s)) (rep (Cn 1 s)) (ask (Cn 1 s)) (J5 (Cn 2 s)) (rep (Cn 2 s)) (ask (Cn 2 s)) (J5 (Cn 3 s)) (rep (Cn 3 s)) (ask (Cn 3 s))
  (J5 (Cn 4 s)) (rep (Cn 4 s)) (ask (Cn 4 s)) (J5 (Cn 5 s)) g w hb v1 v2 (λa0 a1 a2 a3 a4 a5 a6 a7 a8 a9=>st a0 a1 a2 a3 a4 a5 a6 a7 a8 a9)
  (FM 0) (Fu 0) (λb0=>NT 0 (ok 0 (by intro i hi;obtain rfl:i=0:=Zo;exact b0) (by intro i hi;omega)).1)
  (λb0 y0=>let q:=ok 0 (by intro i hi;obtain rfl:i=0:=Zo;exact b0) (by intro i hi;omega);Fx 0 _ (beg y0) q.2.1 b0 (q.2.2 y0))
  (λb0 y0=>let q:=ok 0 (by intro i hi;obtain rfl:i=0:=Zo;exact b0) (by intro i hi;omega);Fx 0 _ (lev y0) q.2.1 b0 Jx)
  (FM 1) (Fu 1) (λb0 b1 y0=>NT 1 (ok 1 (by intro i hi;rcases(by omega:i=0\/i=1) with rfl|rfl<;>assumption) (by intro i hi;obtain rfl:i=0:=Zo;assumption)).1)
  (λb0 b1 y0 y1=>let q:=ok 1 (by intro i hi;rcases(by omega:i=0\/i=1) with rfl|rfl<;>assumption) (by intro i hi;obtain rfl:i=0:=Zo;assumption);Fx 1 _ (beg y1) q.2.1 b1 (q.2.2 y1))
  (λb0 b1 y0 y1=>let q:=ok 1 (by intro i hi;rcases(by omega:i=0\/i=1) with rfl|rfl<;>assumption) (by intro i hi;obtain rfl:i=0:=Zo;assumption);Fx 1 _ (lev y1) q.2.1 b1 Jx)
  (FM 2) (Fu 2) (λb0 b1 b2 y0 y1=>NT 2 (ok 2 (by intro i hi;rcases(by omega:i=0\/i=1\/i=2) with rfl|rfl|rfl<;>assumption) (by intro i hi;rcases(by omega:i=0\/i=1) with rfl|rfl<;>assumption)).1)
  (λb0 b1 b2 y0 y1 y2=>let q:=ok 2 (by intro i hi;rcases(by omega:i=0\/i=1\/i=2) with rfl|rfl|rfl<;>assumption) (by intro i hi;rcases(by omega:i=0\/i=1) with rfl|rfl<;>assumption);Fx 2 _ (beg y2) q.2.1 b2 (q.2.2 y2))
  (λb0 b1 b2 y0 y1 y2=>let q:=ok 2 (by intro i hi;rcases(by omega:i=0\/i=1\/i=2) with rfl|rfl|rfl<;>assumption) (by intro i hi;rcases(by omega:i=0\/i=1) with rfl|rfl<;>assumption);Fx 2 _ (lev y2) q.2.1 b2 Jx)
  (FM 3) (Fu 3) (λb0 b1 b2 b3 y0 y1 y2=>NT 3 (ok 3 (by intro i hi;rcases(by omega:i=0\/i=1\/i=2\/i=3) with rfl|rfl|rfl|rfl<;>assumption) (by intro i hi;rcases(by omega:i=0\/i=1\/i=2) with rfl|rfl|rfl<;>assumption)).1)
  (λb0 b1 b2 b3 y0 y1 y2 y3=>let q:=ok 3 (by intro i hi;rcases(by omega:i=0\/i=1\/i=2\/i=3) with rfl|rfl|rfl|rfl<;>assumption) (by intro i hi;rcases(by omega:i=0\/i=1\/i=2) with rfl|rfl|rfl<;>assumption);Fx 3 _ (beg y3) q.2.1 b3 (q.2.2 y3))
  (λb0 b1 b2 b3 y0 y1 y2 y3=>let q:=ok 3 (by intro i hi;rcases(by omega:i=0\/i=1\/i=2\/i=3) with rfl|rfl|rfl|rfl<;>assumption) (by intro i hi;rcases(by omega:i=0\/i=1\/i=2) with rfl|rfl|rfl<;>assumption);Fx 3 _ (lev y3) q.2.1 b3 Jx)
  (FM 4) (Fu 4) (λb0 b1 b2 b3 b4 y0 y1 y2 y3=>NT 4 (ok 4 (by intro i hi;rcases(by omega:i=0\/i=1\/i=2\/i=3\/i=4) with rfl|rfl|rfl|rfl|rfl<;>assumption) (by intro i hi;rcases(by omega:i=0\/i=1\/i=2\/i=3) with rfl|rfl|rfl|rfl<;>assumption)).1)
  (λb0 b1 b2 b3 b4 y0 y1 y2 y3 y4=>let q:=ok 4 (by intro i hi;rcases(by omega:i=0\/i=1\/i=2\/i=3\/i=4) with rfl|rfl|rfl|rfl|rfl<;>assumption) (by intro i hi;rcases(by omega:i=0\/i=1\/i=2\/i=3) with rfl|rfl|rfl|rfl<;>assumption);Fx 4 _ (beg y4) q.2.1 b4 (q.2.2 y4))
  (λb0 b1 b2 b3 b4 y0 y1 y2 y3 y4=>let q:=ok 4 (by intro i hi;rcases(by omega:i=0\/i=1\/i=2\/i=3\/i=4) with rfl|rfl|rfl|rfl|rfl<;>assumption) (by intro i hi;rcases(by omega:i=0\/i=1\/i=2\/i=3) with rfl|rfl|rfl|rfl<;>assumption);Fx 4 _ (lev y4) q.2.1 b4 Jx)
  (FM 5) (Ix (k:=0).2 h) hg h.lt
def Gn(V:MV):DA:=⟨V.st,V.eng,V.Ae,V.call,V.op,V.A5⟩
theorem Iv{V:MV}(h:V.DK=true):V.quiet=true:=by unfold MV.quiet;rw[h];simp
theorem Kp{V:MV}(h:V.Ae=0):V.quiet=true:=by unfold MV.quiet;rw[h];rfl
theorem LC{V:MV}(h:V.DK=false)(h0:V.Ae≠0):V.quiet=false:=by unfold MV.quiet;rw[h,show(V.Ae==0)=false from by simp[h0]];rfl
theorem Fe{V:MV}(h:V.quiet=true):∀m,MV.Lv m V=V
 |0=>rfl
 |m+1=>by unfold MV.Lv;rw[h];rfl
theorem OC{V:MV}(h:V.quiet=false)(m:Nat):MV.Lv (m+1) V=MV.Lv m V.GC:=by
 show(bif V.quiet then V else MV.Lv m V.GC)=_;rw[h];rfl
theorem wF{V:MV}{J:Xx}(hj:V.BF=some J)(hd:V.Ae=1\/V.Ae=2)(hk:((ask (J,V.M)).kind==12)=false):
  V.GC={V with Ae:=2,call:=ask (J,V.M),BF:=some (Bu (J,V.M)).1,M:=(Bu (J,V.M)).2}:=by
 unfold MV.GC
 rw[show(V.Ae==1||V.Ae==2)=true from by rcases hd with h|h<;>simp[h],hj]
 unfold Bu
 rw[hk]
 unfold ask rep at hk ⊢
 simp only[cond_true,cond_false,hk,Bool.not_false]
 rfl
theorem qL{V:MV}{J:Xx}(hj:V.BF=some J)(hd:V.Ae=1\/V.Ae=2)(hk:((ask (J,V.M)).kind==12)=true):
  V.GC={V with Ae:=3,call:=AP,A5:=(ask (J,V.M)).A5,BF:=some (Bu (J,V.M)).1,M:=(Bu (J,V.M)).2}:=by
 unfold MV.GC
 rw[show(V.Ae==1||V.Ae==2)=true from by rcases hd with h|h<;>simp[h],hj]
 unfold Bu
 rw[hk]
 unfold ask rep at hk ⊢
 simp only[cond_true,cond_false,hk,Bool.not_true]
 rfl
theorem QD{V:MV}(hd:V.Ae≠1)(hd2:V.Ae≠2):V.GC={V with Ae:=0}:=by
 unfold MV.GC;rw[show(V.Ae==1||V.Ae==2)=false from by simp[hd,hd2]];rfl
theorem OE:∀(n:Nat) (V:MV) (J:Xx),V.BF=some J->(V.Ae=1\/V.Ae=2)->V.DK=false->JU n (J,V.M)->∀m,n+1<=m->∀p,
  ∃r,(Si (rounds n (J,V.M)) (Gn V) p).2=p+2*r/\Gn (MV.Lv m V)=(Si (rounds n (J,V.M)) (Gn V) p).1/\(MV.Lv m V).BF=some (Cn r (J,V.M)).1/\(MV.Lv m V).M=(Cn r (J,V.M)).2
 |0,V,J,hj,hd,hb,hs,m,hm,p=>hs.elim
 |n+1,V,J,hj,hd,hb,hs,m,hm,p=>by
  obtain⟨m,rfl⟩:∃m',m=m'+1:=⟨m-1,by omega⟩;have hq:V.quiet=false:=LC hb (by rcases hd with h|h<;>omega);rw[OC hq];unfold rounds Si;cases hk:((ask (J,V.M)).kind==12) with
  |false=>
   rw[wF hj hd hk];simp only[Bool.not_false,cond_true];cases hb1:J5 (Bu (J,V.M)) with
   |true=>
    rw[Fe (Iv (V:={V with Ae:=2,call:=ask (J,V.M),BF:=some (Bu (J,V.M)).1,M:=(Bu (J,V.M)).2}) hb1)];exact⟨1,rfl,rfl,rfl,rfl⟩
   |false=>
    obtain⟨r,e1,e2,e3,e4⟩:=OE n {V with Ae:=2,call:=ask (J,V.M),BF:=some (Bu (J,V.M)).1,M:=(Bu (J,V.M)).2} (Bu (J,V.M)).1 rfl (Or.inr rfl) hb1 (hs hk hb1) m Zo (p+2);refine⟨r+1,?_,e2,?_,?_⟩
    ·simp only[cond_false];exact e1.trans Zo
    ·rw[e3];exact congrArg (λs:JM=>some s.1) (ZH r (J,V.M))
    ·rw[e4];exact congrArg (λs:JM=>s.2) (ZH r (J,V.M))
  |true=>
   rw[qL hj hd hk];simp only[Bool.not_true,cond_false];cases hb1:J5 (Bu (J,V.M)) with
   |true=>
    rw[Fe (Iv (V:={V with Ae:=3,call:=AP,A5:=(ask (J,V.M)).A5,BF:=some (Bu (J,V.M)).1,M:=(Bu (J,V.M)).2}) hb1)];exact⟨1,rfl,rfl,rfl,rfl⟩
   |false=>
    obtain⟨m,rfl⟩:∃m',m=m'+1:=⟨m-1,by omega⟩;rw[OC (LC (V:={V with Ae:=3,call:=AP,A5:=(ask (J,V.M)).A5,BF:=some (Bu (J,V.M)).1,M:=(Bu (J,V.M)).2}) hb1 Zs),QD Zs Zs,Fe (Kp rfl)];exact⟨1,rfl,rfl,rfl,rfl⟩
theorem iB{V:MV}{J:Xx}(hj:V.BF=some J)(hd:V.Ae=1\/V.Ae=2)(hs:V.DK=false->JU 5 (J,V.M)):
  ∃r,(Pr (Gn V) (J5 (J,V.M)) (rounds 5 (J,V.M))).2=2*r/\Gn V.advance=(Pr (Gn V) (J5 (J,V.M)) (rounds 5 (J,V.M))).1/\V.advance.BF=some (Cn r (J,V.M)).1/\V.advance.M=(Cn r (J,V.M)).2:=by
 unfold Pr
 have e0:((Gn V).Ae==0)=false:=by show(V.Ae==0)=false;rcases hd with h|h<;>simp[h]
 rw[e0]
 cases hb:J5 (J,V.M) with
 |true=>
  unfold MV.advance
  rw[Fe (Iv hb)]
  exact⟨0,rfl,rfl,hj,rfl⟩
 |false=>
  obtain⟨r,e1,e2,e3,e4⟩:=OE 5 V J hj hd hb (hs hb) 16 Zo 0
  have e5:(bif (Gn V).Ae==1 then Si (rounds 5 (J,V.M)) (Gn V) 0 else bif (Gn V).Ae==2 then Si (rounds 5 (J,V.M)) (Gn V) 0 else({Gn V with Ae:=0},0))=Si (rounds 5 (J,V.M)) (Gn V) 0:=by
   show(bif V.Ae==1 then _ else bif V.Ae==2 then _ else _)=_;rcases hd with h|h<;>rw[h]<;>rfl
  simp only[Bool.not_false,cond_true,e5]
  exact⟨r,by omega,e2,e3,e4⟩
def MA(gr:Nat)(jv:Value)(M:MR)(o:Option Xx)(w:World)(F:Nat->Prop):Prop:=
 match o with
 |some J=>RJ gr jv M J w F
 |none=>jv=.nilIface/\∃Fr,Lx w gr M Fr/\∀b,F b↔b∈Fr
section
variable{gr:Nat}{jv:Value}{M:MR}{o:Option Xx}{w w':World}{F:Nat->Prop}
theorem MA.AG(h:MA gr jv M o w F)(hs:∀b,F b->w'.heap[b]?=w.heap[b]?):MA gr jv M o w' F:=by
 cases o with
 |none=>obtain⟨h0,Fr,h1,h2⟩:=h;exact⟨h0,Fr,h1.same λb hb=>hs b ((h2 b).2 hb),h2⟩
 |some J=>exact RJ.AG h hs
theorem MA.lt(h:MA gr jv M o w F):∀b,F b->b<w.heap.size:=by
 cases o with
 |none=>obtain⟨h0,Fr,h1,h2⟩:=h;exact λb hb=>h1.lt b ((h2 b).1 hb)
 |some J=>exact RJ.lt h
theorem MA.one(h:MA gr jv M o w F):jv.oneCell'=true:=by
 cases o with
 |none=>obtain⟨rfl,_⟩:=h;rfl
 |some J=>obtain⟨_,_,_,h2,_⟩:=h;exact h2.val.1
theorem N5{M':MR}{V:Value}(h:MA gr jv M o w F){f:Nat}{args:Array Value}(hp:∀Fr,Lx w gr M Fr->Calls Tryz.prog f args w (IE (λw F=>Lx w gr M' F) V Fr w))(Φ:GF)(j:Nat)(hj:∀w F,MA gr jv M' o w F->Φ.P j w F):
  Calls Tryz.prog f args w λen w'=>en=.returned V/\EH Φ j F none w w':=by
 cases o with
 |some J=>
  obtain⟨Fr,Fj,h1,h2,h3,h4⟩:=h
  exact(hp Fr h1).mono λen w' hq=>KQ h2 h3 h4 (λw F h=>hj w F h) hq
 |none=>
  obtain⟨h0,Fr,h1,h4⟩:=h
  refine(hp Fr h1).mono λen w' hq=>?_
  obtain⟨F',p1,p2,p3,p4⟩:=hq
  exact⟨p1,RE p4 (λb hb=>(h4 b).2 hb) ⟨λb=>b∈F',hj _ _ ⟨h0,F',p2,λb=>Iff.rfl⟩,λb hb=>(p3 b hb).imp (h4 b).2 id,λb hb=>p2.lt b hb⟩⟩
end
def VB(w:World)(gv:Nat)(V:MV)(F:Nat->Prop):Prop:=
 ∃gr jv F1,Bk w gv 126 ((Gn V).l (.pointer (some ⟨gr,0,none⟩)) jv).toArray/\MA gr jv V.M V.BF w F1/\¬F1 gv/\∀b,F b↔b=gv\/F1 b
section
variable{gv:Nat}{V:MV}{w w':World}{F:Nat->Prop}
theorem VB.AG(h:VB w gv V F)(hs:∀b,F b->w'.heap[b]?=w.heap[b]?):VB w' gv V F:=by
 obtain⟨gr,jv,F1,h1,h2,h3,h4⟩:=h;exact⟨gr,jv,F1,h1.same (hs gv ((h4 gv).2 (Or.inl rfl))),h2.AG λb hb=>hs b ((h4 b).2 (Or.inr hb)),h3,h4⟩
theorem VB.lt(h:VB w gv V F):∀b,F b->b<w.heap.size:=by
 obtain⟨gr,jv,F1,h1,h2,h3,h4⟩:=h;intro b hb;rcases(h4 b).1 hb with rfl|hb
 ·exact h1.lt
 ·exact h2.lt b hb
def ON(V:MV):Prop:=((V.Ae=1\/V.Ae=2)/\∃J,V.BF=some J/\Va (J,V.M)/\(V.DK=false->JU 5 (J,V.M)))\/(V.Ae≠1/\V.Ae≠2)
end
def VPo(gr:Nat)(jv:Value)(V':MV)(g:Nat)(F:Nat->Prop)(Val:Value)(w:World)(en:Ending)(w':World):Prop:=
 en=.returned Val/\Bk w' g 126 ((Gn V').l (.pointer (some ⟨gr,0,none⟩)) jv).toArray/\DS (λb=>b=g\/F b) w w'/\∃F':Nat->Prop,MA gr jv V'.M V'.BF w' F'/\¬F' g/\(∀b,F' b->b<w'.heap.size)/\∀b,F' b->F b\/w.heap.size<=b
theorem oJ(V:MV)(g gr:Nat)(jv:Value)(w:World)(F:Nat->Prop)(hb:Bk w g 126 ((Gn V).l (.pointer (some ⟨gr,0,none⟩)) jv).toArray)(h:MA gr jv V.M V.BF w F)(hg:¬F g)(ok:ON V):
  Calls Tryz.prog 56 #[.pointer (some ⟨g,2,none⟩)] w (VPo gr jv V.advance g F (.tuple #[]) w):=by
 rcases ok with⟨hd,J,hj,ro,st⟩|⟨hd1,hd2⟩
 ·rw[hj] at h;obtain⟨r,e1,e2,e3,e4⟩:=iB hj hd st;refine(wD (Gn V) g gr jv (J,V.M) w F hb h hg ro st).mono λen w' hp=>?_;obtain⟨p1,p2,p3,F',p4,p5,p6,p7⟩:=hp;rw[e1] at p4;refine⟨p1,by rw[e2];exact p2,p3,F',?_,p5,p6,p7⟩;rw[e3,e4];exact Ix.1 p4
 ·have hq:=qJ (Φ:=⟨λ_ w F=>MA gr jv V.M V.BF w F,λ_ _ _ _ h hs=>h.AG hs⟩) (F:=F) (Gn V) ⟨gr,0,none⟩ jv V.DK g w hb h.one (by show(V.Ae==1)=false;simp[hd1]) (by show(V.Ae==2)=false;simp[hd2])
   (λw F hP _=>N5 hP (λFr h1=>R6 h1) _ 0 λw F h=>h) h hg h.lt
  refine hq.mono λen w' hp=>?_;obtain⟨p1,p2,p3,F',p4,p5,p6,p7⟩:=hp;have e:V.advance.M=V.M/\V.advance.BF=V.BF/\Gn V.advance=(bif !((Gn V).Ae==0) then bif !V.DK then({Gn V with Ae:=0}:DA) else Gn V else Gn V):=by
   unfold MV.advance;by_cases h0:V.Ae=0
   ·rw[Fe (Kp h0)];refine⟨rfl,rfl,?_⟩;show Gn V=bif !(V.Ae==0) then _ else _;rw[h0];rfl
   ·have h0':(V.Ae==0)=false:=by simp[h0]
    cases hb:V.DK with
    |true=>
     rw[Fe (Iv hb)];refine⟨rfl,rfl,?_⟩;show Gn V=bif !(V.Ae==0) then _ else _;rw[h0'];rfl
    |false=>
     rw[OC (LC hb h0),QD hd1 hd2,Fe (Kp rfl)];refine⟨rfl,rfl,?_⟩;show Gn {V with Ae:=0}=bif !(V.Ae==0) then _ else _;rw[h0'];rfl
  refine⟨p1,by rw[e.2.2];exact p2,p3,F',by rw[e.1,e.2.1];exact p4,p5,p6,p7⟩
end Go.Proofs.YtaipogljokblkaaGreatDoor
