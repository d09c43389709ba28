/- Core: CStart, VN, VO. -/
import Derived.Test.YtaipogljokblkaaGreatDoorW12
import Derived.Test.YtaipogljokblkaaGreatDoorW06
import Derived.Test.YtaipogljokblkaaGreatDoorW09
import Derived.Test.YtaipogljokblkaaGreatDoorW27
import Derived.Test.YtaipogljokblkaaGreatDoorW08
import Derived.Test.YtaipogljokblkaaGreatDoorW01
set_option linter.all false
set_option maxRecDepth 100000
set_option maxHeartbeats 8000000
namespace Go.Proofs.YtaipogljokblkaaGreatDoor
open Go Go.RowKit
set_option linter.unusedSimpArgs false
set_option linter.unusedVariables false
set_option linter.unusedSectionVars false
def Uf:St:=⟨[],[],[(.le (.lit 0) (.var 0),true),(.le (.var 0) (.lit 1073741824),true)],10,0⟩
theorem Sk(o:Bl)(w:World)(v0:0<=o.val)(v1:o.val<=1073741824):Calls Tryz.prog 54 #[.int .i64 1,.agg ({o with kind:=1,key:=0,Aj:=0}:Bl).l.toArray] w λen w'=>∃g,en=.returned (.tuple #[.iface 127 (.pointer (some ⟨g,0,none⟩)),.nilIface])/\w.heap.size<=g/\Bk w' g 175 ((X6.new ({o with kind:=1,key:=0,Aj:=0}:Bl)).l).toArray/\Al [] w w':=
 pS (Ix [[o.val]] []) Uf [.c (.int (.lit 1)),.agg [.int (.lit 1),.int (.lit 0),.int (.var 0),.int (.lit 0)]] 429 (Ca (decide_eq_true v0) (Ca (decide_eq_true v1) Ci))
def Ue:St:=⟨[],[],[],10,0⟩
theorem Sj(o:Bl)(w:World):Calls Tryz.prog 54 #[.int .i64 1,.agg ({o with kind:=2,key:=0,val:=0,Aj:=0}:Bl).l.toArray] w λen w'=>∃g,en=.returned (.tuple #[.iface 127 (.pointer (some ⟨g,0,none⟩)),.nilIface])/\w.heap.size<=g/\Bk w' g 175 ((X6.new ({o with kind:=2,key:=0,val:=0,Aj:=0}:Bl)).l).toArray/\Al [] w w':=
 pS (Ix [] []) Ue [.c (.int (.lit 1)),.agg [.int (.lit 2),.int (.lit 0),.int (.lit 0),.int (.lit 0)]] 429 Ci
def Ud:St:=⟨[],[],[],10,0⟩
theorem Si(o:Bl)(w:World):Calls Tryz.prog 54 #[.int .i64 1,.agg ({o with kind:=3,key:=0,val:=0,Aj:=0}:Bl).l.toArray] w λen w'=>∃g,en=.returned (.tuple #[.iface 127 (.pointer (some ⟨g,0,none⟩)),.nilIface])/\w.heap.size<=g/\Bk w' g 175 ((X6.new ({o with kind:=3,key:=0,val:=0,Aj:=0}:Bl)).l).toArray/\Al [] w w':=
 pS (Ix [] []) Ud [.c (.int (.lit 1)),.agg [.int (.lit 3),.int (.lit 0),.int (.lit 0),.int (.lit 0)]] 429 Ci
def Uc:St:=⟨[],[],[(.le (.lit 0) (.var 0),true),(.le (.var 0) (.lit 1073741824),true)],10,0⟩
theorem Sh(o:Bl)(w:World)(v0:0<=o.val)(v1:o.val<=1073741824):Calls Tryz.prog 54 #[.int .i64 2,.agg ({o with kind:=4,key:=0,Aj:=0}:Bl).l.toArray] w λen w'=>∃g,en=.returned (.tuple #[.iface 130 (.pointer (some ⟨g,0,none⟩)),.nilIface])/\w.heap.size<=g/\Bk w' g 179 ((Yd.new ({o with kind:=4,key:=0,Aj:=0}:Bl)).l).toArray/\Al [] w w':=
 pS (Ix [[o.val]] []) Uc [.c (.int (.lit 2)),.agg [.int (.lit 4),.int (.lit 0),.int (.var 0),.int (.lit 0)]] 429 (Ca (decide_eq_true v0) (Ca (decide_eq_true v1) Ci))
def Ub:St:=⟨[],[],[],10,0⟩
theorem Sg(o:Bl)(w:World):Calls Tryz.prog 54 #[.int .i64 2,.agg ({o with kind:=5,key:=0,val:=0,Aj:=0}:Bl).l.toArray] w λen w'=>∃g,en=.returned (.tuple #[.iface 130 (.pointer (some ⟨g,0,none⟩)),.nilIface])/\w.heap.size<=g/\Bk w' g 179 ((Yd.new ({o with kind:=5,key:=0,val:=0,Aj:=0}:Bl)).l).toArray/\Al [] w w':=
 pS (Ix [] []) Ub [.c (.int (.lit 2)),.agg [.int (.lit 5),.int (.lit 0),.int (.lit 0),.int (.lit 0)]] 429 Ci
def Ua:St:=⟨[],[],[(.lt (.var 0) (.lit 0),false),(.lt (.lit 255) (.var 0),false),(.le (.lit 0) (.var 1),true),(.le (.var 1) (.lit 1073741824),true)],10,0⟩
theorem Sf(o:Bl)(w:World)(k0:0<=o.key)(k1:o.key<256)(v0:0<=o.val)(v1:o.val<=1073741824):Calls Tryz.prog 54 #[.int .i64 3,.agg ({o with kind:=6,Aj:=0}:Bl).l.toArray] w λen w'=>∃g,en=.returned (.tuple #[.iface 133 (.pointer (some ⟨g,0,none⟩)),.nilIface])/\w.heap.size<=g/\Bk w' g 206 ((Xi.from_ (root 0) o.key ({o with kind:=6,Aj:=0}:Bl)).l (.pointer none)).toArray/\Al [] w w':=
 pS (Ix [[o.key,o.val]] []) Ua [.c (.int (.lit 3)),.agg [.int (.lit 6),.int (.var 0),.int (.var 1),.int (.lit 0)]] 647 (Ca (decide_eq_false (Int.not_lt.mpr k0)) (Ca (decide_eq_false (Int.not_lt.mpr (Int.le_of_lt_add_one k1))) (Ca (decide_eq_true v0) (Ca (decide_eq_true v1) Ci))))
def TZ:St:=⟨[],[],[(.lt (.var 0) (.lit 0),false),(.lt (.lit 255) (.var 0),false)],10,0⟩
theorem Se(o:Bl)(w:World)(k0:0<=o.key)(k1:o.key<256):Calls Tryz.prog 54 #[.int .i64 3,.agg ({o with kind:=7,val:=0,Aj:=0}:Bl).l.toArray] w λen w'=>∃g,en=.returned (.tuple #[.iface 133 (.pointer (some ⟨g,0,none⟩)),.nilIface])/\w.heap.size<=g/\Bk w' g 206 ((Xi.from_ (root 0) o.key ({o with kind:=7,val:=0,Aj:=0}:Bl)).l (.pointer none)).toArray/\Al [] w w':=
 pS (Ix [[o.key]] []) TZ [.c (.int (.lit 3)),.agg [.int (.lit 7),.int (.var 0),.int (.lit 0),.int (.lit 0)]] 647 (Ca (decide_eq_false (Int.not_lt.mpr k0)) (Ca (decide_eq_false (Int.not_lt.mpr (Int.le_of_lt_add_one k1))) Ci))
def TY:St:=⟨[],[],[(.lt (.var 0) (.lit 0),false),(.lt (.lit 255) (.var 0),false)],10,0⟩
theorem Sd(o:Bl)(w:World)(k0:0<=o.key)(k1:o.key<256):Calls Tryz.prog 54 #[.int .i64 3,.agg ({o with kind:=8,val:=0,Aj:=0}:Bl).l.toArray] w λen w'=>∃g,en=.returned (.tuple #[.iface 133 (.pointer (some ⟨g,0,none⟩)),.nilIface])/\w.heap.size<=g/\Bk w' g 206 ((Xi.from_ (root 0) o.key ({o with kind:=8,val:=0,Aj:=0}:Bl)).l (.pointer none)).toArray/\Al [] w w':=
 pS (Ix [[o.key]] []) TY [.c (.int (.lit 3)),.agg [.int (.lit 8),.int (.var 0),.int (.lit 0),.int (.lit 0)]] 647 (Ca (decide_eq_false (Int.not_lt.mpr k0)) (Ca (decide_eq_false (Int.not_lt.mpr (Int.le_of_lt_add_one k1))) Ci))
def TX:St:=⟨[],[],[(.lt (.var 0) (.lit 0),false),(.lt (.lit 255) (.var 0),false),(.le (.lit 0) (.var 1),true),(.le (.var 1) (.lit 1073741824),true)],10,0⟩
theorem Sc(o:Bl)(w:World)(k0:0<=o.key)(k1:o.key<256)(v0:0<=o.val)(v1:o.val<=1073741824):Calls Tryz.prog 54 #[.int .i64 4,.agg ({o with kind:=6,Aj:=0}:Bl).l.toArray] w λen w'=>∃g,en=.returned (.tuple #[.iface 136 (.pointer (some ⟨g,0,none⟩)),.nilIface])/\w.heap.size<=g/\Bk w' g 186 ((Xa.new ({o with kind:=6,Aj:=0}:Bl)).l (.pointer none) (.pointer none)).toArray/\Al [] w w':=
 pS (Ix [[o.key,o.val]] []) TX [.c (.int (.lit 4)),.agg [.int (.lit 6),.int (.var 0),.int (.var 1),.int (.lit 0)]] 429 (Ca (decide_eq_false (Int.not_lt.mpr k0)) (Ca (decide_eq_false (Int.not_lt.mpr (Int.le_of_lt_add_one k1))) (Ca (decide_eq_true v0) (Ca (decide_eq_true v1) Ci))))
def TW:St:=⟨[],[],[(.lt (.var 0) (.lit 0),false),(.lt (.lit 255) (.var 0),false)],10,0⟩
theorem Sb(o:Bl)(w:World)(k0:0<=o.key)(k1:o.key<256):Calls Tryz.prog 54 #[.int .i64 4,.agg ({o with kind:=7,val:=0,Aj:=0}:Bl).l.toArray] w λen w'=>∃g,en=.returned (.tuple #[.iface 136 (.pointer (some ⟨g,0,none⟩)),.nilIface])/\w.heap.size<=g/\Bk w' g 186 ((Xa.new ({o with kind:=7,val:=0,Aj:=0}:Bl)).l (.pointer none) (.pointer none)).toArray/\Al [] w w':=
 pS (Ix [[o.key]] []) TW [.c (.int (.lit 4)),.agg [.int (.lit 7),.int (.var 0),.int (.lit 0),.int (.lit 0)]] 429 (Ca (decide_eq_false (Int.not_lt.mpr k0)) (Ca (decide_eq_false (Int.not_lt.mpr (Int.le_of_lt_add_one k1))) Ci))
def TV:St:=⟨[],[],[(.lt (.var 0) (.lit 0),false),(.lt (.lit 255) (.var 0),false)],10,0⟩
theorem Sa(o:Bl)(w:World)(k0:0<=o.key)(k1:o.key<256):Calls Tryz.prog 54 #[.int .i64 4,.agg ({o with kind:=8,val:=0,Aj:=0}:Bl).l.toArray] w λen w'=>∃g,en=.returned (.tuple #[.iface 136 (.pointer (some ⟨g,0,none⟩)),.nilIface])/\w.heap.size<=g/\Bk w' g 186 ((Xa.new ({o with kind:=8,val:=0,Aj:=0}:Bl)).l (.pointer none) (.pointer none)).toArray/\Al [] w w':=
 pS (Ix [[o.key]] []) TV [.c (.int (.lit 4)),.agg [.int (.lit 8),.int (.var 0),.int (.lit 0),.int (.lit 0)]] 429 (Ca (decide_eq_false (Int.not_lt.mpr k0)) (Ca (decide_eq_false (Int.not_lt.mpr (Int.le_of_lt_add_one k1))) Ci))
def TU:St:=⟨[],[],[(.lt (.var 0) (.lit 0),false),(.lt (.lit 255) (.var 0),false),(.le (.lit 0) (.var 1),true),(.le (.var 1) (.lit 1073741824),true),(.le (.lit 0) (.var 2),true),(.le (.var 2) (.lit 3),true),(.lt (.var 2) (.lit 1),false)],10,0⟩
theorem RZ(o:Bl)(w:World)(k0:0<=o.key)(k1:o.key<256)(v0:0<=o.val)(v1:o.val<=1073741824)(t0:1<=o.Aj)(t1:o.Aj<=3):Calls Tryz.prog 54 #[.int .i64 5,.agg ({o with kind:=6}:Bl).l.toArray] w λen w'=>∃g,en=.returned (.tuple #[.iface 139 (.pointer (some ⟨g,0,none⟩)),.nilIface])/\w.heap.size<=g/\Bk w' g 191 ((Xc.new ({o with kind:=6}:Bl)).l (.pointer none)).toArray/\Al [] w w':=
 pS (Ix [[o.key,o.val,o.Aj]] []) TU [.c (.int (.lit 5)),.agg [.int (.lit 6),.int (.var 0),.int (.var 1),.int (.var 2)]] 429 (Ca (decide_eq_false (Int.not_lt.mpr k0)) (Ca (decide_eq_false (Int.not_lt.mpr (Int.le_of_lt_add_one k1))) (Ca (decide_eq_true v0) (Ca (decide_eq_true v1) (Ca (decide_eq_true (show(0:Int)<=o.Aj from by omega)) (Ca (decide_eq_true t1) (Ca (decide_eq_false (Int.not_lt.mpr t0)) Ci)))))))
def TT:St:=⟨[],[],[(.lt (.var 0) (.lit 0),false),(.lt (.lit 255) (.var 0),false)],10,0⟩
theorem RY(o:Bl)(w:World)(k0:0<=o.key)(k1:o.key<256):Calls Tryz.prog 54 #[.int .i64 5,.agg ({o with kind:=7,val:=0,Aj:=0}:Bl).l.toArray] w λen w'=>∃g,en=.returned (.tuple #[.iface 139 (.pointer (some ⟨g,0,none⟩)),.nilIface])/\w.heap.size<=g/\Bk w' g 191 ((Xc.new ({o with kind:=7,val:=0,Aj:=0}:Bl)).l (.pointer none)).toArray/\Al [] w w':=
 pS (Ix [[o.key]] []) TT [.c (.int (.lit 5)),.agg [.int (.lit 7),.int (.var 0),.int (.lit 0),.int (.lit 0)]] 429 (Ca (decide_eq_false (Int.not_lt.mpr k0)) (Ca (decide_eq_false (Int.not_lt.mpr (Int.le_of_lt_add_one k1))) Ci))
def TS:St:=⟨[],[],[(.lt (.var 0) (.lit 0),false),(.lt (.lit 255) (.var 0),false)],10,0⟩
theorem RX(o:Bl)(w:World)(k0:0<=o.key)(k1:o.key<256):Calls Tryz.prog 54 #[.int .i64 5,.agg ({o with kind:=8,val:=0,Aj:=0}:Bl).l.toArray] w λen w'=>∃g,en=.returned (.tuple #[.iface 139 (.pointer (some ⟨g,0,none⟩)),.nilIface])/\w.heap.size<=g/\Bk w' g 191 ((Xc.new ({o with kind:=8,val:=0,Aj:=0}:Bl)).l (.pointer none)).toArray/\Al [] w w':=
 pS (Ix [[o.key]] []) TS [.c (.int (.lit 5)),.agg [.int (.lit 8),.int (.var 0),.int (.lit 0),.int (.lit 0)]] 429 (Ca (decide_eq_false (Int.not_lt.mpr k0)) (Ca (decide_eq_false (Int.not_lt.mpr (Int.le_of_lt_add_one k1))) Ci))
def GM(st:Int)(o:Bl):Prop:=
 (st=1/\o.key=0/\o.Aj=0/\((o.kind=1/\0<=o.val/\o.val<=1073741824)\/((o.kind=2\/o.kind=3)/\o.val=0)))\/
 (st=2/\o.key=0/\o.Aj=0/\((o.kind=4/\0<=o.val/\o.val<=1073741824)\/(o.kind=5/\o.val=0)))\/
 ((st=3\/st=4)/\0<=o.key/\o.key<=255/\o.Aj=0/\((o.kind=6/\0<=o.val/\o.val<=1073741824)\/((o.kind=7\/o.kind=8)/\o.val=0)))\/
 (st=5/\0<=o.key/\o.key<=255/\((o.kind=6/\0<=o.val/\o.val<=1073741824/\1<=o.Aj/\o.Aj<=3)\/((o.kind=7\/o.kind=8)/\o.val=0/\o.Aj=0)))
def VF(st:Int)(o:Bl)(w:World)(en:Ending)(w':World):Prop:=
 ∃jv Fj,en=.returned (.tuple #[jv,.nilIface])/\Mb w' jv (Yz.new st o) Fj/\(∀b∈Fj,w.heap.size<=b)/\Below w.heap.size w w'
theorem dV(st:Int)(o:Bl)(w:World)(h:GM st o):Calls Tryz.prog 54 #[.int .i64 st,.agg o.l.toArray] w (VF st o w):=by
 obtain⟨k,key,val,Aj⟩:=o;simp only[GM] at h;rcases h with⟨rfl,rfl,rfl,⟨rfl,h1,h2⟩|⟨rfl|rfl,rfl⟩⟩|⟨rfl,rfl,rfl,⟨rfl,h1,h2⟩|⟨rfl,rfl⟩⟩|⟨rfl|rfl,h3,h4,rfl,⟨rfl,h1,h2⟩|⟨rfl|rfl,rfl⟩⟩|⟨rfl,h3,h4,⟨rfl,h1,h2,h5,h6⟩|⟨rfl|rfl,rfl,rfl⟩⟩
 ·exact(Sk ⟨1,0,val,0⟩ w h1 h2).mono λen w' hp=>by obtain⟨g,p1,p2,p3,p4⟩:=hp;exact⟨_,[g],p1,⟨g,rfl,rfl,p3⟩,by simpa using p2,p4.below⟩
 ·exact(Sj ⟨2,0,0,0⟩ w).mono λen w' hp=>by obtain⟨g,p1,p2,p3,p4⟩:=hp;exact⟨_,[g],p1,⟨g,rfl,rfl,p3⟩,by simpa using p2,p4.below⟩
 ·exact(Si ⟨3,0,0,0⟩ w).mono λen w' hp=>by obtain⟨g,p1,p2,p3,p4⟩:=hp;exact⟨_,[g],p1,⟨g,rfl,rfl,p3⟩,by simpa using p2,p4.below⟩
 ·exact(Sh ⟨4,0,val,0⟩ w h1 h2).mono λen w' hp=>by obtain⟨g,p1,p2,p3,p4⟩:=hp;exact⟨_,[g],p1,⟨g,rfl,rfl,p3⟩,by simpa using p2,p4.below⟩
 ·exact(Sg ⟨5,0,0,0⟩ w).mono λen w' hp=>by obtain⟨g,p1,p2,p3,p4⟩:=hp;exact⟨_,[g],p1,⟨g,rfl,rfl,p3⟩,by simpa using p2,p4.below⟩
 ·exact(Sf ⟨6,key,val,0⟩ w h3 (by show key<256;omega) h1 h2).mono λen w' hp=>by obtain⟨g,p1,p2,p3,p4⟩:=hp;exact⟨_,[g],p1,⟨g,rfl,⟨⟨.pointer none,[],rfl,p3,rfl,rfl⟩,by simp⟩⟩,by simpa using p2,p4.below⟩
 ·exact(Se ⟨7,key,0,0⟩ w h3 (by show key<256;omega)).mono λen w' hp=>by obtain⟨g,p1,p2,p3,p4⟩:=hp;exact⟨_,[g],p1,⟨g,rfl,⟨⟨.pointer none,[],rfl,p3,rfl,rfl⟩,by simp⟩⟩,by simpa using p2,p4.below⟩
 ·exact(Sd ⟨8,key,0,0⟩ w h3 (by show key<256;omega)).mono λen w' hp=>by obtain⟨g,p1,p2,p3,p4⟩:=hp;exact⟨_,[g],p1,⟨g,rfl,⟨⟨.pointer none,[],rfl,p3,rfl,rfl⟩,by simp⟩⟩,by simpa using p2,p4.below⟩
 ·exact(Sc ⟨6,key,val,0⟩ w h3 (by show key<256;omega) h1 h2).mono λen w' hp=>by obtain⟨g,p1,p2,p3,p4⟩:=hp;exact⟨_,[g],p1,⟨g,rfl,⟨none,none,[],[],rfl,p3,⟨rfl,rfl⟩,⟨rfl,rfl⟩,by simp⟩⟩,by simpa using p2,p4.below⟩
 ·exact(Sb ⟨7,key,0,0⟩ w h3 (by show key<256;omega)).mono λen w' hp=>by obtain⟨g,p1,p2,p3,p4⟩:=hp;exact⟨_,[g],p1,⟨g,rfl,⟨none,none,[],[],rfl,p3,⟨rfl,rfl⟩,⟨rfl,rfl⟩,by simp⟩⟩,by simpa using p2,p4.below⟩
 ·exact(Sa ⟨8,key,0,0⟩ w h3 (by show key<256;omega)).mono λen w' hp=>by obtain⟨g,p1,p2,p3,p4⟩:=hp;exact⟨_,[g],p1,⟨g,rfl,⟨none,none,[],[],rfl,p3,⟨rfl,rfl⟩,⟨rfl,rfl⟩,by simp⟩⟩,by simpa using p2,p4.below⟩
 ·exact(RZ ⟨6,key,val,Aj⟩ w h3 (by show key<256;omega) h1 h2 h5 h6).mono λen w' hp=>by obtain⟨g,p1,p2,p3,p4⟩:=hp;exact⟨_,[g],p1,⟨g,rfl,⟨⟨.pointer none,[],rfl,p3,rfl,rfl⟩,by simp⟩⟩,by simpa using p2,p4.below⟩
 ·exact(RY ⟨7,key,0,0⟩ w h3 (by show key<256;omega)).mono λen w' hp=>by obtain⟨g,p1,p2,p3,p4⟩:=hp;exact⟨_,[g],p1,⟨g,rfl,⟨⟨.pointer none,[],rfl,p3,rfl,rfl⟩,by simp⟩⟩,by simpa using p2,p4.below⟩
 ·exact(RX ⟨8,key,0,0⟩ w h3 (by show key<256;omega)).mono λen w' hp=>by obtain⟨g,p1,p2,p3,p4⟩:=hp;exact⟨_,[g],p1,⟨g,rfl,⟨⟨.pointer none,[],rfl,p3,rfl,rfl⟩,by simp⟩⟩,by simpa using p2,p4.below⟩
theorem fits_x(st:Int)(o:Bl)(w:World)(h:GM st o)(he:AO w):Calls Tryz.prog 25 #[.int .i64 st,.agg o.l.toArray] w (λen w'=>en=.returned (.bool true)/\Below w.heap.size w w'):=by
 obtain⟨T,q,e⟩:=he.arg;obtain⟨k,key,val,Aj⟩:=o;refine(Fn.qF st ⟨k,key,val,Aj⟩ w T _ e).mono λen w' hp=>?_;rw[show Fn.J5 st ⟨k,key,val,Aj⟩=true from decide_eq_true h] at hp;exact hp
theorem gR{w:World}{v:Value}{J:Yz}{F:List Nat}(h:Mb w v J F):∃T g,v=.iface T (.pointer (some ⟨g,0,none⟩)):=by
 cases J with
 |pile J=>obtain⟨g,rfl,_⟩:=h;exact⟨_,g,rfl⟩
 |Ti J=>obtain⟨g,rfl,_⟩:=h;exact⟨_,g,rfl⟩
 |lit J=>obtain⟨g,rfl,_⟩:=h;exact⟨_,g,rfl⟩
 |RF J=>obtain⟨g,rfl,_⟩:=h;exact⟨_,g,rfl⟩
 |RW J=>obtain⟨g,rfl,_⟩:=h;exact⟨_,g,rfl⟩
theorem qE{st k key val Aj:Int}{w:World}(h:GM st ⟨k,key,val,Aj⟩)(he:AO w):Calls Tryz.prog 25 #[.int .i64 st,.agg #[.int .i64 k,.int .i64 key,.int .i64 val,.int .i64 Aj]] w (λen w'=>en=.returned (.bool true)/\Below w.heap.size w w'):=fits_x st ⟨k,key,val,Aj⟩ w h he
theorem tH{st k key val Aj:Int}{w:World}(h:GM st ⟨k,key,val,Aj⟩):Calls Tryz.prog 54 #[.int .i64 st,.agg #[.int .i64 k,.int .i64 key,.int .i64 val,.int .i64 Aj]] w (VF st ⟨k,key,val,Aj⟩ w):=dV st ⟨k,key,val,Aj⟩ w h
theorem Np.rite{gr:Nat}{jv:Value}{M:MR}{o:Option Yz}{w:World}{F:Nat->Prop}(h:Np gr jv M o w F):∃Fr,KR w gr M Fr/\∀b∈Fr,F b:=by
 cases o with
 |some J=>obtain⟨Fr,Fj,h1,h2,h3,h4⟩:=h;exact⟨Fr,h1,λb hb=>(h4 b).2 (Or.inl hb)⟩
 |none=>obtain⟨h0,Fr,h1,h4⟩:=h;exact⟨Fr,h1,λb hb=>(h4 b).2 hb⟩
theorem jY(V:MV)(d:Int)(c:Xf)(g gr:Nat)(jv:Value)(w:World)(F:Nat->Prop)(hb:Bk w g 126 ((Gv V).l (.pointer (some ⟨gr,0,none⟩)) jv).toArray)(h:Np gr jv V.M V.BJ w F)(hg:¬F g)(ok:VO V.M)(hs:V.M.R.step=0)(hc:Tb c):
  Calls Tryz.prog 55 #[.pointer (some ⟨g,2,none⟩),.int .i64 d,.agg c.l.toArray] w (VPo gr jv (V.Ag d c) g F (.tuple #[]) w):=by
 have hq:=kA (Φ:=⟨fun i w F=>if i = 0 then Np gr jv V.M V.BJ w F else Np gr jv (V.M.Ag c) V.BJ w F,fun i w w' F h hs=>by
   split at h
   ·rename_i h0;rw[if_pos h0];exact h.A5 hs
   ·rename_i h0;rw[if_neg h0];exact h.A5 hs⟩) (F:=F) (Gv V) ⟨gr,0,none⟩ jv d c g w hb h.one
  (λw F hP _=>Ox (M':=V.M.Ag c) (M:=V.M) (o:=V.BJ) hP (λFr h1=>bG c h1 ok hs hc) _ 1 λw F h=>h) h hg h.lt
 refine hq.mono λen w' hp=>?_
 obtain⟨p1,p2,p3,F',p4,p5,p6,p7⟩:=hp
 exact⟨p1,p2,p3,F',p4,p5,p6,p7⟩
theorem yA(V:MV)(g gr:Nat)(jv:Value)(w:World)(F:Nat->Prop)(hb:Bk w g 126 ((Gv V).l (.pointer (some ⟨gr,0,none⟩)) jv).toArray)(h:Np gr jv V.M V.BJ w F)(hg:¬F g)(ok:VO V.M)(hs:V.M.R.step=0):
  Calls Tryz.prog 55 #[.pointer (some ⟨g,2,none⟩),.int .i64 1,.agg #[.int .i64 1,.int .i64 0,.int .i64 0,.int .i64 0,.int .i64 0,.int .i64 0,.int .i64 0,.int .i64 0,.bool false,.int .i64 0,.int .i64 0,.int .i64 0,.int .i64 0,.bool false,.int .i64 0,.int .i64 0,.int .i64 0,.int .i64 0]] w (VPo gr jv (V.Ag 1 Yv) g F (.tuple #[]) w):=
 jY V 1 Yv g gr jv w F hb h hg ok hs (Or.inl rfl)
theorem pP(V:MV)(o:Bl)(gv gr:Nat)(jv:Value)(w:World)(F:Nat->Prop)(he:AO w)(hf:GM V.st o)(hd:V.Ae=0)(hb:Bk w gv 126 ((Gv V).l (.pointer (some ⟨gr,0,none⟩)) jv).toArray)(h:Np gr jv V.M V.BJ w F)(hg:¬F gv)
  (ok:VO V.M)(hs:V.M.R.step=0)(hgo:PT (MV.Ag {V with op:=o,BJ:=some (Yz.new V.st o),BR:=.zero} 1 Yv)):
  Calls Tryz.prog 36 #[.pointer (some ⟨gv,0,none⟩),.agg o.l.toArray] w λen w'=>∃jw,en=.returned .nilIface/\
   Bk w' gv 126 ((Gv (V.Ih o)).l (.pointer (some ⟨gr,0,none⟩)) jw).toArray/\CG (λb=>b=gv\/F b) w w'/\
   ∃F':Nat->Prop,Np gr jw (V.Ih o).M (V.Ih o).BJ w' F'/\¬F' gv/\(∀b,F' b->b<w'.heap.size)/\∀b,F' b->F b\/w.heap.size<=b:=by
 obtain⟨st,eng,Ae,call,op,BJ,BR,M⟩:=V
 obtain⟨k,key,val,Aj⟩:=o
 obtain rfl:Ae=0:=hd
 show Calls Tryz.prog _ #[.pointer (some ⟨gv,0,none⟩),.agg #[.int .i64 k,.int .i64 key,.int .i64 val,.int .i64 Aj]] w _
 have c0:=hb.cell 0;have c3:=hb.cell 3
 simp[Gv,DK.l,Xf.l,Yj.l,Xd.l,DQ.l,Bl.l] at c0 c3
 have hgl:=hb.lt
 have hal:Below w.heap.size w (w.alloc (.cells #[.int .i64 k,.int .i64 key,.int .i64 val,.int .i64 Aj] 35)):=(Below.refl _ _).alloc (Nat.le_refl _) _
 have HB:=Zh (hb.Ad hal)
 have HE:=Zh (he.below hal)
 have HX:=Zh (Bk.at_ (w:=w) (g:=w.heap.size) (cs:=#[.int .i64 k,.int .i64 key,.int .i64 val,.int .i64 Aj]) (t:=35) rfl)
 have HR:=Zh (h.A5 (w':=w.alloc (.cells #[.int .i64 k,.int .i64 key,.int .i64 val,.int .i64 Aj] 35)) λb hb=>Below.heap_alloc w _ b (h.lt b hb))
 have HC:=Zh hal
 have HOK:=Zh (And.intro ok (And.intro hs hgo))
 have hgz:=hb.lt
 have HL:=Zh h.lt
 clear hb hal he h ok hs hgo
 go_enter Tryz.func36,Tryz.ntmps36
 go_wp2
 clear c0 c3
 have hgx:w.heap.size<(w.alloc (.cells #[.int .i64 k,.int .i64 key,.int .i64 val,.int .i64 Aj] 35)).heap.size:=HX.out.lt
 generalize w.alloc (.cells #[.int .i64 k,.int .i64 key,.int .i64 val,.int .i64 Aj] 35)=W at*
 (refine IT ((λw':World=>Below W.heap.size W w')) Zk Zk ((Below.refl _ _).drew) ?_;(repeat (first|go_big_quiet_skip|(go_big_quiet_want;first|(go_big_quiet_op;go_big_quiet_on)|(apply Exists.intro;refine⟨λw' hC=>?_,?_⟩;(· ((have q0:=(HB.out.Ad hC).cell 0;simp[Gv,DK.l,Xf.l,Yj.l,Xd.l,DQ.l,Bl.l] at q0;have y0:=(HX.out.Ad hC).cell 0;have y1:=(HX.out.Ad hC).cell 1;have y2:=(HX.out.Ad hC).cell 2;have y3:=(HX.out.Ad hC).cell 3;simp at y0 y1 y2 y3);go_simp;first|done|rfl|exact⟨rfl,rfl⟩|((go_at_call 25;(with_reducible refine(qE hf (HE.out.below hC)).mono ?_);rintro e w'' ⟨rfl,hb⟩;exact⟨rfl,hC.trans (hb.mono hC.size)⟩))));go_big_quiet_on;simp only[ZL]))));refine wpQuiet_nil ?_;intro w' hC)
 have HB1:=Zh (HB.out.Ad hC)
 have HE1:=Zh (HE.out.below hC)
 have HX1:=Zh (HX.out.Ad hC)
 have HR1:=Zh (HR.out.A5 (w':=w') λb hb=>hC.block b (HR.out.lt b hb))
 have HC1:=Zh (HC.out.trans (hC.mono HC.out.size))
 have hgx1:w.heap.size<w'.heap.size:=HX1.out.lt
 clear HB HE HX HR HC hC hgx
 generalize w'=W1 at*
 clear W w'
 go_wp2
 refine Yb (λw'=>Bk w' gv 126 ((Gv {st:=st,eng:=eng,Ae:=0,call:=call,op:=op,BJ:=BJ,BR:=BR,M:=M}).l (.pointer (some ⟨gr,0,none⟩)) jv).toArray/\Bk w' w.heap.size 35 #[.int .i64 k,.int .i64 key,.int .i64 val,.int .i64 Aj]) 11 Zk ⟨HB1.out.drew,HX1.out.drew⟩ (λhS=>?_)
 have BN:=Zh HB1.out.drew
 have HX2:=Zh HX1.out.drew
 have HE2:=Zh (HE1.out.below (Below.refl _ _).drew)
 have HR2:=Zh (HR1.out.A5 (w':=W1.drew) λb hb=>rfl)
 have HC2:=Zh (HC1.out.trans ((Below.refl W1.heap.size W1).drew.mono HC1.out.size))
 clear HB1 HX1 HE1 HR1 HC1 hgx1
 generalize W1.drew=W2 at*
 clear W1
 ((try simp only[ZL]);refine vT (fuel:=6) hS [0,1,2,3,4] ?_;simp only[Xv,Xp,List.toList_toArray];(repeat (first|go_big_quiet_skip|(go_big_quiet_want;first|(go_big_quiet_op;go_big_quiet_on)|(apply Exists.intro;refine⟨λw' hS'=>?_,?_⟩;(· ((have q0:=hS'.1.cell 0;simp[Gv,DK.l,Xf.l,Yj.l,Xd.l,DQ.l,Bl.l] at q0;have y0:=hS'.2.cell 0;have y1:=hS'.2.cell 1;have y2:=hS'.2.cell 2;have y3:=hS'.2.cell 3;simp at y0 y1 y2 y3);go_simp;first|done|rfl|exact⟨rfl,rfl⟩));go_big_quiet_on;simp only[ZL]))));refine wpQuiet_nil ?_;(try dsimp only))
 (refine Xh 5 Zk (λK hK=>?_);simp only[Xp,List.toList_toArray])
 go_wp2_with fail
 refine(tH hf).mono ?_
 rintro e w3 ⟨jw,Fj,rfl,hj,hjn,hb3⟩
 obtain⟨T,gj,rfl⟩:=gR hj
 have HB3:=Zh (BN.out.Ad hb3)
 have HX3:=Zh (HX2.out.Ad hb3)
 have HE3:=Zh (HE2.out.below hb3)
 have HR3:=Zh (HR2.out.A5 (w':=w3) λb hb=>hb3.block b (HR2.out.lt b hb))
 have HC3:=Zh (HC2.out.trans (hb3.mono HC2.out.size))
 have HJ3:=Zh (And.intro hj (λb hb=>Nat.le_trans HC2.out.size (hjn b hb)))
 clear BN HX2 HE2 HR2 HC2 hS hj hjn hb3
 go_wp2_with fail
 refine hK.out _ _ (λ_=>⟨HB3.out,HX3.out⟩) ?_
 clear hK
 have hS:=And.intro HB3.out HX3.out
 ((try simp only[ZL]);refine vT (fuel:=0) hS [6,7,8,9,10] ?_;simp only[Xv,Xp,List.toList_toArray];(repeat (first|go_big_quiet_skip|(go_big_quiet_want;first|(go_big_quiet_op;go_big_quiet_on)|(apply Exists.intro;refine⟨λw' hS'=>?_,?_⟩;(· (skip;go_simp;first|done|rfl|exact⟨rfl,rfl⟩));go_big_quiet_on;simp only[ZL]))));refine wpQuiet_nil ?_;(try dsimp only))
 refine Yg Zk ?_ _
 have y0:=HX3.out.cell 0;have y1:=HX3.out.cell 1;have y2:=HX3.out.cell 2;have y3:=HX3.out.cell 3
 simp at y0 y1 y2 y3
 clear hS
 go_wp2_with (first
  |(refine Y3 Zr _ _ _ Zr gv 22 _ Zr Zr _ _ ((⟨st,eng,0,call,⟨k,key,val,Aj⟩,BR⟩:DK).l (.pointer (some ⟨gr,0,none⟩)) jv).toArray HB3.out (Nat.le_of_ble_eq_true Zk) Zk Zr Zk ?_;intro w4 hst;have c26:=hst.bk.cell 26;have f26:=hst.bk.free 26;simp[DK.l,Xf.l,Yj.l,Xd.l,DQ.l,Bl.l] at c26)
  |(have HB5:Hid (Bk (World.setCell _ ⟨gv,26,none⟩ (.iface T (.pointer (some ⟨gj,0,none⟩)))) gv 126 ((⟨st,eng,0,call,⟨k,key,val,Aj⟩,BR⟩:DK).l (.pointer (some ⟨gr,0,none⟩)) (.iface T (.pointer (some ⟨gj,0,none⟩)))).toArray):=Zh (Yu (hst.bk.E3 26 _) Zk);refine Y3 Zr _ _ _ Zr gv 27 _ Zr Zr _ _ ((⟨st,eng,0,call,⟨k,key,val,Aj⟩,⟨0,0⟩⟩:DK).l (.pointer (some ⟨gr,0,none⟩)) (.iface T (.pointer (some ⟨gj,0,none⟩)))).toArray HB5.out (Nat.le_of_ble_eq_true Zk) Zk Zr Zk ?_;intro w6 hst6))
 obtain⟨Fr,hr,hrF⟩:=HR3.out.rite
 have hG:w3.grownBy w6 (some gv):=Hn (Hn hst.grown (Xr w4 gv 26 _)) hst6.grown
 have hz3:w.heap.size<=w3.heap.size:=HC3.out.size
 have hz6:w3.heap.size<=w6.heap.size:=hG.size
 have HRJ:Np gr (.iface T (.pointer (some ⟨gj,0,none⟩))) M (some (Yz.new st ⟨k,key,val,Aj⟩)) w6 (λb=>b∈Fr\/b∈Fj):=
  ⟨Fr,Fj,hr.same (λb hb=>hG.block b (hr.lt b hb) (by intro e;cases e;exact hg (hrF _ hb))),HJ3.out.1.same (λb hb=>hG.block b (HJ3.out.1.lt b hb) (by intro e;cases e;have:=HJ3.out.2 _ hb;omega)),λb hb hx=>by have:=HL.out b (hrF b hb);have:=HJ3.out.2 b hx;omega,λb=>Iff.rfl⟩
 have HB6:=Zh hst6.bk
 have HRJ6:=Zh HRJ
 have hg6:¬(λb=>b∈Fr\/b∈Fj) gv:=λh=>by
  rcases h with h|h
  ·exact hg (hrF _ h)
  ·have:=HJ3.out.2 _ h;omega
 have HG6:=Zh hG
 clear HRJ hst hst6 hG c26 f26 HB5 HR3 hr HX3 HE3 HB3 y0 y1 y2 y3
 refine(yA ⟨st,eng,0,call,⟨k,key,val,Aj⟩,some (Yz.new st ⟨k,key,val,Aj⟩),.zero,M⟩ gv gr _ w6 _ HB6.out HRJ6.out hg6 HOK.out.1 HOK.out.2.1).mono ?_
 rintro e w7 ⟨rfl,b7,c7,F7,r7,n7,l7,a7⟩
 have H7:=Zh (And.intro b7 (And.intro c7 (And.intro r7 (And.intro l7 a7))))
 clear b7 c7 r7 l7 a7 HB6 HRJ6
 go_wp2_with fail
 refine(pM _ gv gr _ w7 F7 H7.out.1 H7.out.2.2.1 n7 HOK.out.2.2).mono ?_
 rintro e w8 ⟨rfl,b8,c8,F8,r8,n8,l8,a8⟩
 have H8:=Zh (And.intro b8 (And.intro c8 (And.intro r8 (And.intro l8 a8))))
 clear b8 c8 r8 l8 a8
 go_wp2
 have hz7:w6.heap.size<=w7.heap.size:=H7.out.2.1.size
 have hz8:w7.heap.size<=w8.heap.size:=H8.out.2.1.size
 have f7:∀b,F7 b->F b\/w.heap.size<=b:=λb hb=>by
  rcases H7.out.2.2.2.2 b hb with(h|h)|h
  ·exact Or.inl (hrF b h)
  ·exact Or.inr (HJ3.out.2 b h)
  ·exact Or.inr Zo
 have f8:∀b,F8 b->F b\/w.heap.size<=b:=λb hb=>by
  rcases H8.out.2.2.2.2 b hb with h|h
  ·exact f7 b h
  ·exact Or.inr Zo
 refine bodyPost_ret (v:=.nilIface) (by first|exact results_none rfl _ _ _|simp[results,Tryz.results36,go_sem]|rfl) rfl ?_
 refine⟨_,rfl,H8.out.1,⟨H8.out.2.1.os.trans (H7.out.2.1.os.trans (HG6.out.os.trans HC3.out.os)),H8.out.2.1.tape.trans (H7.out.2.1.tape.trans (HG6.out.tape.trans HC3.out.tape)),H8.out.2.1.output.trans (H7.out.2.1.output.trans (HG6.out.output.trans HC3.out.output)),by omega,λb hb hn=>?_⟩,F8,H8.out.2.2.1,n8,H8.out.2.2.2.1,f8⟩
 have hn1:b≠gv:=λe=>hn (Or.inl e)
 have hn2:¬F b:=λe=>hn (Or.inr e)
 refine(H8.out.2.1.Av b Zo λh=>?_).trans ((H7.out.2.1.Av b Zo λh=>?_).trans ((HG6.out.block b Zo (λe=>hn1 (by cases e;rfl))).trans (HC3.out.block b hb)))
 ·rcases h with h|h
  ·exact hn1 h
  ·rcases f7 b h with h|h
   ·exact hn2 h
   ·omega
 ·rcases h with h|h|h
  ·exact hn1 h
  ·exact hn2 (hrF b h)
  ·have:=HJ3.out.2 b h;omega
end Go.Proofs.YtaipogljokblkaaGreatDoor
