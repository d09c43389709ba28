/- Core: CStart, VN, VO. -/
import Derived.Test.YtaipogljokblkaaGreatDoorE12
import Derived.Test.YtaipogljokblkaaGreatDoorE06
import Derived.Test.YtaipogljokblkaaGreatDoorE09
import Derived.Test.YtaipogljokblkaaGreatDoorE29
import Derived.Test.YtaipogljokblkaaGreatDoorE08
import Derived.Test.YtaipogljokblkaaGreatDoorE01
set_option linter.all false
set_option maxRecDepth 100000
set_option maxHeartbeats 8000000
namespace Go.Proofs.YtaipogljokblkaaGreatDoor
open Go Go.RowKit
set_option linter.unusedSimpArgs false
set_option linter.unusedVariables false
set_option linter.unusedSectionVars false
def Tv:St:=⟨[],[],[(.le (.lit 0) (.var 0),true),(.le (.var 0) (.lit 1073741824),true)],10,0⟩
theorem Rq(o:A3)(w:World)(v0:0<=o.val)(v1:o.val<=1073741824):Calls Tryz.prog 54 #[.int .i64 1,.agg ({o with kind:=1,key:=0,Ah:=0}:A3).l.toArray] w λen w'=>∃g,en=.returned (.tuple #[.iface 127 (.pointer (some ⟨g,0,none⟩)),.nilIface])/\w.heap.size<=g/\Bk w' g 175 ((Xk.new ({o with kind:=1,key:=0,Ah:=0}:A3)).l).toArray/\Ak [] w w':=
 pS (Il [[o.val]] []) Tv [.c (.int (.lit 1)),.agg [.int (.lit 1),.int (.lit 0),.int (.var 0),.int (.lit 0)]] 429 (BO (decide_eq_true v0) (BO (decide_eq_true v1) BY))
def Tu:St:=⟨[],[],[],10,0⟩
theorem Rp(o:A3)(w:World):Calls Tryz.prog 54 #[.int .i64 1,.agg ({o with kind:=2,key:=0,val:=0,Ah:=0}:A3).l.toArray] w λen w'=>∃g,en=.returned (.tuple #[.iface 127 (.pointer (some ⟨g,0,none⟩)),.nilIface])/\w.heap.size<=g/\Bk w' g 175 ((Xk.new ({o with kind:=2,key:=0,val:=0,Ah:=0}:A3)).l).toArray/\Ak [] w w':=
 pS (Il [] []) Tu [.c (.int (.lit 1)),.agg [.int (.lit 2),.int (.lit 0),.int (.lit 0),.int (.lit 0)]] 429 BY
def Tt:St:=⟨[],[],[],10,0⟩
theorem Ro(o:A3)(w:World):Calls Tryz.prog 54 #[.int .i64 1,.agg ({o with kind:=3,key:=0,val:=0,Ah:=0}:A3).l.toArray] w λen w'=>∃g,en=.returned (.tuple #[.iface 127 (.pointer (some ⟨g,0,none⟩)),.nilIface])/\w.heap.size<=g/\Bk w' g 175 ((Xk.new ({o with kind:=3,key:=0,val:=0,Ah:=0}:A3)).l).toArray/\Ak [] w w':=
 pS (Il [] []) Tt [.c (.int (.lit 1)),.agg [.int (.lit 3),.int (.lit 0),.int (.lit 0),.int (.lit 0)]] 429 BY
def Ts:St:=⟨[],[],[(.le (.lit 0) (.var 0),true),(.le (.var 0) (.lit 1073741824),true)],10,0⟩
theorem Rn(o:A3)(w:World)(v0:0<=o.val)(v1:o.val<=1073741824):Calls Tryz.prog 54 #[.int .i64 2,.agg ({o with kind:=4,key:=0,Ah:=0}:A3).l.toArray] w λen w'=>∃g,en=.returned (.tuple #[.iface 130 (.pointer (some ⟨g,0,none⟩)),.nilIface])/\w.heap.size<=g/\Bk w' g 179 ((Xt.new ({o with kind:=4,key:=0,Ah:=0}:A3)).l).toArray/\Ak [] w w':=
 pS (Il [[o.val]] []) Ts [.c (.int (.lit 2)),.agg [.int (.lit 4),.int (.lit 0),.int (.var 0),.int (.lit 0)]] 429 (BO (decide_eq_true v0) (BO (decide_eq_true v1) BY))
def Tr:St:=⟨[],[],[],10,0⟩
theorem Rm(o:A3)(w:World):Calls Tryz.prog 54 #[.int .i64 2,.agg ({o with kind:=5,key:=0,val:=0,Ah:=0}:A3).l.toArray] w λen w'=>∃g,en=.returned (.tuple #[.iface 130 (.pointer (some ⟨g,0,none⟩)),.nilIface])/\w.heap.size<=g/\Bk w' g 179 ((Xt.new ({o with kind:=5,key:=0,val:=0,Ah:=0}:A3)).l).toArray/\Ak [] w w':=
 pS (Il [] []) Tr [.c (.int (.lit 2)),.agg [.int (.lit 5),.int (.lit 0),.int (.lit 0),.int (.lit 0)]] 429 BY
def Tq:St:=⟨[],[],[(.lt (.var 0) (.lit 0),false),(.lt (.lit 255) (.var 0),false),(.le (.lit 0) (.var 1),true),(.le (.var 1) (.lit 1073741824),true)],10,0⟩
theorem Rl(o:A3)(w:World)(k0:0<=o.key)(k1:o.key<256)(v0:0<=o.val)(v1:o.val<=1073741824):Calls Tryz.prog 54 #[.int .i64 3,.agg ({o with kind:=6,Ah:=0}:A3).l.toArray] w λen w'=>∃g,en=.returned (.tuple #[.iface 133 (.pointer (some ⟨g,0,none⟩)),.nilIface])/\w.heap.size<=g/\Bk w' g 206 ((Xh.from_ (root 0) o.key ({o with kind:=6,Ah:=0}:A3)).l (.pointer none)).toArray/\Ak [] w w':=
 pS (Il [[o.key,o.val]] []) Tq [.c (.int (.lit 3)),.agg [.int (.lit 6),.int (.var 0),.int (.var 1),.int (.lit 0)]] 647 (BO (decide_eq_false (Int.not_lt.mpr k0)) (BO (decide_eq_false (Int.not_lt.mpr (Int.le_of_lt_add_one k1))) (BO (decide_eq_true v0) (BO (decide_eq_true v1) BY))))
def Tp:St:=⟨[],[],[(.lt (.var 0) (.lit 0),false),(.lt (.lit 255) (.var 0),false)],10,0⟩
theorem Rk(o:A3)(w:World)(k0:0<=o.key)(k1:o.key<256):Calls Tryz.prog 54 #[.int .i64 3,.agg ({o with kind:=7,val:=0,Ah:=0}:A3).l.toArray] w λen w'=>∃g,en=.returned (.tuple #[.iface 133 (.pointer (some ⟨g,0,none⟩)),.nilIface])/\w.heap.size<=g/\Bk w' g 206 ((Xh.from_ (root 0) o.key ({o with kind:=7,val:=0,Ah:=0}:A3)).l (.pointer none)).toArray/\Ak [] w w':=
 pS (Il [[o.key]] []) Tp [.c (.int (.lit 3)),.agg [.int (.lit 7),.int (.var 0),.int (.lit 0),.int (.lit 0)]] 647 (BO (decide_eq_false (Int.not_lt.mpr k0)) (BO (decide_eq_false (Int.not_lt.mpr (Int.le_of_lt_add_one k1))) BY))
def To:St:=⟨[],[],[(.lt (.var 0) (.lit 0),false),(.lt (.lit 255) (.var 0),false)],10,0⟩
theorem Rj(o:A3)(w:World)(k0:0<=o.key)(k1:o.key<256):Calls Tryz.prog 54 #[.int .i64 3,.agg ({o with kind:=8,val:=0,Ah:=0}:A3).l.toArray] w λen w'=>∃g,en=.returned (.tuple #[.iface 133 (.pointer (some ⟨g,0,none⟩)),.nilIface])/\w.heap.size<=g/\Bk w' g 206 ((Xh.from_ (root 0) o.key ({o with kind:=8,val:=0,Ah:=0}:A3)).l (.pointer none)).toArray/\Ak [] w w':=
 pS (Il [[o.key]] []) To [.c (.int (.lit 3)),.agg [.int (.lit 8),.int (.var 0),.int (.lit 0),.int (.lit 0)]] 647 (BO (decide_eq_false (Int.not_lt.mpr k0)) (BO (decide_eq_false (Int.not_lt.mpr (Int.le_of_lt_add_one k1))) BY))
def Tn:St:=⟨[],[],[(.lt (.var 0) (.lit 0),false),(.lt (.lit 255) (.var 0),false),(.le (.lit 0) (.var 1),true),(.le (.var 1) (.lit 1073741824),true)],10,0⟩
theorem Ri(o:A3)(w:World)(k0:0<=o.key)(k1:o.key<256)(v0:0<=o.val)(v1:o.val<=1073741824):Calls Tryz.prog 54 #[.int .i64 4,.agg ({o with kind:=6,Ah:=0}:A3).l.toArray] w λen w'=>∃g,en=.returned (.tuple #[.iface 136 (.pointer (some ⟨g,0,none⟩)),.nilIface])/\w.heap.size<=g/\Bk w' g 186 ((Xa.new ({o with kind:=6,Ah:=0}:A3)).l (.pointer none) (.pointer none)).toArray/\Ak [] w w':=
 pS (Il [[o.key,o.val]] []) Tn [.c (.int (.lit 4)),.agg [.int (.lit 6),.int (.var 0),.int (.var 1),.int (.lit 0)]] 429 (BO (decide_eq_false (Int.not_lt.mpr k0)) (BO (decide_eq_false (Int.not_lt.mpr (Int.le_of_lt_add_one k1))) (BO (decide_eq_true v0) (BO (decide_eq_true v1) BY))))
def Tl:St:=⟨[],[],[(.lt (.var 0) (.lit 0),false),(.lt (.lit 255) (.var 0),false)],10,0⟩
theorem Rh(o:A3)(w:World)(k0:0<=o.key)(k1:o.key<256):Calls Tryz.prog 54 #[.int .i64 4,.agg ({o with kind:=7,val:=0,Ah:=0}:A3).l.toArray] w λen w'=>∃g,en=.returned (.tuple #[.iface 136 (.pointer (some ⟨g,0,none⟩)),.nilIface])/\w.heap.size<=g/\Bk w' g 186 ((Xa.new ({o with kind:=7,val:=0,Ah:=0}:A3)).l (.pointer none) (.pointer none)).toArray/\Ak [] w w':=
 pS (Il [[o.key]] []) Tl [.c (.int (.lit 4)),.agg [.int (.lit 7),.int (.var 0),.int (.lit 0),.int (.lit 0)]] 429 (BO (decide_eq_false (Int.not_lt.mpr k0)) (BO (decide_eq_false (Int.not_lt.mpr (Int.le_of_lt_add_one k1))) BY))
def Tk:St:=⟨[],[],[(.lt (.var 0) (.lit 0),false),(.lt (.lit 255) (.var 0),false)],10,0⟩
theorem Rg(o:A3)(w:World)(k0:0<=o.key)(k1:o.key<256):Calls Tryz.prog 54 #[.int .i64 4,.agg ({o with kind:=8,val:=0,Ah:=0}:A3).l.toArray] w λen w'=>∃g,en=.returned (.tuple #[.iface 136 (.pointer (some ⟨g,0,none⟩)),.nilIface])/\w.heap.size<=g/\Bk w' g 186 ((Xa.new ({o with kind:=8,val:=0,Ah:=0}:A3)).l (.pointer none) (.pointer none)).toArray/\Ak [] w w':=
 pS (Il [[o.key]] []) Tk [.c (.int (.lit 4)),.agg [.int (.lit 8),.int (.var 0),.int (.lit 0),.int (.lit 0)]] 429 (BO (decide_eq_false (Int.not_lt.mpr k0)) (BO (decide_eq_false (Int.not_lt.mpr (Int.le_of_lt_add_one k1))) BY))
def Tj:St:=⟨[],[],[(.lt (.var 0) (.lit 0),false),(.lt (.lit 255) (.var 0),false),(.le (.lit 0) (.var 1),true),(.le (.var 1) (.lit 1073741824),true),(.le (.lit 0) (.var 2),true),(.le (.var 2) (.lit 3),true),(.lt (.var 2) (.lit 1),false)],10,0⟩
theorem Re(o:A3)(w:World)(k0:0<=o.key)(k1:o.key<256)(v0:0<=o.val)(v1:o.val<=1073741824)(t0:1<=o.Ah)(t1:o.Ah<=3):Calls Tryz.prog 54 #[.int .i64 5,.agg ({o with kind:=6}:A3).l.toArray] w λen w'=>∃g,en=.returned (.tuple #[.iface 139 (.pointer (some ⟨g,0,none⟩)),.nilIface])/\w.heap.size<=g/\Bk w' g 191 ((Xc.new ({o with kind:=6}:A3)).l (.pointer none)).toArray/\Ak [] w w':=
 pS (Il [[o.key,o.val,o.Ah]] []) Tj [.c (.int (.lit 5)),.agg [.int (.lit 6),.int (.var 0),.int (.var 1),.int (.var 2)]] 429 (BO (decide_eq_false (Int.not_lt.mpr k0)) (BO (decide_eq_false (Int.not_lt.mpr (Int.le_of_lt_add_one k1))) (BO (decide_eq_true v0) (BO (decide_eq_true v1) (BO (decide_eq_true (show(0:Int)<=o.Ah from by omega)) (BO (decide_eq_true t1) (BO (decide_eq_false (Int.not_lt.mpr t0)) BY)))))))
def Ti:St:=⟨[],[],[(.lt (.var 0) (.lit 0),false),(.lt (.lit 255) (.var 0),false)],10,0⟩
theorem Rd(o:A3)(w:World)(k0:0<=o.key)(k1:o.key<256):Calls Tryz.prog 54 #[.int .i64 5,.agg ({o with kind:=7,val:=0,Ah:=0}:A3).l.toArray] w λen w'=>∃g,en=.returned (.tuple #[.iface 139 (.pointer (some ⟨g,0,none⟩)),.nilIface])/\w.heap.size<=g/\Bk w' g 191 ((Xc.new ({o with kind:=7,val:=0,Ah:=0}:A3)).l (.pointer none)).toArray/\Ak [] w w':=
 pS (Il [[o.key]] []) Ti [.c (.int (.lit 5)),.agg [.int (.lit 7),.int (.var 0),.int (.lit 0),.int (.lit 0)]] 429 (BO (decide_eq_false (Int.not_lt.mpr k0)) (BO (decide_eq_false (Int.not_lt.mpr (Int.le_of_lt_add_one k1))) BY))
def Th:St:=⟨[],[],[(.lt (.var 0) (.lit 0),false),(.lt (.lit 255) (.var 0),false)],10,0⟩
theorem Rc(o:A3)(w:World)(k0:0<=o.key)(k1:o.key<256):Calls Tryz.prog 54 #[.int .i64 5,.agg ({o with kind:=8,val:=0,Ah:=0}:A3).l.toArray] w λen w'=>∃g,en=.returned (.tuple #[.iface 139 (.pointer (some ⟨g,0,none⟩)),.nilIface])/\w.heap.size<=g/\Bk w' g 191 ((Xc.new ({o with kind:=8,val:=0,Ah:=0}:A3)).l (.pointer none)).toArray/\Ak [] w w':=
 pS (Il [[o.key]] []) Th [.c (.int (.lit 5)),.agg [.int (.lit 8),.int (.var 0),.int (.lit 0),.int (.lit 0)]] 429 (BO (decide_eq_false (Int.not_lt.mpr k0)) (BO (decide_eq_false (Int.not_lt.mpr (Int.le_of_lt_add_one k1))) BY))
def DR(st:Int)(o:A3):Prop:=
 (st=1/\o.key=0/\o.Ah=0/\((o.kind=1/\0<=o.val/\o.val<=1073741824)\/((o.kind=2\/o.kind=3)/\o.val=0)))\/
 (st=2/\o.key=0/\o.Ah=0/\((o.kind=4/\0<=o.val/\o.val<=1073741824)\/(o.kind=5/\o.val=0)))\/
 ((st=3\/st=4)/\0<=o.key/\o.key<=255/\o.Ah=0/\((o.kind=6/\0<=o.val/\o.val<=1073741824)\/((o.kind=7\/o.kind=8)/\o.val=0)))\/
 (st=5/\0<=o.key/\o.key<=255/\((o.kind=6/\0<=o.val/\o.val<=1073741824/\1<=o.Ah/\o.Ah<=3)\/((o.kind=7\/o.kind=8)/\o.val=0/\o.Ah=0)))
def Vb(st:Int)(o:A3)(w:World)(en:Ending)(w':World):Prop:=
 ∃jv Fj,en=.returned (.tuple #[jv,.nilIface])/\Lt w' jv (Xx.new st o) Fj/\(∀b∈Fj,w.heap.size<=b)/\Below w.heap.size w w'
theorem cO(st:Int)(o:A3)(w:World)(h:DR st o):Calls Tryz.prog 54 #[.int .i64 st,.agg o.l.toArray] w (Vb st o w):=by
 obtain⟨k,key,val,Ah⟩:=o;simp only[DR] at h;rcases h with⟨rfl,rfl,rfl,⟨rfl,h1,h2⟩|⟨rfl|rfl,rfl⟩⟩|⟨rfl,rfl,rfl,⟨rfl,h1,h2⟩|⟨rfl,rfl⟩⟩|⟨rfl|rfl,h3,h4,rfl,⟨rfl,h1,h2⟩|⟨rfl|rfl,rfl⟩⟩|⟨rfl,h3,h4,⟨rfl,h1,h2,h5,h6⟩|⟨rfl|rfl,rfl,rfl⟩⟩
 ·exact(Rq ⟨1,0,val,0⟩ w h1 h2).mono λen w' hp=>by obtain⟨g,p1,p2,p3,p4⟩:=hp;exact⟨_,[g],p1,⟨g,rfl,rfl,p3⟩,by simpa using p2,p4.below⟩
 ·exact(Rp ⟨2,0,0,0⟩ w).mono λen w' hp=>by obtain⟨g,p1,p2,p3,p4⟩:=hp;exact⟨_,[g],p1,⟨g,rfl,rfl,p3⟩,by simpa using p2,p4.below⟩
 ·exact(Ro ⟨3,0,0,0⟩ w).mono λen w' hp=>by obtain⟨g,p1,p2,p3,p4⟩:=hp;exact⟨_,[g],p1,⟨g,rfl,rfl,p3⟩,by simpa using p2,p4.below⟩
 ·exact(Rn ⟨4,0,val,0⟩ w h1 h2).mono λen w' hp=>by obtain⟨g,p1,p2,p3,p4⟩:=hp;exact⟨_,[g],p1,⟨g,rfl,rfl,p3⟩,by simpa using p2,p4.below⟩
 ·exact(Rm ⟨5,0,0,0⟩ w).mono λen w' hp=>by obtain⟨g,p1,p2,p3,p4⟩:=hp;exact⟨_,[g],p1,⟨g,rfl,rfl,p3⟩,by simpa using p2,p4.below⟩
 ·exact(Rl ⟨6,key,val,0⟩ w h3 (by show key<256;omega) h1 h2).mono λen w' hp=>by obtain⟨g,p1,p2,p3,p4⟩:=hp;exact⟨_,[g],p1,⟨g,rfl,⟨⟨.pointer none,[],rfl,p3,rfl,rfl⟩,by simp⟩⟩,by simpa using p2,p4.below⟩
 ·exact(Rk ⟨7,key,0,0⟩ w h3 (by show key<256;omega)).mono λen w' hp=>by obtain⟨g,p1,p2,p3,p4⟩:=hp;exact⟨_,[g],p1,⟨g,rfl,⟨⟨.pointer none,[],rfl,p3,rfl,rfl⟩,by simp⟩⟩,by simpa using p2,p4.below⟩
 ·exact(Rj ⟨8,key,0,0⟩ w h3 (by show key<256;omega)).mono λen w' hp=>by obtain⟨g,p1,p2,p3,p4⟩:=hp;exact⟨_,[g],p1,⟨g,rfl,⟨⟨.pointer none,[],rfl,p3,rfl,rfl⟩,by simp⟩⟩,by simpa using p2,p4.below⟩
 ·exact(Ri ⟨6,key,val,0⟩ w h3 (by show key<256;omega) h1 h2).mono λen w' hp=>by obtain⟨g,p1,p2,p3,p4⟩:=hp;exact⟨_,[g],p1,⟨g,rfl,⟨none,none,[],[],rfl,p3,⟨rfl,rfl⟩,⟨rfl,rfl⟩,by simp⟩⟩,by simpa using p2,p4.below⟩
 ·exact(Rh ⟨7,key,0,0⟩ w h3 (by show key<256;omega)).mono λen w' hp=>by obtain⟨g,p1,p2,p3,p4⟩:=hp;exact⟨_,[g],p1,⟨g,rfl,⟨none,none,[],[],rfl,p3,⟨rfl,rfl⟩,⟨rfl,rfl⟩,by simp⟩⟩,by simpa using p2,p4.below⟩
 ·exact(Rg ⟨8,key,0,0⟩ w h3 (by show key<256;omega)).mono λen w' hp=>by obtain⟨g,p1,p2,p3,p4⟩:=hp;exact⟨_,[g],p1,⟨g,rfl,⟨none,none,[],[],rfl,p3,⟨rfl,rfl⟩,⟨rfl,rfl⟩,by simp⟩⟩,by simpa using p2,p4.below⟩
 ·exact(Re ⟨6,key,val,Ah⟩ w h3 (by show key<256;omega) h1 h2 h5 h6).mono λen w' hp=>by obtain⟨g,p1,p2,p3,p4⟩:=hp;exact⟨_,[g],p1,⟨g,rfl,⟨⟨.pointer none,[],rfl,p3,rfl,rfl⟩,by simp⟩⟩,by simpa using p2,p4.below⟩
 ·exact(Rd ⟨7,key,0,0⟩ w h3 (by show key<256;omega)).mono λen w' hp=>by obtain⟨g,p1,p2,p3,p4⟩:=hp;exact⟨_,[g],p1,⟨g,rfl,⟨⟨.pointer none,[],rfl,p3,rfl,rfl⟩,by simp⟩⟩,by simpa using p2,p4.below⟩
 ·exact(Rc ⟨8,key,0,0⟩ w h3 (by show key<256;omega)).mono λen w' hp=>by obtain⟨g,p1,p2,p3,p4⟩:=hp;exact⟨_,[g],p1,⟨g,rfl,⟨⟨.pointer none,[],rfl,p3,rfl,rfl⟩,by simp⟩⟩,by simpa using p2,p4.below⟩
theorem zY(st:Int)(o:A3)(w:World)(h:DR st o)(he:AQ w):Calls Tryz.prog 25 #[.int .i64 st,.agg o.l.toArray] w (λen w'=>en=.returned (.bool true)/\Below w.heap.size w w'):=by
 obtain⟨T,q,e⟩:=he.arg;obtain⟨k,key,val,Ah⟩:=o;refine(Fn.U0 st ⟨k,key,val,Ah⟩ w T _ e).mono λen w' hp=>?_;rw[show Fn.F6 st ⟨k,key,val,Ah⟩=true from decide_eq_true h] at hp;exact hp
theorem fM{w:World}{v:Value}{J:Xx}{F:List Nat}(h:Lt w v J F):∃T g,v=.iface T (.pointer (some ⟨g,0,none⟩)):=by
 cases J with
 |pile J=>obtain⟨g,rfl,_⟩:=h;exact⟨_,g,rfl⟩
 |XK J=>obtain⟨g,rfl,_⟩:=h;exact⟨_,g,rfl⟩
 |lit J=>obtain⟨g,rfl,_⟩:=h;exact⟨_,g,rfl⟩
 |K2 J=>obtain⟨g,rfl,_⟩:=h;exact⟨_,g,rfl⟩
 |FJ J=>obtain⟨g,rfl,_⟩:=h;exact⟨_,g,rfl⟩
theorem oQ{st k key val Ah:Int}{w:World}(h:DR st ⟨k,key,val,Ah⟩)(he:AQ w):Calls Tryz.prog 25 #[.int .i64 st,.agg #[.int .i64 k,.int .i64 key,.int .i64 val,.int .i64 Ah]] w (λen w'=>en=.returned (.bool true)/\Below w.heap.size w w'):=zY st ⟨k,key,val,Ah⟩ w h he
theorem sS{st k key val Ah:Int}{w:World}(h:DR st ⟨k,key,val,Ah⟩):Calls Tryz.prog 54 #[.int .i64 st,.agg #[.int .i64 k,.int .i64 key,.int .i64 val,.int .i64 Ah]] w (Vb st ⟨k,key,val,Ah⟩ w):=cO st ⟨k,key,val,Ah⟩ w h
theorem MA.rite{gr:Nat}{jv:Value}{M:MR}{o:Option Xx}{w:World}{F:Nat->Prop}(h:MA gr jv M o w F):∃Fr,Lx w gr M Fr/\∀b∈Fr,F b:=by
 cases o with
 |some J=>obtain⟨Fr,Fj,h1,h2,h3,h4⟩:=h;exact⟨Fr,h1,λb hb=>(h4 b).2 (Or.inl hb)⟩
 |none=>obtain⟨h0,Fr,h1,h4⟩:=h;exact⟨Fr,h1,λb hb=>(h4 b).2 hb⟩
theorem iV(V:MV)(d:Int)(c:Xf)(g gr:Nat)(jv:Value)(w:World)(F:Nat->Prop)(hb:Bk w g 126 ((Gn V).l (.pointer (some ⟨gr,0,none⟩)) jv).toArray)(h:MA gr jv V.M V.BF w F)(hg:¬F g)(ok:Vj V.M)(hs:V.M.R.step=0)(hc:So c):
  Calls Tryz.prog 55 #[.pointer (some ⟨g,2,none⟩),.int .i64 d,.agg c.l.toArray] w (VPo gr jv (V.Aj d c) g F (.tuple #[]) w):=by
 have hq:=iX (Φ:=⟨fun i w F=>if i = 0 then MA gr jv V.M V.BF w F else MA gr jv (V.M.Aj c) V.BF w F,fun i w w' F h hs=>by
   split at h
   ·rename_i h0;rw[if_pos h0];exact h.AG hs
   ·rename_i h0;rw[if_neg h0];exact h.AG hs⟩) (F:=F) (Gn V) ⟨gr,0,none⟩ jv d c g w hb h.one
  (λw F hP _=>N5 (M':=V.M.Aj c) (M:=V.M) (o:=V.BF) hP (λFr h1=>ZY c h1 ok hs hc) _ 1 λw F h=>h) h hg h.lt
 refine hq.mono λen w' hp=>?_
 obtain⟨p1,p2,p3,F',p4,p5,p6,p7⟩:=hp
 exact⟨p1,p2,p3,F',p4,p5,p6,p7⟩
theorem xQ(V:MV)(g gr:Nat)(jv:Value)(w:World)(F:Nat->Prop)(hb:Bk w g 126 ((Gn V).l (.pointer (some ⟨gr,0,none⟩)) jv).toArray)(h:MA gr jv V.M V.BF w F)(hg:¬F g)(ok:Vj V.M)(hs:V.M.R.step=0):
  Calls Tryz.prog 55 #[.pointer (some ⟨g,2,none⟩),.int .i64 1,.agg #[.int .i64 1,.int .i64 0,.int .i64 0,.int .i64 0,.int .i64 0,.int .i64 0,.int .i64 0,.int .i64 0,.bool false,.int .i64 0,.int .i64 0,.int .i64 0,.int .i64 0,.bool false,.int .i64 0,.int .i64 0,.int .i64 0,.int .i64 0]] w (VPo gr jv (V.Aj 1 AB) g F (.tuple #[]) w):=
 iV V 1 AB g gr jv w F hb h hg ok hs (Or.inl rfl)
theorem oK(V:MV)(o:A3)(gv gr:Nat)(jv:Value)(w:World)(F:Nat->Prop)(he:AQ w)(hf:DR V.st o)(hd:V.Ae=0)(hb:Bk w gv 126 ((Gn V).l (.pointer (some ⟨gr,0,none⟩)) jv).toArray)(h:MA gr jv V.M V.BF w F)(hg:¬F gv)
  (ok:Vj V.M)(hs:V.M.R.step=0)(hgo:ON (MV.Aj {V with op:=o,BF:=some (Xx.new V.st o),A5:=.zero} 1 AB)):
  Calls Tryz.prog 36 #[.pointer (some ⟨gv,0,none⟩),.agg o.l.toArray] w λen w'=>∃jw,en=.returned .nilIface/\
   Bk w' gv 126 ((Gn (V.Jw o)).l (.pointer (some ⟨gr,0,none⟩)) jw).toArray/\DS (λb=>b=gv\/F b) w w'/\
   ∃F':Nat->Prop,MA gr jw (V.Jw o).M (V.Jw o).BF w' F'/\¬F' gv/\(∀b,F' b->b<w'.heap.size)/\∀b,F' b->F b\/w.heap.size<=b:=by
 obtain⟨st,eng,Ae,call,op,BF,A5,M⟩:=V
 obtain⟨k,key,val,Ah⟩:=o
 obtain rfl:Ae=0:=hd
 show Calls Tryz.prog _ #[.pointer (some ⟨gv,0,none⟩),.agg #[.int .i64 k,.int .i64 key,.int .i64 val,.int .i64 Ah]] w _
 have c0:=hb.cell 0;have c3:=hb.cell 3
 simp[Gn,DA.l,Xf.l,X9.l,Xe.l,Yu.l,A3.l] at c0 c3
 have hgl:=hb.lt
 have hal:Below w.heap.size w (w.alloc (.cells #[.int .i64 k,.int .i64 key,.int .i64 val,.int .i64 Ah] 35)):=(Below.refl _ _).alloc (Nat.le_refl _) _
 have HB:=Zh (hb.Ac hal)
 have HE:=Zh (he.below hal)
 have HX:=Zh (Bk.at_ (w:=w) (g:=w.heap.size) (cs:=#[.int .i64 k,.int .i64 key,.int .i64 val,.int .i64 Ah]) (t:=35) rfl)
 have HR:=Zh (h.AG (w':=w.alloc (.cells #[.int .i64 k,.int .i64 key,.int .i64 val,.int .i64 Ah] 35)) λb hb=>Below.heap_alloc w _ b (h.lt b hb))
 have HC:=Zh hal
 have HOK:=Zh (And.intro ok (And.intro hs hgo))
 have hgz:=hb.lt
 have HL:=Zh h.lt
 clear hb hal he h ok hs hgo
 go_enter Tryz.func36,Tryz.ntmps36
 go_wp2
 clear c0 c3
 have hgx:w.heap.size<(w.alloc (.cells #[.int .i64 k,.int .i64 key,.int .i64 val,.int .i64 Ah] 35)).heap.size:=HX.out.lt
 generalize w.alloc (.cells #[.int .i64 k,.int .i64 key,.int .i64 val,.int .i64 Ah] 35)=W at*
 (refine FI ((λw':World=>Below W.heap.size W w')) Zk Zk ((Below.refl _ _).drew) ?_;(repeat (first|go_big_quiet_skip|(go_big_quiet_want;first|(go_big_quiet_op;go_big_quiet_on)|(apply Exists.intro;refine⟨λw' hC=>?_,?_⟩;(· ((have q0:=(HB.out.Ac hC).cell 0;simp[Gn,DA.l,Xf.l,X9.l,Xe.l,Yu.l,A3.l] at q0;have y0:=(HX.out.Ac hC).cell 0;have y1:=(HX.out.Ac hC).cell 1;have y2:=(HX.out.Ac hC).cell 2;have y3:=(HX.out.Ac hC).cell 3;simp at y0 y1 y2 y3);go_simp;first|done|rfl|exact⟨rfl,rfl⟩|((go_at_call 25;(with_reducible refine(oQ hf (HE.out.below hC)).mono ?_);rintro e w'' ⟨rfl,hb⟩;exact⟨rfl,hC.trans (hb.mono hC.size)⟩))));go_big_quiet_on;simp only[ZL]))));refine wpQuiet_nil ?_;intro w' hC)
 have HB1:=Zh (HB.out.Ac hC)
 have HE1:=Zh (HE.out.below hC)
 have HX1:=Zh (HX.out.Ac hC)
 have HR1:=Zh (HR.out.AG (w':=w') λb hb=>hC.block b (HR.out.lt b hb))
 have HC1:=Zh (HC.out.trans (hC.mono HC.out.size))
 have hgx1:w.heap.size<w'.heap.size:=HX1.out.lt
 clear HB HE HX HR HC hC hgx
 generalize w'=W1 at*
 clear W w'
 go_wp2
 refine X8 (λw'=>Bk w' gv 126 ((Gn {st:=st,eng:=eng,Ae:=0,call:=call,op:=op,BF:=BF,A5:=A5,M:=M}).l (.pointer (some ⟨gr,0,none⟩)) jv).toArray/\Bk w' w.heap.size 35 #[.int .i64 k,.int .i64 key,.int .i64 val,.int .i64 Ah]) 11 Zk ⟨HB1.out.drew,HX1.out.drew⟩ (λhS=>?_)
 have HB2:=Zh HB1.out.drew
 have HX2:=Zh HX1.out.drew
 have HE2:=Zh (HE1.out.below (Below.refl _ _).drew)
 have HR2:=Zh (HR1.out.AG (w':=W1.drew) λb hb=>rfl)
 have HC2:=Zh (HC1.out.trans ((Below.refl W1.heap.size W1).drew.mono HC1.out.size))
 clear HB1 HX1 HE1 HR1 HC1 hgx1
 generalize W1.drew=W2 at*
 clear W1
 ((try simp only[ZL]);refine vT (fuel:=6) hS [0,1,2,3,4] ?_;simp only[Xy,Xr,List.toList_toArray];(repeat (first|go_big_quiet_skip|(go_big_quiet_want;first|(go_big_quiet_op;go_big_quiet_on)|(apply Exists.intro;refine⟨λw' hS'=>?_,?_⟩;(· ((have q0:=hS'.1.cell 0;simp[Gn,DA.l,Xf.l,X9.l,Xe.l,Yu.l,A3.l] at q0;have y0:=hS'.2.cell 0;have y1:=hS'.2.cell 1;have y2:=hS'.2.cell 2;have y3:=hS'.2.cell 3;simp at y0 y1 y2 y3);go_simp;first|done|rfl|exact⟨rfl,rfl⟩));go_big_quiet_on;simp only[ZL]))));refine wpQuiet_nil ?_;(try dsimp only))
 (refine Xi 5 Zk (λK hK=>?_);simp only[Xr,List.toList_toArray])
 go_wp2_with fail
 refine(sS hf).mono ?_
 rintro e w3 ⟨jw,Fj,rfl,hj,hjn,hb3⟩
 obtain⟨T,gj,rfl⟩:=fM hj
 have HB3:=Zh (HB2.out.Ac hb3)
 have HX3:=Zh (HX2.out.Ac hb3)
 have HE3:=Zh (HE2.out.below hb3)
 have HR3:=Zh (HR2.out.AG (w':=w3) λb hb=>hb3.block b (HR2.out.lt b hb))
 have HC3:=Zh (HC2.out.trans (hb3.mono HC2.out.size))
 have HJ3:=Zh (And.intro hj (λb hb=>Nat.le_trans HC2.out.size (hjn b hb)))
 clear HB2 HX2 HE2 HR2 HC2 hS hj hjn hb3
 go_wp2_with fail
 refine hK.out _ _ (λ_=>⟨HB3.out,HX3.out⟩) ?_
 clear hK
 have hS:=And.intro HB3.out HX3.out
 ((try simp only[ZL]);refine vT (fuel:=0) hS [6,7,8,9,10] ?_;simp only[Xy,Xr,List.toList_toArray];(repeat (first|go_big_quiet_skip|(go_big_quiet_want;first|(go_big_quiet_op;go_big_quiet_on)|(apply Exists.intro;refine⟨λw' hS'=>?_,?_⟩;(· (skip;go_simp;first|done|rfl|exact⟨rfl,rfl⟩));go_big_quiet_on;simp only[ZL]))));refine wpQuiet_nil ?_;(try dsimp only))
 refine Ye Zk ?_ _
 have y0:=HX3.out.cell 0;have y1:=HX3.out.cell 1;have y2:=HX3.out.cell 2;have y3:=HX3.out.cell 3
 simp at y0 y1 y2 y3
 clear hS
 go_wp2_with (first
  |(refine Za Zr _ _ _ Zr gv 22 _ Zr Zr _ _ ((⟨st,eng,0,call,⟨k,key,val,Ah⟩,A5⟩:DA).l (.pointer (some ⟨gr,0,none⟩)) jv).toArray HB3.out (Nat.le_of_ble_eq_true Zk) Zk Zr Zk ?_;intro w4 hst;have c26:=hst.bk.cell 26;have f26:=hst.bk.free 26;simp[DA.l,Xf.l,X9.l,Xe.l,Yu.l,A3.l] at c26)
  |(have HB5:Hid (Bk (World.setCell _ ⟨gv,26,none⟩ (.iface T (.pointer (some ⟨gj,0,none⟩)))) gv 126 ((⟨st,eng,0,call,⟨k,key,val,Ah⟩,A5⟩:DA).l (.pointer (some ⟨gr,0,none⟩)) (.iface T (.pointer (some ⟨gj,0,none⟩)))).toArray):=Zh (Yw (hst.bk.Eo 26 _) Zk);refine Za Zr _ _ _ Zr gv 27 _ Zr Zr _ _ ((⟨st,eng,0,call,⟨k,key,val,Ah⟩,⟨0,0⟩⟩:DA).l (.pointer (some ⟨gr,0,none⟩)) (.iface T (.pointer (some ⟨gj,0,none⟩)))).toArray HB5.out (Nat.le_of_ble_eq_true Zk) Zk Zr Zk ?_;intro w6 hst6))
 obtain⟨Fr,hr,hrF⟩:=HR3.out.rite
 have hG:w3.grownBy w6 (some gv):=Hj (Hj hst.grown (Xs w4 gv 26 _)) hst6.grown
 have hz3:w.heap.size<=w3.heap.size:=HC3.out.size
 have hz6:w3.heap.size<=w6.heap.size:=hG.size
 have HRJ:MA gr (.iface T (.pointer (some ⟨gj,0,none⟩))) M (some (Xx.new st ⟨k,key,val,Ah⟩)) w6 (λb=>b∈Fr\/b∈Fj):=
  ⟨Fr,Fj,hr.same (λb hb=>hG.block b (hr.lt b hb) (by intro e;cases e;exact hg (hrF _ hb))),HJ3.out.1.same (λb hb=>hG.block b (HJ3.out.1.lt b hb) (by intro e;cases e;have:=HJ3.out.2 _ hb;omega)),λb hb hx=>by have:=HL.out b (hrF b hb);have:=HJ3.out.2 b hx;omega,λb=>Iff.rfl⟩
 have HB6:=Zh hst6.bk
 have HRJ6:=Zh HRJ
 have hg6:¬(λb=>b∈Fr\/b∈Fj) gv:=λh=>by
  rcases h with h|h
  ·exact hg (hrF _ h)
  ·have:=HJ3.out.2 _ h;omega
 have HG6:=Zh hG
 clear HRJ hst hst6 hG c26 f26 HB5 HR3 hr HX3 HE3 HB3 y0 y1 y2 y3
 refine(xQ ⟨st,eng,0,call,⟨k,key,val,Ah⟩,some (Xx.new st ⟨k,key,val,Ah⟩),.zero,M⟩ gv gr _ w6 _ HB6.out HRJ6.out hg6 HOK.out.1 HOK.out.2.1).mono ?_
 rintro e w7 ⟨rfl,b7,c7,F7,r7,n7,l7,a7⟩
 have H7:=Zh (And.intro b7 (And.intro c7 (And.intro r7 (And.intro l7 a7))))
 clear b7 c7 r7 l7 a7 HB6 HRJ6
 go_wp2_with fail
 refine(oJ _ gv gr _ w7 F7 H7.out.1 H7.out.2.2.1 n7 HOK.out.2.2).mono ?_
 rintro e w8 ⟨rfl,b8,c8,F8,r8,n8,l8,a8⟩
 have H8:=Zh (And.intro b8 (And.intro c8 (And.intro r8 (And.intro l8 a8))))
 clear b8 c8 r8 l8 a8
 go_wp2
 have hz7:w6.heap.size<=w7.heap.size:=H7.out.2.1.size
 have hz8:w7.heap.size<=w8.heap.size:=H8.out.2.1.size
 have f7:∀b,F7 b->F b\/w.heap.size<=b:=λb hb=>by
  rcases H7.out.2.2.2.2 b hb with(h|h)|h
  ·exact Or.inl (hrF b h)
  ·exact Or.inr (HJ3.out.2 b h)
  ·exact Or.inr Zo
 have f8:∀b,F8 b->F b\/w.heap.size<=b:=λb hb=>by
  rcases H8.out.2.2.2.2 b hb with h|h
  ·exact f7 b h
  ·exact Or.inr Zo
 refine bodyPost_ret (v:=.nilIface) (by first|exact results_none rfl _ _ _|simp[results,Tryz.results36,go_sem]|rfl) rfl ?_
 refine⟨_,rfl,H8.out.1,⟨H8.out.2.1.os.trans (H7.out.2.1.os.trans (HG6.out.os.trans HC3.out.os)),H8.out.2.1.tape.trans (H7.out.2.1.tape.trans (HG6.out.tape.trans HC3.out.tape)),H8.out.2.1.output.trans (H7.out.2.1.output.trans (HG6.out.output.trans HC3.out.output)),by omega,λb hb hn=>?_⟩,F8,H8.out.2.2.1,n8,H8.out.2.2.2.1,f8⟩
 have hn1:b≠gv:=λe=>hn (Or.inl e)
 have hn2:¬F b:=λe=>hn (Or.inr e)
 refine(H8.out.2.1.Ax b Zo λh=>?_).trans ((H7.out.2.1.Ax b Zo λh=>?_).trans ((HG6.out.block b Zo (λe=>hn1 (by cases e;rfl))).trans (HC3.out.block b hb)))
 ·rcases h with h|h
  ·exact hn1 h
  ·rcases f7 b h with h|h
   ·exact hn2 h
   ·omega
 ·rcases h with h|h|h
  ·exact hn1 h
  ·exact hn2 (hrF b h)
  ·have:=HJ3.out.2 b h;omega
end Go.Proofs.YtaipogljokblkaaGreatDoor
