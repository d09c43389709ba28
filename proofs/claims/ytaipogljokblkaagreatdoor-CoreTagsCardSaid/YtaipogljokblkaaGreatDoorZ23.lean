/- Core: CRtL3. -/
import Derived.Test.YtaipogljokblkaaGreatDoorZ13
import Derived.Test.YtaipogljokblkaaGreatDoorZ08
import Derived.Test.YtaipogljokblkaaGreatDoorZ09
set_option linter.all false
set_option maxRecDepth 100000
set_option maxHeartbeats 8000000
namespace Go.Proofs.YtaipogljokblkaaGreatDoor
open Go Go.RowKit
set_option linter.unusedSimpArgs false
set_option linter.unusedVariables false
set_option linter.unusedSectionVars false
def rt4_e3_i0_st:St:=⟨[],[(1,171,pt rC0 [(18,[.int (.lit 4)]),(43,[.int (.lit 0)]),(46,[.int (.lit 3)])])],[(.le (.lit 0) (.var 39),true),(.lt (.var 39) (.lit 6),true),(.lt (.var 39) (.lit 0),false),(.le (.lit 6) (.var 39),false)],10,0⟩
def rt4_e3_i0_args:List SV:=[.c (.ptr 1 0),.agg ((ct [vs 85 4,[.bool (.var 18),.bool (.var 19)]]))]
theorem rt4_e3_i0_any (R:Xa) (x:Xi) (g1:Nat) (w:World) (h1:Bk w g1 171 (({ R with step:=4,engine:=3,index:=0 }:Xa).l).toArray) (hm0:0≤R.me) (hm1:R.me < 6):Calls Tryz.prog 58 #[.pointer (some ⟨g1,0,none⟩),.agg x.l.toArray] w fun en w'=>en = .returned (.nilIface)∧Bk w' g1 171 ((Xa.leave ({ R with step:=4,engine:=3,index:=0 }:Xa) [1,2,3,4,5,6,7,8]).l).toArray∧Chg [g1] w w':=by
 refine p1 (rxE R x) [] 60 rt4_e3_i0_st rt4_e3_i0_args (Xa.leave ({ R with step:=4,engine:=3,index:=0 }:Xa) [1,2,3,4,5,6,7,8]) (fun r=>(.nilIface,(r.l).toArray)) Xd (asC (decide_eq_true hm0) (asC (decide_eq_true hm1) (asC (decide_eq_false (Int.not_lt.mpr hm0)) (asC (decide_eq_false (Int.not_le.mpr hm1)) asN)))) h1 ?_
 exact vS1
def rt4_e3_i1_st:St:=⟨[],[(1,171,pt rC0 [(18,[.int (.lit 4)]),(43,[.int (.lit 1)]),(46,[.int (.lit 3)])])],[(.le (.lit 0) (.var 39),true),(.lt (.var 39) (.lit 6),true),(.lt (.var 39) (.lit 0),false),(.le (.lit 6) (.var 39),false)],10,0⟩
def rt4_e3_i1_args:List SV:=[.c (.ptr 1 0),.agg ((ct [vs 85 4,[.bool (.var 18),.bool (.var 19)]]))]
theorem rt4_e3_i1_any (R:Xa) (x:Xi) (g1:Nat) (w:World) (h1:Bk w g1 171 (({ R with step:=4,engine:=3,index:=1 }:Xa).l).toArray) (hm0:0≤R.me) (hm1:R.me < 6):Calls Tryz.prog 58 #[.pointer (some ⟨g1,0,none⟩),.agg x.l.toArray] w fun en w'=>en = .returned (.nilIface)∧Bk w' g1 171 ((Xa.leave ({ R with step:=4,engine:=3,index:=1 }:Xa) [2,3,4,5,6,7,8]).l).toArray∧Chg [g1] w w':=by
 refine p1 (rxE R x) [] 60 rt4_e3_i1_st rt4_e3_i1_args (Xa.leave ({ R with step:=4,engine:=3,index:=1 }:Xa) [2,3,4,5,6,7,8]) (fun r=>(.nilIface,(r.l).toArray)) Xd (asC (decide_eq_true hm0) (asC (decide_eq_true hm1) (asC (decide_eq_false (Int.not_lt.mpr hm0)) (asC (decide_eq_false (Int.not_le.mpr hm1)) asN)))) h1 ?_
 exact vS1
def rt4_e3_i2_st:St:=⟨[],[(1,171,pt rC0 [(18,[.int (.lit 4)]),(43,[.int (.lit 2)]),(46,[.int (.lit 3)])])],[(.le (.lit 0) (.var 39),true),(.lt (.var 39) (.lit 6),true),(.lt (.var 39) (.lit 0),false),(.le (.lit 6) (.var 39),false)],10,0⟩
def rt4_e3_i2_args:List SV:=[.c (.ptr 1 0),.agg ((ct [vs 85 4,[.bool (.var 18),.bool (.var 19)]]))]
theorem rt4_e3_i2_any (R:Xa) (x:Xi) (g1:Nat) (w:World) (h1:Bk w g1 171 (({ R with step:=4,engine:=3,index:=2 }:Xa).l).toArray) (hm0:0≤R.me) (hm1:R.me < 6):Calls Tryz.prog 58 #[.pointer (some ⟨g1,0,none⟩),.agg x.l.toArray] w fun en w'=>en = .returned (.nilIface)∧Bk w' g1 171 ((Xa.leave ({ R with step:=4,engine:=3,index:=2 }:Xa) [3,4,5,6,7,8]).l).toArray∧Chg [g1] w w':=by
 refine p1 (rxE R x) [] 60 rt4_e3_i2_st rt4_e3_i2_args (Xa.leave ({ R with step:=4,engine:=3,index:=2 }:Xa) [3,4,5,6,7,8]) (fun r=>(.nilIface,(r.l).toArray)) Xd (asC (decide_eq_true hm0) (asC (decide_eq_true hm1) (asC (decide_eq_false (Int.not_lt.mpr hm0)) (asC (decide_eq_false (Int.not_le.mpr hm1)) asN)))) h1 ?_
 exact vS1
def rt4_e3_i3_st:St:=⟨[],[(1,171,pt rC0 [(18,[.int (.lit 4)]),(43,[.int (.lit 3)]),(46,[.int (.lit 3)])])],[(.le (.lit 0) (.var 39),true),(.lt (.var 39) (.lit 6),true),(.lt (.var 39) (.lit 0),false),(.le (.lit 6) (.var 39),false)],10,0⟩
def rt4_e3_i3_args:List SV:=[.c (.ptr 1 0),.agg ((ct [vs 85 4,[.bool (.var 18),.bool (.var 19)]]))]
theorem rt4_e3_i3_any (R:Xa) (x:Xi) (g1:Nat) (w:World) (h1:Bk w g1 171 (({ R with step:=4,engine:=3,index:=3 }:Xa).l).toArray) (hm0:0≤R.me) (hm1:R.me < 6):Calls Tryz.prog 58 #[.pointer (some ⟨g1,0,none⟩),.agg x.l.toArray] w fun en w'=>en = .returned (.nilIface)∧Bk w' g1 171 ((Xa.leave ({ R with step:=4,engine:=3,index:=3 }:Xa) [4,5,6,7,8]).l).toArray∧Chg [g1] w w':=by
 refine p1 (rxE R x) [] 60 rt4_e3_i3_st rt4_e3_i3_args (Xa.leave ({ R with step:=4,engine:=3,index:=3 }:Xa) [4,5,6,7,8]) (fun r=>(.nilIface,(r.l).toArray)) Xd (asC (decide_eq_true hm0) (asC (decide_eq_true hm1) (asC (decide_eq_false (Int.not_lt.mpr hm0)) (asC (decide_eq_false (Int.not_le.mpr hm1)) asN)))) h1 ?_
 exact vS1
def rt4_e3_i4_st:St:=⟨[],[(1,171,pt rC0 [(18,[.int (.lit 4)]),(43,[.int (.lit 4)]),(46,[.int (.lit 3)])])],[(.le (.lit 0) (.var 39),true),(.lt (.var 39) (.lit 6),true),(.lt (.var 39) (.lit 0),false),(.le (.lit 6) (.var 39),false)],10,0⟩
def rt4_e3_i4_args:List SV:=[.c (.ptr 1 0),.agg ((ct [vs 85 4,[.bool (.var 18),.bool (.var 19)]]))]
theorem rt4_e3_i4_any (R:Xa) (x:Xi) (g1:Nat) (w:World) (h1:Bk w g1 171 (({ R with step:=4,engine:=3,index:=4 }:Xa).l).toArray) (hm0:0≤R.me) (hm1:R.me < 6):Calls Tryz.prog 58 #[.pointer (some ⟨g1,0,none⟩),.agg x.l.toArray] w fun en w'=>en = .returned (.nilIface)∧Bk w' g1 171 ((Xa.leave ({ R with step:=4,engine:=3,index:=4 }:Xa) [5,6,7,8]).l).toArray∧Chg [g1] w w':=by
 refine p1 (rxE R x) [] 60 rt4_e3_i4_st rt4_e3_i4_args (Xa.leave ({ R with step:=4,engine:=3,index:=4 }:Xa) [5,6,7,8]) (fun r=>(.nilIface,(r.l).toArray)) Xd (asC (decide_eq_true hm0) (asC (decide_eq_true hm1) (asC (decide_eq_false (Int.not_lt.mpr hm0)) (asC (decide_eq_false (Int.not_le.mpr hm1)) asN)))) h1 ?_
 exact vS1
def rt4_e3_i5_st:St:=⟨[],[(1,171,pt rC0 [(18,[.int (.lit 4)]),(43,[.int (.lit 5)]),(46,[.int (.lit 3)])])],[(.le (.lit 0) (.var 39),true),(.lt (.var 39) (.lit 6),true),(.lt (.var 39) (.lit 0),false),(.le (.lit 6) (.var 39),false)],10,0⟩
def rt4_e3_i5_args:List SV:=[.c (.ptr 1 0),.agg ((ct [vs 85 4,[.bool (.var 18),.bool (.var 19)]]))]
theorem rt4_e3_i5_any (R:Xa) (x:Xi) (g1:Nat) (w:World) (h1:Bk w g1 171 (({ R with step:=4,engine:=3,index:=5 }:Xa).l).toArray) (hm0:0≤R.me) (hm1:R.me < 6):Calls Tryz.prog 58 #[.pointer (some ⟨g1,0,none⟩),.agg x.l.toArray] w fun en w'=>en = .returned (.nilIface)∧Bk w' g1 171 ((Xa.leave ({ R with step:=4,engine:=3,index:=5 }:Xa) [6,7,8]).l).toArray∧Chg [g1] w w':=by
 refine p1 (rxE R x) [] 60 rt4_e3_i5_st rt4_e3_i5_args (Xa.leave ({ R with step:=4,engine:=3,index:=5 }:Xa) [6,7,8]) (fun r=>(.nilIface,(r.l).toArray)) Xd (asC (decide_eq_true hm0) (asC (decide_eq_true hm1) (asC (decide_eq_false (Int.not_lt.mpr hm0)) (asC (decide_eq_false (Int.not_le.mpr hm1)) asN)))) h1 ?_
 exact vS1
def rt4_e3_i6_st:St:=⟨[],[(1,171,pt rC0 [(18,[.int (.lit 4)]),(43,[.int (.lit 6)]),(46,[.int (.lit 3)])])],[(.le (.lit 0) (.var 39),true),(.lt (.var 39) (.lit 6),true),(.lt (.var 39) (.lit 0),false),(.le (.lit 6) (.var 39),false)],10,0⟩
def rt4_e3_i6_args:List SV:=[.c (.ptr 1 0),.agg ((ct [vs 85 4,[.bool (.var 18),.bool (.var 19)]]))]
theorem rt4_e3_i6_any (R:Xa) (x:Xi) (g1:Nat) (w:World) (h1:Bk w g1 171 (({ R with step:=4,engine:=3,index:=6 }:Xa).l).toArray) (hm0:0≤R.me) (hm1:R.me < 6):Calls Tryz.prog 58 #[.pointer (some ⟨g1,0,none⟩),.agg x.l.toArray] w fun en w'=>en = .returned (.nilIface)∧Bk w' g1 171 ((Xa.leave ({ R with step:=4,engine:=3,index:=6 }:Xa) [7,8]).l).toArray∧Chg [g1] w w':=by
 refine p1 (rxE R x) [] 60 rt4_e3_i6_st rt4_e3_i6_args (Xa.leave ({ R with step:=4,engine:=3,index:=6 }:Xa) [7,8]) (fun r=>(.nilIface,(r.l).toArray)) Xd (asC (decide_eq_true hm0) (asC (decide_eq_true hm1) (asC (decide_eq_false (Int.not_lt.mpr hm0)) (asC (decide_eq_false (Int.not_le.mpr hm1)) asN)))) h1 ?_
 exact vS1
def rt4_e3_i7_st:St:=⟨[],[(1,171,pt rC0 [(18,[.int (.lit 4)]),(43,[.int (.lit 7)]),(46,[.int (.lit 3)])])],[(.le (.lit 0) (.var 39),true),(.lt (.var 39) (.lit 6),true),(.lt (.var 39) (.lit 0),false),(.le (.lit 6) (.var 39),false)],10,0⟩
def rt4_e3_i7_args:List SV:=[.c (.ptr 1 0),.agg ((ct [vs 85 4,[.bool (.var 18),.bool (.var 19)]]))]
theorem rt4_e3_i7_any (R:Xa) (x:Xi) (g1:Nat) (w:World) (h1:Bk w g1 171 (({ R with step:=4,engine:=3,index:=7 }:Xa).l).toArray) (hm0:0≤R.me) (hm1:R.me < 6):Calls Tryz.prog 58 #[.pointer (some ⟨g1,0,none⟩),.agg x.l.toArray] w fun en w'=>en = .returned (.nilIface)∧Bk w' g1 171 ((Xa.leave ({ R with step:=4,engine:=3,index:=7 }:Xa) [8]).l).toArray∧Chg [g1] w w':=by
 refine p1 (rxE R x) [] 60 rt4_e3_i7_st rt4_e3_i7_args (Xa.leave ({ R with step:=4,engine:=3,index:=7 }:Xa) [8]) (fun r=>(.nilIface,(r.l).toArray)) Xd (asC (decide_eq_true hm0) (asC (decide_eq_true hm1) (asC (decide_eq_false (Int.not_lt.mpr hm0)) (asC (decide_eq_false (Int.not_le.mpr hm1)) asN)))) h1 ?_
 exact vS1
def rt4_e3_i8_st:St:=⟨[],[(1,171,pt rC0 [(18,[.int (.lit 4)]),(43,[.int (.lit 8)]),(46,[.int (.lit 3)])])],[(.le (.lit 0) (.var 39),true),(.lt (.var 39) (.lit 6),true),(.lt (.var 39) (.lit 0),false),(.le (.lit 6) (.var 39),false)],10,0⟩
def rt4_e3_i8_args:List SV:=[.c (.ptr 1 0),.agg ((ct [vs 85 4,[.bool (.var 18),.bool (.var 19)]]))]
theorem rt4_e3_i8_any (R:Xa) (x:Xi) (g1:Nat) (w:World) (h1:Bk w g1 171 (({ R with step:=4,engine:=3,index:=8 }:Xa).l).toArray) (hm0:0≤R.me) (hm1:R.me < 6):Calls Tryz.prog 58 #[.pointer (some ⟨g1,0,none⟩),.agg x.l.toArray] w fun en w'=>en = .returned (.nilIface)∧Bk w' g1 171 ((Xa.leave ({ R with step:=4,engine:=3,index:=8 }:Xa) []).l).toArray∧Chg [g1] w w':=by
 refine p1 (rxE R x) [] 60 rt4_e3_i8_st rt4_e3_i8_args (Xa.leave ({ R with step:=4,engine:=3,index:=8 }:Xa) []) (fun r=>(.nilIface,(r.l).toArray)) Xd (asC (decide_eq_true hm0) (asC (decide_eq_true hm1) (asC (decide_eq_false (Int.not_lt.mpr hm0)) (asC (decide_eq_false (Int.not_le.mpr hm1)) asN)))) h1 ?_
 exact vS1
end Go.Proofs.YtaipogljokblkaaGreatDoor
