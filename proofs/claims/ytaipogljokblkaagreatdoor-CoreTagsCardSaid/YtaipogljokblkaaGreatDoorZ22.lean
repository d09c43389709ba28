/- Core: CRtP. -/
import Derived.Test.YtaipogljokblkaaGreatDoorZ13
import Derived.Test.YtaipogljokblkaaGreatDoorZ08
import Derived.Test.YtaipogljokblkaaGreatDoorZ09
set_option linter.all false
set_option maxRecDepth 100000
set_option maxHeartbeats 8000000
namespace Go.Proofs.YtaipogljokblkaaGreatDoor
open Go Go.RowKit
set_option linter.unusedSimpArgs false
set_option linter.unusedVariables false
set_option linter.unusedSectionVars false
def rt5_i0_e2_st:St:=⟨[],[(1,171,pt rC0 [(14,[.int (.lit 0)]),(18,[.int (.lit 5)]),(46,[.int (.lit 2)])])],[(.le (.lit 0) (.var 39),true),(.lt (.var 39) (.lit 6),true),(.lt (.var 39) (.lit 0),false),(.le (.lit 6) (.var 39),false)],10,0⟩
def rt5_i0_e2_args:List SV:=[.c (.ptr 1 0),.agg ((ct [vs 85 4,[.bool (.var 18),.bool (.var 19)]]))]
theorem rt5_i0_e2_any (R:Xa) (x:Xi) (g1:Nat) (w:World) (h1:Bk w g1 171 (({ R with step:=5,call:={ R.call with i:=0 },engine:=2 }:Xa).l).toArray) (hm0:0≤R.me) (hm1:R.me < 6):Calls Tryz.prog 58 #[.pointer (some ⟨g1,0,none⟩),.agg x.l.toArray] w fun en w'=>en = .returned (.nilIface)∧Bk w' g1 171 ((Xa.tookLoad ({ R with step:=5,call:={ R.call with i:=0 },engine:=2 }:Xa) x).l).toArray∧Chg [g1] w w':=by
 refine p1 (rxE R x) [] 60 rt5_i0_e2_st rt5_i0_e2_args (Xa.tookLoad ({ R with step:=5,call:={ R.call with i:=0 },engine:=2 }:Xa) x) (fun r=>(.nilIface,(r.l).toArray)) Xd (asC (decide_eq_true hm0) (asC (decide_eq_true hm1) (asC (decide_eq_false (Int.not_lt.mpr hm0)) (asC (decide_eq_false (Int.not_le.mpr hm1)) asN)))) h1 ?_
 exact vS1
def rt6_i0_e3_st:St:=⟨[],[(1,171,pt rC0 [(14,[.int (.lit 0)]),(18,[.int (.lit 6)]),(46,[.int (.lit 3)])])],[(.le (.lit 0) (.var 39),true),(.lt (.var 39) (.lit 6),true),(.lt (.var 39) (.lit 0),false),(.le (.lit 6) (.var 39),false)],10,0⟩
def rt6_i0_e3_args:List SV:=[.c (.ptr 1 0),.agg ((ct [vs 85 4,[.bool (.var 18),.bool (.var 19)]]))]
theorem rt6_i0_e3_any (R:Xa) (x:Xi) (g1:Nat) (w:World) (h1:Bk w g1 171 (({ R with step:=6,call:={ R.call with i:=0 },engine:=3 }:Xa).l).toArray) (hm0:0≤R.me) (hm1:R.me < 6):Calls Tryz.prog 58 #[.pointer (some ⟨g1,0,none⟩),.agg x.l.toArray] w fun en w'=>en = .returned (.nilIface)∧Bk w' g1 171 ((Xa.tookClock ({ R with step:=6,call:={ R.call with i:=0 },engine:=3 }:Xa) x).l).toArray∧Chg [g1] w w':=by
 refine p1 (rxE R x) [] 60 rt6_i0_e3_st rt6_i0_e3_args (Xa.tookClock ({ R with step:=6,call:={ R.call with i:=0 },engine:=3 }:Xa) x) (fun r=>(.nilIface,(r.l).toArray)) Xd (asC (decide_eq_true hm0) (asC (decide_eq_true hm1) (asC (decide_eq_false (Int.not_lt.mpr hm0)) (asC (decide_eq_false (Int.not_le.mpr hm1)) asN)))) h1 ?_
 exact vS1
def rt5_i1_e2_st:St:=⟨[],[(1,171,pt rC0 [(14,[.int (.lit 1)]),(18,[.int (.lit 5)]),(46,[.int (.lit 2)])])],[(.le (.lit 0) (.var 39),true),(.lt (.var 39) (.lit 6),true),(.lt (.var 39) (.lit 0),false),(.le (.lit 6) (.var 39),false)],10,0⟩
def rt5_i1_e2_args:List SV:=[.c (.ptr 1 0),.agg ((ct [vs 85 4,[.bool (.var 18),.bool (.var 19)]]))]
theorem rt5_i1_e2_any (R:Xa) (x:Xi) (g1:Nat) (w:World) (h1:Bk w g1 171 (({ R with step:=5,call:={ R.call with i:=1 },engine:=2 }:Xa).l).toArray) (hm0:0≤R.me) (hm1:R.me < 6):Calls Tryz.prog 58 #[.pointer (some ⟨g1,0,none⟩),.agg x.l.toArray] w fun en w'=>en = .returned (.nilIface)∧Bk w' g1 171 ((Xa.tookLoad ({ R with step:=5,call:={ R.call with i:=1 },engine:=2 }:Xa) x).l).toArray∧Chg [g1] w w':=by
 refine p1 (rxE R x) [] 60 rt5_i1_e2_st rt5_i1_e2_args (Xa.tookLoad ({ R with step:=5,call:={ R.call with i:=1 },engine:=2 }:Xa) x) (fun r=>(.nilIface,(r.l).toArray)) Xd (asC (decide_eq_true hm0) (asC (decide_eq_true hm1) (asC (decide_eq_false (Int.not_lt.mpr hm0)) (asC (decide_eq_false (Int.not_le.mpr hm1)) asN)))) h1 ?_
 exact vS1
def rt6_i1_e3_st:St:=⟨[],[(1,171,pt rC0 [(14,[.int (.lit 1)]),(18,[.int (.lit 6)]),(46,[.int (.lit 3)])])],[(.le (.lit 0) (.var 39),true),(.lt (.var 39) (.lit 6),true),(.lt (.var 39) (.lit 0),false),(.le (.lit 6) (.var 39),false)],10,0⟩
def rt6_i1_e3_args:List SV:=[.c (.ptr 1 0),.agg ((ct [vs 85 4,[.bool (.var 18),.bool (.var 19)]]))]
theorem rt6_i1_e3_any (R:Xa) (x:Xi) (g1:Nat) (w:World) (h1:Bk w g1 171 (({ R with step:=6,call:={ R.call with i:=1 },engine:=3 }:Xa).l).toArray) (hm0:0≤R.me) (hm1:R.me < 6):Calls Tryz.prog 58 #[.pointer (some ⟨g1,0,none⟩),.agg x.l.toArray] w fun en w'=>en = .returned (.nilIface)∧Bk w' g1 171 ((Xa.tookClock ({ R with step:=6,call:={ R.call with i:=1 },engine:=3 }:Xa) x).l).toArray∧Chg [g1] w w':=by
 refine p1 (rxE R x) [] 60 rt6_i1_e3_st rt6_i1_e3_args (Xa.tookClock ({ R with step:=6,call:={ R.call with i:=1 },engine:=3 }:Xa) x) (fun r=>(.nilIface,(r.l).toArray)) Xd (asC (decide_eq_true hm0) (asC (decide_eq_true hm1) (asC (decide_eq_false (Int.not_lt.mpr hm0)) (asC (decide_eq_false (Int.not_le.mpr hm1)) asN)))) h1 ?_
 exact vS1
def rt5_i2_e2_st:St:=⟨[],[(1,171,pt rC0 [(14,[.int (.lit 2)]),(18,[.int (.lit 5)]),(46,[.int (.lit 2)])])],[(.le (.lit 0) (.var 39),true),(.lt (.var 39) (.lit 6),true),(.lt (.var 39) (.lit 0),false),(.le (.lit 6) (.var 39),false)],10,0⟩
def rt5_i2_e2_args:List SV:=[.c (.ptr 1 0),.agg ((ct [vs 85 4,[.bool (.var 18),.bool (.var 19)]]))]
theorem rt5_i2_e2_any (R:Xa) (x:Xi) (g1:Nat) (w:World) (h1:Bk w g1 171 (({ R with step:=5,call:={ R.call with i:=2 },engine:=2 }:Xa).l).toArray) (hm0:0≤R.me) (hm1:R.me < 6):Calls Tryz.prog 58 #[.pointer (some ⟨g1,0,none⟩),.agg x.l.toArray] w fun en w'=>en = .returned (.nilIface)∧Bk w' g1 171 ((Xa.tookLoad ({ R with step:=5,call:={ R.call with i:=2 },engine:=2 }:Xa) x).l).toArray∧Chg [g1] w w':=by
 refine p1 (rxE R x) [] 60 rt5_i2_e2_st rt5_i2_e2_args (Xa.tookLoad ({ R with step:=5,call:={ R.call with i:=2 },engine:=2 }:Xa) x) (fun r=>(.nilIface,(r.l).toArray)) Xd (asC (decide_eq_true hm0) (asC (decide_eq_true hm1) (asC (decide_eq_false (Int.not_lt.mpr hm0)) (asC (decide_eq_false (Int.not_le.mpr hm1)) asN)))) h1 ?_
 exact vS1
def rt6_i2_e3_st:St:=⟨[],[(1,171,pt rC0 [(14,[.int (.lit 2)]),(18,[.int (.lit 6)]),(46,[.int (.lit 3)])])],[(.le (.lit 0) (.var 39),true),(.lt (.var 39) (.lit 6),true),(.lt (.var 39) (.lit 0),false),(.le (.lit 6) (.var 39),false)],10,0⟩
def rt6_i2_e3_args:List SV:=[.c (.ptr 1 0),.agg ((ct [vs 85 4,[.bool (.var 18),.bool (.var 19)]]))]
theorem rt6_i2_e3_any (R:Xa) (x:Xi) (g1:Nat) (w:World) (h1:Bk w g1 171 (({ R with step:=6,call:={ R.call with i:=2 },engine:=3 }:Xa).l).toArray) (hm0:0≤R.me) (hm1:R.me < 6):Calls Tryz.prog 58 #[.pointer (some ⟨g1,0,none⟩),.agg x.l.toArray] w fun en w'=>en = .returned (.nilIface)∧Bk w' g1 171 ((Xa.tookClock ({ R with step:=6,call:={ R.call with i:=2 },engine:=3 }:Xa) x).l).toArray∧Chg [g1] w w':=by
 refine p1 (rxE R x) [] 60 rt6_i2_e3_st rt6_i2_e3_args (Xa.tookClock ({ R with step:=6,call:={ R.call with i:=2 },engine:=3 }:Xa) x) (fun r=>(.nilIface,(r.l).toArray)) Xd (asC (decide_eq_true hm0) (asC (decide_eq_true hm1) (asC (decide_eq_false (Int.not_lt.mpr hm0)) (asC (decide_eq_false (Int.not_le.mpr hm1)) asN)))) h1 ?_
 exact vS1
def rt5_i3_e2_st:St:=⟨[],[(1,171,pt rC0 [(14,[.int (.lit 3)]),(18,[.int (.lit 5)]),(46,[.int (.lit 2)])])],[(.le (.lit 0) (.var 39),true),(.lt (.var 39) (.lit 6),true),(.lt (.var 39) (.lit 0),false),(.le (.lit 6) (.var 39),false)],10,0⟩
def rt5_i3_e2_args:List SV:=[.c (.ptr 1 0),.agg ((ct [vs 85 4,[.bool (.var 18),.bool (.var 19)]]))]
theorem rt5_i3_e2_any (R:Xa) (x:Xi) (g1:Nat) (w:World) (h1:Bk w g1 171 (({ R with step:=5,call:={ R.call with i:=3 },engine:=2 }:Xa).l).toArray) (hm0:0≤R.me) (hm1:R.me < 6):Calls Tryz.prog 58 #[.pointer (some ⟨g1,0,none⟩),.agg x.l.toArray] w fun en w'=>en = .returned (.nilIface)∧Bk w' g1 171 ((Xa.tookLoad ({ R with step:=5,call:={ R.call with i:=3 },engine:=2 }:Xa) x).l).toArray∧Chg [g1] w w':=by
 refine p1 (rxE R x) [] 60 rt5_i3_e2_st rt5_i3_e2_args (Xa.tookLoad ({ R with step:=5,call:={ R.call with i:=3 },engine:=2 }:Xa) x) (fun r=>(.nilIface,(r.l).toArray)) Xd (asC (decide_eq_true hm0) (asC (decide_eq_true hm1) (asC (decide_eq_false (Int.not_lt.mpr hm0)) (asC (decide_eq_false (Int.not_le.mpr hm1)) asN)))) h1 ?_
 exact vS1
def rt6_i3_e3_st:St:=⟨[],[(1,171,pt rC0 [(14,[.int (.lit 3)]),(18,[.int (.lit 6)]),(46,[.int (.lit 3)])])],[(.le (.lit 0) (.var 39),true),(.lt (.var 39) (.lit 6),true),(.lt (.var 39) (.lit 0),false),(.le (.lit 6) (.var 39),false)],10,0⟩
def rt6_i3_e3_args:List SV:=[.c (.ptr 1 0),.agg ((ct [vs 85 4,[.bool (.var 18),.bool (.var 19)]]))]
theorem rt6_i3_e3_any (R:Xa) (x:Xi) (g1:Nat) (w:World) (h1:Bk w g1 171 (({ R with step:=6,call:={ R.call with i:=3 },engine:=3 }:Xa).l).toArray) (hm0:0≤R.me) (hm1:R.me < 6):Calls Tryz.prog 58 #[.pointer (some ⟨g1,0,none⟩),.agg x.l.toArray] w fun en w'=>en = .returned (.nilIface)∧Bk w' g1 171 ((Xa.tookClock ({ R with step:=6,call:={ R.call with i:=3 },engine:=3 }:Xa) x).l).toArray∧Chg [g1] w w':=by
 refine p1 (rxE R x) [] 60 rt6_i3_e3_st rt6_i3_e3_args (Xa.tookClock ({ R with step:=6,call:={ R.call with i:=3 },engine:=3 }:Xa) x) (fun r=>(.nilIface,(r.l).toArray)) Xd (asC (decide_eq_true hm0) (asC (decide_eq_true hm1) (asC (decide_eq_false (Int.not_lt.mpr hm0)) (asC (decide_eq_false (Int.not_le.mpr hm1)) asN)))) h1 ?_
 exact vS1
def rt5_i4_e2_st:St:=⟨[],[(1,171,pt rC0 [(14,[.int (.lit 4)]),(18,[.int (.lit 5)]),(46,[.int (.lit 2)])])],[(.le (.lit 0) (.var 39),true),(.lt (.var 39) (.lit 6),true),(.lt (.var 39) (.lit 0),false),(.le (.lit 6) (.var 39),false)],10,0⟩
def rt5_i4_e2_args:List SV:=[.c (.ptr 1 0),.agg ((ct [vs 85 4,[.bool (.var 18),.bool (.var 19)]]))]
theorem rt5_i4_e2_any (R:Xa) (x:Xi) (g1:Nat) (w:World) (h1:Bk w g1 171 (({ R with step:=5,call:={ R.call with i:=4 },engine:=2 }:Xa).l).toArray) (hm0:0≤R.me) (hm1:R.me < 6):Calls Tryz.prog 58 #[.pointer (some ⟨g1,0,none⟩),.agg x.l.toArray] w fun en w'=>en = .returned (.nilIface)∧Bk w' g1 171 ((Xa.tookLoad ({ R with step:=5,call:={ R.call with i:=4 },engine:=2 }:Xa) x).l).toArray∧Chg [g1] w w':=by
 refine p1 (rxE R x) [] 60 rt5_i4_e2_st rt5_i4_e2_args (Xa.tookLoad ({ R with step:=5,call:={ R.call with i:=4 },engine:=2 }:Xa) x) (fun r=>(.nilIface,(r.l).toArray)) Xd (asC (decide_eq_true hm0) (asC (decide_eq_true hm1) (asC (decide_eq_false (Int.not_lt.mpr hm0)) (asC (decide_eq_false (Int.not_le.mpr hm1)) asN)))) h1 ?_
 exact vS1
def rt6_i4_e3_st:St:=⟨[],[(1,171,pt rC0 [(14,[.int (.lit 4)]),(18,[.int (.lit 6)]),(46,[.int (.lit 3)])])],[(.le (.lit 0) (.var 39),true),(.lt (.var 39) (.lit 6),true),(.lt (.var 39) (.lit 0),false),(.le (.lit 6) (.var 39),false)],10,0⟩
def rt6_i4_e3_args:List SV:=[.c (.ptr 1 0),.agg ((ct [vs 85 4,[.bool (.var 18),.bool (.var 19)]]))]
theorem rt6_i4_e3_any (R:Xa) (x:Xi) (g1:Nat) (w:World) (h1:Bk w g1 171 (({ R with step:=6,call:={ R.call with i:=4 },engine:=3 }:Xa).l).toArray) (hm0:0≤R.me) (hm1:R.me < 6):Calls Tryz.prog 58 #[.pointer (some ⟨g1,0,none⟩),.agg x.l.toArray] w fun en w'=>en = .returned (.nilIface)∧Bk w' g1 171 ((Xa.tookClock ({ R with step:=6,call:={ R.call with i:=4 },engine:=3 }:Xa) x).l).toArray∧Chg [g1] w w':=by
 refine p1 (rxE R x) [] 60 rt6_i4_e3_st rt6_i4_e3_args (Xa.tookClock ({ R with step:=6,call:={ R.call with i:=4 },engine:=3 }:Xa) x) (fun r=>(.nilIface,(r.l).toArray)) Xd (asC (decide_eq_true hm0) (asC (decide_eq_true hm1) (asC (decide_eq_false (Int.not_lt.mpr hm0)) (asC (decide_eq_false (Int.not_le.mpr hm1)) asN)))) h1 ?_
 exact vS1
def rt5_i5_e2_st:St:=⟨[],[(1,171,pt rC0 [(14,[.int (.lit 5)]),(18,[.int (.lit 5)]),(46,[.int (.lit 2)])])],[(.le (.lit 0) (.var 39),true),(.lt (.var 39) (.lit 6),true),(.lt (.var 39) (.lit 0),false),(.le (.lit 6) (.var 39),false)],10,0⟩
def rt5_i5_e2_args:List SV:=[.c (.ptr 1 0),.agg ((ct [vs 85 4,[.bool (.var 18),.bool (.var 19)]]))]
theorem rt5_i5_e2_any (R:Xa) (x:Xi) (g1:Nat) (w:World) (h1:Bk w g1 171 (({ R with step:=5,call:={ R.call with i:=5 },engine:=2 }:Xa).l).toArray) (hm0:0≤R.me) (hm1:R.me < 6):Calls Tryz.prog 58 #[.pointer (some ⟨g1,0,none⟩),.agg x.l.toArray] w fun en w'=>en = .returned (.nilIface)∧Bk w' g1 171 ((Xa.tookLoad ({ R with step:=5,call:={ R.call with i:=5 },engine:=2 }:Xa) x).l).toArray∧Chg [g1] w w':=by
 refine p1 (rxE R x) [] 60 rt5_i5_e2_st rt5_i5_e2_args (Xa.tookLoad ({ R with step:=5,call:={ R.call with i:=5 },engine:=2 }:Xa) x) (fun r=>(.nilIface,(r.l).toArray)) Xd (asC (decide_eq_true hm0) (asC (decide_eq_true hm1) (asC (decide_eq_false (Int.not_lt.mpr hm0)) (asC (decide_eq_false (Int.not_le.mpr hm1)) asN)))) h1 ?_
 exact vS1
def rt6_i5_e3_st:St:=⟨[],[(1,171,pt rC0 [(14,[.int (.lit 5)]),(18,[.int (.lit 6)]),(46,[.int (.lit 3)])])],[(.le (.lit 0) (.var 39),true),(.lt (.var 39) (.lit 6),true),(.lt (.var 39) (.lit 0),false),(.le (.lit 6) (.var 39),false)],10,0⟩
def rt6_i5_e3_args:List SV:=[.c (.ptr 1 0),.agg ((ct [vs 85 4,[.bool (.var 18),.bool (.var 19)]]))]
theorem rt6_i5_e3_any (R:Xa) (x:Xi) (g1:Nat) (w:World) (h1:Bk w g1 171 (({ R with step:=6,call:={ R.call with i:=5 },engine:=3 }:Xa).l).toArray) (hm0:0≤R.me) (hm1:R.me < 6):Calls Tryz.prog 58 #[.pointer (some ⟨g1,0,none⟩),.agg x.l.toArray] w fun en w'=>en = .returned (.nilIface)∧Bk w' g1 171 ((Xa.tookClock ({ R with step:=6,call:={ R.call with i:=5 },engine:=3 }:Xa) x).l).toArray∧Chg [g1] w w':=by
 refine p1 (rxE R x) [] 60 rt6_i5_e3_st rt6_i5_e3_args (Xa.tookClock ({ R with step:=6,call:={ R.call with i:=5 },engine:=3 }:Xa) x) (fun r=>(.nilIface,(r.l).toArray)) Xd (asC (decide_eq_true hm0) (asC (decide_eq_true hm1) (asC (decide_eq_false (Int.not_lt.mpr hm0)) (asC (decide_eq_false (Int.not_le.mpr hm1)) asN)))) h1 ?_
 exact vS1
def rt5_i6_e2_st:St:=⟨[],[(1,171,pt rC0 [(14,[.int (.lit 6)]),(18,[.int (.lit 5)]),(46,[.int (.lit 2)])])],[(.le (.lit 0) (.var 39),true),(.lt (.var 39) (.lit 6),true),(.lt (.var 39) (.lit 0),false),(.le (.lit 6) (.var 39),false)],10,0⟩
def rt5_i6_e2_args:List SV:=[.c (.ptr 1 0),.agg ((ct [vs 85 4,[.bool (.var 18),.bool (.var 19)]]))]
theorem rt5_i6_e2_any (R:Xa) (x:Xi) (g1:Nat) (w:World) (h1:Bk w g1 171 (({ R with step:=5,call:={ R.call with i:=6 },engine:=2 }:Xa).l).toArray) (hm0:0≤R.me) (hm1:R.me < 6):Calls Tryz.prog 58 #[.pointer (some ⟨g1,0,none⟩),.agg x.l.toArray] w fun en w'=>en = .returned (.nilIface)∧Bk w' g1 171 ((Xa.tookLoad ({ R with step:=5,call:={ R.call with i:=6 },engine:=2 }:Xa) x).l).toArray∧Chg [g1] w w':=by
 refine p1 (rxE R x) [] 60 rt5_i6_e2_st rt5_i6_e2_args (Xa.tookLoad ({ R with step:=5,call:={ R.call with i:=6 },engine:=2 }:Xa) x) (fun r=>(.nilIface,(r.l).toArray)) Xd (asC (decide_eq_true hm0) (asC (decide_eq_true hm1) (asC (decide_eq_false (Int.not_lt.mpr hm0)) (asC (decide_eq_false (Int.not_le.mpr hm1)) asN)))) h1 ?_
 exact vS1
def rt6_i6_e3_st:St:=⟨[],[(1,171,pt rC0 [(14,[.int (.lit 6)]),(18,[.int (.lit 6)]),(46,[.int (.lit 3)])])],[(.le (.lit 0) (.var 39),true),(.lt (.var 39) (.lit 6),true),(.lt (.var 39) (.lit 0),false),(.le (.lit 6) (.var 39),false)],10,0⟩
def rt6_i6_e3_args:List SV:=[.c (.ptr 1 0),.agg ((ct [vs 85 4,[.bool (.var 18),.bool (.var 19)]]))]
theorem rt6_i6_e3_any (R:Xa) (x:Xi) (g1:Nat) (w:World) (h1:Bk w g1 171 (({ R with step:=6,call:={ R.call with i:=6 },engine:=3 }:Xa).l).toArray) (hm0:0≤R.me) (hm1:R.me < 6):Calls Tryz.prog 58 #[.pointer (some ⟨g1,0,none⟩),.agg x.l.toArray] w fun en w'=>en = .returned (.nilIface)∧Bk w' g1 171 ((Xa.tookClock ({ R with step:=6,call:={ R.call with i:=6 },engine:=3 }:Xa) x).l).toArray∧Chg [g1] w w':=by
 refine p1 (rxE R x) [] 60 rt6_i6_e3_st rt6_i6_e3_args (Xa.tookClock ({ R with step:=6,call:={ R.call with i:=6 },engine:=3 }:Xa) x) (fun r=>(.nilIface,(r.l).toArray)) Xd (asC (decide_eq_true hm0) (asC (decide_eq_true hm1) (asC (decide_eq_false (Int.not_lt.mpr hm0)) (asC (decide_eq_false (Int.not_le.mpr hm1)) asN)))) h1 ?_
 exact vS1
def rt5_i7_e2_st:St:=⟨[],[(1,171,pt rC0 [(14,[.int (.lit 7)]),(18,[.int (.lit 5)]),(46,[.int (.lit 2)])])],[(.le (.lit 0) (.var 39),true),(.lt (.var 39) (.lit 6),true),(.lt (.var 39) (.lit 0),false),(.le (.lit 6) (.var 39),false)],10,0⟩
def rt5_i7_e2_args:List SV:=[.c (.ptr 1 0),.agg ((ct [vs 85 4,[.bool (.var 18),.bool (.var 19)]]))]
theorem rt5_i7_e2_any (R:Xa) (x:Xi) (g1:Nat) (w:World) (h1:Bk w g1 171 (({ R with step:=5,call:={ R.call with i:=7 },engine:=2 }:Xa).l).toArray) (hm0:0≤R.me) (hm1:R.me < 6):Calls Tryz.prog 58 #[.pointer (some ⟨g1,0,none⟩),.agg x.l.toArray] w fun en w'=>en = .returned (.nilIface)∧Bk w' g1 171 ((Xa.tookLoad ({ R with step:=5,call:={ R.call with i:=7 },engine:=2 }:Xa) x).l).toArray∧Chg [g1] w w':=by
 refine p1 (rxE R x) [] 60 rt5_i7_e2_st rt5_i7_e2_args (Xa.tookLoad ({ R with step:=5,call:={ R.call with i:=7 },engine:=2 }:Xa) x) (fun r=>(.nilIface,(r.l).toArray)) Xd (asC (decide_eq_true hm0) (asC (decide_eq_true hm1) (asC (decide_eq_false (Int.not_lt.mpr hm0)) (asC (decide_eq_false (Int.not_le.mpr hm1)) asN)))) h1 ?_
 exact vS1
def rt6_i7_e3_st:St:=⟨[],[(1,171,pt rC0 [(14,[.int (.lit 7)]),(18,[.int (.lit 6)]),(46,[.int (.lit 3)])])],[(.le (.lit 0) (.var 39),true),(.lt (.var 39) (.lit 6),true),(.lt (.var 39) (.lit 0),false),(.le (.lit 6) (.var 39),false)],10,0⟩
def rt6_i7_e3_args:List SV:=[.c (.ptr 1 0),.agg ((ct [vs 85 4,[.bool (.var 18),.bool (.var 19)]]))]
theorem rt6_i7_e3_any (R:Xa) (x:Xi) (g1:Nat) (w:World) (h1:Bk w g1 171 (({ R with step:=6,call:={ R.call with i:=7 },engine:=3 }:Xa).l).toArray) (hm0:0≤R.me) (hm1:R.me < 6):Calls Tryz.prog 58 #[.pointer (some ⟨g1,0,none⟩),.agg x.l.toArray] w fun en w'=>en = .returned (.nilIface)∧Bk w' g1 171 ((Xa.tookClock ({ R with step:=6,call:={ R.call with i:=7 },engine:=3 }:Xa) x).l).toArray∧Chg [g1] w w':=by
 refine p1 (rxE R x) [] 60 rt6_i7_e3_st rt6_i7_e3_args (Xa.tookClock ({ R with step:=6,call:={ R.call with i:=7 },engine:=3 }:Xa) x) (fun r=>(.nilIface,(r.l).toArray)) Xd (asC (decide_eq_true hm0) (asC (decide_eq_true hm1) (asC (decide_eq_false (Int.not_lt.mpr hm0)) (asC (decide_eq_false (Int.not_le.mpr hm1)) asN)))) h1 ?_
 exact vS1
def rt5_i8_e2_st:St:=⟨[],[(1,171,pt rC0 [(14,[.int (.lit 8)]),(18,[.int (.lit 5)]),(46,[.int (.lit 2)])])],[(.le (.lit 0) (.var 39),true),(.lt (.var 39) (.lit 6),true),(.lt (.var 39) (.lit 0),false),(.le (.lit 6) (.var 39),false)],10,0⟩
def rt5_i8_e2_args:List SV:=[.c (.ptr 1 0),.agg ((ct [vs 85 4,[.bool (.var 18),.bool (.var 19)]]))]
theorem rt5_i8_e2_any (R:Xa) (x:Xi) (g1:Nat) (w:World) (h1:Bk w g1 171 (({ R with step:=5,call:={ R.call with i:=8 },engine:=2 }:Xa).l).toArray) (hm0:0≤R.me) (hm1:R.me < 6):Calls Tryz.prog 58 #[.pointer (some ⟨g1,0,none⟩),.agg x.l.toArray] w fun en w'=>en = .returned (.nilIface)∧Bk w' g1 171 ((Xa.tookLoad ({ R with step:=5,call:={ R.call with i:=8 },engine:=2 }:Xa) x).l).toArray∧Chg [g1] w w':=by
 refine p1 (rxE R x) [] 60 rt5_i8_e2_st rt5_i8_e2_args (Xa.tookLoad ({ R with step:=5,call:={ R.call with i:=8 },engine:=2 }:Xa) x) (fun r=>(.nilIface,(r.l).toArray)) Xd (asC (decide_eq_true hm0) (asC (decide_eq_true hm1) (asC (decide_eq_false (Int.not_lt.mpr hm0)) (asC (decide_eq_false (Int.not_le.mpr hm1)) asN)))) h1 ?_
 exact vS1
def rt6_i8_e3_st:St:=⟨[],[(1,171,pt rC0 [(14,[.int (.lit 8)]),(18,[.int (.lit 6)]),(46,[.int (.lit 3)])])],[(.le (.lit 0) (.var 39),true),(.lt (.var 39) (.lit 6),true),(.lt (.var 39) (.lit 0),false),(.le (.lit 6) (.var 39),false)],10,0⟩
def rt6_i8_e3_args:List SV:=[.c (.ptr 1 0),.agg ((ct [vs 85 4,[.bool (.var 18),.bool (.var 19)]]))]
theorem rt6_i8_e3_any (R:Xa) (x:Xi) (g1:Nat) (w:World) (h1:Bk w g1 171 (({ R with step:=6,call:={ R.call with i:=8 },engine:=3 }:Xa).l).toArray) (hm0:0≤R.me) (hm1:R.me < 6):Calls Tryz.prog 58 #[.pointer (some ⟨g1,0,none⟩),.agg x.l.toArray] w fun en w'=>en = .returned (.nilIface)∧Bk w' g1 171 ((Xa.tookClock ({ R with step:=6,call:={ R.call with i:=8 },engine:=3 }:Xa) x).l).toArray∧Chg [g1] w w':=by
 refine p1 (rxE R x) [] 60 rt6_i8_e3_st rt6_i8_e3_args (Xa.tookClock ({ R with step:=6,call:={ R.call with i:=8 },engine:=3 }:Xa) x) (fun r=>(.nilIface,(r.l).toArray)) Xd (asC (decide_eq_true hm0) (asC (decide_eq_true hm1) (asC (decide_eq_false (Int.not_lt.mpr hm0)) (asC (decide_eq_false (Int.not_le.mpr hm1)) asN)))) h1 ?_
 exact vS1
end Go.Proofs.YtaipogljokblkaaGreatDoor
