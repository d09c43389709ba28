/- Core: CRtL2, RO. -/
import Derived.Test.YtaipogljokblkaaGreatDoorZ13
import Derived.Test.YtaipogljokblkaaGreatDoorZ08
import Derived.Test.YtaipogljokblkaaGreatDoorZ09
import Derived.Test.YtaipogljokblkaaGreatDoorZ21
import Derived.Test.YtaipogljokblkaaGreatDoorZ17
import Derived.Test.YtaipogljokblkaaGreatDoorZ22
import Derived.Test.YtaipogljokblkaaGreatDoorZ23
set_option linter.all false
set_option maxRecDepth 100000
set_option maxHeartbeats 8000000
namespace Go.Proofs.YtaipogljokblkaaGreatDoor
open Go Go.RowKit
set_option linter.unusedSimpArgs false
set_option linter.unusedVariables false
set_option linter.unusedSectionVars false
def rt4_e2_i0_st:St:=⟨[],[(1,171,pt rC0 [(18,[.int (.lit 4)]),(43,[.int (.lit 0)]),(46,[.int (.lit 2)])])],[(.le (.lit 0) (.var 39),true),(.lt (.var 39) (.lit 6),true),(.lt (.var 39) (.lit 0),false),(.le (.lit 6) (.var 39),false)],10,0⟩
def rt4_e2_i0_args:List SV:=[.c (.ptr 1 0),.agg ((ct [vs 85 4,[.bool (.var 18),.bool (.var 19)]]))]
theorem rt4_e2_i0_any (R:Xa) (x:Xi) (g1:Nat) (w:World) (h1:Bk w g1 171 (({ R with step:=4,engine:=2,index:=0 }:Xa).l).toArray) (hm0:0≤R.me) (hm1:R.me < 6):Calls Tryz.prog 58 #[.pointer (some ⟨g1,0,none⟩),.agg x.l.toArray] w fun en w'=>en = .returned (.nilIface)∧Bk w' g1 171 ((Xa.leave ({ R with step:=4,engine:=2,index:=0 }:Xa) [1,2,3,4,5,6,7,8]).l).toArray∧Chg [g1] w w':=by
 refine p1 (rxE R x) [] 60 rt4_e2_i0_st rt4_e2_i0_args (Xa.leave ({ R with step:=4,engine:=2,index:=0 }:Xa) [1,2,3,4,5,6,7,8]) (fun r=>(.nilIface,(r.l).toArray)) Xd (asC (decide_eq_true hm0) (asC (decide_eq_true hm1) (asC (decide_eq_false (Int.not_lt.mpr hm0)) (asC (decide_eq_false (Int.not_le.mpr hm1)) asN)))) h1 ?_
 exact vS1
def rt4_e2_i1_st:St:=⟨[],[(1,171,pt rC0 [(18,[.int (.lit 4)]),(43,[.int (.lit 1)]),(46,[.int (.lit 2)])])],[(.le (.lit 0) (.var 39),true),(.lt (.var 39) (.lit 6),true),(.lt (.var 39) (.lit 0),false),(.le (.lit 6) (.var 39),false)],10,0⟩
def rt4_e2_i1_args:List SV:=[.c (.ptr 1 0),.agg ((ct [vs 85 4,[.bool (.var 18),.bool (.var 19)]]))]
theorem rt4_e2_i1_any (R:Xa) (x:Xi) (g1:Nat) (w:World) (h1:Bk w g1 171 (({ R with step:=4,engine:=2,index:=1 }:Xa).l).toArray) (hm0:0≤R.me) (hm1:R.me < 6):Calls Tryz.prog 58 #[.pointer (some ⟨g1,0,none⟩),.agg x.l.toArray] w fun en w'=>en = .returned (.nilIface)∧Bk w' g1 171 ((Xa.leave ({ R with step:=4,engine:=2,index:=1 }:Xa) [2,3,4,5,6,7,8]).l).toArray∧Chg [g1] w w':=by
 refine p1 (rxE R x) [] 60 rt4_e2_i1_st rt4_e2_i1_args (Xa.leave ({ R with step:=4,engine:=2,index:=1 }:Xa) [2,3,4,5,6,7,8]) (fun r=>(.nilIface,(r.l).toArray)) Xd (asC (decide_eq_true hm0) (asC (decide_eq_true hm1) (asC (decide_eq_false (Int.not_lt.mpr hm0)) (asC (decide_eq_false (Int.not_le.mpr hm1)) asN)))) h1 ?_
 exact vS1
def rt4_e2_i2_st:St:=⟨[],[(1,171,pt rC0 [(18,[.int (.lit 4)]),(43,[.int (.lit 2)]),(46,[.int (.lit 2)])])],[(.le (.lit 0) (.var 39),true),(.lt (.var 39) (.lit 6),true),(.lt (.var 39) (.lit 0),false),(.le (.lit 6) (.var 39),false)],10,0⟩
def rt4_e2_i2_args:List SV:=[.c (.ptr 1 0),.agg ((ct [vs 85 4,[.bool (.var 18),.bool (.var 19)]]))]
theorem rt4_e2_i2_any (R:Xa) (x:Xi) (g1:Nat) (w:World) (h1:Bk w g1 171 (({ R with step:=4,engine:=2,index:=2 }:Xa).l).toArray) (hm0:0≤R.me) (hm1:R.me < 6):Calls Tryz.prog 58 #[.pointer (some ⟨g1,0,none⟩),.agg x.l.toArray] w fun en w'=>en = .returned (.nilIface)∧Bk w' g1 171 ((Xa.leave ({ R with step:=4,engine:=2,index:=2 }:Xa) [3,4,5,6,7,8]).l).toArray∧Chg [g1] w w':=by
 refine p1 (rxE R x) [] 60 rt4_e2_i2_st rt4_e2_i2_args (Xa.leave ({ R with step:=4,engine:=2,index:=2 }:Xa) [3,4,5,6,7,8]) (fun r=>(.nilIface,(r.l).toArray)) Xd (asC (decide_eq_true hm0) (asC (decide_eq_true hm1) (asC (decide_eq_false (Int.not_lt.mpr hm0)) (asC (decide_eq_false (Int.not_le.mpr hm1)) asN)))) h1 ?_
 exact vS1
def rt4_e2_i3_st:St:=⟨[],[(1,171,pt rC0 [(18,[.int (.lit 4)]),(43,[.int (.lit 3)]),(46,[.int (.lit 2)])])],[(.le (.lit 0) (.var 39),true),(.lt (.var 39) (.lit 6),true),(.lt (.var 39) (.lit 0),false),(.le (.lit 6) (.var 39),false)],10,0⟩
def rt4_e2_i3_args:List SV:=[.c (.ptr 1 0),.agg ((ct [vs 85 4,[.bool (.var 18),.bool (.var 19)]]))]
theorem rt4_e2_i3_any (R:Xa) (x:Xi) (g1:Nat) (w:World) (h1:Bk w g1 171 (({ R with step:=4,engine:=2,index:=3 }:Xa).l).toArray) (hm0:0≤R.me) (hm1:R.me < 6):Calls Tryz.prog 58 #[.pointer (some ⟨g1,0,none⟩),.agg x.l.toArray] w fun en w'=>en = .returned (.nilIface)∧Bk w' g1 171 ((Xa.leave ({ R with step:=4,engine:=2,index:=3 }:Xa) [4,5,6,7,8]).l).toArray∧Chg [g1] w w':=by
 refine p1 (rxE R x) [] 60 rt4_e2_i3_st rt4_e2_i3_args (Xa.leave ({ R with step:=4,engine:=2,index:=3 }:Xa) [4,5,6,7,8]) (fun r=>(.nilIface,(r.l).toArray)) Xd (asC (decide_eq_true hm0) (asC (decide_eq_true hm1) (asC (decide_eq_false (Int.not_lt.mpr hm0)) (asC (decide_eq_false (Int.not_le.mpr hm1)) asN)))) h1 ?_
 exact vS1
def rt4_e2_i4_st:St:=⟨[],[(1,171,pt rC0 [(18,[.int (.lit 4)]),(43,[.int (.lit 4)]),(46,[.int (.lit 2)])])],[(.le (.lit 0) (.var 39),true),(.lt (.var 39) (.lit 6),true),(.lt (.var 39) (.lit 0),false),(.le (.lit 6) (.var 39),false)],10,0⟩
def rt4_e2_i4_args:List SV:=[.c (.ptr 1 0),.agg ((ct [vs 85 4,[.bool (.var 18),.bool (.var 19)]]))]
theorem rt4_e2_i4_any (R:Xa) (x:Xi) (g1:Nat) (w:World) (h1:Bk w g1 171 (({ R with step:=4,engine:=2,index:=4 }:Xa).l).toArray) (hm0:0≤R.me) (hm1:R.me < 6):Calls Tryz.prog 58 #[.pointer (some ⟨g1,0,none⟩),.agg x.l.toArray] w fun en w'=>en = .returned (.nilIface)∧Bk w' g1 171 ((Xa.leave ({ R with step:=4,engine:=2,index:=4 }:Xa) [5,6,7,8]).l).toArray∧Chg [g1] w w':=by
 refine p1 (rxE R x) [] 60 rt4_e2_i4_st rt4_e2_i4_args (Xa.leave ({ R with step:=4,engine:=2,index:=4 }:Xa) [5,6,7,8]) (fun r=>(.nilIface,(r.l).toArray)) Xd (asC (decide_eq_true hm0) (asC (decide_eq_true hm1) (asC (decide_eq_false (Int.not_lt.mpr hm0)) (asC (decide_eq_false (Int.not_le.mpr hm1)) asN)))) h1 ?_
 exact vS1
def rt4_e2_i5_st:St:=⟨[],[(1,171,pt rC0 [(18,[.int (.lit 4)]),(43,[.int (.lit 5)]),(46,[.int (.lit 2)])])],[(.le (.lit 0) (.var 39),true),(.lt (.var 39) (.lit 6),true),(.lt (.var 39) (.lit 0),false),(.le (.lit 6) (.var 39),false)],10,0⟩
def rt4_e2_i5_args:List SV:=[.c (.ptr 1 0),.agg ((ct [vs 85 4,[.bool (.var 18),.bool (.var 19)]]))]
theorem rt4_e2_i5_any (R:Xa) (x:Xi) (g1:Nat) (w:World) (h1:Bk w g1 171 (({ R with step:=4,engine:=2,index:=5 }:Xa).l).toArray) (hm0:0≤R.me) (hm1:R.me < 6):Calls Tryz.prog 58 #[.pointer (some ⟨g1,0,none⟩),.agg x.l.toArray] w fun en w'=>en = .returned (.nilIface)∧Bk w' g1 171 ((Xa.leave ({ R with step:=4,engine:=2,index:=5 }:Xa) [6,7,8]).l).toArray∧Chg [g1] w w':=by
 refine p1 (rxE R x) [] 60 rt4_e2_i5_st rt4_e2_i5_args (Xa.leave ({ R with step:=4,engine:=2,index:=5 }:Xa) [6,7,8]) (fun r=>(.nilIface,(r.l).toArray)) Xd (asC (decide_eq_true hm0) (asC (decide_eq_true hm1) (asC (decide_eq_false (Int.not_lt.mpr hm0)) (asC (decide_eq_false (Int.not_le.mpr hm1)) asN)))) h1 ?_
 exact vS1
def rt4_e2_i6_st:St:=⟨[],[(1,171,pt rC0 [(18,[.int (.lit 4)]),(43,[.int (.lit 6)]),(46,[.int (.lit 2)])])],[(.le (.lit 0) (.var 39),true),(.lt (.var 39) (.lit 6),true),(.lt (.var 39) (.lit 0),false),(.le (.lit 6) (.var 39),false)],10,0⟩
def rt4_e2_i6_args:List SV:=[.c (.ptr 1 0),.agg ((ct [vs 85 4,[.bool (.var 18),.bool (.var 19)]]))]
theorem rt4_e2_i6_any (R:Xa) (x:Xi) (g1:Nat) (w:World) (h1:Bk w g1 171 (({ R with step:=4,engine:=2,index:=6 }:Xa).l).toArray) (hm0:0≤R.me) (hm1:R.me < 6):Calls Tryz.prog 58 #[.pointer (some ⟨g1,0,none⟩),.agg x.l.toArray] w fun en w'=>en = .returned (.nilIface)∧Bk w' g1 171 ((Xa.leave ({ R with step:=4,engine:=2,index:=6 }:Xa) [7,8]).l).toArray∧Chg [g1] w w':=by
 refine p1 (rxE R x) [] 60 rt4_e2_i6_st rt4_e2_i6_args (Xa.leave ({ R with step:=4,engine:=2,index:=6 }:Xa) [7,8]) (fun r=>(.nilIface,(r.l).toArray)) Xd (asC (decide_eq_true hm0) (asC (decide_eq_true hm1) (asC (decide_eq_false (Int.not_lt.mpr hm0)) (asC (decide_eq_false (Int.not_le.mpr hm1)) asN)))) h1 ?_
 exact vS1
def rt4_e2_i7_st:St:=⟨[],[(1,171,pt rC0 [(18,[.int (.lit 4)]),(43,[.int (.lit 7)]),(46,[.int (.lit 2)])])],[(.le (.lit 0) (.var 39),true),(.lt (.var 39) (.lit 6),true),(.lt (.var 39) (.lit 0),false),(.le (.lit 6) (.var 39),false)],10,0⟩
def rt4_e2_i7_args:List SV:=[.c (.ptr 1 0),.agg ((ct [vs 85 4,[.bool (.var 18),.bool (.var 19)]]))]
theorem rt4_e2_i7_any (R:Xa) (x:Xi) (g1:Nat) (w:World) (h1:Bk w g1 171 (({ R with step:=4,engine:=2,index:=7 }:Xa).l).toArray) (hm0:0≤R.me) (hm1:R.me < 6):Calls Tryz.prog 58 #[.pointer (some ⟨g1,0,none⟩),.agg x.l.toArray] w fun en w'=>en = .returned (.nilIface)∧Bk w' g1 171 ((Xa.leave ({ R with step:=4,engine:=2,index:=7 }:Xa) [8]).l).toArray∧Chg [g1] w w':=by
 refine p1 (rxE R x) [] 60 rt4_e2_i7_st rt4_e2_i7_args (Xa.leave ({ R with step:=4,engine:=2,index:=7 }:Xa) [8]) (fun r=>(.nilIface,(r.l).toArray)) Xd (asC (decide_eq_true hm0) (asC (decide_eq_true hm1) (asC (decide_eq_false (Int.not_lt.mpr hm0)) (asC (decide_eq_false (Int.not_le.mpr hm1)) asN)))) h1 ?_
 exact vS1
def rt4_e2_i8_st:St:=⟨[],[(1,171,pt rC0 [(18,[.int (.lit 4)]),(43,[.int (.lit 8)]),(46,[.int (.lit 2)])])],[(.le (.lit 0) (.var 39),true),(.lt (.var 39) (.lit 6),true),(.lt (.var 39) (.lit 0),false),(.le (.lit 6) (.var 39),false)],10,0⟩
def rt4_e2_i8_args:List SV:=[.c (.ptr 1 0),.agg ((ct [vs 85 4,[.bool (.var 18),.bool (.var 19)]]))]
theorem rt4_e2_i8_any (R:Xa) (x:Xi) (g1:Nat) (w:World) (h1:Bk w g1 171 (({ R with step:=4,engine:=2,index:=8 }:Xa).l).toArray) (hm0:0≤R.me) (hm1:R.me < 6):Calls Tryz.prog 58 #[.pointer (some ⟨g1,0,none⟩),.agg x.l.toArray] w fun en w'=>en = .returned (.nilIface)∧Bk w' g1 171 ((Xa.leave ({ R with step:=4,engine:=2,index:=8 }:Xa) []).l).toArray∧Chg [g1] w w':=by
 refine p1 (rxE R x) [] 60 rt4_e2_i8_st rt4_e2_i8_args (Xa.leave ({ R with step:=4,engine:=2,index:=8 }:Xa) []) (fun r=>(.nilIface,(r.l).toArray)) Xd (asC (decide_eq_true hm0) (asC (decide_eq_true hm1) (asC (decide_eq_false (Int.not_lt.mpr hm0)) (asC (decide_eq_false (Int.not_le.mpr hm1)) asN)))) h1 ?_
 exact vS1
theorem took_1 (R:Xa) (ns ds:List Xp) (ss:List Xf) (x:Xi) (hs:R.step = 1):MR.took ⟨R,ns,ds,ss⟩ x = MR.wrap ⟨R,ns,ds,ss⟩ (R.finish x):=by unfold MR.took;simp only [hs];rfl
theorem took_2 (R:Xa) (ns ds:List Xp) (ss:List Xf) (x:Xi) (hs:R.step = 2):MR.took ⟨R,ns,ds,ss⟩ x = MR.wrap ⟨R,ns,ds,ss⟩ R.done:=by unfold MR.took;simp only [hs];rfl
theorem took_3 (R:Xa) (ns ds:List Xp) (ss:List Xf) (x:Xi) (hs:R.step = 3):MR.took ⟨R,ns,ds,ss⟩ x = MR.wrap ⟨R,ns,ds,ss⟩ (R.announce 2 ⟨true,x.word.nm,x.word.nm⟩):=by unfold MR.took;simp only [hs];rfl
theorem took_4 (R:Xa) (ns ds:List Xp) (ss:List Xf) (x:Xi) (hs:R.step = 4):MR.took ⟨R,ns,ds,ss⟩ x = MR.wrap ⟨R,ns,ds,ss⟩ (R.leave (([0,1,2,3,4,5,6,7,8]:List Int).filter fun n=>decide (R.index < n))):=by unfold MR.took;simp only [hs];rfl
theorem took_5 (R:Xa) (ns ds:List Xp) (ss:List Xf) (x:Xi) (hs:R.step = 5):MR.took ⟨R,ns,ds,ss⟩ x = MR.wrap ⟨R,ns,ds,ss⟩ (R.tookLoad x):=by unfold MR.took;simp only [hs];rfl
theorem took_6 (R:Xa) (ns ds:List Xp) (ss:List Xf) (x:Xi) (hs:R.step = 6):MR.took ⟨R,ns,ds,ss⟩ x = MR.wrap ⟨R,ns,ds,ss⟩ (R.tookClock x):=by unfold MR.took;simp only [hs];rfl
theorem took_7 (R:Xa) (ns ds:List Xp) (ss:List Xf) (x:Xi) (hs:R.step = 7):MR.took ⟨R,ns,ds,ss⟩ x = MR.wrap ⟨R,ns,ds,ss⟩ (R.load 5 R.call.adr):=by unfold MR.took;simp only [hs];rfl
theorem took_8 (R:Xa) (ns ds:List Xp) (ss:List Xf) (x:Xi) (hs:R.step = 8):MR.took ⟨R,ns,ds,ss⟩ x = MR.wrap ⟨R,ns,ds,ss⟩ (R.ask 1 ⟨4,.zero,.zero,wnum x.word.nm⟩):=by unfold MR.took;simp only [hs];rfl
theorem took_9 (R:Xa) (ns ds:List Xp) (ss:List Xf) (x:Xi) (hs:R.step = 9):MR.took ⟨R,ns,ds,ss⟩ x = MR.wrap ⟨R,ns,ds,ss⟩ (Xa.load { R with word:=x.word } 10 (root 24)):=by unfold MR.took;simp only [hs];rfl
theorem took_11 (R:Xa) (ns ds:List Xp) (ss:List Xf) (x:Xi) (hs:R.step = 11):MR.took ⟨R,ns,ds,ss⟩ x = bif decide (R.most≤(ns.length:Int)) then MR.wrap ⟨R,ns,ds,ss⟩ R.scan else MR.wrap ⟨R,ns,ds,ss⟩ R.done:=by unfold MR.took;simp only [hs];rfl
theorem took_12 (R:Xa) (ns ds:List Xp) (ss:List Xf) (x:Xi) (hs:R.step = 12):MR.took ⟨R,ns,ds,ss⟩ x = MR.wrap ⟨R,ns,ds,ss⟩ (Xa.look { R with clock:=x.word } 0).1:=by unfold MR.took;simp only [hs];rfl
theorem took_14 (R:Xa) (ns ds:List Xp) (ss:List Xf) (x:Xi) (hs:R.step = 14):MR.took ⟨R,ns,ds,ss⟩ x = MR.wrap ⟨R,ns,ds,ss⟩ (R.load 15 (root 24)):=by unfold MR.took;simp only [hs];rfl
theorem rqA {R:Xa} {a:Int} (h1:R.step = a):({ R with step:=a }:Xa) = R:=by subst h1;rfl
theorem rqB {R:Xa} {a b:Int} (h1:R.step = a) (h2:R.engine = b):({ R with step:=a,engine:=b }:Xa) = R:=by subst h1;subst h2;rfl
theorem rqC {R:Xa} {a b c:Int} (h1:R.step = a) (h2:R.engine = b) (h3:R.index = c):({ R with step:=a,engine:=b,index:=c }:Xa) = R:=by subst h1;subst h2;subst h3;rfl
theorem rqD {R:Xa} {a b c:Int} (h1:R.step = a) (h2:R.engine = b) (h3:R.call.i = c):({ R with step:=a,call:={ R.call with i:=c },engine:=b }:Xa) = R:=by subst h1;subst h2;subst h3;rfl
structure ROk (M:MR):Prop where
 me0:0≤M.R.me
 me1:M.R.me < 6
 thr:Thr M.R
 eng:M.R.engine = 1∨M.R.engine = 2∨M.R.engine = 3∨M.R.engine = 4∨M.R.engine = 5
 nl:M.ns.length≤100000
 dl:M.ds.length≤90000
 sl:M.ss.length≤900
def keeps (R:Xa):Prop:=R.engine = 2∨R.engine = 3
def scans (R:Xa):Prop:=R.engine = 2∨R.engine = 3∨R.engine = 4∨R.engine = 5
def StepOk (M:MR):Prop :=
 M.R.step = 1∨M.R.step = 2∨M.R.step = 3∨(M.R.step = 4∧keeps M.R∧0≤M.R.index∧M.R.index < 9)∨(M.R.step = 5∧0≤M.R.call.i∧M.R.call.i < 9)∨(M.R.step = 6∧(M.R.engine = 3∨M.R.engine = 5)∧0≤M.R.call.i∧M.R.call.i < 9) ∨
 M.R.step = 7∨M.R.step = 8∨M.R.step = 9∨M.R.step = 10∨M.R.step = 11∨M.R.step = 12∨(M.R.step = 13∧scans M.R∧0≤M.R.index∧M.R.index < 100)∨M.R.step = 14∨(M.R.step = 15∧scans M.R)∨(M.R.step = 16∧∃ d r,M.ds = d :: r∧d∈M.ns)
theorem int9 {n:Int} (h0:0≤n) (h1:n < 9):n = 0∨n = 1∨n = 2∨n = 3∨n = 4∨n = 5∨n = 6∨n = 7∨n = 8:=by omega
section
variable {w w':World} {g:Nat} {R:Xa} {ns ds:List Xp} {ss:List Xf} {e:Ending} {v:Value}
theorem Xv (ht:Thr R) (h:RB w g R ns ds ss) {f:Xa→Xa} (hf:Hdr f) (hp:e = .returned v∧Bk w' g 171 (f R).l.toArray∧Chg [g] w w'):RetR w g (Yc g R) v (MR.wrap ⟨R,ns,ds,ss⟩ (f R)) e w':=by
 obtain ⟨rfl,hb,hc⟩:=hp
 exact retR_wrap (w1:=w) (R:=R) (a:=R.notes) (b:=R.doomed) (c:=R.seen) ht (Xk.2 (Or.inl rfl)) (Chg.refl _ _) h (fun x hx=>Or.inl hx) hf hb hc
end
theorem took_any (M:MR) (x:Xi) (g:Nat) (w:World) (h:RB w g M.R M.ns M.ds M.ss) (ok:ROk M) (so:StepOk M) :
  Calls Tryz.prog 58 #[.pointer (some ⟨g,0,none⟩),.agg x.l.toArray] w (RetR w g (Yc g M.R) .nilIface (M.took x)):=by
 obtain ⟨R,ns,ds,ss⟩:=M
 obtain ⟨m0,m1,ht,he,hnl,hdl,hsl⟩:=ok
 unfold StepOk at so
 simp only at h m0 m1 ht he hnl hdl hsl so ⊢
 rcases so with hs | hs | hs | ⟨hs,hk,hi0,hi1⟩ | ⟨hs,hi0,hi1⟩ | ⟨hs,hk,hi0,hi1⟩ | hs | hs | hs | hs | hs | hs | ⟨hs,hk,hi0,hi1⟩ | hs | ⟨hs,hk⟩ | ⟨hs,d,r,hd,hm⟩
 ·rw [took_1 _ _ _ _ _ hs]
  have e:({ R with step:=1 }:Xa) = R:=rqA hs
  have hc:=rt1_any R x g w (by rw [e];exact h.bk) m0 m1
  rw [e] at hc
  exact hc.mono fun en w' hp=>Xv ht h (hdr_finish x) hp
 ·rw [took_2 _ _ _ _ _ hs]
  have e:({ R with step:=2 }:Xa) = R:=rqA hs
  have hc:=rt2_any R x g w (by rw [e];exact h.bk) m0 m1
  rw [e] at hc
  exact hc.mono fun en w' hp=>Xv ht h hdr_done hp
 ·rw [took_3 _ _ _ _ _ hs]
  have e:({ R with step:=3 }:Xa) = R:=rqA hs
  have hc:=rt3_any R x g w (by rw [e];exact h.bk) m0 m1
  rw [e] at hc
  exact hc.mono fun en w' hp=>Xv ht h (hdr_announce (st:=2) rfl _) hp
 ·rw [took_4 _ _ _ _ _ hs]
  rcases hk with hk | hk
  ·rcases int9 hi0 hi1 with hi | hi | hi | hi | hi | hi | hi | hi | hi
   ·have e:({ R with step:=4,engine:=2,index:=0 }:Xa) = R:=rqC hs hk hi
    have hc:=rt4_e2_i0_any R x g w (by rw [e];exact h.bk) m0 m1
    rw [e] at hc
    rw [show (([0,1,2,3,4,5,6,7,8]:List Int).filter fun n=>decide (R.index < n)) = [1,2,3,4,5,6,7,8] from by rw [hi];rfl]
    exact hc.mono fun en w' hp=>Xv ht h (Yp _) hp
   ·have e:({ R with step:=4,engine:=2,index:=1 }:Xa) = R:=rqC hs hk hi
    have hc:=rt4_e2_i1_any R x g w (by rw [e];exact h.bk) m0 m1
    rw [e] at hc
    rw [show (([0,1,2,3,4,5,6,7,8]:List Int).filter fun n=>decide (R.index < n)) = [2,3,4,5,6,7,8] from by rw [hi];rfl]
    exact hc.mono fun en w' hp=>Xv ht h (Yp _) hp
   ·have e:({ R with step:=4,engine:=2,index:=2 }:Xa) = R:=rqC hs hk hi
    have hc:=rt4_e2_i2_any R x g w (by rw [e];exact h.bk) m0 m1
    rw [e] at hc
    rw [show (([0,1,2,3,4,5,6,7,8]:List Int).filter fun n=>decide (R.index < n)) = [3,4,5,6,7,8] from by rw [hi];rfl]
    exact hc.mono fun en w' hp=>Xv ht h (Yp _) hp
   ·have e:({ R with step:=4,engine:=2,index:=3 }:Xa) = R:=rqC hs hk hi
    have hc:=rt4_e2_i3_any R x g w (by rw [e];exact h.bk) m0 m1
    rw [e] at hc
    rw [show (([0,1,2,3,4,5,6,7,8]:List Int).filter fun n=>decide (R.index < n)) = [4,5,6,7,8] from by rw [hi];rfl]
    exact hc.mono fun en w' hp=>Xv ht h (Yp _) hp
   ·have e:({ R with step:=4,engine:=2,index:=4 }:Xa) = R:=rqC hs hk hi
    have hc:=rt4_e2_i4_any R x g w (by rw [e];exact h.bk) m0 m1
    rw [e] at hc
    rw [show (([0,1,2,3,4,5,6,7,8]:List Int).filter fun n=>decide (R.index < n)) = [5,6,7,8] from by rw [hi];rfl]
    exact hc.mono fun en w' hp=>Xv ht h (Yp _) hp
   ·have e:({ R with step:=4,engine:=2,index:=5 }:Xa) = R:=rqC hs hk hi
    have hc:=rt4_e2_i5_any R x g w (by rw [e];exact h.bk) m0 m1
    rw [e] at hc
    rw [show (([0,1,2,3,4,5,6,7,8]:List Int).filter fun n=>decide (R.index < n)) = [6,7,8] from by rw [hi];rfl]
    exact hc.mono fun en w' hp=>Xv ht h (Yp _) hp
   ·have e:({ R with step:=4,engine:=2,index:=6 }:Xa) = R:=rqC hs hk hi
    have hc:=rt4_e2_i6_any R x g w (by rw [e];exact h.bk) m0 m1
    rw [e] at hc
    rw [show (([0,1,2,3,4,5,6,7,8]:List Int).filter fun n=>decide (R.index < n)) = [7,8] from by rw [hi];rfl]
    exact hc.mono fun en w' hp=>Xv ht h (Yp _) hp
   ·have e:({ R with step:=4,engine:=2,index:=7 }:Xa) = R:=rqC hs hk hi
    have hc:=rt4_e2_i7_any R x g w (by rw [e];exact h.bk) m0 m1
    rw [e] at hc
    rw [show (([0,1,2,3,4,5,6,7,8]:List Int).filter fun n=>decide (R.index < n)) = [8] from by rw [hi];rfl]
    exact hc.mono fun en w' hp=>Xv ht h (Yp _) hp
   ·have e:({ R with step:=4,engine:=2,index:=8 }:Xa) = R:=rqC hs hk hi
    have hc:=rt4_e2_i8_any R x g w (by rw [e];exact h.bk) m0 m1
    rw [e] at hc
    rw [show (([0,1,2,3,4,5,6,7,8]:List Int).filter fun n=>decide (R.index < n)) = [] from by rw [hi];rfl]
    exact hc.mono fun en w' hp=>Xv ht h (Yp _) hp
  ·rcases int9 hi0 hi1 with hi | hi | hi | hi | hi | hi | hi | hi | hi
   ·have e:({ R with step:=4,engine:=3,index:=0 }:Xa) = R:=rqC hs hk hi
    have hc:=rt4_e3_i0_any R x g w (by rw [e];exact h.bk) m0 m1
    rw [e] at hc
    rw [show (([0,1,2,3,4,5,6,7,8]:List Int).filter fun n=>decide (R.index < n)) = [1,2,3,4,5,6,7,8] from by rw [hi];rfl]
    exact hc.mono fun en w' hp=>Xv ht h (Yp _) hp
   ·have e:({ R with step:=4,engine:=3,index:=1 }:Xa) = R:=rqC hs hk hi
    have hc:=rt4_e3_i1_any R x g w (by rw [e];exact h.bk) m0 m1
    rw [e] at hc
    rw [show (([0,1,2,3,4,5,6,7,8]:List Int).filter fun n=>decide (R.index < n)) = [2,3,4,5,6,7,8] from by rw [hi];rfl]
    exact hc.mono fun en w' hp=>Xv ht h (Yp _) hp
   ·have e:({ R with step:=4,engine:=3,index:=2 }:Xa) = R:=rqC hs hk hi
    have hc:=rt4_e3_i2_any R x g w (by rw [e];exact h.bk) m0 m1
    rw [e] at hc
    rw [show (([0,1,2,3,4,5,6,7,8]:List Int).filter fun n=>decide (R.index < n)) = [3,4,5,6,7,8] from by rw [hi];rfl]
    exact hc.mono fun en w' hp=>Xv ht h (Yp _) hp
   ·have e:({ R with step:=4,engine:=3,index:=3 }:Xa) = R:=rqC hs hk hi
    have hc:=rt4_e3_i3_any R x g w (by rw [e];exact h.bk) m0 m1
    rw [e] at hc
    rw [show (([0,1,2,3,4,5,6,7,8]:List Int).filter fun n=>decide (R.index < n)) = [4,5,6,7,8] from by rw [hi];rfl]
    exact hc.mono fun en w' hp=>Xv ht h (Yp _) hp
   ·have e:({ R with step:=4,engine:=3,index:=4 }:Xa) = R:=rqC hs hk hi
    have hc:=rt4_e3_i4_any R x g w (by rw [e];exact h.bk) m0 m1
    rw [e] at hc
    rw [show (([0,1,2,3,4,5,6,7,8]:List Int).filter fun n=>decide (R.index < n)) = [5,6,7,8] from by rw [hi];rfl]
    exact hc.mono fun en w' hp=>Xv ht h (Yp _) hp
   ·have e:({ R with step:=4,engine:=3,index:=5 }:Xa) = R:=rqC hs hk hi
    have hc:=rt4_e3_i5_any R x g w (by rw [e];exact h.bk) m0 m1
    rw [e] at hc
    rw [show (([0,1,2,3,4,5,6,7,8]:List Int).filter fun n=>decide (R.index < n)) = [6,7,8] from by rw [hi];rfl]
    exact hc.mono fun en w' hp=>Xv ht h (Yp _) hp
   ·have e:({ R with step:=4,engine:=3,index:=6 }:Xa) = R:=rqC hs hk hi
    have hc:=rt4_e3_i6_any R x g w (by rw [e];exact h.bk) m0 m1
    rw [e] at hc
    rw [show (([0,1,2,3,4,5,6,7,8]:List Int).filter fun n=>decide (R.index < n)) = [7,8] from by rw [hi];rfl]
    exact hc.mono fun en w' hp=>Xv ht h (Yp _) hp
   ·have e:({ R with step:=4,engine:=3,index:=7 }:Xa) = R:=rqC hs hk hi
    have hc:=rt4_e3_i7_any R x g w (by rw [e];exact h.bk) m0 m1
    rw [e] at hc
    rw [show (([0,1,2,3,4,5,6,7,8]:List Int).filter fun n=>decide (R.index < n)) = [8] from by rw [hi];rfl]
    exact hc.mono fun en w' hp=>Xv ht h (Yp _) hp
   ·have e:({ R with step:=4,engine:=3,index:=8 }:Xa) = R:=rqC hs hk hi
    have hc:=rt4_e3_i8_any R x g w (by rw [e];exact h.bk) m0 m1
    rw [e] at hc
    rw [show (([0,1,2,3,4,5,6,7,8]:List Int).filter fun n=>decide (R.index < n)) = [] from by rw [hi];rfl]
    exact hc.mono fun en w' hp=>Xv ht h (Yp _) hp
 ·rw [took_5 _ _ _ _ _ hs]
  rcases he with hk | hk | hk | hk | hk
  ·have e:({ R with step:=5,engine:=1 }:Xa) = R:=rqB hs hk
   have hc:=rt5_e1_any R x g w (by rw [e];exact h.bk) m0 m1
   rw [e] at hc
   exact hc.mono fun en w' hp=>Xv ht h (hdr_tookLoad x) hp
  ·rcases int9 hi0 hi1 with hi | hi | hi | hi | hi | hi | hi | hi | hi
   ·have e:({ R with step:=5,call:={ R.call with i:=0 },engine:=2 }:Xa) = R:=rqD hs hk hi
    have hc:=rt5_i0_e2_any R x g w (by rw [e];exact h.bk) m0 m1
    rw [e] at hc
    exact hc.mono fun en w' hp=>Xv ht h (hdr_tookLoad x) hp
   ·have e:({ R with step:=5,call:={ R.call with i:=1 },engine:=2 }:Xa) = R:=rqD hs hk hi
    have hc:=rt5_i1_e2_any R x g w (by rw [e];exact h.bk) m0 m1
    rw [e] at hc
    exact hc.mono fun en w' hp=>Xv ht h (hdr_tookLoad x) hp
   ·have e:({ R with step:=5,call:={ R.call with i:=2 },engine:=2 }:Xa) = R:=rqD hs hk hi
    have hc:=rt5_i2_e2_any R x g w (by rw [e];exact h.bk) m0 m1
    rw [e] at hc
    exact hc.mono fun en w' hp=>Xv ht h (hdr_tookLoad x) hp
   ·have e:({ R with step:=5,call:={ R.call with i:=3 },engine:=2 }:Xa) = R:=rqD hs hk hi
    have hc:=rt5_i3_e2_any R x g w (by rw [e];exact h.bk) m0 m1
    rw [e] at hc
    exact hc.mono fun en w' hp=>Xv ht h (hdr_tookLoad x) hp
   ·have e:({ R with step:=5,call:={ R.call with i:=4 },engine:=2 }:Xa) = R:=rqD hs hk hi
    have hc:=rt5_i4_e2_any R x g w (by rw [e];exact h.bk) m0 m1
    rw [e] at hc
    exact hc.mono fun en w' hp=>Xv ht h (hdr_tookLoad x) hp
   ·have e:({ R with step:=5,call:={ R.call with i:=5 },engine:=2 }:Xa) = R:=rqD hs hk hi
    have hc:=rt5_i5_e2_any R x g w (by rw [e];exact h.bk) m0 m1
    rw [e] at hc
    exact hc.mono fun en w' hp=>Xv ht h (hdr_tookLoad x) hp
   ·have e:({ R with step:=5,call:={ R.call with i:=6 },engine:=2 }:Xa) = R:=rqD hs hk hi
    have hc:=rt5_i6_e2_any R x g w (by rw [e];exact h.bk) m0 m1
    rw [e] at hc
    exact hc.mono fun en w' hp=>Xv ht h (hdr_tookLoad x) hp
   ·have e:({ R with step:=5,call:={ R.call with i:=7 },engine:=2 }:Xa) = R:=rqD hs hk hi
    have hc:=rt5_i7_e2_any R x g w (by rw [e];exact h.bk) m0 m1
    rw [e] at hc
    exact hc.mono fun en w' hp=>Xv ht h (hdr_tookLoad x) hp
   ·have e:({ R with step:=5,call:={ R.call with i:=8 },engine:=2 }:Xa) = R:=rqD hs hk hi
    have hc:=rt5_i8_e2_any R x g w (by rw [e];exact h.bk) m0 m1
    rw [e] at hc
    exact hc.mono fun en w' hp=>Xv ht h (hdr_tookLoad x) hp
  ·have e:({ R with step:=5,engine:=3 }:Xa) = R:=rqB hs hk
   have hc:=rt5_e3_any R x g w (by rw [e];exact h.bk) m0 m1
   rw [e] at hc
   exact hc.mono fun en w' hp=>Xv ht h (hdr_tookLoad x) hp
  ·have e:({ R with step:=5,engine:=4 }:Xa) = R:=rqB hs hk
   have hc:=rt5_e4_any R x g w (by rw [e];exact h.bk) m0 m1
   rw [e] at hc
   exact hc.mono fun en w' hp=>Xv ht h (hdr_tookLoad x) hp
  ·have e:({ R with step:=5,engine:=5 }:Xa) = R:=rqB hs hk
   have hc:=rt5_e5_any R x g w (by rw [e];exact h.bk) m0 m1
   rw [e] at hc
   exact hc.mono fun en w' hp=>Xv ht h (hdr_tookLoad x) hp
 ·rw [took_6 _ _ _ _ _ hs]
  rcases hk with hk | hk
  ·rcases int9 hi0 hi1 with hi | hi | hi | hi | hi | hi | hi | hi | hi
   ·have e:({ R with step:=6,call:={ R.call with i:=0 },engine:=3 }:Xa) = R:=rqD hs hk hi
    have hc:=rt6_i0_e3_any R x g w (by rw [e];exact h.bk) m0 m1
    rw [e] at hc
    exact hc.mono fun en w' hp=>Xv ht h (hdr_tookClock x) hp
   ·have e:({ R with step:=6,call:={ R.call with i:=1 },engine:=3 }:Xa) = R:=rqD hs hk hi
    have hc:=rt6_i1_e3_any R x g w (by rw [e];exact h.bk) m0 m1
    rw [e] at hc
    exact hc.mono fun en w' hp=>Xv ht h (hdr_tookClock x) hp
   ·have e:({ R with step:=6,call:={ R.call with i:=2 },engine:=3 }:Xa) = R:=rqD hs hk hi
    have hc:=rt6_i2_e3_any R x g w (by rw [e];exact h.bk) m0 m1
    rw [e] at hc
    exact hc.mono fun en w' hp=>Xv ht h (hdr_tookClock x) hp
   ·have e:({ R with step:=6,call:={ R.call with i:=3 },engine:=3 }:Xa) = R:=rqD hs hk hi
    have hc:=rt6_i3_e3_any R x g w (by rw [e];exact h.bk) m0 m1
    rw [e] at hc
    exact hc.mono fun en w' hp=>Xv ht h (hdr_tookClock x) hp
   ·have e:({ R with step:=6,call:={ R.call with i:=4 },engine:=3 }:Xa) = R:=rqD hs hk hi
    have hc:=rt6_i4_e3_any R x g w (by rw [e];exact h.bk) m0 m1
    rw [e] at hc
    exact hc.mono fun en w' hp=>Xv ht h (hdr_tookClock x) hp
   ·have e:({ R with step:=6,call:={ R.call with i:=5 },engine:=3 }:Xa) = R:=rqD hs hk hi
    have hc:=rt6_i5_e3_any R x g w (by rw [e];exact h.bk) m0 m1
    rw [e] at hc
    exact hc.mono fun en w' hp=>Xv ht h (hdr_tookClock x) hp
   ·have e:({ R with step:=6,call:={ R.call with i:=6 },engine:=3 }:Xa) = R:=rqD hs hk hi
    have hc:=rt6_i6_e3_any R x g w (by rw [e];exact h.bk) m0 m1
    rw [e] at hc
    exact hc.mono fun en w' hp=>Xv ht h (hdr_tookClock x) hp
   ·have e:({ R with step:=6,call:={ R.call with i:=7 },engine:=3 }:Xa) = R:=rqD hs hk hi
    have hc:=rt6_i7_e3_any R x g w (by rw [e];exact h.bk) m0 m1
    rw [e] at hc
    exact hc.mono fun en w' hp=>Xv ht h (hdr_tookClock x) hp
   ·have e:({ R with step:=6,call:={ R.call with i:=8 },engine:=3 }:Xa) = R:=rqD hs hk hi
    have hc:=rt6_i8_e3_any R x g w (by rw [e];exact h.bk) m0 m1
    rw [e] at hc
    exact hc.mono fun en w' hp=>Xv ht h (hdr_tookClock x) hp
  ·have e:({ R with step:=6,engine:=5 }:Xa) = R:=rqB hs hk
   have hc:=rt6_e5_any R x g w (by rw [e];exact h.bk) m0 m1
   rw [e] at hc
   exact hc.mono fun en w' hp=>Xv ht h (hdr_tookClock x) hp
 ·rw [took_7 _ _ _ _ _ hs]
  have e:({ R with step:=7 }:Xa) = R:=rqA hs
  have hc:=rt7_any R x g w (by rw [e];exact h.bk) m0 m1
  rw [e] at hc
  exact hc.mono fun en w' hp=>Xv ht h hdr_loadC hp
 ·rw [took_8 _ _ _ _ _ hs]
  have e:({ R with step:=8 }:Xa) = R:=rqA hs
  have hc:=rt8_any R x g w (by rw [e];exact h.bk) m0 m1
  rw [e] at hc
  exact hc.mono fun en w' hp=>Xv ht h (hdr_ask (st:=1) rfl _) hp
 ·rw [took_9 _ _ _ _ _ hs]
  have e:({ R with step:=9 }:Xa) = R:=rqA hs
  have hc:=rt9_any R x g w (by rw [e];exact h.bk)
  rw [e] at hc
  exact hc.mono fun en w' hp=>Xv ht h (hdr_loadW x) hp
 ·exact took10_any w g R ns ds ss x h ht hnl hs
 ·rw [took_11 _ _ _ _ _ hs]
  have e:({ R with step:=11 }:Xa) = R:=rqA hs
  have hc:=rt11_any R x g w (by rw [e];exact h.bk)
  rw [e] at hc
  refine hc.mono fun en w' hp=>?_
  unfold Xa.noted at hp
  rw [own_n h.on] at hp
  cases hm:decide (R.most≤(ns.length:Int)) with
  | true=>rw [hm] at hp;exact Xv ht h hdr_scan hp
  | false=>rw [hm] at hp;exact Xv ht h hdr_done hp
 ·rw [took_12 _ _ _ _ _ hs]
  have e:({ R with step:=12 }:Xa) = R:=rqA hs
  have hc:=rt12_any R x g w (by rw [e];exact h.bk)
  rw [e] at hc
  exact hc.mono fun en w' hp=>Xv ht h (hdr_lookC x) hp
 ·exact took13_any w g R ns ds ss x h ht hnl hsl hs hk hi0 hi1
 ·rw [took_14 _ _ _ _ _ hs]
  have e:({ R with step:=14 }:Xa) = R:=rqA hs
  have hc:=rt14_any R x g w (by rw [e];exact h.bk)
  rw [e] at hc
  exact hc.mono fun en w' hp=>Xv ht h (hdr_load (st:=15) rfl _) hp
 ·exact took15_any w g R ns ds ss x h ht hnl (by omega) hk hs
 ·subst hd
  exact took16_any w g R ns r d ss x h ht hnl (by simp at hdl;omega) hm hs
end Go.Proofs.YtaipogljokblkaaGreatDoor
