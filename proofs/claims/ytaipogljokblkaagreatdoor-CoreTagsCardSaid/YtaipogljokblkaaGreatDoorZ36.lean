/- Core: CStart, VN, VO. -/
import Derived.Test.YtaipogljokblkaaGreatDoorZ15
import Derived.Test.YtaipogljokblkaaGreatDoorZ08
import Derived.Test.YtaipogljokblkaaGreatDoorZ35
import Derived.Test.YtaipogljokblkaaGreatDoorZ10
import Derived.Test.YtaipogljokblkaaGreatDoorZ01
set_option linter.all false
set_option maxRecDepth 100000
set_option maxHeartbeats 8000000
namespace Go.Proofs.YtaipogljokblkaaGreatDoor
open Go Go.RowKit
set_option linter.unusedSimpArgs false
set_option linter.unusedVariables false
set_option linter.unusedSectionVars false
def start1_1_st:St:=⟨[],[],[(.le (.lit 0) (.var 0),true),(.le (.var 0) (.lit 1073741824),true)],10,0⟩
theorem start1_1_any (o:GOp) (w:World) (v0:0≤o.val) (v1:o.val≤1073741824):Calls Tryz.prog 54 #[.int .i64 1,.agg ({ o with kind:=1,key:=0,tall:=0 }:GOp).l.toArray] w fun en w'=>∃ g,en = .returned (.tuple #[.iface 127 (.pointer (some ⟨g,0,none⟩)),.nilIface])∧w.heap.size≤g∧Bk w' g 175 ((Yg.new ({ o with kind:=1,key:=0,tall:=0 }:GOp)).l).toArray∧Chg [] w w' :=
 pS (mkE [[o.val]] []) start1_1_st [.c (.int (.lit 1)),.agg [.int (.lit 1),.int (.lit 0),.int (.var 0),.int (.lit 0)]] 429 (asC (decide_eq_true v0) (asC (decide_eq_true v1) asN))
def start1_2_st:St:=⟨[],[],[],10,0⟩
theorem start1_2_any (o:GOp) (w:World):Calls Tryz.prog 54 #[.int .i64 1,.agg ({ o with kind:=2,key:=0,val:=0,tall:=0 }:GOp).l.toArray] w fun en w'=>∃ g,en = .returned (.tuple #[.iface 127 (.pointer (some ⟨g,0,none⟩)),.nilIface])∧w.heap.size≤g∧Bk w' g 175 ((Yg.new ({ o with kind:=2,key:=0,val:=0,tall:=0 }:GOp)).l).toArray∧Chg [] w w' :=
 pS (mkE [] []) start1_2_st [.c (.int (.lit 1)),.agg [.int (.lit 2),.int (.lit 0),.int (.lit 0),.int (.lit 0)]] 429 asN
def start1_3_st:St:=⟨[],[],[],10,0⟩
theorem start1_3_any (o:GOp) (w:World):Calls Tryz.prog 54 #[.int .i64 1,.agg ({ o with kind:=3,key:=0,val:=0,tall:=0 }:GOp).l.toArray] w fun en w'=>∃ g,en = .returned (.tuple #[.iface 127 (.pointer (some ⟨g,0,none⟩)),.nilIface])∧w.heap.size≤g∧Bk w' g 175 ((Yg.new ({ o with kind:=3,key:=0,val:=0,tall:=0 }:GOp)).l).toArray∧Chg [] w w' :=
 pS (mkE [] []) start1_3_st [.c (.int (.lit 1)),.agg [.int (.lit 3),.int (.lit 0),.int (.lit 0),.int (.lit 0)]] 429 asN
def start2_4_st:St:=⟨[],[],[(.le (.lit 0) (.var 0),true),(.le (.var 0) (.lit 1073741824),true)],10,0⟩
theorem start2_4_any (o:GOp) (w:World) (v0:0≤o.val) (v1:o.val≤1073741824):Calls Tryz.prog 54 #[.int .i64 2,.agg ({ o with kind:=4,key:=0,tall:=0 }:GOp).l.toArray] w fun en w'=>∃ g,en = .returned (.tuple #[.iface 130 (.pointer (some ⟨g,0,none⟩)),.nilIface])∧w.heap.size≤g∧Bk w' g 179 ((GCorJ.new ({ o with kind:=4,key:=0,tall:=0 }:GOp)).l).toArray∧Chg [] w w' :=
 pS (mkE [[o.val]] []) start2_4_st [.c (.int (.lit 2)),.agg [.int (.lit 4),.int (.lit 0),.int (.var 0),.int (.lit 0)]] 429 (asC (decide_eq_true v0) (asC (decide_eq_true v1) asN))
def start2_5_st:St:=⟨[],[],[],10,0⟩
theorem start2_5_any (o:GOp) (w:World):Calls Tryz.prog 54 #[.int .i64 2,.agg ({ o with kind:=5,key:=0,val:=0,tall:=0 }:GOp).l.toArray] w fun en w'=>∃ g,en = .returned (.tuple #[.iface 130 (.pointer (some ⟨g,0,none⟩)),.nilIface])∧w.heap.size≤g∧Bk w' g 179 ((GCorJ.new ({ o with kind:=5,key:=0,val:=0,tall:=0 }:GOp)).l).toArray∧Chg [] w w' :=
 pS (mkE [] []) start2_5_st [.c (.int (.lit 2)),.agg [.int (.lit 5),.int (.lit 0),.int (.lit 0),.int (.lit 0)]] 429 asN
def start3_6_st:St:=⟨[],[],[(.lt (.var 0) (.lit 0),false),(.lt (.lit 255) (.var 0),false),(.le (.lit 0) (.var 1),true),(.le (.var 1) (.lit 1073741824),true)],10,0⟩
theorem start3_6_any (o:GOp) (w:World) (k0:0≤o.key) (k1:o.key < 256) (v0:0≤o.val) (v1:o.val≤1073741824):Calls Tryz.prog 54 #[.int .i64 3,.agg ({ o with kind:=6,tall:=0 }:GOp).l.toArray] w fun en w'=>∃ g,en = .returned (.tuple #[.iface 133 (.pointer (some ⟨g,0,none⟩)),.nilIface])∧w.heap.size≤g∧Bk w' g 206 ((Xn.from_ (root 0) o.key ({ o with kind:=6,tall:=0 }:GOp)).l (.pointer none)).toArray∧Chg [] w w' :=
 pS (mkE [[o.key,o.val]] []) start3_6_st [.c (.int (.lit 3)),.agg [.int (.lit 6),.int (.var 0),.int (.var 1),.int (.lit 0)]] 647 (asC (decide_eq_false (Int.not_lt.mpr k0)) (asC (decide_eq_false (Int.not_lt.mpr (Int.le_of_lt_add_one k1))) (asC (decide_eq_true v0) (asC (decide_eq_true v1) asN))))
def start3_7_st:St:=⟨[],[],[(.lt (.var 0) (.lit 0),false),(.lt (.lit 255) (.var 0),false)],10,0⟩
theorem start3_7_any (o:GOp) (w:World) (k0:0≤o.key) (k1:o.key < 256):Calls Tryz.prog 54 #[.int .i64 3,.agg ({ o with kind:=7,val:=0,tall:=0 }:GOp).l.toArray] w fun en w'=>∃ g,en = .returned (.tuple #[.iface 133 (.pointer (some ⟨g,0,none⟩)),.nilIface])∧w.heap.size≤g∧Bk w' g 206 ((Xn.from_ (root 0) o.key ({ o with kind:=7,val:=0,tall:=0 }:GOp)).l (.pointer none)).toArray∧Chg [] w w' :=
 pS (mkE [[o.key]] []) start3_7_st [.c (.int (.lit 3)),.agg [.int (.lit 7),.int (.var 0),.int (.lit 0),.int (.lit 0)]] 647 (asC (decide_eq_false (Int.not_lt.mpr k0)) (asC (decide_eq_false (Int.not_lt.mpr (Int.le_of_lt_add_one k1))) asN))
def start3_8_st:St:=⟨[],[],[(.lt (.var 0) (.lit 0),false),(.lt (.lit 255) (.var 0),false)],10,0⟩
theorem start3_8_any (o:GOp) (w:World) (k0:0≤o.key) (k1:o.key < 256):Calls Tryz.prog 54 #[.int .i64 3,.agg ({ o with kind:=8,val:=0,tall:=0 }:GOp).l.toArray] w fun en w'=>∃ g,en = .returned (.tuple #[.iface 133 (.pointer (some ⟨g,0,none⟩)),.nilIface])∧w.heap.size≤g∧Bk w' g 206 ((Xn.from_ (root 0) o.key ({ o with kind:=8,val:=0,tall:=0 }:GOp)).l (.pointer none)).toArray∧Chg [] w w' :=
 pS (mkE [[o.key]] []) start3_8_st [.c (.int (.lit 3)),.agg [.int (.lit 8),.int (.var 0),.int (.lit 0),.int (.lit 0)]] 647 (asC (decide_eq_false (Int.not_lt.mpr k0)) (asC (decide_eq_false (Int.not_lt.mpr (Int.le_of_lt_add_one k1))) asN))
def start4_6_st:St:=⟨[],[],[(.lt (.var 0) (.lit 0),false),(.lt (.lit 255) (.var 0),false),(.le (.lit 0) (.var 1),true),(.le (.var 1) (.lit 1073741824),true)],10,0⟩
theorem start4_6_any (o:GOp) (w:World) (k0:0≤o.key) (k1:o.key < 256) (v0:0≤o.val) (v1:o.val≤1073741824):Calls Tryz.prog 54 #[.int .i64 4,.agg ({ o with kind:=6,tall:=0 }:GOp).l.toArray] w fun en w'=>∃ g,en = .returned (.tuple #[.iface 136 (.pointer (some ⟨g,0,none⟩)),.nilIface])∧w.heap.size≤g∧Bk w' g 186 ((Xb.new ({ o with kind:=6,tall:=0 }:GOp)).l (.pointer none) (.pointer none)).toArray∧Chg [] w w' :=
 pS (mkE [[o.key,o.val]] []) start4_6_st [.c (.int (.lit 4)),.agg [.int (.lit 6),.int (.var 0),.int (.var 1),.int (.lit 0)]] 429 (asC (decide_eq_false (Int.not_lt.mpr k0)) (asC (decide_eq_false (Int.not_lt.mpr (Int.le_of_lt_add_one k1))) (asC (decide_eq_true v0) (asC (decide_eq_true v1) asN))))
def start4_7_st:St:=⟨[],[],[(.lt (.var 0) (.lit 0),false),(.lt (.lit 255) (.var 0),false)],10,0⟩
theorem start4_7_any (o:GOp) (w:World) (k0:0≤o.key) (k1:o.key < 256):Calls Tryz.prog 54 #[.int .i64 4,.agg ({ o with kind:=7,val:=0,tall:=0 }:GOp).l.toArray] w fun en w'=>∃ g,en = .returned (.tuple #[.iface 136 (.pointer (some ⟨g,0,none⟩)),.nilIface])∧w.heap.size≤g∧Bk w' g 186 ((Xb.new ({ o with kind:=7,val:=0,tall:=0 }:GOp)).l (.pointer none) (.pointer none)).toArray∧Chg [] w w' :=
 pS (mkE [[o.key]] []) start4_7_st [.c (.int (.lit 4)),.agg [.int (.lit 7),.int (.var 0),.int (.lit 0),.int (.lit 0)]] 429 (asC (decide_eq_false (Int.not_lt.mpr k0)) (asC (decide_eq_false (Int.not_lt.mpr (Int.le_of_lt_add_one k1))) asN))
def start4_8_st:St:=⟨[],[],[(.lt (.var 0) (.lit 0),false),(.lt (.lit 255) (.var 0),false)],10,0⟩
theorem start4_8_any (o:GOp) (w:World) (k0:0≤o.key) (k1:o.key < 256):Calls Tryz.prog 54 #[.int .i64 4,.agg ({ o with kind:=8,val:=0,tall:=0 }:GOp).l.toArray] w fun en w'=>∃ g,en = .returned (.tuple #[.iface 136 (.pointer (some ⟨g,0,none⟩)),.nilIface])∧w.heap.size≤g∧Bk w' g 186 ((Xb.new ({ o with kind:=8,val:=0,tall:=0 }:GOp)).l (.pointer none) (.pointer none)).toArray∧Chg [] w w' :=
 pS (mkE [[o.key]] []) start4_8_st [.c (.int (.lit 4)),.agg [.int (.lit 8),.int (.var 0),.int (.lit 0),.int (.lit 0)]] 429 (asC (decide_eq_false (Int.not_lt.mpr k0)) (asC (decide_eq_false (Int.not_lt.mpr (Int.le_of_lt_add_one k1))) asN))
def start5_6_st:St:=⟨[],[],[(.lt (.var 0) (.lit 0),false),(.lt (.lit 255) (.var 0),false),(.le (.lit 0) (.var 1),true),(.le (.var 1) (.lit 1073741824),true),(.le (.lit 0) (.var 2),true),(.le (.var 2) (.lit 3),true),(.lt (.var 2) (.lit 1),false)],10,0⟩
theorem start5_6_any (o:GOp) (w:World) (k0:0≤o.key) (k1:o.key < 256) (v0:0≤o.val) (v1:o.val≤1073741824) (t0:1≤o.tall) (t1:o.tall≤3):Calls Tryz.prog 54 #[.int .i64 5,.agg ({ o with kind:=6 }:GOp).l.toArray] w fun en w'=>∃ g,en = .returned (.tuple #[.iface 139 (.pointer (some ⟨g,0,none⟩)),.nilIface])∧w.heap.size≤g∧Bk w' g 191 ((Xc.new ({ o with kind:=6 }:GOp)).l (.pointer none)).toArray∧Chg [] w w' :=
 pS (mkE [[o.key,o.val,o.tall]] []) start5_6_st [.c (.int (.lit 5)),.agg [.int (.lit 6),.int (.var 0),.int (.var 1),.int (.var 2)]] 429 (asC (decide_eq_false (Int.not_lt.mpr k0)) (asC (decide_eq_false (Int.not_lt.mpr (Int.le_of_lt_add_one k1))) (asC (decide_eq_true v0) (asC (decide_eq_true v1) (asC (decide_eq_true (show (0:Int)≤o.tall from by omega)) (asC (decide_eq_true t1) (asC (decide_eq_false (Int.not_lt.mpr t0)) asN)))))))
def start5_7_st:St:=⟨[],[],[(.lt (.var 0) (.lit 0),false),(.lt (.lit 255) (.var 0),false)],10,0⟩
theorem start5_7_any (o:GOp) (w:World) (k0:0≤o.key) (k1:o.key < 256):Calls Tryz.prog 54 #[.int .i64 5,.agg ({ o with kind:=7,val:=0,tall:=0 }:GOp).l.toArray] w fun en w'=>∃ g,en = .returned (.tuple #[.iface 139 (.pointer (some ⟨g,0,none⟩)),.nilIface])∧w.heap.size≤g∧Bk w' g 191 ((Xc.new ({ o with kind:=7,val:=0,tall:=0 }:GOp)).l (.pointer none)).toArray∧Chg [] w w' :=
 pS (mkE [[o.key]] []) start5_7_st [.c (.int (.lit 5)),.agg [.int (.lit 7),.int (.var 0),.int (.lit 0),.int (.lit 0)]] 429 (asC (decide_eq_false (Int.not_lt.mpr k0)) (asC (decide_eq_false (Int.not_lt.mpr (Int.le_of_lt_add_one k1))) asN))
def start5_8_st:St:=⟨[],[],[(.lt (.var 0) (.lit 0),false),(.lt (.lit 255) (.var 0),false)],10,0⟩
theorem start5_8_any (o:GOp) (w:World) (k0:0≤o.key) (k1:o.key < 256):Calls Tryz.prog 54 #[.int .i64 5,.agg ({ o with kind:=8,val:=0,tall:=0 }:GOp).l.toArray] w fun en w'=>∃ g,en = .returned (.tuple #[.iface 139 (.pointer (some ⟨g,0,none⟩)),.nilIface])∧w.heap.size≤g∧Bk w' g 191 ((Xc.new ({ o with kind:=8,val:=0,tall:=0 }:GOp)).l (.pointer none)).toArray∧Chg [] w w' :=
 pS (mkE [[o.key]] []) start5_8_st [.c (.int (.lit 5)),.agg [.int (.lit 8),.int (.var 0),.int (.lit 0),.int (.lit 0)]] 429 (asC (decide_eq_false (Int.not_lt.mpr k0)) (asC (decide_eq_false (Int.not_lt.mpr (Int.le_of_lt_add_one k1))) asN))
def OpFit (st:Int) (o:GOp):Prop :=
 (st = 1∧o.key = 0∧o.tall = 0∧((o.kind = 1∧0≤o.val∧o.val≤1073741824)∨((o.kind = 2∨o.kind = 3)∧o.val = 0))) ∨
 (st = 2∧o.key = 0∧o.tall = 0∧((o.kind = 4∧0≤o.val∧o.val≤1073741824)∨(o.kind = 5∧o.val = 0))) ∨
 ((st = 3∨st = 4)∧0≤o.key∧o.key≤255∧o.tall = 0∧((o.kind = 6∧0≤o.val∧o.val≤1073741824)∨((o.kind = 7∨o.kind = 8)∧o.val = 0))) ∨
 (st = 5∧0≤o.key∧o.key≤255∧((o.kind = 6∧0≤o.val∧o.val≤1073741824∧1≤o.tall∧o.tall≤3)∨((o.kind = 7∨o.kind = 8)∧o.val = 0∧o.tall = 0)))
def RetStart (st:Int) (o:GOp) (w:World) (en:Ending) (w':World):Prop :=
 ∃ jv Fj,en = .returned (.tuple #[jv,.nilIface])∧JobP w' jv (GJob.new st o) Fj∧(∀ b∈Fj,w.heap.size≤b)∧Below w.heap.size w w'
theorem start_any (st:Int) (o:GOp) (w:World) (h:OpFit st o):Calls Tryz.prog 54 #[.int .i64 st,.agg o.l.toArray] w (RetStart st o w):=by
 obtain ⟨k,key,val,tall⟩:=o
 simp only [OpFit] at h
 rcases h with ⟨rfl,rfl,rfl,⟨rfl,h1,h2⟩ | ⟨rfl | rfl,rfl⟩⟩ | ⟨rfl,rfl,rfl,⟨rfl,h1,h2⟩ | ⟨rfl,rfl⟩⟩ | ⟨rfl | rfl,h3,h4,rfl,⟨rfl,h1,h2⟩ | ⟨rfl | rfl,rfl⟩⟩ | ⟨rfl,h3,h4,⟨rfl,h1,h2,h5,h6⟩ | ⟨rfl | rfl,rfl,rfl⟩⟩
 ·exact (start1_1_any ⟨1,0,val,0⟩ w h1 h2).mono fun en w' hp=>by obtain ⟨g,p1,p2,p3,p4⟩:=hp;exact ⟨_,[g],p1,⟨g,rfl,rfl,p3⟩,by simpa using p2,p4.below⟩
 ·exact (start1_2_any ⟨2,0,0,0⟩ w).mono fun en w' hp=>by obtain ⟨g,p1,p2,p3,p4⟩:=hp;exact ⟨_,[g],p1,⟨g,rfl,rfl,p3⟩,by simpa using p2,p4.below⟩
 ·exact (start1_3_any ⟨3,0,0,0⟩ w).mono fun en w' hp=>by obtain ⟨g,p1,p2,p3,p4⟩:=hp;exact ⟨_,[g],p1,⟨g,rfl,rfl,p3⟩,by simpa using p2,p4.below⟩
 ·exact (start2_4_any ⟨4,0,val,0⟩ w h1 h2).mono fun en w' hp=>by obtain ⟨g,p1,p2,p3,p4⟩:=hp;exact ⟨_,[g],p1,⟨g,rfl,rfl,p3⟩,by simpa using p2,p4.below⟩
 ·exact (start2_5_any ⟨5,0,0,0⟩ w).mono fun en w' hp=>by obtain ⟨g,p1,p2,p3,p4⟩:=hp;exact ⟨_,[g],p1,⟨g,rfl,rfl,p3⟩,by simpa using p2,p4.below⟩
 ·exact (start3_6_any ⟨6,key,val,0⟩ w h3 (by show key < 256;omega) h1 h2).mono fun en w' hp=>by obtain ⟨g,p1,p2,p3,p4⟩:=hp;exact ⟨_,[g],p1,⟨g,rfl,⟨⟨.pointer none,[],rfl,p3,rfl,rfl⟩,by simp⟩⟩,by simpa using p2,p4.below⟩
 ·exact (start3_7_any ⟨7,key,0,0⟩ w h3 (by show key < 256;omega)).mono fun en w' hp=>by obtain ⟨g,p1,p2,p3,p4⟩:=hp;exact ⟨_,[g],p1,⟨g,rfl,⟨⟨.pointer none,[],rfl,p3,rfl,rfl⟩,by simp⟩⟩,by simpa using p2,p4.below⟩
 ·exact (start3_8_any ⟨8,key,0,0⟩ w h3 (by show key < 256;omega)).mono fun en w' hp=>by obtain ⟨g,p1,p2,p3,p4⟩:=hp;exact ⟨_,[g],p1,⟨g,rfl,⟨⟨.pointer none,[],rfl,p3,rfl,rfl⟩,by simp⟩⟩,by simpa using p2,p4.below⟩
 ·exact (start4_6_any ⟨6,key,val,0⟩ w h3 (by show key < 256;omega) h1 h2).mono fun en w' hp=>by obtain ⟨g,p1,p2,p3,p4⟩:=hp;exact ⟨_,[g],p1,⟨g,rfl,⟨none,none,[],[],rfl,p3,⟨rfl,rfl⟩,⟨rfl,rfl⟩,by simp⟩⟩,by simpa using p2,p4.below⟩
 ·exact (start4_7_any ⟨7,key,0,0⟩ w h3 (by show key < 256;omega)).mono fun en w' hp=>by obtain ⟨g,p1,p2,p3,p4⟩:=hp;exact ⟨_,[g],p1,⟨g,rfl,⟨none,none,[],[],rfl,p3,⟨rfl,rfl⟩,⟨rfl,rfl⟩,by simp⟩⟩,by simpa using p2,p4.below⟩
 ·exact (start4_8_any ⟨8,key,0,0⟩ w h3 (by show key < 256;omega)).mono fun en w' hp=>by obtain ⟨g,p1,p2,p3,p4⟩:=hp;exact ⟨_,[g],p1,⟨g,rfl,⟨none,none,[],[],rfl,p3,⟨rfl,rfl⟩,⟨rfl,rfl⟩,by simp⟩⟩,by simpa using p2,p4.below⟩
 ·exact (start5_6_any ⟨6,key,val,tall⟩ w h3 (by show key < 256;omega) h1 h2 h5 h6).mono fun en w' hp=>by obtain ⟨g,p1,p2,p3,p4⟩:=hp;exact ⟨_,[g],p1,⟨g,rfl,⟨⟨.pointer none,[],rfl,p3,rfl,rfl⟩,by simp⟩⟩,by simpa using p2,p4.below⟩
 ·exact (start5_7_any ⟨7,key,0,0⟩ w h3 (by show key < 256;omega)).mono fun en w' hp=>by obtain ⟨g,p1,p2,p3,p4⟩:=hp;exact ⟨_,[g],p1,⟨g,rfl,⟨⟨.pointer none,[],rfl,p3,rfl,rfl⟩,by simp⟩⟩,by simpa using p2,p4.below⟩
 ·exact (start5_8_any ⟨8,key,0,0⟩ w h3 (by show key < 256;omega)).mono fun en w' hp=>by obtain ⟨g,p1,p2,p3,p4⟩:=hp;exact ⟨_,[g],p1,⟨g,rfl,⟨⟨.pointer none,[],rfl,p3,rfl,rfl⟩,by simp⟩⟩,by simpa using p2,p4.below⟩
theorem fits_x (st:Int) (o:GOp) (w:World) (h:OpFit st o) (he:ErrOk w):Calls Tryz.prog 25 #[.int .i64 st,.agg o.l.toArray] w (fun en w'=>en = .returned (.bool true)∧Below w.heap.size w w'):=by
 obtain ⟨T,q,e⟩:=he.arg
 obtain ⟨k,key,val,tall⟩:=o
 refine (Fn.fits_any st ⟨k,key,val,tall⟩ w T _ e).mono fun en w' hp=>?_
 rw [show Fn.fitsB st ⟨k,key,val,tall⟩ = true from decide_eq_true h] at hp
 exact hp
theorem job_shape {w:World} {v:Value} {J:GJob} {F:List Nat} (h:JobP w v J F):∃ T g,v = .iface T (.pointer (some ⟨g,0,none⟩)):=by
 cases J with
 | pile J=>obtain ⟨g,rfl,_⟩:=h;exact ⟨_,g,rfl⟩
 | cor J=>obtain ⟨g,rfl,_⟩:=h;exact ⟨_,g,rfl⟩
 | lit J=>obtain ⟨g,rfl,_⟩:=h;exact ⟨_,g,rfl⟩
 | vau J=>obtain ⟨g,rfl,_⟩:=h;exact ⟨_,g,rfl⟩
 | ste J=>obtain ⟨g,rfl,_⟩:=h;exact ⟨_,g,rfl⟩
theorem fits_c {st k key val tall:Int} {w:World} (h:OpFit st ⟨k,key,val,tall⟩) (he:ErrOk w):Calls Tryz.prog 25 #[.int .i64 st,.agg #[.int .i64 k,.int .i64 key,.int .i64 val,.int .i64 tall]] w (fun en w'=>en = .returned (.bool true)∧Below w.heap.size w w'):=fits_x st ⟨k,key,val,tall⟩ w h he
theorem start_c {st k key val tall:Int} {w:World} (h:OpFit st ⟨k,key,val,tall⟩):Calls Tryz.prog 54 #[.int .i64 st,.agg #[.int .i64 k,.int .i64 key,.int .i64 val,.int .i64 tall]] w (RetStart st ⟨k,key,val,tall⟩ w):=start_any st ⟨k,key,val,tall⟩ w h
theorem RJo.rite {gr:Nat} {jv:Value} {M:MR} {o:Option GJob} {w:World} {F:Nat→Prop} (h:RJo gr jv M o w F):∃ Fr,RBx w gr M Fr∧∀ b∈Fr,F b:=by
 cases o with
 | some J=>obtain ⟨Fr,Fj,h1,h2,h3,h4⟩:=h;exact ⟨Fr,h1,fun b hb=>(h4 b).2 (Or.inl hb)⟩
 | none=>obtain ⟨h0,Fr,h1,h4⟩:=h;exact ⟨Fr,h1,fun b hb=>(h4 b).2 hb⟩
theorem vbeg_mem (V:MV) (d:Int) (c:Xg) (g gr:Nat) (jv:Value) (w:World) (F:Nat→Prop) (hb:Bk w g 126 ((ver V).l (.pointer (some ⟨gr,0,none⟩)) jv).toArray) (h:RJo gr jv V.M V.job w F) (hg:¬ F g) (ok:ROk V.M) (hs:V.M.R.step = 0) (hc:GcOk c) :
  Calls Tryz.prog 55 #[.pointer (some ⟨g,2,none⟩),.int .i64 d,.agg c.l.toArray] w (VPo gr jv (V.begin_ d c) g F (.tuple #[]) w):=by
 have hq:=vbeg_any (Φ:=⟨fun i w F=>if i = 0 then RJo gr jv V.M V.job w F else RJo gr jv (V.M.begin_ c) V.job w F,fun i w w' F h hs=>by
   split at h
   ·rename_i h0;rw [if_pos h0];exact h.keep hs
   ·rename_i h0;rw [if_neg h0];exact h.keep hs⟩) (F:=F) (ver V) ⟨gr,0,none⟩ jv d c g w hb h.one
  (fun w F hP _=>rjo_rite (M':=V.M.begin_ c) (M:=V.M) (o:=V.job) hP (fun Fr h1=>begin_x c h1 ok hs hc) _ 1 fun w F h=>h) h hg h.lt
 refine hq.mono fun en w' hp=>?_
 obtain ⟨p1,p2,p3,F',p4,p5,p6,p7⟩:=hp
 exact ⟨p1,p2,p3,F',p4,p5,p6,p7⟩
theorem vbeg_c (V:MV) (g gr:Nat) (jv:Value) (w:World) (F:Nat→Prop) (hb:Bk w g 126 ((ver V).l (.pointer (some ⟨gr,0,none⟩)) jv).toArray) (h:RJo gr jv V.M V.job w F) (hg:¬ F g) (ok:ROk V.M) (hs:V.M.R.step = 0) :
  Calls Tryz.prog 55 #[.pointer (some ⟨g,2,none⟩),.int .i64 1,.agg #[.int .i64 1,.int .i64 0,.int .i64 0,.int .i64 0,.int .i64 0,.int .i64 0,.int .i64 0,.int .i64 0,.bool false,.int .i64 0,.int .i64 0,.int .i64 0,.int .i64 0,.bool false,.int .i64 0,.int .i64 0,.int .i64 0,.int .i64 0]] w (VPo gr jv (V.begin_ 1 center) g F (.tuple #[]) w) :=
 vbeg_mem V 1 center g gr jv w F hb h hg ok hs (Or.inl rfl)
theorem give_mem (V:MV) (o:GOp) (gv gr:Nat) (jv:Value) (w:World) (F:Nat→Prop) (he:ErrOk w) (hf:OpFit V.st o) (hd:V.doing = 0) (hb:Bk w gv 126 ((ver V).l (.pointer (some ⟨gr,0,none⟩)) jv).toArray) (h:RJo gr jv V.M V.job w F) (hg:¬ F gv)
  (ok:ROk V.M) (hs:V.M.R.step = 0) (hgo:GoOk (MV.begin_ { V with op:=o,job:=some (GJob.new V.st o),ans:=.zero } 1 center)) :
  Calls Tryz.prog 36 #[.pointer (some ⟨gv,0,none⟩),.agg o.l.toArray] w fun en w'=>∃ jw,en = .returned .nilIface ∧
   Bk w' gv 126 ((ver (V.give o)).l (.pointer (some ⟨gr,0,none⟩)) jw).toArray∧ChgP (fun b=>b = gv∨F b) w w' ∧
   ∃ F':Nat→Prop,RJo gr jw (V.give o).M (V.give o).job w' F'∧¬ F' gv∧(∀ b,F' b→b < w'.heap.size)∧∀ b,F' b→F b∨w.heap.size≤b:=by
 obtain ⟨st,eng,doing,call,op,job,ans,M⟩:=V
 obtain ⟨k,key,val,tall⟩:=o
 obtain rfl:doing = 0:=hd
 show Calls Tryz.prog _ #[.pointer (some ⟨gv,0,none⟩),.agg #[.int .i64 k,.int .i64 key,.int .i64 val,.int .i64 tall]] w _
 have c0:=hb.cell 0;have c3:=hb.cell 3
 simp [ver,GVer.l,Xg.l,Yj.l,Xf.l,GAns.l,GOp.l] at c0 c3
 have hgl:=hb.lt
 have hal:Below w.heap.size w (w.alloc (.cells #[.int .i64 k,.int .i64 key,.int .i64 val,.int .i64 tall] 35)):=(Below.refl _ _).alloc (Nat.le_refl _) _
 have HB:=Lib.hid (hb.belowAll hal)
 have HE:=Lib.hid (he.below hal)
 have HX:=Lib.hid (Bk.at_ (w:=w) (g:=w.heap.size) (cs:=#[.int .i64 k,.int .i64 key,.int .i64 val,.int .i64 tall]) (t:=35) rfl)
 have HR:=Lib.hid (h.keep (w':=w.alloc (.cells #[.int .i64 k,.int .i64 key,.int .i64 val,.int .i64 tall] 35)) fun b hb=>Below.heap_alloc w _ b (h.lt b hb))
 have HC:=Lib.hid hal
 have HOK:=Lib.hid (And.intro ok (And.intro hs hgo))
 have hgz:=hb.lt
 have HL:=Lib.hid h.lt
 clear hb hal he h ok hs hgo
 go_enter Tryz.func36,Tryz.ntmps36
 go_wp2
 clear c0 c3
 have hgx:w.heap.size < (w.alloc (.cells #[.int .i64 k,.int .i64 key,.int .i64 val,.int .i64 tall] 35)).heap.size:=HX.out.lt
 generalize w.alloc (.cells #[.int .i64 k,.int .i64 key,.int .i64 val,.int .i64 tall] 35) = W at *
 (refine wp_region_class ((fun w':World=>Below W.heap.size W w')) (by kernel_rfl) (by kernel_rfl) ((Below.refl _ _).drew) ?_;(repeat (first | go_big_quiet_skip | (go_big_quiet_want;first | (go_big_quiet_op;go_big_quiet_on) | (apply Exists.intro;refine ⟨fun w' hC=>?_,?_⟩;(· ((have q0:=(HB.out.belowAll hC).cell 0;simp [ver,GVer.l,Xg.l,Yj.l,Xf.l,GAns.l,GOp.l] at q0;have y0:=(HX.out.belowAll hC).cell 0;have y1:=(HX.out.belowAll hC).cell 1;have y2:=(HX.out.belowAll hC).cell 2;have y3:=(HX.out.belowAll hC).cell 3;simp at y0 y1 y2 y3);go_simp;first | done | rfl | exact ⟨rfl,rfl⟩ | ((go_at_call 25;(with_reducible refine (fits_c hf (HE.out.below hC)).mono ?_);rintro e w'' ⟨rfl,hb⟩;exact ⟨rfl,hC.trans (hb.mono hC.size)⟩))));go_big_quiet_on;simp only [Act.put,List.setIfInBounds_toArray,List.set_cons_succ,List.set_cons_zero]))));refine wpQuiet_nil ?_;intro w' hC)
 have HB1:=Lib.hid (HB.out.belowAll hC)
 have HE1:=Lib.hid (HE.out.below hC)
 have HX1:=Lib.hid (HX.out.belowAll hC)
 have HR1:=Lib.hid (HR.out.keep (w':=w') fun b hb=>hC.block b (HR.out.lt b hb))
 have HC1:=Lib.hid (HC.out.trans (hC.mono HC.out.size))
 have hgx1:w.heap.size < w'.heap.size:=HX1.out.lt
 clear HB HE HX HR HC hC hgx
 generalize w' = W1 at *
 clear W w'
 go_wp2
 refine X2 (fun w'=>Bk w' gv 126 ((ver { st:=st,eng:=eng,doing:=0,call:=call,op:=op,job:=job,ans:=ans,M:=M }).l (.pointer (some ⟨gr,0,none⟩)) jv).toArray∧Bk w' w.heap.size 35 #[.int .i64 k,.int .i64 key,.int .i64 val,.int .i64 tall]) 11 (by kernel_rfl) ⟨HB1.out.drew,HX1.out.drew⟩ (fun hS=>?_)
 have HB2:=Lib.hid HB1.out.drew
 have HX2:=Lib.hid HX1.out.drew
 have HE2:=Lib.hid (HE1.out.below (Below.refl _ _).drew)
 have HR2:=Lib.hid (HR1.out.keep (w':=W1.drew) fun b hb=>rfl)
 have HC2:=Lib.hid (HC1.out.trans ((Below.refl W1.heap.size W1).drew.mono HC1.out.size))
 clear HB1 HX1 HE1 HR1 HC1 hgx1
 generalize W1.drew = W2 at *
 clear W1
 ((try simp only [Act.put,List.setIfInBounds_toArray,List.set_cons_succ,List.set_cons_zero]);refine vT (fuel:=6) hS [0,1,2,3,4] ?_;simp only [Xu,Xj,List.toList_toArray];(repeat (first | go_big_quiet_skip | (go_big_quiet_want;first | (go_big_quiet_op;go_big_quiet_on) | (apply Exists.intro;refine ⟨fun w' hS'=>?_,?_⟩;(· ((have q0:=hS'.1.cell 0;simp [ver,GVer.l,Xg.l,Yj.l,Xf.l,GAns.l,GOp.l] at q0;have y0:=hS'.2.cell 0;have y1:=hS'.2.cell 1;have y2:=hS'.2.cell 2;have y3:=hS'.2.cell 3;simp at y0 y1 y2 y3);go_simp;first | done | rfl | exact ⟨rfl,rfl⟩));go_big_quiet_on;simp only [Act.put,List.setIfInBounds_toArray,List.set_cons_succ,List.set_cons_zero]))));refine wpQuiet_nil ?_;(try dsimp only))
 (refine Xh 5 (by kernel_rfl) (fun K hK=>?_);simp only [Xj,List.toList_toArray])
 go_wp2_with fail
 refine (start_c hf).mono ?_
 rintro e w3 ⟨jw,Fj,rfl,hj,hjn,hb3⟩
 obtain ⟨T,gj,rfl⟩:=job_shape hj
 have HB3:=Lib.hid (HB2.out.belowAll hb3)
 have HX3:=Lib.hid (HX2.out.belowAll hb3)
 have HE3:=Lib.hid (HE2.out.below hb3)
 have HR3:=Lib.hid (HR2.out.keep (w':=w3) fun b hb=>hb3.block b (HR2.out.lt b hb))
 have HC3:=Lib.hid (HC2.out.trans (hb3.mono HC2.out.size))
 have HJ3:=Lib.hid (And.intro hj (fun b hb=>Nat.le_trans HC2.out.size (hjn b hb)))
 clear HB2 HX2 HE2 HR2 HC2 hS hj hjn hb3
 go_wp2_with fail
 refine hK.out _ _ (fun _=>⟨HB3.out,HX3.out⟩) ?_
 clear hK
 have hS:=And.intro HB3.out HX3.out
 ((try simp only [Act.put,List.setIfInBounds_toArray,List.set_cons_succ,List.set_cons_zero]);refine vT (fuel:=0) hS [6,7,8,9,10] ?_;simp only [Xu,Xj,List.toList_toArray];(repeat (first | go_big_quiet_skip | (go_big_quiet_want;first | (go_big_quiet_op;go_big_quiet_on) | (apply Exists.intro;refine ⟨fun w' hS'=>?_,?_⟩;(· (skip;go_simp;first | done | rfl | exact ⟨rfl,rfl⟩));go_big_quiet_on;simp only [Act.put,List.setIfInBounds_toArray,List.set_cons_succ,List.set_cons_zero]))));refine wpQuiet_nil ?_;(try dsimp only))
 refine X9 (by kernel_rfl) ?_ _
 have y0:=HX3.out.cell 0;have y1:=HX3.out.cell 1;have y2:=HX3.out.cell 2;have y3:=HX3.out.cell 3
 simp at y0 y1 y2 y3
 clear hS
 go_wp2_with (first
  | (refine Ym (by rfl) _ _ _ (by rfl) gv 22 _ (by rfl) (by rfl) _ _ ((⟨st,eng,0,call,⟨k,key,val,tall⟩,ans⟩:GVer).l (.pointer (some ⟨gr,0,none⟩)) jv).toArray HB3.out (Nat.le_of_ble_eq_true (by kernel_rfl)) (by kernel_rfl) (by rfl) (by kernel_rfl) ?_;intro w4 hst;have c26:=hst.bk.cell 26;have f26:=hst.bk.free 26;simp [GVer.l,Xg.l,Yj.l,Xf.l,GAns.l,GOp.l] at c26)
  | (have HB5:Hid (Bk (World.setCell _ ⟨gv,26,none⟩ (.iface T (.pointer (some ⟨gj,0,none⟩)))) gv 126 ((⟨st,eng,0,call,⟨k,key,val,tall⟩,ans⟩:GVer).l (.pointer (some ⟨gr,0,none⟩)) (.iface T (.pointer (some ⟨gj,0,none⟩)))).toArray):=Lib.hid (Yb (hst.bk.set_ 26 _) (by kernel_rfl));refine Ym (by rfl) _ _ _ (by rfl) gv 27 _ (by rfl) (by rfl) _ _ ((⟨st,eng,0,call,⟨k,key,val,tall⟩,⟨0,0⟩⟩:GVer).l (.pointer (some ⟨gr,0,none⟩)) (.iface T (.pointer (some ⟨gj,0,none⟩)))).toArray HB5.out (Nat.le_of_ble_eq_true (by kernel_rfl)) (by kernel_rfl) (by rfl) (by kernel_rfl) ?_;intro w6 hst6))
 obtain ⟨Fr,hr,hrF⟩:=HR3.out.rite
 have hG:w3.grownBy w6 (some gv):=grownBy_trans (grownBy_trans hst.grown (Xq w4 gv 26 _)) hst6.grown
 have hz3:w.heap.size≤w3.heap.size:=HC3.out.size
 have hz6:w3.heap.size≤w6.heap.size:=hG.size
 have HRJ:RJo gr (.iface T (.pointer (some ⟨gj,0,none⟩))) M (some (GJob.new st ⟨k,key,val,tall⟩)) w6 (fun b=>b∈Fr∨b∈Fj) :=
  ⟨Fr,Fj,hr.same (fun b hb=>hG.block b (hr.lt b hb) (by intro e;cases e;exact hg (hrF _ hb))),HJ3.out.1.same (fun b hb=>hG.block b (HJ3.out.1.lt b hb) (by intro e;cases e;have:=HJ3.out.2 _ hb;omega)),fun b hb hx=>by have:=HL.out b (hrF b hb);have:=HJ3.out.2 b hx;omega,fun b=>Iff.rfl⟩
 have HB6:=Lib.hid hst6.bk
 have HRJ6:=Lib.hid HRJ
 have hg6:¬ (fun b=>b∈Fr∨b∈Fj) gv:=fun h=>by
  rcases h with h | h
  ·exact hg (hrF _ h)
  ·have:=HJ3.out.2 _ h;omega
 have HG6:=Lib.hid hG
 clear HRJ hst hst6 hG c26 f26 HB5 HR3 hr HX3 HE3 HB3 y0 y1 y2 y3
 refine (vbeg_c ⟨st,eng,0,call,⟨k,key,val,tall⟩,some (GJob.new st ⟨k,key,val,tall⟩),.zero,M⟩ gv gr _ w6 _ HB6.out HRJ6.out hg6 HOK.out.1 HOK.out.2.1).mono ?_
 rintro e w7 ⟨rfl,b7,c7,F7,r7,n7,l7,a7⟩
 have H7:=Lib.hid (And.intro b7 (And.intro c7 (And.intro r7 (And.intro l7 a7))))
 clear b7 c7 r7 l7 a7 HB6 HRJ6
 go_wp2_with fail
 refine (go_mem _ gv gr _ w7 F7 H7.out.1 H7.out.2.2.1 n7 HOK.out.2.2).mono ?_
 rintro e w8 ⟨rfl,b8,c8,F8,r8,n8,l8,a8⟩
 have H8:=Lib.hid (And.intro b8 (And.intro c8 (And.intro r8 (And.intro l8 a8))))
 clear b8 c8 r8 l8 a8
 go_wp2
 have hz7:w6.heap.size≤w7.heap.size:=H7.out.2.1.size
 have hz8:w7.heap.size≤w8.heap.size:=H8.out.2.1.size
 have f7:∀ b,F7 b→F b∨w.heap.size≤b:=fun b hb=>by
  rcases H7.out.2.2.2.2 b hb with (h | h) | h
  ·exact Or.inl (hrF b h)
  ·exact Or.inr (HJ3.out.2 b h)
  ·exact Or.inr (by omega)
 have f8:∀ b,F8 b→F b∨w.heap.size≤b:=fun b hb=>by
  rcases H8.out.2.2.2.2 b hb with h | h
  ·exact f7 b h
  ·exact Or.inr (by omega)
 refine bodyPost_ret (v:=.nilIface) (by first | exact results_none rfl _ _ _ | simp [results,Tryz.results36,go_sem] | rfl) rfl ?_
 refine ⟨_,rfl,H8.out.1,⟨H8.out.2.1.os.trans (H7.out.2.1.os.trans (HG6.out.os.trans HC3.out.os)),H8.out.2.1.tape.trans (H7.out.2.1.tape.trans (HG6.out.tape.trans HC3.out.tape)),H8.out.2.1.output.trans (H7.out.2.1.output.trans (HG6.out.output.trans HC3.out.output)),by omega,fun b hb hn=>?_⟩,F8,H8.out.2.2.1,n8,H8.out.2.2.2.1,f8⟩
 have hn1:b≠gv:=fun e=>hn (Or.inl e)
 have hn2:¬ F b:=fun e=>hn (Or.inr e)
 refine (H8.out.2.1.far b (by omega) fun h=>?_).trans ((H7.out.2.1.far b (by omega) fun h=>?_).trans ((HG6.out.block b (by omega) (fun e=>hn1 (by cases e;rfl))).trans (HC3.out.block b hb)))
 ·rcases h with h | h
  ·exact hn1 h
  ·rcases f7 b h with h | h
   ·exact hn2 h
   ·omega
 ·rcases h with h | h | h
  ·exact hn1 h
  ·exact hn2 (hrF b h)
  ·have:=HJ3.out.2 b h;omega
end Go.Proofs.YtaipogljokblkaaGreatDoor
