/- Core: CLitS, CVb, CVc, CVe, CVk7, JB. -/
import Derived.Test.YtaipogljokblkaaGreatDoorZ08
import Derived.Test.YtaipogljokblkaaGreatDoorZ14
import Derived.Test.YtaipogljokblkaaGreatDoorZ09
import Derived.Test.YtaipogljokblkaaGreatDoorZ07
import Derived.Test.YtaipogljokblkaaGreatDoorZ26
set_option linter.all false
set_option maxRecDepth 100000
set_option maxHeartbeats 8000000
namespace Go.Proofs.YtaipogljokblkaaGreatDoor
open Go Go.RowKit
set_option linter.unusedSimpArgs false
set_option linter.unusedVariables false
set_option linter.unusedSectionVars false
def litS_env (J:Xn) (W:Xt) (x:Xi):Env:=mkE [J.ii,W.ii,x.ii,(Xt.step W x).1.ii,(Xt.step W x).2.1.ii,(Xt.step (Xt.new J.start J.key) x).1.ii,(Xt.step (Xt.new J.start J.key) x).2.1.ii] [J.bb,W.bb,x.bb,(Xt.step W x).1.bb,(Xt.step W x).2.1.bb,[(Xt.step W x).2.2],(Xt.step (Xt.new J.start J.key) x).1.bb,(Xt.step (Xt.new J.start J.key) x).2.1.bb,[(Xt.step (Xt.new J.start J.key) x).2.2]]
def litS_st:St:=⟨[],[(1,206,(ct [vs 0 9,[.bool (.var 0)],vs 9 4,[.bool (.var 1)],vs 13 12,[.ptr 3 0],vs 25 4,[.bool (.var 2),.int (.var 29)]])),(3,261,(ct [vs 30 9,[.bool (.var 3)],vs 39 4,[.bool (.var 4)],vs 43 15,[.bool (.var 5)],vs 58 4,[.bool (.var 6),.int (.var 62),.bool (.var 7)]]))],[],10,0⟩
def litS_args:List SV:=[.c (.ptr 1 0),.agg ((ct [vs 63 4,[.bool (.var 8),.bool (.var 9)]]))]
def litS_S:List Xs:=[⟨true,162,261,(ct [vs 30 9,[.bool (.var 3)],vs 39 4,[.bool (.var 4)],vs 43 15,[.bool (.var 5)],vs 58 4,[.bool (.var 6),.int (.var 62),.bool (.var 7)]]),[.agg ((ct [vs 63 4,[.bool (.var 8),.bool (.var 9)]]))],.tup [(true,(ct [vs 100 8,[.bool (.var 15)],vs 108 4,[.bool (.var 16)],vs 112 4])),(false,[.bool (.var 17)])],(ct [vs 67 9,[.bool (.var 10)],vs 76 4,[.bool (.var 11)],vs 80 15,[.bool (.var 12)],vs 95 4,[.bool (.var 13),.int (.var 99),.bool (.var 14)]])⟩,⟨true,162,261,(ct [zs 9,[.bool (.lit false)],zs 4,[.bool (.lit false)],zs 4,vs 17 4,vs 17 3,zs 4,[.bool (.lit false)],zs 4,[.bool (.lit false),.int (.lit 0),.bool (.lit false)]]),[.agg ((ct [vs 63 4,[.bool (.var 8),.bool (.var 9)]]))],.tup [(true,(ct [vs 149 8,[.bool (.var 23)],vs 157 4,[.bool (.var 24)],vs 161 4])),(false,[.bool (.var 25)])],(ct [vs 116 9,[.bool (.var 18)],vs 125 4,[.bool (.var 19)],vs 129 15,[.bool (.var 20)],vs 144 4,[.bool (.var 21),.int (.var 148),.bool (.var 22)]])⟩]
theorem litS_any (J:Xn) (W:Xt) (x:Xi) (g1 g2:Nat) (w:World) (h1:Bk w g1 206 (({ J with walk:=some W }:Xn).l (.pointer (some ⟨g2,0,none⟩))).toArray) (h2:Bk w g2 261 (W.l).toArray) (hnd:[g1,g2].Nodup) :Calls Tryz.prog 154 #[.pointer (some ⟨g1,0,none⟩),.agg x.l.toArray] w fun en w'=>∃ F',en = .returned (X8 (Xn.next { J with walk:=some W } x).2)∧LitP w' g1 (Xn.next { J with walk:=some W } x).1 F'∧(∀ b∈F',b∈[g1,g2]∨w.heap.size≤b)∧Chg [g1,g2] w w':=by
 refine p2 (litS_env J W x) litS_S 60 litS_st litS_args 27 206 261 (Xn.next { J with walk:=some W } x) (fun r=>X8 r.2) (fun r q=>r.1.l q) (fun r=>r.1.walk.map fun W=>W.l.toArray) (fun r w q F1=>WalkP w q r.1.walk F1) (Xr (so_self Tryz.func162 fun g w hB=>walk_any W x g w hB) (Xr (so_self Tryz.func162 fun g w hB=>walk_any (Xt.new J.start J.key) x g w hB) Xd)) asN (bl2 (Yb h1 (by kernel_rfl)) (Yb h2 (by kernel_rfl))) hnd (fun _ _ h=>walkP_n h) (fun _ _ _ _ h hb=>walkP_s h hb) ?_
 exact vS10
def vau2_env (J:Xb) (pw:Option Go.Addr) (pi:Option Go.Addr) (x:Xi):Env:=mkV [J.last.ii,J.op.ii,[J.size,J.wanted,J.bucket,J.child],J.base.ii,J.node.ii,J.sentinel.ii,J.answer.ii,J.count.ii,[x.word.gn,x.word.tg,x.word.nm,par J.bucket]] [J.bb,x.bb] [.pointer pw,.pointer pi] (Yk rfl)
def vau2_st:St:=⟨[],[(1,186,(ct [[.int (.lit 2)],vs 0 8,[.bool (.var 0)],vs 8 4,[.bool (.var 1)],vs 12 16,[.bool (.var 2)],vs 28 4,[.bool (.var 3)],vs 32 4,[.bool (.var 4),.raw 0,.raw 1],vs 36 6,[.bool (.var 5)]]))],[(.lt (.add (.lit 8) (.var 45)) (.lit 0),false),(.le (.lit 24) (.add (.lit 8) (.var 45)),false),(.le (.lit 0) (.add (.lit 8) (.var 45)),true),(.lt (.add (.lit 8) (.var 45)) (.lit 24),true)],10,0⟩
def vau2_args:List SV:=[.c (.ptr 1 0),.agg ((ct [[.int (.lit 0)],vs 42 3,[.bool (.var 6),.bool (.var 7)]]))]
def vau2_S:List Xs:=[⟨false,182,0,[],[.c (.int (.var 22))],.c (.int (.var 45)),[]⟩]
theorem vau2_any (J:Xb) (pw:Option Go.Addr) (pi:Option Go.Addr) (x:Xi) (g1:Nat) (w:World) (h1:Bk w g1 186 (({ J with pc:=2 }:Xb).l (.pointer pw) (.pointer pi)).toArray) (hb0:0≤J.bucket) (hb1:J.bucket < 8):Calls Tryz.prog 176 #[.pointer (some ⟨g1,0,none⟩),.agg ({ x with word:={ x.word with sl:=0 } }:Xi).l.toArray] w fun en w'=>en = .returned (X8 (Xb.based ({ J with pc:=2 }:Xb) ({ x with word:={ x.word with sl:=0 } }:Xi)).2)∧Bk w' g1 186 ((Xb.based ({ J with pc:=2 }:Xb) ({ x with word:={ x.word with sl:=0 } }:Xi)).1.l (.pointer pw) (.pointer pi)).toArray∧Chg [g1] w w':=by
 refine p1 (vau2_env J pw pi x) vau2_S 80 vau2_st vau2_args (Xb.based ({ J with pc:=2 }:Xb) ({ x with word:={ x.word with sl:=0 } }:Xi)) (fun r=>(X8 r.2,(r.1.l (.pointer pw) (.pointer pi)).toArray)) (Xr (Yd Tryz.func182 fun w=>par_any _ w hb0 hb1) Xd) (asC (vb_a (b:=(par J.bucket)) (Xz hb0 hb1)) (asC (vb_b (b:=(par J.bucket)) (Xz hb0 hb1)) (asC (vb_c (b:=(par J.bucket)) (Xz hb0 hb1)) (asC (vb_d (b:=(par J.bucket)) (Xz hb0 hb1)) asN)))) h1 ?_
 exact vS2
def vau3_env (J:Xb) (pw:Option Go.Addr) (pi:Option Go.Addr) (x:Xi):Env:=mkV [J.last.ii,J.op.ii,[J.size,J.wanted,J.bucket,J.child],J.base.ii,J.node.ii,J.sentinel.ii,J.answer.ii,J.count.ii,x.ii,[bordr J.child]] [J.bb,[x.word.mark]] [.pointer pw,.pointer pi] (Yk rfl)
def vau3_st:St:=⟨[],[(1,186,(ct [[.int (.lit 3)],vs 0 8,[.bool (.var 0)],vs 8 4,[.bool (.var 1)],vs 12 16,[.bool (.var 2)],vs 28 4,[.bool (.var 3)],vs 32 4,[.bool (.var 4),.raw 0,.raw 1],vs 36 6,[.bool (.var 5)]]))],[],10,0⟩
def vau3_args:List SV:=[.c (.ptr 1 0),.agg ((ct [vs 42 4,[.bool (.var 6),.bool (.lit true)]]))]
def vau3_S:List Xs:=[⟨false,189,0,[],[.c (.int (.var 23))],.c (.int (.var 46)),[]⟩]
theorem vau3_any (J:Xb) (pw:Option Go.Addr) (pi:Option Go.Addr) (x:Xi) (g1:Nat) (w:World) (h1:Bk w g1 186 (({ J with pc:=3 }:Xb).l (.pointer pw) (.pointer pi)).toArray) (hc0:0≤J.child) (hc1:J.child < 8):Calls Tryz.prog 176 #[.pointer (some ⟨g1,0,none⟩),.agg ({ x with ok:=true }:Xi).l.toArray] w fun en w'=>en = .returned (X8 (Xb.create ({ J with pc:=3 }:Xb) ({ x with ok:=true }:Xi)).2)∧Bk w' g1 186 ((Xb.create ({ J with pc:=3 }:Xb) ({ x with ok:=true }:Xi)).1.l (.pointer pw) (.pointer pi)).toArray∧Chg [g1] w w':=by
 refine p1 (vau3_env J pw pi x) vau3_S 80 vau3_st vau3_args (Xb.create ({ J with pc:=3 }:Xb) ({ x with ok:=true }:Xi)) (fun r=>(X8 r.2,(r.1.l (.pointer pw) (.pointer pi)).toArray)) (Xr (Yd Tryz.func189 fun w=>border_any _ w hc0 hc1) Xd) asN h1 ?_
 exact vS2
def vau8_env (J:Xb) (pw:Option Go.Addr) (pi:Option Go.Addr) (x:Xi):Env:=mkV [J.last.ii,J.op.ii,[J.size,J.wanted,J.bucket,J.child],J.base.ii,J.node.ii,J.sentinel.ii,J.answer.ii,J.count.ii,x.ii] [J.bb,[x.word.mark]] [.pointer pw,.pointer pi] (Yk rfl)
def vau8_st:St:=⟨[],[(1,186,(ct [[.int (.lit 8)],vs 0 8,[.bool (.var 0)],vs 8 4,[.bool (.var 1)],vs 12 16,[.bool (.var 2)],vs 28 4,[.bool (.var 3)],vs 32 4,[.bool (.var 4),.raw 0,.raw 1],vs 36 6,[.bool (.var 5)]]))],[(.lt (.add (.lit 8) (.var 23)) (.lit 0),false),(.le (.lit 24) (.add (.lit 8) (.var 23)),false),(.le (.lit 0) (.add (.lit 8) (.var 23)),true),(.lt (.add (.lit 8) (.var 23)) (.lit 24),true)],10,0⟩
def vau8_args:List SV:=[.c (.ptr 1 0),.agg ((ct [vs 42 4,[.bool (.var 6),.bool (.lit true)]]))]
theorem vau8_any (J:Xb) (pw:Option Go.Addr) (pi:Option Go.Addr) (x:Xi) (g1:Nat) (w:World) (h1:Bk w g1 186 (({ J with pc:=8 }:Xb).l (.pointer pw) (.pointer pi)).toArray) (hc0:0≤J.child) (hc1:J.child < 8):Calls Tryz.prog 176 #[.pointer (some ⟨g1,0,none⟩),.agg ({ x with ok:=true }:Xi).l.toArray] w fun en w'=>en = .returned (X8 (Xb.create ({ J with pc:=8 }:Xb) ({ x with ok:=true }:Xi)).2)∧Bk w' g1 186 ((Xb.create ({ J with pc:=8 }:Xb) ({ x with ok:=true }:Xi)).1.l (.pointer pw) (.pointer pi)).toArray∧Chg [g1] w w':=by
 refine p1 (vau8_env J pw pi x) [] 80 vau8_st vau8_args (Xb.create ({ J with pc:=8 }:Xb) ({ x with ok:=true }:Xi)) (fun r=>(X8 r.2,(r.1.l (.pointer pw) (.pointer pi)).toArray)) Xd (asC (vb_a (b:=J.child) ⟨hc0,hc1⟩) (asC (vb_b (b:=J.child) ⟨hc0,hc1⟩) (asC (vb_c (b:=J.child) ⟨hc0,hc1⟩) (asC (vb_d (b:=J.child) ⟨hc0,hc1⟩) asN)))) h1 ?_
 repeat' (first|with_reducible (first|refine pN ?_|refine pA ?_|refine pO ?_|refine pB ?_|refine pF ?_|refine pT ?_|refine po_ff (by first | (show (Xb.pc _==_) = _;with_unfolding_all rfl) | (show (GOp.kind _==_) = _;with_unfolding_all rfl) | (show (Xi.ok _) = _;with_unfolding_all rfl) | (show (Xf.nm _==_) = _;with_unfolding_all rfl) | (show (Xf.sl _==_) = _;with_unfolding_all rfl)) ?_|refine po_tt (by first | (show (Xb.pc _==_) = _;with_unfolding_all rfl) | (show (GOp.kind _==_) = _;with_unfolding_all rfl) | (show (Xi.ok _) = _;with_unfolding_all rfl) | (show (Xf.nm _==_) = _;with_unfolding_all rfl) | (show (Xf.sl _==_) = _;with_unfolding_all rfl)) ?_|refine pC ?_ ?_)|unfold Xb.walk5|refine po_if ?_|refine po_id ?_|refine po_eq (fst_bif _ _ _) ?_|exact l1)
def vau6_env (J:Xb) (pw:Option Go.Addr) (pi:Option Go.Addr) (x:Xi):Env:=mkV [J.last.ii,J.op.ii,[J.size,J.wanted,J.bucket,J.child],J.base.ii,J.node.ii,J.sentinel.ii,J.answer.ii,J.count.ii,x.ii] [J.bb,x.bb] [.pointer pw,.pointer pi] (Yk rfl)
def vau6_st:St:=⟨[],[(1,186,(ct [[.int (.lit 6)],vs 0 8,[.bool (.var 0)],vs 8 4,[.bool (.var 1)],vs 12 16,[.bool (.var 2)],vs 28 4,[.bool (.var 3)],vs 32 4,[.bool (.var 4),.raw 0,.raw 1],vs 36 6,[.bool (.var 5)]]))],[(.lt (.add (.lit 8) (.var 23)) (.lit 0),false),(.le (.lit 24) (.add (.lit 8) (.var 23)),false),(.le (.lit 0) (.add (.lit 8) (.var 23)),true),(.lt (.add (.lit 8) (.var 23)) (.lit 24),true)],10,0⟩
def vau6_args:List SV:=[.c (.ptr 1 0),.agg ((ct [vs 42 4,[.bool (.var 6),.bool (.var 7)]]))]
theorem vau6_any (J:Xb) (pw:Option Go.Addr) (pi:Option Go.Addr) (x:Xi) (g1:Nat) (w:World) (h1:Bk w g1 186 (({ J with pc:=6 }:Xb).l (.pointer pw) (.pointer pi)).toArray) (hc0:0≤J.child) (hc1:J.child < 8):Calls Tryz.prog 176 #[.pointer (some ⟨g1,0,none⟩),.agg x.l.toArray] w fun en w'=>en = .returned (X8 (Xb.create ({ J with pc:=6 }:Xb) x).2)∧Bk w' g1 186 ((Xb.create ({ J with pc:=6 }:Xb) x).1.l (.pointer pw) (.pointer pi)).toArray∧Chg [g1] w w':=by
 refine p1 (vau6_env J pw pi x) [] 80 vau6_st vau6_args (Xb.create ({ J with pc:=6 }:Xb) x) (fun r=>(X8 r.2,(r.1.l (.pointer pw) (.pointer pi)).toArray)) Xd (asC (vb_a (b:=J.child) ⟨hc0,hc1⟩) (asC (vb_b (b:=J.child) ⟨hc0,hc1⟩) (asC (vb_c (b:=J.child) ⟨hc0,hc1⟩) (asC (vb_d (b:=J.child) ⟨hc0,hc1⟩) asN)))) h1 ?_
 exact vS2
def vau9_env (J:Xb) (pw:Option Go.Addr) (pi:Option Go.Addr) (x:Xi):Env:=mkV [J.last.ii,J.op.ii,[J.size,J.wanted,J.bucket,J.child],J.base.ii,J.node.ii,J.sentinel.ii,J.answer.ii,J.count.ii,[x.word.gn,x.word.tg,x.word.nm]] [J.bb,x.bb] [.pointer pw,.pointer pi] (Yk rfl)
def vau9_st:St:=⟨[],[(1,186,(ct [[.int (.lit 9)],vs 0 8,[.bool (.var 0)],vs 8 4,[.bool (.var 1)],vs 12 16,[.bool (.var 2)],vs 28 4,[.bool (.var 3)],vs 32 4,[.bool (.var 4),.raw 0,.raw 1],vs 36 6,[.bool (.var 5)]]))],[(.lt (.add (.lit 8) (.var 23)) (.lit 0),false),(.le (.lit 24) (.add (.lit 8) (.var 23)),false),(.le (.lit 0) (.add (.lit 8) (.var 23)),true),(.lt (.add (.lit 8) (.var 23)) (.lit 24),true)],10,0⟩
def vau9_args:List SV:=[.c (.ptr 1 0),.agg ((ct [[.int (.lit 0)],vs 42 3,[.bool (.var 6),.bool (.var 7)]]))]
theorem vau9_any (J:Xb) (pw:Option Go.Addr) (pi:Option Go.Addr) (x:Xi) (g1:Nat) (w:World) (h1:Bk w g1 186 (({ J with pc:=9 }:Xb).l (.pointer pw) (.pointer pi)).toArray) (hc0:0≤J.child) (hc1:J.child < 8):Calls Tryz.prog 176 #[.pointer (some ⟨g1,0,none⟩),.agg ({ x with word:={ x.word with sl:=0 } }:Xi).l.toArray] w fun en w'=>en = .returned (X8 (Xb.create ({ J with pc:=9 }:Xb) ({ x with word:={ x.word with sl:=0 } }:Xi)).2)∧Bk w' g1 186 ((Xb.create ({ J with pc:=9 }:Xb) ({ x with word:={ x.word with sl:=0 } }:Xi)).1.l (.pointer pw) (.pointer pi)).toArray∧Chg [g1] w w':=by
 refine p1 (vau9_env J pw pi x) [] 80 vau9_st vau9_args (Xb.create ({ J with pc:=9 }:Xb) ({ x with word:={ x.word with sl:=0 } }:Xi)) (fun r=>(X8 r.2,(r.1.l (.pointer pw) (.pointer pi)).toArray)) Xd (asC (vb_a (b:=J.child) ⟨hc0,hc1⟩) (asC (vb_b (b:=J.child) ⟨hc0,hc1⟩) (asC (vb_c (b:=J.child) ⟨hc0,hc1⟩) (asC (vb_d (b:=J.child) ⟨hc0,hc1⟩) asN)))) h1 ?_
 exact vS2
def vau12_env (J:Xb) (pw:Option Go.Addr) (pi:Option Go.Addr) (x:Xi):Env:=mkV [J.last.ii,J.op.ii,[J.size,J.wanted,J.bucket,J.child],J.base.ii,J.node.ii,J.sentinel.ii,J.answer.ii,J.count.ii,x.ii] [J.bb,x.bb] [.pointer pw,.pointer pi] (Yk rfl)
def vau12_st:St:=⟨[],[(1,186,(ct [[.int (.lit 12)],vs 0 8,[.bool (.var 0)],vs 8 4,[.bool (.var 1)],vs 12 16,[.bool (.var 2)],vs 28 4,[.bool (.var 3)],vs 32 4,[.bool (.var 4),.raw 0,.raw 1],vs 36 6,[.bool (.var 5)]]))],[],10,0⟩
def vau12_args:List SV:=[.c (.ptr 1 0),.agg ((ct [vs 42 4,[.bool (.var 6),.bool (.var 7)]]))]
theorem vau12_any (J:Xb) (pw:Option Go.Addr) (pi:Option Go.Addr) (x:Xi) (g1:Nat) (w:World) (h1:Bk w g1 186 (({ J with pc:=12 }:Xb).l (.pointer pw) (.pointer pi)).toArray):Calls Tryz.prog 176 #[.pointer (some ⟨g1,0,none⟩),.agg x.l.toArray] w fun en w'=>en = .returned (X8 (Xb.counted ({ J with pc:=12 }:Xb) x).2)∧Bk w' g1 186 ((Xb.counted ({ J with pc:=12 }:Xb) x).1.l (.pointer pw) (.pointer pi)).toArray∧Chg [g1] w w':=by
 refine p1 (vau12_env J pw pi x) [] 80 vau12_st vau12_args (Xb.counted ({ J with pc:=12 }:Xb) x) (fun r=>(X8 r.2,(r.1.l (.pointer pw) (.pointer pi)).toArray)) Xd asN h1 ?_
 refine po_eq (show _ = (bif J.op.kind==7 then _ else _) from (bif_app (J.op.kind==7) (fun z=>(({ J with pc:=13,count:=x.word }:Xb),cswap (root 17) x.word (wcount x.word z))))) ?_
 exact vS2
def vau13_env (J:Xb) (pw:Option Go.Addr) (pi:Option Go.Addr) (x:Xi):Env:=mkV [J.last.ii,J.op.ii,[J.size,J.wanted,J.bucket,J.child],J.base.ii,J.node.ii,J.sentinel.ii,J.answer.ii,J.count.ii,x.ii] [J.bb,x.bb] [.pointer pw,.pointer pi] (Yk rfl)
def vau13_st:St:=⟨[],[(1,186,(ct [[.int (.lit 13)],vs 0 8,[.bool (.var 0)],vs 8 4,[.bool (.var 1)],vs 12 16,[.bool (.var 2)],vs 28 4,[.bool (.var 3)],vs 32 4,[.bool (.var 4),.raw 0,.raw 1],vs 36 6,[.bool (.var 5)]]))],[],10,0⟩
def vau13_args:List SV:=[.c (.ptr 1 0),.agg ((ct [vs 42 4,[.bool (.var 6),.bool (.var 7)]]))]
theorem vau13_any (J:Xb) (pw:Option Go.Addr) (pi:Option Go.Addr) (x:Xi) (g1:Nat) (w:World) (h1:Bk w g1 186 (({ J with pc:=13 }:Xb).l (.pointer pw) (.pointer pi)).toArray):Calls Tryz.prog 176 #[.pointer (some ⟨g1,0,none⟩),.agg x.l.toArray] w fun en w'=>en = .returned (X8 (Xb.added ({ J with pc:=13 }:Xb) x).2)∧Bk w' g1 186 ((Xb.added ({ J with pc:=13 }:Xb) x).1.l (.pointer pw) (.pointer pi)).toArray∧Chg [g1] w w':=by
 refine p1 (vau13_env J pw pi x) [] 80 vau13_st vau13_args (Xb.added ({ J with pc:=13 }:Xb) x) (fun r=>(X8 r.2,(r.1.l (.pointer pw) (.pointer pi)).toArray)) Xd asN h1 ?_
 exact vS2
def vau14_env (J:Xb) (pw:Option Go.Addr) (pi:Option Go.Addr) (x:Xi):Env:=mkV [J.last.ii,J.op.ii,[J.size,J.wanted,J.bucket,J.child],J.base.ii,J.node.ii,J.sentinel.ii,J.answer.ii,J.count.ii,x.ii] [J.bb,x.bb] [.pointer pw,.pointer pi] (Yk rfl)
def vau14_st:St:=⟨[],[(1,186,(ct [[.int (.lit 14)],vs 0 8,[.bool (.var 0)],vs 8 4,[.bool (.var 1)],vs 12 16,[.bool (.var 2)],vs 28 4,[.bool (.var 3)],vs 32 4,[.bool (.var 4),.raw 0,.raw 1],vs 36 6,[.bool (.var 5)]]))],[],10,0⟩
def vau14_args:List SV:=[.c (.ptr 1 0),.agg ((ct [vs 42 4,[.bool (.var 6),.bool (.var 7)]]))]
theorem vau14_any (J:Xb) (pw:Option Go.Addr) (pi:Option Go.Addr) (x:Xi) (g1:Nat) (w:World) (h1:Bk w g1 186 (({ J with pc:=14 }:Xb).l (.pointer pw) (.pointer pi)).toArray):Calls Tryz.prog 176 #[.pointer (some ⟨g1,0,none⟩),.agg x.l.toArray] w fun en w'=>en = .returned (X8 (Xb.resized ({ J with pc:=14 }:Xb) x).2)∧Bk w' g1 186 ((Xb.resized ({ J with pc:=14 }:Xb) x).1.l (.pointer pw) (.pointer pi)).toArray∧Chg [g1] w w':=by
 refine p1 (vau14_env J pw pi x) [] 80 vau14_st vau14_args (Xb.resized ({ J with pc:=14 }:Xb) x) (fun r=>(X8 r.2,(r.1.l (.pointer pw) (.pointer pi)).toArray)) Xd asN h1 ?_
 exact vS2
def vau15_env (J:Xb) (pw:Option Go.Addr) (pi:Option Go.Addr) (x:Xi):Env:=mkV [J.last.ii,J.op.ii,[J.size,J.wanted,J.bucket,J.child],J.base.ii,J.node.ii,J.sentinel.ii,J.answer.ii,J.count.ii,x.ii] [J.bb,x.bb] [.pointer pw,.pointer pi] (Yk rfl)
def vau15_st:St:=⟨[],[(1,186,(ct [[.int (.lit 15)],vs 0 8,[.bool (.var 0)],vs 8 4,[.bool (.var 1)],vs 12 16,[.bool (.var 2)],vs 28 4,[.bool (.var 3)],vs 32 4,[.bool (.var 4),.raw 0,.raw 1],vs 36 6,[.bool (.var 5)]]))],[],10,0⟩
def vau15_args:List SV:=[.c (.ptr 1 0),.agg ((ct [vs 42 4,[.bool (.var 6),.bool (.var 7)]]))]
theorem vau15_any (J:Xb) (pw:Option Go.Addr) (pi:Option Go.Addr) (x:Xi) (g1:Nat) (w:World) (h1:Bk w g1 186 (({ J with pc:=15 }:Xb).l (.pointer pw) (.pointer pi)).toArray):Calls Tryz.prog 176 #[.pointer (some ⟨g1,0,none⟩),.agg x.l.toArray] w fun en w'=>en = .returned (X8 (Xb.done ({ J with pc:=15 }:Xb) J.answer).2)∧Bk w' g1 186 ((Xb.done ({ J with pc:=15 }:Xb) J.answer).1.l (.pointer pw) (.pointer pi)).toArray∧Chg [g1] w w':=by
 refine p1 (vau15_env J pw pi x) [] 80 vau15_st vau15_args (Xb.done ({ J with pc:=15 }:Xb) J.answer) (fun r=>(X8 r.2,(r.1.l (.pointer pw) (.pointer pi)).toArray)) Xd asN h1 ?_
 exact vS2
def vau11_env (J:Xb) (pw:Option Go.Addr) (pi:Go.Addr) (x:Xi) (c:Xg):Env:=mkV [J.last.ii,J.op.ii,[J.size,J.wanted,J.bucket,J.child],J.base.ii,J.node.ii,J.sentinel.ii,J.answer.ii,J.count.ii,x.ii,c.ii] [J.bb,x.bb,c.bb] [.pointer pw,.pointer (some pi)] (Yk rfl)
def vau11_st:St:=⟨[],[(1,186,(ct [[.int (.lit 11)],vs 0 8,[.bool (.var 0)],vs 8 4,[.bool (.var 1)],vs 12 16,[.bool (.var 2)],vs 28 4,[.bool (.var 3)],vs 32 4,[.bool (.var 4),.raw 0,.raw 1],vs 36 6,[.bool (.var 5)]]))],[(.nil 1,false)],10,0⟩
def vau11_args:List SV:=[.c (.ptr 1 0),.agg ((ct [vs 42 4,[.bool (.var 6),.bool (.var 7)]]))]
def vau11_S:List Xs:=[⟨false,154,101,[],[.c (.raw 1),.agg ((ct [vs 42 4,[.bool (.var 6),.bool (.var 7)]]))],.agg ((ct [vs 46 8,[.bool (.var 8)],vs 54 4,[.bool (.var 9)],vs 58 4])),[]⟩]
theorem vau11_any {Φ:Phi} {F:Nat→Prop} (J:Xb) (pw:Option Go.Addr) (pi:Go.Addr) (x:Xi) (c:Xg) (g1:Nat) (w:World) (h1:Bk w g1 186 (({ J with pc:=11 }:Xb).l (.pointer pw) (.pointer (some pi))).toArray) (H0:∀ w F,Φ.P 0 w F→(∀ b,F b→b < w.heap.size)→Calls Tryz.prog 154 #[.pointer (some pi),.agg x.l.toArray] w fun en w'=>en = .returned (.agg c.l.toArray)∧Opq Φ 1 F none w w') (f1:Φ.P 0 w F) (f2:¬ F g1) (f3:∀ b,F b→b < w.heap.size):Calls Tryz.prog 176 #[.pointer (some ⟨g1,0,none⟩),.agg x.l.toArray] w fun en w'=>EPost Φ 1 F g1 186 ((Xb.finC ({ J with pc:=11 }:Xb) c).1.l (.pointer pw) (.pointer (some pi))).toArray (X8 (Xb.finC ({ J with pc:=11 }:Xb) c).2) w en w':=by
 refine pE (vau11_env J pw pi x c) vau11_S 60 vau11_st vau11_args (Xb.finC ({ J with pc:=11 }:Xb) c) (fun r=>(X8 r.2,1,(r.1.l (.pointer pw) (.pointer (some pi))).toArray)) (X6 (so_eff 0 1 fun hq w F hP hb=>Yr Tryz.func154 (H0 w F hP hb)) sumsE_nil) (asC rfl asN) h1 f1 f2 f3 ?_
 exact vS6
def vd2_7_env (J:Xb) (pw:Option Go.Addr) (pi:Option Go.Addr) (x:Xi):Env:=mkV [J.last.ii,[J.op.key,J.op.val,J.op.tall,J.size,J.wanted,J.bucket,J.child],J.base.ii,J.node.ii,J.sentinel.ii,J.answer.ii,J.count.ii,x.ii,[ordr J.op.key,par J.wanted,par (par J.wanted),par (par (par J.wanted))]] [J.bb,x.bb] [.pointer pw,.pointer pi] (Yk rfl)
def vd2_7_st:St:=⟨[],[(1,186,(ct [[.int (.lit 2)],vs 0 8,[.bool (.var 0)],vs 8 4,[.bool (.var 1)],vs 12 4,[.int (.lit 7)],vs 16 11,[.bool (.var 2)],vs 27 4,[.bool (.var 3)],vs 31 4,[.bool (.var 4),.raw 0,.raw 1],vs 35 6,[.bool (.var 5)]]))],[(.eq (.var 41) (.lit 0),false)],10,0⟩
def vd2_7_args:List SV:=[.c (.ptr 1 0),.agg ((ct [vs 41 4,[.bool (.var 6),.bool (.var 7)]]))]
def vd2_7_S:List Xs:=[⟨false,190,0,[],[.c (.int (.var 16))],.c (.int (.var 45)),[]⟩,⟨false,182,0,[],[.c (.int (.var 20))],.c (.int (.var 46)),[]⟩,⟨false,182,0,[],[.c (.int (.var 46))],.c (.int (.var 47)),[]⟩,⟨false,182,0,[],[.c (.int (.var 47))],.c (.int (.var 48)),[]⟩]
theorem vd2_7_any (J:Xb) (pw:Option Go.Addr) (pi:Option Go.Addr) (x:Xi) (g1:Nat) (w:World) (h1:Bk w g1 186 (({ J with pc:=2,op:={ J.op with kind:=7 } }:Xb).l (.pointer pw) (.pointer pi)).toArray) (hw0:0≤J.wanted) (hw1:J.wanted < 8) (hk0:0≤J.op.key) (hk1:J.op.key < 256) (hway:OnWay J.wanted J.bucket) (hsl:(x.word.sl==0) = false):Calls Tryz.prog 176 #[.pointer (some ⟨g1,0,none⟩),.agg x.l.toArray] w fun en w'=>VPost pw pi (Xb.based ({ J with pc:=2,op:={ J.op with kind:=7 } }:Xb) x).1 (X8 (Xb.based ({ J with pc:=2,op:={ J.op with kind:=7 } }:Xb) x).2) (J.inner) g1 w en w':=by
 refine poV (e:=(vd2_7_env J pw pi x)) (S:=vd2_7_S) (n:=120) (st:=vd2_7_st) (args:=vd2_7_args) (r:=(Xb.based ({ J with pc:=2,op:={ J.op with kind:=7 } }:Xb) x)) (V:=fun r=>X8 r.2) (pw:=pw) (pi:=pi) (I0:=J.inner) mixed (Xr (Yd Tryz.func190 fun w=>order_any _ w hk0 hk1) (Xr (Yd Tryz.func182 fun w=>par_any _ w hw0 hw1) (Xr (Yd Tryz.func182 fun w=>par_any _ w (Xz hw0 hw1).1 (Xz hw0 hw1).2) (Xr (Yd Tryz.func182 fun w=>par_any _ w (Xz ((Xz hw0 hw1).1) ((Xz hw0 hw1).2)).1 (Xz ((Xz hw0 hw1).1) ((Xz hw0 hw1).2)).2) Xd)))) rfl (asC hsl asN) (Yb h1 (by kernel_rfl)) rfl ?_
 exact vS3
def vd3_7_env (J:Xb) (pw:Option Go.Addr) (pi:Option Go.Addr) (x:Xi):Env:=mkV [J.last.ii,[J.op.key,J.op.val,J.op.tall,J.size,J.wanted,J.bucket,J.child],J.base.ii,J.node.ii,J.sentinel.ii,J.answer.ii,J.count.ii,x.ii,[ordr J.op.key]] [J.bb,[x.word.mark]] [.pointer pw,.pointer pi] (Yk rfl)
def vd3_7_st:St:=⟨[],[(1,186,(ct [[.int (.lit 3)],vs 0 8,[.bool (.var 0)],vs 8 4,[.bool (.var 1)],vs 12 4,[.int (.lit 7)],vs 16 11,[.bool (.var 2)],vs 27 4,[.bool (.var 3)],vs 31 4,[.bool (.var 4),.raw 0,.raw 1],vs 35 6,[.bool (.var 5)]]))],[],10,0⟩
def vd3_7_args:List SV:=[.c (.ptr 1 0),.agg ((ct [vs 41 4,[.bool (.var 6),.bool (.lit false)]]))]
def vd3_7_S:List Xs:=[⟨false,190,0,[],[.c (.int (.var 16))],.c (.int (.var 45)),[]⟩]
theorem vd3_7_any (J:Xb) (pw:Option Go.Addr) (pi:Option Go.Addr) (x:Xi) (g1:Nat) (w:World) (h1:Bk w g1 186 (({ J with pc:=3,op:={ J.op with kind:=7 } }:Xb).l (.pointer pw) (.pointer pi)).toArray) (hw0:0≤J.wanted) (hw1:J.wanted < 8) (hk0:0≤J.op.key) (hk1:J.op.key < 256):Calls Tryz.prog 176 #[.pointer (some ⟨g1,0,none⟩),.agg ({ x with ok:=false }:Xi).l.toArray] w fun en w'=>VPost pw pi (Xb.create ({ J with pc:=3,op:={ J.op with kind:=7 } }:Xb) ({ x with ok:=false }:Xi)).1 (X8 (Xb.create ({ J with pc:=3,op:={ J.op with kind:=7 } }:Xb) ({ x with ok:=false }:Xi)).2) (J.inner) g1 w en w':=by
 refine poV (e:=(vd3_7_env J pw pi x)) (S:=vd3_7_S) (n:=120) (st:=vd3_7_st) (args:=vd3_7_args) (r:=(Xb.create ({ J with pc:=3,op:={ J.op with kind:=7 } }:Xb) ({ x with ok:=false }:Xi))) (V:=fun r=>X8 r.2) (pw:=pw) (pi:=pi) (I0:=J.inner) mixed (Xr (Yd Tryz.func190 fun w=>order_any _ w hk0 hk1) Xd) rfl asN (Yb h1 (by kernel_rfl)) rfl ?_
 exact vS3
def vd9_7_env (J:Xb) (pw:Option Go.Addr) (pi:Option Go.Addr) (x:Xi):Env:=mkV [J.last.ii,[J.op.key,J.op.val,J.op.tall,J.size,J.wanted,J.bucket,J.child],J.base.ii,J.node.ii,J.sentinel.ii,J.answer.ii,J.count.ii,x.ii,[ordr J.op.key,par J.wanted,par (par J.wanted),par (par (par J.wanted))]] [J.bb,x.bb] [.pointer pw,.pointer pi] (Yk rfl)
def vd9_7_st:St:=⟨[],[(1,186,(ct [[.int (.lit 9)],vs 0 8,[.bool (.var 0)],vs 8 4,[.bool (.var 1)],vs 12 4,[.int (.lit 7)],vs 16 11,[.bool (.var 2)],vs 27 4,[.bool (.var 3)],vs 31 4,[.bool (.var 4),.raw 0,.raw 1],vs 35 6,[.bool (.var 5)]]))],[(.eq (.var 41) (.lit 0),false)],10,0⟩
def vd9_7_args:List SV:=[.c (.ptr 1 0),.agg ((ct [vs 41 4,[.bool (.var 6),.bool (.var 7)]]))]
def vd9_7_S:List Xs:=[⟨false,190,0,[],[.c (.int (.var 16))],.c (.int (.var 45)),[]⟩,⟨false,182,0,[],[.c (.int (.var 20))],.c (.int (.var 46)),[]⟩,⟨false,182,0,[],[.c (.int (.var 46))],.c (.int (.var 47)),[]⟩,⟨false,182,0,[],[.c (.int (.var 47))],.c (.int (.var 48)),[]⟩]
theorem vd9_7_any (J:Xb) (pw:Option Go.Addr) (pi:Option Go.Addr) (x:Xi) (g1:Nat) (w:World) (h1:Bk w g1 186 (({ J with pc:=9,op:={ J.op with kind:=7 } }:Xb).l (.pointer pw) (.pointer pi)).toArray) (hw0:0≤J.wanted) (hw1:J.wanted < 8) (hk0:0≤J.op.key) (hk1:J.op.key < 256) (hway:OnWay J.wanted J.child) (hsl:(x.word.sl==0) = false):Calls Tryz.prog 176 #[.pointer (some ⟨g1,0,none⟩),.agg x.l.toArray] w fun en w'=>VPost pw pi (Xb.create ({ J with pc:=9,op:={ J.op with kind:=7 } }:Xb) x).1 (X8 (Xb.create ({ J with pc:=9,op:={ J.op with kind:=7 } }:Xb) x).2) (J.inner) g1 w en w':=by
 refine poV (e:=(vd9_7_env J pw pi x)) (S:=vd9_7_S) (n:=120) (st:=vd9_7_st) (args:=vd9_7_args) (r:=(Xb.create ({ J with pc:=9,op:={ J.op with kind:=7 } }:Xb) x)) (V:=fun r=>X8 r.2) (pw:=pw) (pi:=pi) (I0:=J.inner) mixed (Xr (Yd Tryz.func190 fun w=>order_any _ w hk0 hk1) (Xr (Yd Tryz.func182 fun w=>par_any _ w hw0 hw1) (Xr (Yd Tryz.func182 fun w=>par_any _ w (Xz hw0 hw1).1 (Xz hw0 hw1).2) (Xr (Yd Tryz.func182 fun w=>par_any _ w (Xz ((Xz hw0 hw1).1) ((Xz hw0 hw1).2)).1 (Xz ((Xz hw0 hw1).1) ((Xz hw0 hw1).2)).2) Xd)))) rfl (asC hsl asN) (Yb h1 (by kernel_rfl)) rfl ?_
 exact vS3
def vd10_7_env (J:Xb) (pw:Option Go.Addr) (pi:Option Go.Addr) (x:Xi):Env:=mkV [J.last.ii,[J.op.key,J.op.val,J.op.tall,J.size,J.wanted,J.bucket,J.child],J.base.ii,J.node.ii,J.sentinel.ii,J.answer.ii,J.count.ii,x.ii,[ordr J.op.key,par J.wanted,par (par J.wanted),par (par (par J.wanted))]] [J.bb,x.bb] [.pointer pw,.pointer pi] (Yk rfl)
def vd10_7_st:St:=⟨[],[(1,186,(ct [[.int (.lit 10)],vs 0 8,[.bool (.var 0)],vs 8 4,[.bool (.var 1)],vs 12 4,[.int (.lit 7)],vs 16 11,[.bool (.var 2)],vs 27 4,[.bool (.var 3)],vs 31 4,[.bool (.var 4),.raw 0,.raw 1],vs 35 6,[.bool (.var 5)]]))],[],10,0⟩
def vd10_7_args:List SV:=[.c (.ptr 1 0),.agg ((ct [vs 41 4,[.bool (.var 6),.bool (.var 7)]]))]
def vd10_7_S:List Xs:=[⟨false,190,0,[],[.c (.int (.var 16))],.c (.int (.var 45)),[]⟩,⟨false,182,0,[],[.c (.int (.var 20))],.c (.int (.var 46)),[]⟩,⟨false,182,0,[],[.c (.int (.var 46))],.c (.int (.var 47)),[]⟩,⟨false,182,0,[],[.c (.int (.var 47))],.c (.int (.var 48)),[]⟩]
theorem vd10_7_any (J:Xb) (pw:Option Go.Addr) (pi:Option Go.Addr) (x:Xi) (g1:Nat) (w:World) (h1:Bk w g1 186 (({ J with pc:=10,op:={ J.op with kind:=7 } }:Xb).l (.pointer pw) (.pointer pi)).toArray) (hw0:0≤J.wanted) (hw1:J.wanted < 8) (hk0:0≤J.op.key) (hk1:J.op.key < 256) (hway:OnWay J.wanted J.child):Calls Tryz.prog 176 #[.pointer (some ⟨g1,0,none⟩),.agg x.l.toArray] w fun en w'=>VPost pw pi (Xb.create ({ J with pc:=10,op:={ J.op with kind:=7 } }:Xb) x).1 (X8 (Xb.create ({ J with pc:=10,op:={ J.op with kind:=7 } }:Xb) x).2) (J.inner) g1 w en w':=by
 refine poV (e:=(vd10_7_env J pw pi x)) (S:=vd10_7_S) (n:=120) (st:=vd10_7_st) (args:=vd10_7_args) (r:=(Xb.create ({ J with pc:=10,op:={ J.op with kind:=7 } }:Xb) x)) (V:=fun r=>X8 r.2) (pw:=pw) (pi:=pi) (I0:=J.inner) mixed (Xr (Yd Tryz.func190 fun w=>order_any _ w hk0 hk1) (Xr (Yd Tryz.func182 fun w=>par_any _ w hw0 hw1) (Xr (Yd Tryz.func182 fun w=>par_any _ w (Xz hw0 hw1).1 (Xz hw0 hw1).2) (Xr (Yd Tryz.func182 fun w=>par_any _ w (Xz ((Xz hw0 hw1).1) ((Xz hw0 hw1).2)).1 (Xz ((Xz hw0 hw1).1) ((Xz hw0 hw1).2)).2) Xd)))) rfl asN (Yb h1 (by kernel_rfl)) rfl ?_
 exact vS3
theorem lit_any (J:Xn) (x:Xi) (g:Nat) (F:List Nat) (w:World) (h:LitP w g J F) :
  Calls Tryz.prog 154 #[.pointer (some ⟨g,0,none⟩),.agg x.l.toArray] w (JRet (fun w F=>LitP w g (J.next x).1 F) (X8 (J.next x).2) F w):=by
 obtain ⟨⟨q,F1,rfl,hb,hw⟩,hn⟩:=h
 cases hW:J.walk with
 | none =>
  rw [hW] at hw
  obtain ⟨rfl,rfl⟩:=hw
  have e:({ J with walk:=none }:Xn) = J:=by cases J;simp only at hW;subst hW;rfl
  have:=litN_any J x g w (by rw [e];exact hb) (by simp)
  rw [e] at this
  exact this
 | some W =>
  rw [hW] at hw
  obtain ⟨g2,rfl,rfl,hb2⟩:=hw
  have e:({ J with walk:=some W }:Xn) = J:=by cases J;simp only at hW;subst hW;rfl
  have:=litS_any J W x g g2 w (by rw [e];exact hb) hb2 hn
  rw [e] at this
  exact this
def litPhi (gi:Nat) (I I':Xn):Phi:=⟨fun i w F=>if i = 0 then ∃ Fl,LitP w gi I Fl∧∀ b,F b↔b∈Fl else ∃ F1,LitP w gi I' (gi :: F1)∧∀ b,F b↔b∈gi :: F1,fun i w w' F h hs=>by
 split at h
 ·rename_i h0
  obtain ⟨Fl,h1,h2⟩:=h
  rw [if_pos h0]
  exact ⟨Fl,h1.same fun b hb=>hs b ((h2 b).2 hb),h2⟩
 ·rename_i h0
  obtain ⟨Fl,h1,h2⟩:=h
  rw [if_neg h0]
  exact ⟨Fl,h1.same fun b hb=>hs b ((h2 b).2 hb),h2⟩⟩
theorem opq_of {Φ:Phi} {j:Nat} {F:Nat→Prop} {Fl:List Nat} {w w':World} (hc:Chg Fl w w') (hF:∀ b,b∈Fl→F b) (hfin:∃ F':Nat→Prop,Φ.P j w' F'∧(∀ b,F' b→F b∨w.heap.size≤b)∧∀ b,F' b→b < w'.heap.size):Opq Φ j F none w w' :=
 ⟨hc.os,hc.tape,hc.output,hc.size,fun b hb _ hf=>hc.far b hb fun hm=>hf (hF b hm),hfin⟩
theorem v_pc {J:Xb} {n:Int} (h:J.pc = n):({ J with pc:=n }:Xb) = J:=by subst h;rfl
theorem v_pck {J:Xb} {n k:Int} (h:J.pc = n) (h1:J.op.kind = k):({ J with pc:=n,op:={ J.op with kind:=k } }:Xb) = J:=by subst h;subst h1;rfl
theorem v_pcw {J:Xb} {n:Int} {o:Option Xt} (h:J.pc = n) (h1:J.walk = o):({ J with pc:=n,walk:=o }:Xb) = J:=by subst h;subst h1;rfl
theorem x_nm {x:Xi} {n:Int} (h:x.word.nm = n):({ x with word:={ x.word with nm:=n } }:Xi) = x:=by subst h;rfl
theorem x_sl {x:Xi} {n:Int} (h:x.word.sl = n):({ x with word:={ x.word with sl:=n } }:Xi) = x:=by subst h;rfl
theorem x_ok {x:Xi} {b:Bool} (h:x.ok = b):({ x with ok:=b }:Xi) = x:=by subst h;rfl
structure VauOk (J:Xb):Prop where
 pc:J.pc = 0∨J.pc = 1∨J.pc = 2∨J.pc = 3∨J.pc = 4∨J.pc = 5∨J.pc = 6∨J.pc = 7∨J.pc = 8∨J.pc = 9∨J.pc = 10∨J.pc = 11∨J.pc = 12∨J.pc = 13∨J.pc = 14∨J.pc = 15
 kind:J.op.kind = 6∨J.op.kind = 7∨J.op.kind = 8
 k0:0≤J.op.key
 k1:J.op.key < 256
 w0:0≤J.wanted
 w1:J.wanted < 8
 way:J.pc = 2→OnWay J.wanted J.bucket
 b0:0≤J.bucket
 b1:J.bucket < 8
 wayc:J.pc = 9∨J.pc = 10→OnWay J.wanted J.child
 c0:0≤J.child
 c1:J.child < 8
 walk:J.pc = 5∨J.pc = 7→∃ W,J.walk = some W
 inner:J.pc = 11→∃ I,J.inner = some I
section
variable {J:Xb} {x:Xi}
theorem n0 (h:J.pc = 0):J.next x = Xb.next ({ J with pc:=0 }:Xb) x:=by rw [v_pc h]
theorem n1 (h:J.pc = 1):J.next x = J.sized x:=by unfold Xb.next;rw [h];rfl
theorem n2 (h:J.pc = 2):J.next x = J.based x:=by unfold Xb.next;rw [h];rfl
theorem n11 (h:J.pc = 11):J.next x = J.fin11 x:=by unfold Xb.next;rw [h];rfl
theorem n12 (h:J.pc = 12):J.next x = J.counted x:=by unfold Xb.next;rw [h];rfl
theorem n13 (h:J.pc = 13):J.next x = J.added x:=by unfold Xb.next;rw [h];rfl
theorem n14 (h:J.pc = 14):J.next x = J.resized x:=by unfold Xb.next;rw [h];rfl
theorem n15 (h:J.pc = 15):J.next x = J.done J.answer:=by unfold Xb.next;rw [h];rfl
theorem nC (h:J.pc = 3∨J.pc = 4∨J.pc = 5∨J.pc = 6∨J.pc = 7∨J.pc = 8∨J.pc = 9∨J.pc = 10):J.next x = J.create x:=by
 unfold Xb.next
 rcases h with h | h | h | h | h | h | h | h <;> rw [h] <;> rfl
end
end Go.Proofs.YtaipogljokblkaaGreatDoor
