/- The laws of lots: scripts that lie in blocks while a law runs. -/
import Derived.Test.YthecbeejlpgdaaaDoorLawA
import Derived.Test.YthecbeejlpgdaaaDoorPlainA
import Derived.Deep.RegionHeld3
namespace Go.Proofs.YthecbeejlpgdaaaDoor
open Go Go.RowKit
set_option linter.unusedSimpArgs false
set_option linter.unusedVariables false
set_option linter.unusedSectionVars false

/-- A block that holds a script. -/
def BkS (w : World) (g : Nat) (x : PScr) (A : Option Addr) (c : Nat) (A' : Option Addr) (c' : Nat) : Prop :=
  Bk w g 29 #[.int .i64 x.st, .int .i64 x.en, .int .i64 x.th, .int .i64 x.sl, .int .i64 x.no, .slice A x.ops.length c, .slice A' x.picks.length c']
theorem BkS.cells {w : World} {g : Nat} {x : PScr} {A : Option Addr} {c : Nat} {A' : Option Addr} {c' : Nat} (h : BkS w g x A c A' c') :
    w.cell? ⟨g, 0, none⟩ = some (.int .i64 x.st) ∧ w.cell? ⟨g, 1, none⟩ = some (.int .i64 x.en) ∧ w.cell? ⟨g, 2, none⟩ = some (.int .i64 x.th) ∧ w.cell? ⟨g, 3, none⟩ = some (.int .i64 x.sl) ∧ w.cell? ⟨g, 4, none⟩ = some (.int .i64 x.no) ∧
    w.cell? ⟨g, 5, none⟩ = some (.slice A x.ops.length c) ∧ w.cell? ⟨g, 6, none⟩ = some (.slice A' x.picks.length c') := by
  unfold BkS at h
  refine ⟨?_, ?_, ?_, ?_, ?_, ?_, ?_⟩ <;> rw [h.cell] <;> rfl

/-- A script in its block, its slices, the sentinel; nothing older has changed. -/
structure SW (w0 w : World) (T : TypeId) (u : Value) (x : PScr) (g : Nat) (A : Option Addr) (c : Nat) (A' : Option Addr) (c' : Nat) : Prop where
  below : Below w0.heap.size w0 w
  err : w.cell? ⟨0, 0, none⟩ = some (.iface T u)
  k : BkS w g x A c A' c'
  so : Sl w w.heap.size 5 A x.ops.length (tcells x.ops)
  sp : Sl w w.heap.size 1 A' x.picks.length (icells x.picks)

theorem cell_below {w w' : World} {b i : Nat} {u : Value} (h : w.cell? ⟨b, i, none⟩ = some u) (hb : Below w.heap.size w w') : w'.cell? ⟨b, i, none⟩ = some u :=
  (hb.cell (p := ⟨b, i, none⟩) (World.block_lt_of_cell? w _ h)).trans h
section
variable {w0 w w' : World} {T : TypeId} {u : Value} {x : PScr} {g : Nat} {A : Option Addr} {c : Nat} {A' : Option Addr} {c' : Nat}
theorem SW.more (h : SW w0 w T u x g A c A' c') (hb : Below w.heap.size w w') : SW w0 w' T u x g A c A' c' :=
  ⟨h.below.trans (hb.mono h.below.size), cell_below h.err hb, Bk.belowAll h.k hb, (h.so.below hb).more hb.size, (h.sp.below hb).more hb.size⟩
theorem SW.alloc (h : SW w0 w T u x g A c A' c') (o : Obj) : SW w0 (w.alloc o) T u x g A c A' c' := h.more ((Below.refl _ _).alloc (Nat.le_refl _) _)
theorem SW.drew (h : SW w0 w T u x g A c A' c') : SW w0 w.drew T u x g A c A' c' := h.more (Below.refl _ _).drew
theorem SW.drewN (h : SW w0 w T u x g A c A' c') (k : Nat) : SW w0 (w.drewN k) T u x g A c A' c' := h.more (below_drewN (Below.refl _ _) k)
/-- A script that has come back is stored into a new block. -/
theorem SW.store (hb : Below w0.heap.size w0 w) (he : w.cell? ⟨0, 0, none⟩ = some (.iface T u)) (so : Sl w w.heap.size 5 A x.ops.length (tcells x.ops)) (sp : Sl w w.heap.size 1 A' x.picks.length (icells x.picks)) :
    SW w0 (w.alloc (.cells #[.int .i64 x.st, .int .i64 x.en, .int .i64 x.th, .int .i64 x.sl, .int .i64 x.no, .slice A x.ops.length c, .slice A' x.picks.length c'] 29)) T u x w.heap.size A c A' c' :=
  ⟨hb.alloc hb.size _, cell_alloc he _, Bk.at_ rfl, so.alloc _, sp.alloc _⟩
end

theorem Sl.taskAt {w : World} {B b off : Nat} {l : List PTask} (h : Sl w B 5 (some ⟨b, off, none⟩) l.length (tcells l)) {i : Nat} (hi : i < l.length) :
    w.cell? ⟨b, off + i * 5, none⟩ = some (.int .i64 l[i].thread) ∧ w.cell? ⟨b, off + i * 5 + 1, none⟩ = some (.int .i64 l[i].op.kind) ∧ w.cell? ⟨b, off + i * 5 + 2, none⟩ = some (.int .i64 l[i].op.key) ∧
      w.cell? ⟨b, off + i * 5 + 3, none⟩ = some (.int .i64 l[i].op.val) ∧ w.cell? ⟨b, off + i * 5 + 4, none⟩ = some (.int .i64 l[i].op.tall) := by
  obtain ⟨b', o', e, _, c0, c1, c2, c3, c4⟩ := h.task hi
  cases e
  exact ⟨c0, c1, c2, c3, c4⟩
theorem Sl.pickAt {w : World} {B b off : Nat} {l : List Int} (h : Sl w B 1 (some ⟨b, off, none⟩) l.length (icells l)) {i : Nat} (hi : i < l.length) :
    w.cell? ⟨b, off + i, none⟩ = some (.int .i64 l[i]) := by
  obtain ⟨b', o', e, _, c0⟩ := h.pick hi
  cases e
  exact c0

theorem encode_isNo (x : PScr) (A A' : Option Addr) (c c' : Nat) (w : World) (T : TypeId) (u : Value) (hE : w.cell? ⟨0, 0, none⟩ = some (.iface T u))
    (ho : Sl w w.heap.size 5 A x.ops.length (tcells x.ops)) (hp : Sl w w.heap.size 1 A' x.picks.length (icells x.picks))
    (lo : x.ops.length ≤ 9223372036854775807) (lp : x.picks.length ≤ 9223372036854775807) (h : encB x = false) :
    Calls Tryd.prog 16 #[x.v A c A' c'] w fun e w' => e = .returned (.tuple #[.string ⟨#[]⟩, .iface T u]) ∧ Below w.heap.size w w' :=
  (encode_any x A A' c c' w T u hE ho hp lo lp).mono fun _ _ hh => ⟨by have := hh.1; rwa [h] at this, hh.2⟩
theorem encode_yes {sa : ByteArray} (x : PScr) (A A' : Option Addr) (c c' : Nat) (w : World) (T : TypeId) (u : Value) (hE : w.cell? ⟨0, 0, none⟩ = some (.iface T u))
    (ho : Sl w w.heap.size 5 A x.ops.length (tcells x.ops)) (hp : Sl w w.heap.size 1 A' x.picks.length (icells x.picks))
    (lo : x.ops.length ≤ 9223372036854775807) (lp : x.picks.length ≤ 9223372036854775807) (h : encB x = true) (hsa : strOfNums (encNums x) = sa) :
    Calls Tryd.prog 16 #[x.v A c A' c'] w fun e w' => e = .returned (.tuple #[.string sa, .nilIface]) ∧ Below w.heap.size w w' :=
  hsa ▸ encode_is x A A' c c' w T u hE ho hp lo lp h
theorem parishGood_is {r : Bool} (a b c d e : Int) (w : World) (h : goodCfg a b c d e = r) :
    Calls Tryd.prog 19 #[.agg #[.int .i64 a, .int .i64 b, .int .i64 c, .int .i64 d, .int .i64 e]] w (RetB r w) := h ▸ parishGood_any a b c d e w
theorem fits_is {r : Bool} (st : Int) (o : POp) (w : World) (T : TypeId) (u : Value) (hE : w.cell? ⟨0, 0, none⟩ = some (.iface T u)) (h : fitsB st o = r) :
    Calls Tryd.prog 20 #[.int .i64 st, o.v] w (RetB r w) := h ▸ fits_any st o w T u hE

end Go.Proofs.YthecbeejlpgdaaaDoor
