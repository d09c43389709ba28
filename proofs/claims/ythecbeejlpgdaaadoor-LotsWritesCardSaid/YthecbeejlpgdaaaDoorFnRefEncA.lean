/- Writing a script, by the reference: what lies in memory. -/
import Derived.Test.YthecbeejlpgdaaaDoorFnEncB
import Derived.Test.YthecbeejlpgdaaaDoorFnRefGd
import Derived.Test.YthecbeejlpgdaaaDoorFnRefA
namespace Go.Proofs.YthecbeejlpgdaaaDoor
open Go Go.RowKit
set_option linter.unusedSimpArgs false
set_option linter.unusedVariables false
set_option linter.unusedSectionVars false

/-- While a script is written. -/
structure RW (w wr : World) (x : PScr) (A A' : Option Addr) (c c' : Nat) (C : Nat) (v : Value) (n : Nat) (bs : List Int) : Prop where
  o : Bk wr w.heap.size 29 #[.int .i64 x.st, .int .i64 x.en, .int .i64 x.th, .int .i64 x.sl, .int .i64 x.no, .slice A x.ops.length c, .slice A' x.picks.length c']
  c : Bk wr C 25 #[.int .i64 x.st, .int .i64 x.en, .int .i64 x.th, .int .i64 x.sl, .int .i64 x.no]
  out : OutRel wr (C + 1) (C + 2) v n (ucells bs)
  hC : w.heap.size < C
  below : Below w.heap.size w wr

section
variable {w wr w' : World} {x : PScr} {A A' : Option Addr} {c c' C n : Nat} {v : Value} {bs : List Int}
theorem RW.more (E : RW w wr x A A' c c' C v n bs) (h : Below wr.heap.size wr w') : RW w w' x A A' c c' C v n bs :=
  ⟨E.o.belowAll h, E.c.belowAll h, E.out.below h, E.hC, E.below.trans (h.mono E.below.size)⟩
theorem RW.alloc (E : RW w wr x A A' c c' C v n bs) (o : Obj) : RW w (wr.alloc o) x A A' c c' C v n bs := E.more ((Below.refl _ _).alloc (Nat.le_refl _) _)
theorem RW.drew (E : RW w wr x A A' c c' C v n bs) : RW w wr.drew x A A' c c' C v n bs := E.more (Below.refl _ _).drew
theorem RW.drewN (E : RW w wr x A A' c c' C v n bs) (k : Nat) : RW w (wr.drewN k) x A A' c c' C v n bs := E.more (below_drewN (Below.refl _ _) k)
theorem RW.lt (E : RW w wr x A A' c c' C v n bs) : C + 1 ≤ wr.heap.size := E.c.lt
theorem RW.st (E : RW w wr x A A' c c' C v n bs) : wr.cell? ⟨C, 0, none⟩ = some (.int .i64 x.st) := by have := E.c.cell 0; simpa using this
theorem RW.picks (E : RW w wr x A A' c c' C v n bs) : wr.cell? ⟨w.heap.size, 6, none⟩ = some (.slice A' x.picks.length c') := by have := E.o.cell 6; simpa using this
theorem RW.ops (E : RW w wr x A A' c c' C v n bs) : wr.cell? ⟨w.heap.size, 5, none⟩ = some (.slice A x.ops.length c) := by have := E.o.cell 5; simpa using this
theorem RW.push {m : Nat} {v' : Value} {ns : List Int} (E : RW w wr x A A' c c' C v n bs) (hown : w'.ownsRow (C + 2) 5 1 v' (n + m) (ucells bs ++ ucells ns)) (hg : wr.grownBy w' v.ownBlock) :
    RW w w' x A A' c c' C v' (n + m) (bs ++ ns) := by
  have hb := E.out.block
  have hC := E.hC
  refine ⟨E.o.grown hg (fun e => ?_), E.c.grown hg (fun e => ?_), .inl (by rw [ucells_append]; exact hown), hC, E.below.grown hg E.below.size (fun g e => ?_)⟩
  · have := hb _ e.symm; omega
  · have := hb _ e.symm; omega
  · have := hb _ e; omega
end


def REncPost (x : PScr) (w : World) (e : Ending) (w' : World) : Prop :=
  (if encB x then e = .returned (.tuple #[.string (strOfNums (encNums x)), .bool true]) else e = .returned (.tuple #[.string ⟨#[]⟩, .bool false])) ∧ Below w.heap.size w w'
theorem rencPost_no {x : PScr} {w w' : World} (h : encB x = false) (hb : Below w.heap.size w w') : REncPost x w (.returned (.tuple #[.string ⟨#[]⟩, .bool false])) w' :=
  ⟨by rw [h]; rfl, hb⟩
theorem rencPost_yes {x : PScr} {w w' : World} (h : encB x = true) (hb : Below w.heap.size w w') : REncPost x w (.returned (.tuple #[.string (strOfNums (encNums x)), .bool true])) w' :=
  ⟨by rw [h]; rfl, hb⟩
theorem refGood_is {b : Bool} (x : PScr) (A A' : Option Addr) (c c' : Nat) (w : World)
    (ho : Sl w w.heap.size 5 A x.ops.length (tcells x.ops)) (hp : Sl w w.heap.size 1 A' x.picks.length (icells x.picks))
    (lo : x.ops.length ≤ 9223372036854775807) (lp : x.picks.length ≤ 9223372036854775807) (h : goodB x = b) :
    Calls Tryd.prog 23 #[x.v A c A' c'] w (RetB b w) := h ▸ refGood_any x A A' c c' w ho hp lo lp

set_option maxHeartbeats 1600000 in
theorem encOk_arith {st : Int} {t : PTask} (h : fitsB st t.op = true) : encOk st t = true ↔
    ((t.op.kind = 1 ∨ t.op.kind = 4) → t.op.val / 256 ≤ 255) ∧ (¬ (t.op.kind = 1 ∨ t.op.kind = 4) → t.op.key ≤ 255 ∧ t.op.val ≤ 255) ∧ (t.op.kind = 6 → st = 5 → t.op.tall = t.op.val % 3 + 1) := by
  rw [fitsB_true, FitsP] at h
  obtain ⟨th, kind, key, val, tall⟩ := t
  simp only at h
  have key3 : encOk st ⟨th, ⟨kind, key, val, tall⟩⟩ = true ↔ partsA ⟨kind, key, val, tall⟩ ≤ 255 ∧ partsB ⟨kind, key, val, tall⟩ ≤ 255 ∧ formOp st kind (partsA ⟨kind, key, val, tall⟩) (partsB ⟨kind, key, val, tall⟩) = ⟨kind, key, val, tall⟩ := by
    simp [encOk, and_assoc]
  rw [key3]
  simp only
  by_cases h14 : kind = 1 ∨ kind = 4
  · have e1 : partsA ⟨kind, key, val, tall⟩ = val / 256 := by simp [partsA, h14]
    have e2 : partsB ⟨kind, key, val, tall⟩ = val % 256 := by simp [partsB, h14]
    rw [e1, e2]
    clear key3 e1 e2
    refine ⟨fun ⟨a1, _, _⟩ => ⟨fun _ => a1, fun h => absurd h14 h, fun h => by omega⟩, fun ⟨b1, _, _⟩ => ⟨b1 h14, by omega, ?_⟩⟩
    unfold formOp
    rw [if_pos h14, POp.mk.injEq]
    omega
  · have e1 : partsA ⟨kind, key, val, tall⟩ = key := by simp [partsA, h14]
    have e2 : partsB ⟨kind, key, val, tall⟩ = val := by simp [partsB, h14]
    rw [e1, e2]
    clear key3 e1 e2
    by_cases h6 : kind = 6
    · by_cases h5 : st = 5
      · refine ⟨fun ⟨a1, a2, a3⟩ => ⟨fun h => absurd h h14, fun _ => ⟨a1, a2⟩, fun _ _ => ?_⟩, fun ⟨_, b2, b3⟩ => ⟨(b2 h14).1, (b2 h14).2, ?_⟩⟩
        · unfold formOp at a3
          rw [if_neg h14, if_pos h6, if_pos h5, POp.mk.injEq] at a3
          omega
        · have := b3 h6 h5
          unfold formOp
          rw [if_neg h14, if_pos h6, if_pos h5, POp.mk.injEq]
          omega
      · refine ⟨fun ⟨a1, a2, a3⟩ => ⟨fun h => absurd h h14, fun _ => ⟨a1, a2⟩, fun _ h => absurd h h5⟩, fun ⟨_, b2, b3⟩ => ⟨(b2 h14).1, (b2 h14).2, ?_⟩⟩
        unfold formOp
        rw [if_neg h14, if_pos h6, if_neg h5, POp.mk.injEq]
        omega
    · refine ⟨fun ⟨a1, a2, a3⟩ => ⟨fun h => absurd h h14, fun _ => ⟨a1, a2⟩, fun h _ => absurd h h6⟩, fun ⟨_, b2, b3⟩ => ⟨(b2 h14).1, (b2 h14).2, ?_⟩⟩
      unfold formOp
      by_cases h78 : kind = 7 ∨ kind = 8
      · rw [if_neg h14, if_neg h6, if_pos h78, POp.mk.injEq]
        omega
      · rw [if_neg h14, if_neg h6, if_neg h78, POp.mk.injEq]
        omega
theorem encOk_ab {st : Int} {t : PTask} (h : fitsB st t.op = true) : encOk st t = true ↔ partsA t.op ≤ 255 ∧ partsB t.op ≤ 255 ∧ (t.op.kind = 6 → st = 5 → t.op.tall = partsB t.op % 3 + 1) := by
  rw [encOk_arith h]
  have hb := fits_bounds h
  by_cases h14 : t.op.kind = 1 ∨ t.op.kind = 4
  · have e1 : partsA t.op = t.op.val / 256 := by simp [partsA, h14]
    have e2 : partsB t.op = t.op.val % 256 := by simp [partsB, h14]
    rw [e1, e2]
    refine ⟨fun ⟨a, _, _⟩ => ⟨a h14, by omega, fun h => by omega⟩, fun ⟨a, _, _⟩ => ⟨fun _ => a, fun h => absurd h14 h, fun h => by omega⟩⟩
  · have e1 : partsA t.op = t.op.key := by simp [partsA, h14]
    have e2 : partsB t.op = t.op.val := by simp [partsB, h14]
    rw [e1, e2]
    refine ⟨fun ⟨_, a, b⟩ => ⟨(a h14).1, (a h14).2, b⟩, fun ⟨a, b, c⟩ => ⟨fun h => absurd h h14, fun _ => ⟨a, b⟩, c⟩⟩
theorem opNums_ab {st : Int} {t : PTask} (h : fitsB st t.op = true) : opNums st t = [t.thread, placeOf (kindsOf st) t.op.kind 0, partsA t.op, partsB t.op] := by
  unfold opNums
  rw [place_same (fits_kind h)]
def is14 (n : Int) : Bool := decide (n = 1 ∨ n = 4)
theorem kind14 (n : Int) : ((n == 1) = true ∧ is14 n = true) ∨ ((n == 1) = false ∧ (n == 4) = true ∧ is14 n = true) ∨ ((n == 1) = false ∧ (n == 4) = false ∧ is14 n = false) := by
  unfold is14
  by_cases h1 : n = 1
  · simp [h1]
  · by_cases h4 : n = 4
    · simp [h4]
    · simp [h1, h4]
theorem parts_14 {o : POp} (h : is14 o.kind = true) : partsA o = o.val / 256 ∧ partsB o = o.val % 256 := by
  have h : o.kind = 1 ∨ o.kind = 4 := by simpa [is14] using h
  simp [partsA, partsB, h]
theorem parts_no {o : POp} (h : is14 o.kind = false) : partsA o = o.key ∧ partsB o = o.val := by
  have h : ¬ (o.kind = 1 ∨ o.kind = 4) := by simpa [is14] using h
  simp [partsA, partsB, h]
theorem encNot {st : Int} {t : PTask} {b : Bool} (h : fitsB st t.op = true) (hb : b = true ↔ ¬ (partsA t.op ≤ 255 ∧ partsB t.op ≤ 255 ∧ (t.op.kind = 6 → st = 5 → t.op.tall = partsB t.op % 3 + 1))) : Value.bool b = Value.bool (!encOk st t) := by
  congr 1
  rw [Bool.eq_iff_iff, hb, ← encOk_ab h]
  simp
theorem encNot_t {st : Int} {t : PTask} (h : fitsB st t.op = true) (hb : ¬ (partsA t.op ≤ 255 ∧ partsB t.op ≤ 255 ∧ (t.op.kind = 6 → st = 5 → t.op.tall = partsB t.op % 3 + 1))) : Value.bool true = Value.bool (!encOk st t) :=
  encNot h ⟨fun _ => hb, fun _ => rfl⟩
theorem encNot_f {st : Int} {t : PTask} (h : fitsB st t.op = true) (hb : partsA t.op ≤ 255 ∧ partsB t.op ≤ 255 ∧ (t.op.kind = 6 → st = 5 → t.op.tall = partsB t.op % 3 + 1)) : Value.bool false = Value.bool (!encOk st t) :=
  encNot h ⟨fun hh => (by cases hh), fun hh => absurd hb hh⟩
theorem opNums_14 {st : Int} {t : PTask} (h : fitsB st t.op = true) (h14 : t.op.kind = 1 ∨ t.op.kind = 4) : opNums st t = [t.thread, placeOf (kindsOf st) t.op.kind 0, t.op.val / 256, t.op.val % 256] := by
  unfold opNums partsA partsB
  rw [if_pos h14, if_pos h14, place_same (fits_kind h)]
theorem opNums_no {st : Int} {t : PTask} (h : fitsB st t.op = true) (h14 : ¬ (t.op.kind = 1 ∨ t.op.kind = 4)) : opNums st t = [t.thread, placeOf (kindsOf st) t.op.kind 0, t.op.key, t.op.val] := by
  unfold opNums partsA partsB
  rw [if_neg h14, if_neg h14, place_same (fits_kind h)]

end Go.Proofs.YthecbeejlpgdaaaDoor
