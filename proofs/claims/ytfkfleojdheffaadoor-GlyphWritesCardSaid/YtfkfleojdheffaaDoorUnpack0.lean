/- Unpack: a text is a word's, or none's. -/
import Derived.Test.YtfkfleojdheffaaDoorPack
import Derived.Test.YtfkfleojdheffaaDoorReg2
namespace Go.Proofs.YtfkfleojdheffaaDoor
open Go Go.RowKit
set_option linter.unusedSimpArgs false
set_option linter.unusedVariables false
set_option linter.unusedSectionVars false

/-- A block of five cells while it is written. -/
structure W5 (w : World) (g : Nat) (u0 u1 u2 u3 u4 : Value) : Prop where
  a0 : w.cell? ⟨g, 0, none⟩ = some u0
  f0 : w.frozen? ⟨g, 0, none⟩ = false
  a1 : ∀ v0, (w.setCell ⟨g, 0, none⟩ v0).cell? ⟨g, 1, none⟩ = some u1
  f1 : ∀ v0, (w.setCell ⟨g, 0, none⟩ v0).frozen? ⟨g, 1, none⟩ = false
  a2 : ∀ v0 v1, ((w.setCell ⟨g, 0, none⟩ v0).setCell ⟨g, 1, none⟩ v1).cell? ⟨g, 2, none⟩ = some u2
  f2 : ∀ v0 v1, ((w.setCell ⟨g, 0, none⟩ v0).setCell ⟨g, 1, none⟩ v1).frozen? ⟨g, 2, none⟩ = false
  a3 : ∀ v0 v1 v2, (((w.setCell ⟨g, 0, none⟩ v0).setCell ⟨g, 1, none⟩ v1).setCell ⟨g, 2, none⟩ v2).cell? ⟨g, 3, none⟩ = some u3
  f3 : ∀ v0 v1 v2, (((w.setCell ⟨g, 0, none⟩ v0).setCell ⟨g, 1, none⟩ v1).setCell ⟨g, 2, none⟩ v2).frozen? ⟨g, 3, none⟩ = false
  a4 : ∀ v0 v1 v2 v3, ((((w.setCell ⟨g, 0, none⟩ v0).setCell ⟨g, 1, none⟩ v1).setCell ⟨g, 2, none⟩ v2).setCell ⟨g, 3, none⟩ v3).cell? ⟨g, 4, none⟩ = some u4
  f4 : ∀ v0 v1 v2 v3, ((((w.setCell ⟨g, 0, none⟩ v0).setCell ⟨g, 1, none⟩ v1).setCell ⟨g, 2, none⟩ v2).setCell ⟨g, 3, none⟩ v3).frozen? ⟨g, 4, none⟩ = false
  r0 : ∀ v0 v1 v2 v3 v4, (((((w.setCell ⟨g, 0, none⟩ v0).setCell ⟨g, 1, none⟩ v1).setCell ⟨g, 2, none⟩ v2).setCell ⟨g, 3, none⟩ v3).setCell ⟨g, 4, none⟩ v4).cell? ⟨g, 0, none⟩ = some v0
  r1 : ∀ v0 v1 v2 v3 v4, (((((w.setCell ⟨g, 0, none⟩ v0).setCell ⟨g, 1, none⟩ v1).setCell ⟨g, 2, none⟩ v2).setCell ⟨g, 3, none⟩ v3).setCell ⟨g, 4, none⟩ v4).cell? ⟨g, 1, none⟩ = some v1
  r2 : ∀ v0 v1 v2 v3 v4, (((((w.setCell ⟨g, 0, none⟩ v0).setCell ⟨g, 1, none⟩ v1).setCell ⟨g, 2, none⟩ v2).setCell ⟨g, 3, none⟩ v3).setCell ⟨g, 4, none⟩ v4).cell? ⟨g, 2, none⟩ = some v2
  r3 : ∀ v0 v1 v2 v3 v4, (((((w.setCell ⟨g, 0, none⟩ v0).setCell ⟨g, 1, none⟩ v1).setCell ⟨g, 2, none⟩ v2).setCell ⟨g, 3, none⟩ v3).setCell ⟨g, 4, none⟩ v4).cell? ⟨g, 3, none⟩ = some v3
  r4 : ∀ v0 v1 v2 v3 v4, (((((w.setCell ⟨g, 0, none⟩ v0).setCell ⟨g, 1, none⟩ v1).setCell ⟨g, 2, none⟩ v2).setCell ⟨g, 3, none⟩ v3).setCell ⟨g, 4, none⟩ v4).cell? ⟨g, 4, none⟩ = some v4
theorem w5_of {w : World} {g : Nat} {t : TypeId} {u0 u1 u2 u3 u4 : Value} (h : Bk w g t #[u0, u1, u2, u3, u4]) : W5 w g u0 u1 u2 u3 u4 := by
  exact ⟨by simpa using h.cell 0,
    h.free 0,
    fun v0 => by simpa using (h.set_ 0 v0).cell 1,
    fun v0 => (h.set_ 0 v0).free 1,
    fun v0 v1 => by simpa using ((h.set_ 0 v0).set_ 1 v1).cell 2,
    fun v0 v1 => ((h.set_ 0 v0).set_ 1 v1).free 2,
    fun v0 v1 v2 => by simpa using (((h.set_ 0 v0).set_ 1 v1).set_ 2 v2).cell 3,
    fun v0 v1 v2 => (((h.set_ 0 v0).set_ 1 v1).set_ 2 v2).free 3,
    fun v0 v1 v2 v3 => by simpa using ((((h.set_ 0 v0).set_ 1 v1).set_ 2 v2).set_ 3 v3).cell 4,
    fun v0 v1 v2 v3 => ((((h.set_ 0 v0).set_ 1 v1).set_ 2 v2).set_ 3 v3).free 4,
    fun v0 v1 v2 v3 v4 => by simpa using (((((h.set_ 0 v0).set_ 1 v1).set_ 2 v2).set_ 3 v3).set_ 4 v4).cell 0,
    fun v0 v1 v2 v3 v4 => by simpa using (((((h.set_ 0 v0).set_ 1 v1).set_ 2 v2).set_ 3 v3).set_ 4 v4).cell 1,
    fun v0 v1 v2 v3 v4 => by simpa using (((((h.set_ 0 v0).set_ 1 v1).set_ 2 v2).set_ 3 v3).set_ 4 v4).cell 2,
    fun v0 v1 v2 v3 v4 => by simpa using (((((h.set_ 0 v0).set_ 1 v1).set_ 2 v2).set_ 3 v3).set_ 4 v4).cell 3,
    fun v0 v1 v2 v3 v4 => by simpa using (((((h.set_ 0 v0).set_ 1 v1).set_ 2 v2).set_ 3 v3).set_ 4 v4).cell 4⟩

def RetOk (x : PW) (w : World) (e : Ending) (w' : World) : Prop := e = .returned (.tuple #[x.v, .nilIface]) ∧ Below w.heap.size w w'
def RetBad (b : Addr) (w : World) (e : Ending) (w' : World) : Prop := ∃ N, e = .returned (.tuple #[PW.zero.v, .iface 60 (.pointer (some ⟨N, 0, none⟩))]) ∧ WoeAt w' N 2 b ∧ Below w.heap.size w w'
/-- The text s is no word's. -/
def NoWord (s : ByteArray) : Prop := ∀ x, GoodP x → bs (txt x) ≠ s
def RetUn (s : ByteArray) (b : Addr) (w : World) (e : Ending) (w' : World) : Prop := (∃ x, GoodP x ∧ bs (txt x) = s ∧ RetOk x w e w') ∨ (NoWord s ∧ RetBad b w e w')

theorem cellsOf_at (P : List ByteArray) (q j : Nat) (h : j < P.length) : (Lib.cellsOf P q)[j]? = some (.string P[j]) := by
  simp only [Lib.cellsOf, List.getElem?_toArray]
  rw [List.getElem?_append_left (by simpa using h)]
  simp [h]
theorem noword_len {s : ByteArray} (h : (Lib.splitB ⟨#[46]⟩ 0 (min 6 (s.size + 1) - 1) s).length ≠ 5) : NoWord s := fun x _ hx => h (by rw [parts_txt x hx]; rfl)
theorem part_eq {s : ByteArray} {p0 p1 p2 p3 p4 : ByteArray} (hP : Lib.splitB ⟨#[46]⟩ 0 (min 6 (s.size + 1) - 1) s = [p0, p1, p2, p3, p4]) (x : PW) (hx : bs (txt x) = s) : p0 = bs [letter x] ∧ p1 = bs (Lib.itoa x.slot) ∧ p2 = bs (Lib.itoa x.gen) ∧ p3 = bs (Lib.itoa x.tag) ∧ p4 = bs (Lib.itoa x.num) := by
  rw [parts_txt x hx] at hP
  simp only [List.cons.injEq, and_true] at hP
  exact ⟨hP.1.symm, hP.2.1.symm, hP.2.2.1.symm, hP.2.2.2.1.symm, hP.2.2.2.2.symm⟩
theorem atoi_bs (n : Int) (h0 : -1099511627776 ≤ n) (h1 : n ≤ 1099511627776) : Lib.atoiAll (bs (Lib.itoa n)).data.toList = .ok n := by
  simpa [bs] using atoi_itoa n h0 h1
theorem noword_1 {s p0 p1 p2 p3 p4 : ByteArray} (hP : Lib.splitB ⟨#[46]⟩ 0 (min 6 (s.size + 1) - 1) s = [p0, p1, p2, p3, p4]) (h : ∀ v, Lib.atoiAll p1.data.toList ≠ .ok v) : NoWord s := fun x hx hs => by
  obtain ⟨_, e, _, _, _⟩ := part_eq hP x hs
  obtain ⟨_, s0, s1, g0, g1, t0, t1, n0, n1⟩ := hx
  exact h x.slot (by rw [e]; exact atoi_bs _ (by omega) (by omega))
theorem noword_2 {s p0 p1 p2 p3 p4 : ByteArray} (hP : Lib.splitB ⟨#[46]⟩ 0 (min 6 (s.size + 1) - 1) s = [p0, p1, p2, p3, p4]) (h : ∀ v, Lib.atoiAll p2.data.toList ≠ .ok v) : NoWord s := fun x hx hs => by
  obtain ⟨_, _, e, _, _⟩ := part_eq hP x hs
  obtain ⟨_, s0, s1, g0, g1, t0, t1, n0, n1⟩ := hx
  exact h x.gen (by rw [e]; exact atoi_bs _ (by omega) (by omega))
theorem noword_3 {s p0 p1 p2 p3 p4 : ByteArray} (hP : Lib.splitB ⟨#[46]⟩ 0 (min 6 (s.size + 1) - 1) s = [p0, p1, p2, p3, p4]) (h : ∀ v, Lib.atoiAll p3.data.toList ≠ .ok v) : NoWord s := fun x hx hs => by
  obtain ⟨_, _, _, e, _⟩ := part_eq hP x hs
  obtain ⟨_, s0, s1, g0, g1, t0, t1, n0, n1⟩ := hx
  exact h x.tag (by rw [e]; exact atoi_bs _ (by omega) (by omega))
theorem noword_4 {s p0 p1 p2 p3 p4 : ByteArray} (hP : Lib.splitB ⟨#[46]⟩ 0 (min 6 (s.size + 1) - 1) s = [p0, p1, p2, p3, p4]) (h : ∀ v, Lib.atoiAll p4.data.toList ≠ .ok v) : NoWord s := fun x hx hs => by
  obtain ⟨_, _, _, _, e⟩ := part_eq hP x hs
  obtain ⟨_, s0, s1, g0, g1, t0, t1, n0, n1⟩ := hx
  exact h x.num (by rw [e]; exact atoi_bs _ (by omega) (by omega))
theorem letter_m2 (x : PW) : ((bs [letter x]).toList == [109]) = x.mark := by
  rw [Go.ByteArray.toList_eq]
  unfold letter bs
  cases x.mark <;> rfl
/-- What the parts spell is the one word that can have the text. -/
theorem word_is {s p0 p1 p2 p3 p4 : ByteArray} (hP : Lib.splitB ⟨#[46]⟩ 0 (min 6 (s.size + 1) - 1) s = [p0, p1, p2, p3, p4]) {v1 v2 v3 v4 : Int} (h1 : Lib.atoiAll p1.data.toList = .ok v1) (h2 : Lib.atoiAll p2.data.toList = .ok v2) (h3 : Lib.atoiAll p3.data.toList = .ok v3) (h4 : Lib.atoiAll p4.data.toList = .ok v4)
    (x : PW) (hx : GoodP x) (hs : bs (txt x) = s) : (⟨v1, v2, v3, v4, p0.toList == [109]⟩ : PW) = x := by
  obtain ⟨e0, e1, e2, e3, e4⟩ := part_eq hP x hs
  obtain ⟨_, s0, s1, g0, g1, t0, t1, n0, n1⟩ := hx
  rw [e1, atoi_bs _ (by omega) (by omega)] at h1
  rw [e2, atoi_bs _ (by omega) (by omega)] at h2
  rw [e3, atoi_bs _ (by omega) (by omega)] at h3
  rw [e4, atoi_bs _ (by omega) (by omega)] at h4
  injection h1 with h1
  injection h2 with h2
  injection h3 with h3
  injection h4 with h4
  subst h1 h2 h3 h4
  rw [e0, letter_m2]
theorem split_sizes (s : ByteArray) (P : List ByteArray) (k : Nat) (h : Lib.splitB ⟨#[46]⟩ 0 k s = P) : ∀ p ∈ P, p.size ≤ s.size := by
  subst h
  induction k generalizing s with
  | zero => intro p hp; simp [Lib.splitB] at hp; subst hp; exact Nat.le_refl _
  | succ k ih =>
    intro p hp
    unfold Lib.splitB at hp
    split at hp
    · simp at hp; subst hp; exact Nat.le_refl _
    · rcases List.mem_cons.1 hp with rfl | hp
      · simp [ByteArray.size_extract]; omega
      · have := ih _ p hp
        simp [ByteArray.size_extract] at this
        omega
end Go.Proofs.YtfkfleojdheffaaDoor
