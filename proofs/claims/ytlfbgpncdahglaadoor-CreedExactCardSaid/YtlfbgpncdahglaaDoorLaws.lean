/- What the laws share: the structure a number asks for; sameness by its outcome. -/
import Derived.Test.YtlfbgpncdahglaaDoorApart
namespace Go.Proofs.YtlfbgpncdahglaaDoor
open Go Go.RowKit
set_option linter.unusedSimpArgs false
set_option linter.unusedVariables false
set_option linter.unusedSectionVars false

theorem sameC_is {b : Bool} (w : World) (g : Nat) (s : PC) (A : Option Addr) (c : Nat) (A' : Option Addr) (c' : Nat) (h : CR w g s A c A' c') (hok : POk s) (g2 : Nat) (t : PC) (B : Option Addr) (d : Nat) (B' : Option Addr) (d' : Nat) (k : CR w g2 t B d B' d') (kok : POk t) (hb : decide (s = t) = b) :
    Calls Tryd.prog 25 #[.pointer (some ⟨g, 0, none⟩), .pointer (some ⟨g2, 0, none⟩)] w (RetQ b w) := hb ▸ sameC_any w g s A c A' c' h hok g2 t B d B' d' k kok
theorem cell_alloc {w : World} {b i : Nat} {u : Value} (h : w.cell? ⟨b, i, none⟩ = some u) (o : Obj) : (w.alloc o).cell? ⟨b, i, none⟩ = some u :=
  (World.cell?_alloc_lt w o _ (World.block_lt_of_cell? w _ h)).trans h

/-- The structure a number asks for. -/
theorem u64_rem (n : Int) : 0 ≤ (IntKind.u64.wrap n).tmod 5 ∧ (IntKind.u64.wrap n).tmod 5 < 5 := by
  have h0 : 0 ≤ IntKind.u64.wrap n := by
    have : IntKind.u64.wrap n = n % 18446744073709551616 := by unfold IntKind.wrap; simp [IntKind.signed, IntKind.bits]
    omega
  rw [Int.tmod_eq_emod_of_nonneg h0]
  omega
theorem stOf_in (n : Int) : ∃ s, wrap64 (1 + wrap64 ((IntKind.u64.wrap n).tmod 5)) = s ∧ 1 ≤ s ∧ s ≤ 5 := by
  obtain ⟨h1, h2⟩ := u64_rem n
  exact ⟨_, rfl, by unfold wrap64; omega, by unfold wrap64; omega⟩
end Go.Proofs.YtlfbgpncdahglaaDoor
