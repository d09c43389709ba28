/- The reference's Do, whole: it answers and changes as the structure does. -/
import Derived.Test.YtlfbgpncdahglaaDoorRefC
import Derived.Test.YtlfbgpncdahglaaDoorRefD
import Derived.Test.YtlfbgpncdahglaaDoorRefE
import Derived.Test.YtlfbgpncdahglaaDoorRefF
import Derived.Test.YtlfbgpncdahglaaDoorRefG
import Derived.Test.YtlfbgpncdahglaaDoorRefH
namespace Go.Proofs.YtlfbgpncdahglaaDoor
open Go Go.RowKit
set_option linter.unusedSimpArgs false
set_option linter.unusedVariables false
set_option linter.unusedSectionVars false

theorem chg_not1 {s : PC} {o : POp} {code : Int} (h : code ≠ 1) : chgOf s o code = s := if_pos h
/-- The reference's list of a structure. -/
def lst (s : PC) : List (Int × Int) := if s.st = 1 then s.vals.reverse.map (fun v => (0, v)) else if s.st = 2 then s.vals.map (fun v => (0, v)) else s.pairs
theorem lst_le {s : PC} (hok : POk s) : (lst s).length ≤ 10000 := by
  have := hok.lv; have := hok.lp
  unfold lst
  split
  · simp; omega
  · split
    · simp; omega
    · omega
theorem lst_1 {s : PC} (h : s.st = 1) : lst s = s.vals.reverse.map (fun v => (0, v)) := if_pos h
theorem lst_2 {s : PC} (h : s.st = 2) : lst s = s.vals.map (fun v => (0, v)) := by unfold lst; rw [if_neg (by omega), if_pos h]
theorem lst_3 {s : PC} (h : 3 ≤ s.st) : lst s = s.pairs := by unfold lst; rw [if_neg (by omega), if_neg (by omega)]

theorem refDo_is (s : PC) (hok : POk s) (o : POp) (hf : fitsB s.st o = true) (A : Option Addr) (c : Nat) (w : World) (hs : Rd w w.heap.size A (lst s) c) :
    Calls Tryd.prog 14 #[.agg #[.int .i64 s.st, .slice A (lst s).length c], o.v] w (RetD w A s.st (lst (chgOf s o (ansOf s o).1)) (ansOf s o)) := by
  have hl := lst_le hok
  obtain ⟨st, vals, pairs⟩ := s
  obtain ⟨kind, key, val, tall⟩ := o
  rw [fitsB_true, FitsP] at hf
  simp only [POp.v] at *
  rcases hf with ⟨rfl, rfl, rfl, hk⟩ | ⟨rfl, rfl, rfl, hk⟩ | hm
  · have e1 : lst ⟨1, vals, pairs⟩ = vals.reverse.map (fun v => (0, v)) := rfl
    rcases hk with ⟨rfl, _, _⟩ | ⟨hk, rfl⟩
    · have ha : ansOf ⟨1, vals, pairs⟩ ⟨1, 0, val, 0⟩ = (1, 0) := by simp [ansOf]
      rw [ha]
      refine refDo_push 1 _ A c 0 val 0 w hs hl _ ?_
      simp [e1, lst, chgOf]
    · rcases List.eq_nil_or_concat vals with rfl | ⟨l, x, rfl⟩
      · have ha : ansOf ⟨1, [], pairs⟩ ⟨kind, 0, 0, 0⟩ = (2, 0) := by simp [ansOf, hk]
        rw [ha, chg_not1 (by decide)]
        exact refDo_popE 1 A c kind 0 0 0 (by omega) w _ hs hl rfl
      · have ha : ansOf ⟨1, l.concat x, pairs⟩ ⟨kind, 0, 0, 0⟩ = (1, x) := by simp [ansOf, hk]
        rw [ha]
        have e2 : lst ⟨1, l.concat x, pairs⟩ = (0, x) :: l.reverse.map (fun v => (0, v)) := by simp [lst]
        rcases hk with rfl | rfl
        · refine refDo_pop 1 A c 2 0 0 0 (Or.inl rfl) w _ hs hl x (by rw [e2]; simp) (by simp only [e2, List.getElem_cons_zero]) _ ?_
          rw [e2]; simp [lst, chgOf]
        · have e3 : chgOf ⟨1, l.concat x, pairs⟩ ⟨3, 0, 0, 0⟩ 1 = ⟨1, l.concat x, pairs⟩ := by simp [chgOf]
          rw [e3]
          exact refDo_peek 1 A c 0 0 0 w _ hs hl x (by rw [e2]; simp) (by simp only [e2, List.getElem_cons_zero])
  · have e1 : lst ⟨2, vals, pairs⟩ = vals.map (fun v => (0, v)) := rfl
    rcases hk with ⟨rfl, _, _⟩ | ⟨rfl, rfl⟩
    · have ha : ansOf ⟨2, vals, pairs⟩ ⟨4, 0, val, 0⟩ = (1, 0) := by simp [ansOf]
      rw [ha]
      refine refDo_enq 2 _ A c 0 val 0 w hs hl _ ?_
      simp [e1, lst, chgOf]
    · cases vals with
      | nil =>
        have ha : ansOf ⟨2, [], pairs⟩ ⟨5, 0, 0, 0⟩ = (2, 0) := by simp [ansOf]
        rw [ha, chg_not1 (by decide)]
        exact refDo_popE 2 A c 5 0 0 0 (by omega) w _ hs hl rfl
      | cons x l =>
        have ha : ansOf ⟨2, x :: l, pairs⟩ ⟨5, 0, 0, 0⟩ = (1, x) := by simp [ansOf]
        rw [ha]
        refine refDo_pop 2 A c 5 0 0 0 (Or.inr rfl) w _ hs hl x (by simp [e1]) (by simp [e1]) _ ?_
        rw [e1]; simp [lst, chgOf]
  · have hst : 3 ≤ st := by omega
    have hk : kind = 6 ∨ kind = 7 ∨ kind = 8 := by omega
    have e1 : lst ⟨st, vals, pairs⟩ = pairs := lst_3 hst
    have e2 : ∀ code, lst (chgOf ⟨st, vals, pairs⟩ ⟨kind, key, val, tall⟩ code) = (chgOf ⟨st, vals, pairs⟩ ⟨kind, key, val, tall⟩ code).pairs := fun code => lst_3 (by rw [(chg_size _ _ _).2]; exact hst)
    rw [e2]
    rw [e1] at hs hl ⊢
    clear hm e2 e1
    rcases Bool.eq_false_or_eq_true (has key pairs) with hh | hh
    · obtain ⟨hp, hpk⟩ := has_some hh
      have hg : pairs[pos key pairs]? = some pairs[pos key pairs] := List.getElem?_eq_getElem hp
      rcases hk with rfl | rfl | rfl
      · have ha : ansOf ⟨st, vals, pairs⟩ ⟨6, key, val, tall⟩ = (3, 0) := by simp [ansOf, hh]
        rw [ha, chg_not1 (by decide)]
        exact refDo_had st A c key val tall w pairs hs hl _ rfl hh
      · have ha : ansOf ⟨st, vals, pairs⟩ ⟨7, key, val, tall⟩ = (1, pairs[pos key pairs].2) := by simp [ansOf, hh, hg]
        rw [ha]
        refine refDo_del st A c key val tall w pairs hs hl _ rfl hh hp _ rfl _ rfl _ ?_
        simp [chgOf]
      · have ha : ansOf ⟨st, vals, pairs⟩ ⟨8, key, val, tall⟩ = (1, pairs[pos key pairs].2) := by simp [ansOf, hh, hg]
        rw [ha]
        have e3 : chgOf ⟨st, vals, pairs⟩ ⟨8, key, val, tall⟩ 1 = ⟨st, vals, pairs⟩ := by simp [chgOf]
        rw [e3]
        exact refDo_get st A c key val tall w pairs hs hl _ rfl hh hp _ rfl
    · rcases hk with rfl | rfl | rfl
      · have ha : ansOf ⟨st, vals, pairs⟩ ⟨6, key, val, tall⟩ = (1, 0) := by simp [ansOf, hh]
        rw [ha]
        refine refDo_ins st A c key val tall w pairs hs hl _ rfl hh _ ?_
        simp [chgOf]
      · have ha : ansOf ⟨st, vals, pairs⟩ ⟨7, key, val, tall⟩ = (2, 0) := by simp [ansOf, hh]
        rw [ha, chg_not1 (by decide)]
        exact refDo_none st A c 7 key val tall (Or.inl rfl) w pairs hs hl _ rfl hh
      · have ha : ansOf ⟨st, vals, pairs⟩ ⟨8, key, val, tall⟩ = (2, 0) := by simp [ansOf, hh]
        rw [ha, chg_not1 (by decide)]
        exact refDo_none st A c 8 key val tall (Or.inr rfl) w pairs hs hl _ rfl hh
theorem refDo_as (s : PC) (hok : POk s) (o : POp) (hf : fitsB s.st o = true) (A : Option Addr) (c : Nat) (w : World) (hs : Rd w w.heap.size A (lst s) c) (M : List (Int × Int)) (y1 y2 : Int) (hy : ansOf s o = (y1, y2)) (hM : lst (chgOf s o y1) = M) :
    Calls Tryd.prog 14 #[.agg #[.int .i64 s.st, .slice A (lst s).length c], o.v] w (RetD w A s.st M (y1, y2)) := by
  have h := refDo_is s hok o hf A c w hs
  rw [hy] at h
  subst hM
  exact h
end Go.Proofs.YtlfbgpncdahglaaDoor
