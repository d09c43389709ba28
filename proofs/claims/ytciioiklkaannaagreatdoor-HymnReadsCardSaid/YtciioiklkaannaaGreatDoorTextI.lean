/- Unlike scripts have unlike texts. -/
import Derived.Test.YtciioiklkaannaaGreatDoorParseW
namespace Go.Proofs.YtciioiklkaannaaGreatDoor
open Go Go.RowKit
set_option linter.unusedSimpArgs false
set_option linter.unusedVariables false
set_option linter.unusedSectionVars false

theorem cfg_own {x : PScr} (hx : Canon x) : CfgIs (bs (headL x)) x.st x.en x.th.toNat x.sl.toNat x.no.toNat := by
  refine ⟨hx.st.1, hx.st.2, hx.en.1, hx.en.2, by have := hx.th; omega, by have := hx.sl; omega, by have := hx.no; omega, ?_⟩
  rw [bs_data, headL]
  refine sp_jn 32 _ (by simp [headW]) (fun z hz => ?_)
  simp only [headW, List.mem_cons, List.mem_nil_iff, or_false] at hz
  have hs : ∀ b ∈ stWord x.st, b ≠ 32 := by
    have := hx.st
    have : x.st = 1 ∨ x.st = 2 ∨ x.st = 3 ∨ x.st = 4 ∨ x.st = 5 := by omega
    rcases this with h | h | h | h | h <;> rw [h] <;> decide
  have he : ∀ b ∈ enWord x.en, b ≠ 32 := by
    have := hx.en
    have : x.en = 1 ∨ x.en = 2 ∨ x.en = 3 ∨ x.en = 4 ∨ x.en = 5 := by omega
    rcases this with h | h | h | h | h <;> rw [h] <;> decide
  rcases hz with rfl | rfl | rfl | rfl | rfl | rfl
  · decide
  · exact hs
  · exact he
  · exact dec_no 32 (by decide) _
  · exact dec_no 32 (by decide) _
  · exact dec_no 32 (by decide) _
theorem pinv_own {x : PScr} (hx : Canon x) : ∀ k, k ≤ (x.ops.map (taskL x.st) ++ (chunks x.picks).map pickL).length → ∃ ops picks, PInv (headL x) (x.ops.map (taskL x.st) ++ (chunks x.picks).map pickL) x.st x.en x.th.toNat x.sl.toNat x.no.toNat k ops picks
  | 0, _ => ⟨[], [], pinv_start (cfg_own hx)⟩
  | k + 1, h => by
    obtain ⟨ops, picks, P⟩ := pinv_own hx k (by omega)
    rcases P.line hx rfl h with ⟨hkx, h1, h2⟩ | ⟨_, hj, h1, hpl⟩
    · obtain ⟨t1, t2, t3⟩ := hx.ops _ (List.getElem_mem hkx)
      have ht : TaskIs x.st (bs (x.ops.map (taskL x.st) ++ (chunks x.picks).map pickL)[k]) x.ops[k].thread.toNat x.ops[k].op := ⟨wDo, by decide, by omega, t3, by rw [bs_data, h1]; rfl⟩
      exact ⟨_, _, P.task h (by rw [h1]; exact sp_task _ _) h2 ht⟩
    · obtain ⟨g1, g2⟩ := chunks_get _ _ hj
      refine ⟨_, _, P.pick h (by rw [h1]; exact sp_pick _) (by omega) (ns := ((chunks x.picks)[k - x.ops.length]).map Int.toNat) ?_⟩
      have hl1 : ((chunks x.picks)[k - x.ops.length]).length ≤ 16 ∧ 1 ≤ ((chunks x.picks)[k - x.ops.length]).length := by rw [g1, List.length_take, List.length_drop]; omega
      refine ⟨by simpa using hl1.2, by simpa using hl1.1, by simp, ?_, ?_⟩
      · simp [numB, intW, Function.comp_def]
      · intro n hn'
        obtain ⟨p, hp, rfl⟩ := List.mem_map.1 hn'
        rw [g1] at hp
        have := hx.picks p (List.mem_of_mem_drop (List.mem_of_mem_take hp))
        omega
theorem lines_inj {x y : PScr} (hx : Canon x) (hy : Canon y) (h : linesOf y = linesOf x) : y = x := by
  obtain ⟨ops, picks, P⟩ := pinv_own hx _ (Nat.le_refl _)
  obtain ⟨_, _, h3⟩ := P.fin (cfg_own hx)
  exact (h3 y hy h).trans (h3 x hx rfl).symm
theorem text_inj {x y : PScr} (hx : Canon x) (hy : Canon y) (h : textL x = textL y) : x = y := by
  have h1 := congrArg List.dropLast h
  simp only [textL, List.dropLast_concat] at h1
  have h2 := congrArg (sp 10) h1
  rw [text_lines hx, text_lines hy] at h2
  exact lines_inj hy hx h2
end Go.Proofs.YtciioiklkaannaaGreatDoor
