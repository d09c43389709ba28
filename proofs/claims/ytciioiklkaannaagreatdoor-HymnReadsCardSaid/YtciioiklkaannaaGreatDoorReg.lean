/- A statement whose order is open: loads are taken first where a condition S on the world holds behind every operation but the last ones, which wait for all others. -/
import Derived.WalkKit
import Derived.OrdersHeld
import Derived.Deep.RegionHeld
import Derived.KernelRfl
namespace Go.Proofs.YtciioiklkaannaaGreatDoor
open Go Go.RowKit
set_option linter.unusedSimpArgs false
set_option linter.unusedVariables false
set_option linter.unusedSectionVars false

section
variable {P : Program} {ops : Array Oper} {Q : Exit → Act → World → Prop} {md : Region.Mode} {S : World → Prop} {n : Nat}

/-- Whatever order is picked; S holds behind each operation with a number below n. -/
def wpT (P : Program) (md : Region.Mode) (ops : Array Oper) (Q : Exit → Act → World → Prop) (S : World → Prop) (n : Nat) : Nat → Array Bool → Act → World → Prop
  | 0, listed, a, w => Region.ready md ops listed = [] ∧ Q .normal a w
  | fuel + 1, listed, a, w => (Region.ready md ops listed = [] → Q .normal a w) ∧
      ∀ i ∈ Region.ready md ops listed, wpOp P ops Q i (fun a' w' => (i < n → S w') ∧ wpT P md ops Q S n fuel (listed.setIfInBounds i true) a' w') a w

theorem wpAny_of_T : ∀ (fuel : Nat) (listed : Array Bool) (a : Act) (w : World), wpT P md ops Q S n fuel listed a w → wpAny P md ops Q fuel listed a w
  | 0, _, _, _, h => h
  | fuel + 1, _, _, _, h => ⟨h.1, fun i hi => wpOp_mono (fun a' w' h' => wpAny_of_T fuel _ a' w' h'.2) (h.2 i hi)⟩

/-- Each operation from n on waits by an edge of its own for each one below n. -/
def sinkFrom (md : Region.Mode) (ops : Array Oper) (n : Nat) : Bool :=
  (List.range ops.size).all fun j => decide (j < n) || (List.range n).all fun i => ((ops[j]?).map fun o => o.after.any fun e => Region.binds md e && e.on == i).getD false

theorem sink_spec (h : sinkFrom md ops n = true) {j i : Nat} {oj : Oper} (hj : ops[j]? = some oj) (hjn : n ≤ j) (hi : i < n) : ∃ e ∈ oj.after, Region.binds md e = true ∧ e.on = i := by
  have hlt : j < ops.size := by
    rcases Nat.lt_or_ge j ops.size with h' | h'
    · exact h'
    · rw [Array.getElem?_eq_none h'] at hj; cases hj
  have h1 := List.all_eq_true.1 h j (List.mem_range.2 hlt)
  rw [Bool.or_eq_true] at h1
  rcases h1 with h1 | h1
  · have := of_decide_eq_true h1; omega
  · have h2 := List.all_eq_true.1 h1 i (List.mem_range.2 hi)
    rw [hj] at h2
    simp only [Option.map_some, Option.getD_some] at h2
    rw [Array.any_eq_true'] at h2
    obtain ⟨e, he, hb⟩ := h2
    rw [Bool.and_eq_true] at hb
    exact ⟨e, he, hb.1, by simpa using hb.2⟩

theorem unlisted_of_ready {i : Nat} {listed : Array Bool} (hr : i ∈ Region.ready md ops listed) : listed.getD i false = false := by
  have h0 := (mem_ready.1 hr).1
  rcases Nat.lt_or_ge i listed.size with h' | h'
  · simp [h'] at h0 ⊢; exact h0
  · simp [Array.getElem?_eq_none h']

theorem wpT_first {i : Nat} {oi : Oper} {v : Value} (hs : sinkFrom md ops n = true) (hin : i < n) (hi : ops[i]? = some oi)
    (hsel : ∀ (j : Nat) (o : Oper) cs b, ops[j]? = some o → o.op ≠ .select cs b) (hQ : ∀ c a w, Q (.panic c) (a.put oi.dst v) w → Q (.panic c) a w) :
    ∀ (fuel : Nat) (listed : Array Bool) (a : Act) (w : World),
      (∀ j oj, ops[j]? = some oj → j ≠ i → listed.getD j true = false → (∀ e ∈ oj.after, Region.binds md e = true → e.on ≠ i) → oi.apart ops oj = true) →
      i ∈ Region.ready md ops listed → YieldsIf P ops S oi v a → S w →
      wpT P md ops Q S n fuel (listed.setIfInBounds i true) (a.put oi.dst v) w → wpT P md ops Q S n (fuel + 1) listed a w := by
  intro fuel
  induction fuel with
  | zero =>
    intro listed a w _ hr hy hS H
    refine ⟨fun h => (by rw [h] at hr; cases hr), fun j hj => ?_⟩
    by_cases hji : j = i
    · subst hji; exact hy.wpOp hi hS ⟨fun _ => hS, H⟩
    · have := ready_mono hj hji
      rw [H.1] at this
      cases this
  | succ fuel ih =>
    intro listed a w hfree hr hy hS H
    refine ⟨fun h => (by rw [h] at hr; cases hr), fun j hj => ?_⟩
    by_cases hji : j = i
    · subst hji; exact hy.wpOp hi hS ⟨fun _ => hS, H⟩
    · have h1 := H.2 j (ready_mono hj hji)
      obtain ⟨hjun, oj, hoj, hall⟩ := mem_ready.1 hj
      have hun := unlisted_of_ready hr
      have hnot : ∀ e ∈ oj.after, Region.binds md e = true → e.on ≠ i := fun e he hb heq => by
        have h2 := hall e he hb
        rw [heq, hun] at h2
        cases h2
      have hjn : j < n := by
        rcases Nat.lt_or_ge j n with h' | h'
        · exact h'
        · obtain ⟨e, he, hb, heq⟩ := sink_spec hs hoj h' hin
          exact absurd heq (hnot e he hb)
      have h2 := wpOp_putIf hoj (hfree j oj hoj hji hjun hnot) (fun cs b => hsel i oi cs b hi) (fun cs b => hsel j oj cs b hoj) hQ hy h1
      have hfree' : ∀ k ok, ops[k]? = some ok → k ≠ i → (listed.setIfInBounds j true).getD k true = false →
          (∀ e ∈ ok.after, Region.binds md e = true → e.on ≠ i) → oi.apart ops ok = true := fun k ok hk hki hun' hno => by
        refine hfree k ok hk hki ?_ hno
        by_cases hjk : j = k
        · subst hjk; exact hjun
        · rwa [getD_set_ne true hjk] at hun'
      refine wpOp_mono (fun a' w' h3 => ⟨fun _ => h3.2.1 hjn, ih (listed.setIfInBounds j true) a' w' hfree' (ready_mono hr (Ne.symm hji)) h3.1 (h3.2.1 hjn) ?_⟩) h2
      rw [Array.setIfInBounds_comm _ _ hji]
      exact h3.2.2

/-- Take number i first. -/
theorem wpT_take {i : Nat} {oi : Oper} {v : Value} {fuel : Nat} {listed : Array Bool} {a : Act} {w : World} (hs : sinkFrom md ops n = true) (hin : i < n) (hi : ops[i]? = some oi)
    (hsel : Region.noSelect ops = true) (hf : Region.free md ops listed i = true) (hr : (Region.ready md ops listed).contains i = true)
    (hQ : ∀ c a w, Q (.panic c) (a.put oi.dst v) w → Q (.panic c) a w) (hy : YieldsIf P ops S oi v a) (hS : S w)
    (h : wpT P md ops Q S n fuel (listed.setIfInBounds i true) (a.put oi.dst v) w) : wpT P md ops Q S n (fuel + 1) listed a w :=
  wpT_first hs hin hi (Region.noSelect_spec hsel) hQ fuel listed a w (Region.free_spec hi hf) (by simpa using hr) hy hS h

theorem wpT_more {i : Nat} {oi : Oper} {fuel : Nat} {listed : Array Bool} {a : Act} {w : World} (hs : sinkFrom md ops n = true) (hin : i < n) (hi : ops[i]? = some oi)
    (hsel : Region.noSelect ops = true) (hf : Region.free md ops listed i = true) (hr : (Region.ready md ops listed).contains i = true)
    (hQ : ∀ v c a w, Q (.panic c) (a.put oi.dst v) w → Q (.panic c) a w) (hS : S w)
    (h : ∃ v, YieldsIf P ops S oi v a ∧ wpT P md ops Q S n fuel (listed.setIfInBounds i true) (a.put oi.dst v) w) : wpT P md ops Q S n (fuel + 1) listed a w := by
  obtain ⟨v, hy, h⟩ := h
  exact wpT_take hs hin hi hsel hf hr (hQ v) hy hS h

/-- The only one that may come up comes up. -/
theorem wpT_one {i : Nat} {fuel : Nat} {listed : Array Bool} {a : Act} {w : World} (hr : Region.ready md ops listed = [i])
    (h : wpOp P ops Q i (fun a' w' => (i < n → S w') ∧ wpT P md ops Q S n fuel (listed.setIfInBounds i true) a' w') a w) : wpT P md ops Q S n (fuel + 1) listed a w :=
  ⟨fun h0 => (by rw [hr] at h0; cases h0), fun j hj => (by rw [hr] at hj; rw [List.mem_singleton.1 hj]; exact h)⟩

theorem wpT_done {listed : Array Bool} {a : Act} {w : World} (hr : Region.ready md ops listed = []) (h : Q .normal a w) : ∀ fuel, wpT P md ops Q S n fuel listed a w
  | 0 => ⟨hr, h⟩
  | _ + 1 => ⟨fun _ => h, by rw [hr]; simp⟩

theorem wp_region_T {id : Nat} {a : Act} {w : World} (S : World → Prop) (n : Nat) (hm : P.follows .mixedOrders = true) (hS : S w.drew)
    (h : S w.drew → wpT P .any ops Q S n ops.size (Array.replicate ops.size false) a w.drew) : (Code.region id ops true).wp P Q a w :=
  wp_region_any hm (wpAny_of_T _ _ _ _ (h hS))

/-- The post of one operation alone. -/
def After (K : Act → World → Prop) (Q : Exit → Act → World → Prop) : Exit → Act → World → Prop
  | .normal, a, w => K a w
  | e, a, w => Q e a w

theorem letsOut_after {K : Act → World → Prop} (h : LetsOut (After K Q)) : LetsOut Q := h

theorem wp_after {o : Oper} {a : Act} {w : World} {K K' : Act → World → Prop} (h : o.wp P a w K' (After K Q)) : o.wp P a w K' Q := by
  unfold Oper.wp at *
  generalize (execOp a.eval o).run P w = r at *
  cases r with
  | ok nx w' =>
    cases nx <;> simp only [Oper.upon] at h ⊢ <;> first | exact h | (refine Calls.mono h (fun e w'' he => ?_); cases e <;> exact he)
  | halt x w' => cases x <;> simp only [Oper.upon] at h ⊢ <;> exact h

theorem wpOp_loud {i : Nat} {o : Oper} {K' : Act → World → Prop} {a : Act} {w : World} (hi : ops[i]? = some o)
    (h : ∀ K : Act → World → Prop, Shut (∀ a' w', K' a' w' → K a' w') → wpList P ops (After K Q) [o] a w) : wpOp P ops Q i K' a w := by
  have h1 := h K' (fun a' w' h1 => h1)
  unfold wpOp
  simp only [hi]
  unfold wpList at h1
  split
  · rename_i hw
    simp only [hw, if_true] at h1
    rcases h1 with h1 | h1
    · exact .inl (wp_after h1)
    · exact .inr ⟨h1.1, letsOut_after h1.2⟩
  · rename_i hw
    simp only [hw] at h1
    exact h1

/-- One of two comes up: each is walked by itself. -/
theorem wpT_two {i j : Nat} {oi oj : Oper} {fuel : Nat} {listed : Array Bool} {a : Act} {w : World} (hi : ops[i]? = some oi) (hj : ops[j]? = some oj) (hr : Region.ready md ops listed = [i, j])
    (h1 : ∀ K : Act → World → Prop, Shut (∀ a' w', ((i < n → S w') ∧ wpT P md ops Q S n fuel (listed.setIfInBounds i true) a' w') → K a' w') → wpList P ops (After K Q) [oi] a w)
    (h2 : ∀ K : Act → World → Prop, Shut (∀ a' w', ((j < n → S w') ∧ wpT P md ops Q S n fuel (listed.setIfInBounds j true) a' w') → K a' w') → wpList P ops (After K Q) [oj] a w) :
    wpT P md ops Q S n (fuel + 1) listed a w := by
  refine ⟨fun h0 => (by rw [hr] at h0; cases h0), fun k hk => ?_⟩
  rw [hr] at hk
  rcases List.mem_cons.1 hk with rfl | hk
  · exact wpOp_loud hi h1
  · rw [List.mem_singleton.1 hk]
    exact wpOp_loud hj h2

/-- The only one that may come up is walked by itself. -/
theorem wpT_loud {i : Nat} {o : Oper} {fuel : Nat} {listed : Array Bool} {a : Act} {w : World} (hi : ops[i]? = some o) (hr : Region.ready md ops listed = [i])
    (h : ∀ K : Act → World → Prop, Shut (∀ a' w', (i < n → S w') → wpT P md ops Q S n fuel (listed.setIfInBounds i true) a' w' → K a' w') → wpList P ops (After K Q) [o] a w) :
    wpT P md ops Q S n (fuel + 1) listed a w := by
  refine wpT_one hr ?_
  have h1 := h _ (fun a' w' h1 h2 => (⟨h1, h2⟩ : (i < n → S w') ∧ wpT P md ops Q S n fuel (listed.setIfInBounds i true) a' w'))
  unfold wpOp
  simp only [hi]
  unfold wpList at h1
  split
  · rename_i hw
    simp only [hw, if_true] at h1
    rcases h1 with h1 | h1
    · exact .inl (wp_after h1)
    · exact .inr ⟨h1.1, letsOut_after h1.2⟩
  · rename_i hw
    simp only [hw] at h1
    exact h1
end
end Go.Proofs.YtciioiklkaannaaGreatDoor
