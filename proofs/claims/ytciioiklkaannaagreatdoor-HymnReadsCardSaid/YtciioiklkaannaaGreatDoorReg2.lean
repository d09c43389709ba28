/- A statement whose order is open, walked by batches: operations that only yield are taken first, many at a time, under a condition S on the world; what calls or writes is walked by itself. -/
import Derived.Test.YtciioiklkaannaaGreatDoorReg
import Derived.BigQuiet
import Derived.Outline
namespace Go.Proofs.YtciioiklkaannaaGreatDoor
open Go Go.RowKit
set_option linter.unusedSimpArgs false
set_option linter.unusedVariables false
set_option linter.unusedSectionVars false

/-- An operation that hands back a value and enters no function. -/
def plainOp (o : Oper) : Bool :=
  match o.op with
  | .move _ | .assign _ | .pick _ _ _ | .load _ _ | .binOp _ _ _ _ _ | .unOp _ _ _ | .fieldAddr _ _ _ | .field _ _ _ | .indexAddr _ _ _ | .index _ _ _ | .extract _ _ | .slice _ _ _ _ _ | .convert _ _ _ | .nilCheck _ | .build _ _ => true
  | .call c => match c.callee with
    | .builtin .len => true
    | .builtin .cap => true
    | _ => false
  | _ => false

theorem run_val {P : Program} {s : Sem Value} {nx : Next} {w w' : World} (h : ((do pure (.value (← s))) : Sem Next).run P w = .ok nx w') : ∃ v, nx = .value v := by
  rw [Sem.run_bind] at h
  cases hs : s.run P w with
  | ok v w1 => rw [hs] at h; simp [Result.andThen] at h; exact ⟨v, h.1.symm⟩
  | halt x w1 => rw [hs] at h; simp [Result.andThen] at h

theorem run_pick {P : Program} {s : Sem Bool} {f : Bool → Value} {nx : Next} {w w' : World} (h : ((do let b ← s; pure (.value (f b))) : Sem Next).run P w = .ok nx w') : ∃ v, nx = .value v := by
  rw [Sem.run_bind] at h
  cases hs : s.run P w with
  | ok v w1 => rw [hs] at h; simp [Result.andThen] at h; exact ⟨_, h.1.symm⟩
  | halt x w1 => rw [hs] at h; simp [Result.andThen] at h

theorem plain_value {P : Program} {o : Oper} {ρ : Operand → Value} {nx : Next} {w w' : World} (h : plainOp o = true) (hr : (execOp ρ o).run P w = .ok nx w') : ∃ v, nx = .value v := by
  unfold plainOp at h
  unfold execOp at hr
  cases ho : o.op <;> rw [ho] at h hr <;> simp only [] at h hr <;> first
    | (cases h; done)
    | exact run_val hr
    | (simp at hr; exact ⟨_, hr.1.symm⟩)
    | exact run_pick (f := fun b => if b = true then _ else _) hr
    | skip
  · split at hr
    · simp [runtimePanic] at hr
    · simp [runtimePanic] at hr
    · simp [runtimePanic] at hr
    · split at hr
      · simp [runtimePanic] at hr
      · rw [Sem.run_bind, run_program] at hr
        simp only [Result.andThen_ok] at hr
        rw [Sem.run_bind] at hr
        rename_i t u _
        cases hs : (nilAhead (P.types.size + Made.depth) t u _).run P w with
        | ok v w1 => rw [hs] at hr; simp only [Result.andThen_ok] at hr; split at hr <;> simp [unsupported] at hr; exact ⟨_, hr.1.symm⟩
        | halt x w1 => rw [hs] at hr; simp [Result.andThen] at hr
      · simp at hr; exact ⟨_, hr.1.symm⟩
    · simp at hr; exact ⟨_, hr.1.symm⟩
  rename_i c
  cases hc : c.callee with
  | builtin b =>
    rw [hc] at h
    unfold resolve at hr
    rw [hc] at hr
    cases b <;> simp only [] at h hr <;> first
      | (cases h; done)
      | exact run_val (s := Builtin.len_ _ _ _) hr
      | exact run_val (s := Builtin.cap_ _ _ _) hr
  | invoke _ _ => rw [hc] at h; cases h
  | value _ => rw [hc] at h; cases h

section
variable {P : Program} {ops : Array Oper} {Q : Exit → Act → World → Prop} {md : Region.Mode} {S : World → Prop} {n : Nat}

theorem yieldsIf_of_quiet {o : Oper} {a : Act} {v : Value} (hp : plainOp o = true) (hw : Region.wanted o (yielded ops a.tmps) = true) (h : ∀ w, S w → o.quietAt P a S w v) : YieldsIf P ops S o v a := by
  refine Or.inl ⟨hw, fun w hS => ?_⟩
  have h1 := h w hS
  unfold Oper.quietAt at h1
  cases hr : (execOp a.eval o).run P w with
  | halt x w1 => rw [hr] at h1; exact h1.elim
  | ok nx w1 =>
    obtain ⟨u, rfl⟩ := plain_value hp hr
    rw [hr] at h1
    obtain ⟨e1, e2⟩ := h1
    rw [e1, e2]

def nthOp : List Oper → Nat → Oper
  | [], _ => default
  | o :: _, 0 => o
  | _ :: l, i + 1 => nthOp l i
def pickOps (l : List Oper) : List Nat → List Oper
  | [] => []
  | i :: is => nthOp l i :: pickOps l is
def listAll : List Nat → Array Bool → Array Bool
  | [], listed => listed
  | i :: is, listed => listAll is (listed.setIfInBounds i true)
def planOk (md : Region.Mode) (ops : Array Oper) (n : Nat) : List Nat → Array Bool → Bool
  | [], _ => true
  | i :: is, listed => decide (i < n) && (Region.ready md ops listed).contains i && Region.free md ops listed i && plainOp (nthOp ops.toList i) && planOk md ops n is (listed.setIfInBounds i true)

theorem nthOp_some : ∀ (l : List Oper) (i : Nat), i < l.length → l[i]? = some (nthOp l i)
  | [], _, h => by simp at h
  | _ :: _, 0, _ => rfl
  | _ :: l, i + 1, h => by simpa [nthOp] using nthOp_some l i (by simpa using h)

theorem ready_lt {i : Nat} {listed : Array Bool} (h : (Region.ready md ops listed).contains i = true) : i < ops.size := by
  have h1 : i ∈ Region.ready md ops listed := by simpa using h
  obtain ⟨_, o, ho, _⟩ := mem_ready.1 h1
  rcases Nat.lt_or_ge i ops.size with h' | h'
  · exact h'
  · rw [Array.getElem?_eq_none h'] at ho; cases ho

/-- A batch of operations that only yield, one behind the other, ahead of all others. -/
theorem wpT_batch (hs : sinkFrom md ops n = true) (hsel : Region.noSelect ops = true) (hQ : ∀ d v c a w, Q (.panic c) (a.put d v) w → Q (.panic c) a w) {fuel : Nat} {w : World} (hS : S w) :
    ∀ (is : List Nat) (listed : Array Bool) (a : Act), planOk md ops n is listed = true →
      wpQuiet P ops S (fun a' => wpT P md ops Q S n fuel (listAll is listed) a' w) (pickOps ops.toList is) a → wpT P md ops Q S n (fuel + is.length) listed a w
  | [], _, _, _, h => h
  | i :: is, listed, a, hp, h => by
    unfold planOk at hp
    simp only [Bool.and_eq_true] at hp
    obtain ⟨⟨⟨⟨h1, h2⟩, h3⟩, h4⟩, h5⟩ := hp
    have h1 := of_decide_eq_true h1
    have hi : ops[i]? = some (nthOp ops.toList i) := by
      have := nthOp_some ops.toList i (by simpa using ready_lt h2)
      rwa [Array.getElem?_toList] at this
    show wpT P md ops Q S n (fuel + is.length + 1) listed a w
    unfold pickOps wpQuiet at h
    split at h
    · rename_i hw
      obtain ⟨v, hv, hk⟩ := h
      exact wpT_take hs h1 hi hsel h3 h2 (fun c a w => hQ _ _ c a w) (yieldsIf_of_quiet h4 hw hv) hS (wpT_batch hs hsel hQ hS is _ _ h5 hk)
    · rename_i hw
      exact wpT_take hs h1 hi hsel h3 h2 (fun c a w => hQ _ _ c a w) (Or.inr ⟨by simpa using hw, rfl⟩) hS (wpT_batch hs hsel hQ hS is _ _ h5 h)

/-- One that is not wanted comes up first. -/
theorem wpT_off {fuel : Nat} {w : World} {listed : Array Bool} {a : Act} (i : Nat) (hs : sinkFrom md ops n = true) (hsel : Region.noSelect ops = true) (hQ : ∀ d v c a w, Q (.panic c) (a.put d v) w → Q (.panic c) a w) (hS : S w)
    (h1 : i < n) (h2 : (Region.ready md ops listed).contains i = true) (h3 : Region.free md ops listed i = true) (hw : Region.wanted (nthOp ops.toList i) (yielded ops a.tmps) = false)
    (h : wpT P md ops Q S n fuel (listed.setIfInBounds i true) (a.put (nthOp ops.toList i).dst undef) w) : wpT P md ops Q S n (fuel + 1) listed a w := by
  have hi : ops[i]? = some (nthOp ops.toList i) := by
    have := nthOp_some ops.toList i (by simpa using ready_lt h2)
    rwa [Array.getElem?_toList] at this
  exact wpT_take hs h1 hi hsel h3 h2 (fun c a w => hQ _ _ c a w) (Or.inr ⟨hw, rfl⟩) hS h

theorem wpT_loudN {fuel : Nat} {w : World} {listed : Array Bool} {a : Act} (i : Nat) (hr : Region.ready md ops listed = [i])
    (h : ∀ K : Act → World → Prop, Shut (∀ a' w', (i < n → S w') → wpT P md ops Q S n fuel (listed.setIfInBounds i true) a' w' → K a' w') → wpList P ops (After K Q) [nthOp ops.toList i] a w) :
    wpT P md ops Q S n (fuel + 1) listed a w := by
  have hi : ops[i]? = some (nthOp ops.toList i) := by
    have := nthOp_some ops.toList i (by simpa using ready_lt (md := md) (listed := listed) (by rw [hr]; simp))
    rwa [Array.getElem?_toList] at this
  exact wpT_loud hi hr h

/-- A region whose operations each yield one value in every world of a class, and leave a world of the class. -/
theorem wp_region_class {id : Nat} {a : Act} {w : World} {l : List Oper} (C : World → Prop) (hm : P.follows .mixedOrders = true) (hB : Region.lexB .any l.toArray = true) (hC : C w.drew)
    (h : wpQuiet P l.toArray C (fun a' => ∀ w', C w' → Q .normal a' w') l a) : (Code.region id l.toArray true).wp P Q a w :=
  wp_region_quiet (C := C) hm hB hC (by simpa using h)
end
end Go.Proofs.YtciioiklkaannaaGreatDoor
