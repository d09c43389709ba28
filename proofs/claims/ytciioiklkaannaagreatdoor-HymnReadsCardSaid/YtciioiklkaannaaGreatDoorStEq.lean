/- Equality of structs of ints: operations, tasks, layouts. -/
import Derived.Test.YtciioiklkaannaaGreatDoorFnEqZ
import Derived.Laws.StructEq
import Derived.KernelRfl
namespace Go.Proofs.YtciioiklkaannaaGreatDoor
open Go Go.RowKit
set_option linter.unusedSimpArgs false
set_option linter.unusedVariables false
set_option linter.unusedSectionVars false

theorem eql_op (a b c d a' b' c' d' : Int) (w : World) :
    (binOp .eql 29 (.agg #[.int .i64 a, .int .i64 b, .int .i64 c, .int .i64 d]) (.agg #[.int .i64 a', .int .i64 b', .int .i64 c', .int .i64 d'])).run Tryz.prog w = .ok (.bool (decide ((⟨a, b, c, d⟩ : POp) = ⟨a', b', c', d'⟩))) w := by
  go_simp
  by_cases h0 : a = a' <;> by_cases h1 : b = b' <;> by_cases h2 : c = c' <;> by_cases h3 : d = d' <;> simp [h0, h1, h2, h3]
theorem neq_op (a b c d a' b' c' d' : Int) (w : World) :
    (binOp .neq 29 (.agg #[.int .i64 a, .int .i64 b, .int .i64 c, .int .i64 d]) (.agg #[.int .i64 a', .int .i64 b', .int .i64 c', .int .i64 d'])).run Tryz.prog w = .ok (.bool (!decide ((⟨a, b, c, d⟩ : POp) = ⟨a', b', c', d'⟩))) w := by
  go_simp
  by_cases h0 : a = a' <;> by_cases h1 : b = b' <;> by_cases h2 : c = c' <;> by_cases h3 : d = d' <;> simp [h0, h1, h2, h3]
theorem eql_task (a b c d e a' b' c' d' e' : Int) (w : World) :
    (binOp .eql 53 (.agg #[.int .i64 a, .int .i64 b, .int .i64 c, .int .i64 d, .int .i64 e]) (.agg #[.int .i64 a', .int .i64 b', .int .i64 c', .int .i64 d', .int .i64 e'])).run Tryz.prog w = .ok (.bool (decide ((⟨a, ⟨b, c, d, e⟩⟩ : PTask) = ⟨a', ⟨b', c', d', e'⟩⟩))) w := by
  go_simp
  by_cases h0 : a = a' <;> by_cases h1 : b = b' <;> by_cases h2 : c = c' <;> by_cases h3 : d = d' <;> by_cases h4 : e = e' <;> simp [h0, h1, h2, h3, h4]
theorem neq_task (a b c d e a' b' c' d' e' : Int) (w : World) :
    (binOp .neq 53 (.agg #[.int .i64 a, .int .i64 b, .int .i64 c, .int .i64 d, .int .i64 e]) (.agg #[.int .i64 a', .int .i64 b', .int .i64 c', .int .i64 d', .int .i64 e'])).run Tryz.prog w = .ok (.bool (!decide ((⟨a, ⟨b, c, d, e⟩⟩ : PTask) = ⟨a', ⟨b', c', d', e'⟩⟩))) w := by
  go_simp
  by_cases h0 : a = a' <;> by_cases h1 : b = b' <;> by_cases h2 : c = c' <;> by_cases h3 : d = d' <;> by_cases h4 : e = e' <;> simp [h0, h1, h2, h3, h4]
theorem eql_cfg (a b c d e a' b' c' d' e' : Int) (w : World) :
    (binOp .eql 23 (.agg #[.int .i64 a, .int .i64 b, .int .i64 c, .int .i64 d, .int .i64 e]) (.agg #[.int .i64 a', .int .i64 b', .int .i64 c', .int .i64 d', .int .i64 e'])).run Tryz.prog w = .ok (.bool (decide (a = a' ∧ b = b' ∧ c = c' ∧ d = d' ∧ e = e'))) w := by
  go_simp
  by_cases h0 : a = a' <;> by_cases h1 : b = b' <;> by_cases h2 : c = c' <;> by_cases h3 : d = d' <;> by_cases h4 : e = e' <;> simp [h0, h1, h2, h3, h4]
theorem neq_cfg (a b c d e a' b' c' d' e' : Int) (w : World) :
    (binOp .neq 23 (.agg #[.int .i64 a, .int .i64 b, .int .i64 c, .int .i64 d, .int .i64 e]) (.agg #[.int .i64 a', .int .i64 b', .int .i64 c', .int .i64 d', .int .i64 e'])).run Tryz.prog w = .ok (.bool (!decide (a = a' ∧ b = b' ∧ c = c' ∧ d = d' ∧ e = e'))) w := by
  go_simp
  by_cases h0 : a = a' <;> by_cases h1 : b = b' <;> by_cases h2 : c = c' <;> by_cases h3 : d = d' <;> by_cases h4 : e = e' <;> simp [h0, h1, h2, h3, h4]
theorem neq_task' (t u : PTask) (w : World) :
    (binOp .neq 53 (.agg #[.int .i64 t.thread, .int .i64 t.op.kind, .int .i64 t.op.key, .int .i64 t.op.val, .int .i64 t.op.tall]) (.agg #[.int .i64 u.thread, .int .i64 u.op.kind, .int .i64 u.op.key, .int .i64 u.op.val, .int .i64 u.op.tall])).run Tryz.prog w = .ok (.bool (!decide (t = u))) w := neq_task _ _ _ _ _ _ _ _ _ _ w
theorem eql_task' (t u : PTask) (w : World) :
    (binOp .eql 53 (.agg #[.int .i64 t.thread, .int .i64 t.op.kind, .int .i64 t.op.key, .int .i64 t.op.val, .int .i64 t.op.tall]) (.agg #[.int .i64 u.thread, .int .i64 u.op.kind, .int .i64 u.op.key, .int .i64 u.op.val, .int .i64 u.op.tall])).run Tryz.prog w = .ok (.bool (decide (t = u))) w := eql_task _ _ _ _ _ _ _ _ _ _ w

theorem task_ne {t u : PTask} (h : t ≠ u) : ¬ t.thread = u.thread ∨ (t.thread = u.thread ∧ ¬ t.op.kind = u.op.kind) ∨ (t.thread = u.thread ∧ t.op.kind = u.op.kind ∧ ¬ t.op.key = u.op.key) ∨
    (t.thread = u.thread ∧ t.op.kind = u.op.kind ∧ t.op.key = u.op.key ∧ ¬ t.op.val = u.op.val) ∨ (t.thread = u.thread ∧ t.op.kind = u.op.kind ∧ t.op.key = u.op.key ∧ t.op.val = u.op.val ∧ ¬ t.op.tall = u.op.tall) := by
  obtain ⟨a, ⟨b, c, d, e⟩⟩ := t
  obtain ⟨a', ⟨b', c', d', e'⟩⟩ := u
  simp only [ne_eq, PTask.mk.injEq, POp.mk.injEq] at h ⊢
  by_cases h1 : a = a' <;> by_cases h2 : b = b' <;> by_cases h3 : c = c' <;> by_cases h4 : d = d' <;> by_cases h5 : e = e' <;> simp_all
theorem task_eq {t u : PTask} (h : t = u) : t.thread = u.thread ∧ t.op.kind = u.op.kind ∧ t.op.key = u.op.key ∧ t.op.val = u.op.val ∧ t.op.tall = u.op.tall := by
  subst h; exact ⟨rfl, rfl, rfl, rfl, rfl⟩

end Go.Proofs.YtciioiklkaannaaGreatDoor
