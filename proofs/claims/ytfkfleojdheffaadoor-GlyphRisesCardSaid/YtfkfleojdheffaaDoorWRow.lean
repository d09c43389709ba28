/- Slices of words, owned. -/
import Derived.Test.YtfkfleojdheffaaDoorSmallW
import Derived.Test.YtfkfleojdheffaaDoorRun
import Derived.Test.YtfkfleojdheffaaDoorSl
import Derived.Deep.MidRow
namespace Go.Proofs.YtfkfleojdheffaaDoor
open Go Go.RowKit
set_option linter.unusedSimpArgs false
set_option linter.unusedVariables false
set_option linter.unusedSectionVars false

theorem infoWordB : (Tryd.prog.info? 23).map (fun i => (i.zero, i.size, i.bytes)) = some (some (.agg #[.int .i64 0, .int .i64 0, .int .i64 0, .int .i64 0, .bool false]), 5, 40) := by kernel_rfl
def wcell (x : PW) : List Value := [.int .i64 x.slot, .int .i64 x.gen, .int .i64 x.tag, .int .i64 x.num, .bool x.mark]
def wcells (l : List PW) : List Value := l.flatMap wcell
theorem wcells_cons (p : PW) (l : List PW) : wcells (p :: l) = wcell p ++ wcells l := rfl
theorem wcells_append (l m : List PW) : wcells (l ++ m) = wcells l ++ wcells m := by simp [wcells]
theorem wcells_length (l : List PW) : (wcells l).length = l.length * 5 := by
  induction l with
  | nil => rfl
  | cons p l ih => rw [wcells_cons, List.length_append, ih]; simp [wcell]; omega
theorem wcells_get (l : List PW) : ∀ (i : Nat) (_ : i < l.length) (j : Nat) (u : Value), (wcell l[i])[j]? = some u → (wcells l)[i * 5 + j]? = some u := by
  induction l with
  | nil => intro i h; simp at h
  | cons p l ih =>
    intro i h j u hu
    rw [wcells_cons]
    have hj : j < 5 := by
      rcases Nat.lt_or_ge j 5 with h' | h'
      · exact h'
      · rw [List.getElem?_eq_none (by simp [wcell]; omega)] at hu; cases hu
    cases i with
    | zero =>
      rw [List.getElem?_append_left (by simp [wcell]; omega)]
      simpa using hu
    | succ i =>
      have h1 := ih i (by simpa using h) j u (by simpa using hu)
      rw [List.getElem?_append_right (by simp [wcell]; omega), show (i + 1) * 5 + j - (wcell p).length = i * 5 + j from by simp [wcell]; omega]
      exact h1
theorem bk_cells {w : World} {g : Nat} {t : TypeId} {cs : List Value} (h : Bk w g t cs.toArray) : ∀ j u, cs[j]? = some u → w.cell? ((⟨g, 0, none⟩ : Addr).add j) = some u := by
  intro j u hu
  rw [Addr.add_lit, Nat.zero_add, h.cell]
  simpa using hu
theorem own_words_append (w : World) (v : Value) (l : List PW) (h : Own w 23 5 v l.length (wcells l)) (hl : l.length ≤ 100000) (x : PW) (b : Nat) (hb : Bk w b 23 #[.int .i64 x.slot, .int .i64 x.gen, .int .i64 x.tag, .int .i64 x.num, .bool x.mark]) (t : TypeId) :
    ∃ v' w', (Builtin.append_ #[41, 41] t #[v, .slice (some ⟨b, 0, none⟩) 1 1]).run Tryd.prog w = .ok v' w' ∧
      Own w' 23 5 v' (l ++ [x]).length (wcells (l ++ [x])) ∧ w.grownBy w' v.ownBlock ∧ Fresh w v v' := by
  obtain ⟨i, hi, hz, hz1, hz2⟩ := info_parts infoWordB
  have h0 := own_append (P := Tryd.prog) w 41 t 23 i _ 5 40 Tryd.underlying41 hi hz hz1 hz2 rfl (by omega) v l.length (wcells l) h ⟨b, 0, none⟩ 1 1 (wcell x) rfl (bk_cells hb) (by intro u hu; simp [wcell] at hu; rcases hu with rfl | rfl | rfl | rfl | rfl <;> rfl) (by omega) (by simp only [maxLen]; omega) (by omega)
  rw [wcells_append, List.length_append]
  simpa [wcells] using h0
/-- Element k of a slice of words lies where the walk reckons it. -/
theorem own_word {w : World} {g off cap : Nat} {l : List PW} (h : Own w 23 5 (.slice (some ⟨g, off, none⟩) l.length cap) l.length (wcells l)) (k : Nat) (hk : k < l.length) : w.rangeAt g (off + k * 5) (wcell l[k]) := by
  intro j u hu
  rw [Nat.add_assoc]
  exact own_cells h _ _ (wcells_get l k hk j u hu)
theorem own_form {w : World} {t : TypeId} {v : Value} {n : Nat} {xs : List Value} (h : Own w t 5 v n xs) (hn : 0 < n) : ∃ g off cap, v = .slice (some ⟨g, off, none⟩) n cap ∧ n ≤ cap := by
  rcases h.2 with ⟨_, h0⟩ | ⟨g, off, cap, A, R, rfl, _, _, hc, _⟩
  · omega
  · exact ⟨g, off, cap, rfl, hc⟩
section
variable {P : Program}
/-- A load of a whole struct in the midst of a row, in every world of a class. -/
theorem quiet_load_mid {o : Oper} {a : Act} {C : World → Prop} {K : Act → Prop} (ty : TypeId) (x : Operand) (ho : o.op = .load ty x)
    (g f : Nat) (hx : a.eval x = .pointer (some ⟨g, f, none⟩)) (cs : Array Value) (d : TypeDesc) (hg : ∀ w, C w → w.rangeAt g f cs.toList)
    (hu : P.underlying ty = some d) (hd : d.isRow = true) (hi : (P.info? ty).map (·.size) = some cs.size)
    (h : K (a.put o.dst (.agg cs))) : o.quiet P a C K := by
  refine ⟨_, fun w hw => ?_, h⟩
  unfold Oper.quietAt execOp
  have := run_loadVar_mid w g f ty cs.toList d (hg w hw) hu hd (by simpa using hi)
  simp only [ho, hx, Instr.loadAt, Instr.sureAddr, Sem.run_bind, Sem.run_pure, Result.andThen_ok, this]
  exact ⟨rfl, rfl⟩
end
end Go.Proofs.YtfkfleojdheffaaDoor
