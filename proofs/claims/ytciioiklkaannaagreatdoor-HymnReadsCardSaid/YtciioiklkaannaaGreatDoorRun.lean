/- Slices that a value owns alone: where they lie, and what append, copy, clear, a cut make of them. No program in sight. -/
import Derived.Test.YtciioiklkaannaaGreatDoorStore
import Derived.Deep.AppendSrc
import Derived.Laws.CopyOwn
import Derived.Lib.SliceRun
import Derived.IntWalk
namespace Go.Proofs.YtciioiklkaannaaGreatDoor
open Go Go.RowKit
set_option linter.unusedSimpArgs false
set_option linter.unusedVariables false
set_option linter.unusedSectionVars false

/-- The slice v of n elements, sz cells each, of type e, holds the cells xs, and its block is a row of such cells. -/
def Own (w : World) (e : TypeId) (sz : Nat) (v : Value) (n : Nat) (xs : List Value) : Prop :=
  xs.length = n * sz ∧ ((v = .slice none 0 0 ∧ n = 0) ∨
    ∃ g off cap A R, v = .slice (some ⟨g, off, none⟩) n cap ∧ Bk w g e (A ++ (xs ++ R)).toArray ∧ A.length = off ∧ n ≤ cap ∧ cap ≤ maxLen ∧ cap * sz ≤ xs.length + R.length)

section
variable {w w' : World} {e : TypeId} {sz n : Nat} {v : Value} {xs : List Value}
theorem Own.nil : Own w e sz (.slice none 0 0) 0 [] := ⟨by simp, .inl ⟨rfl, rfl⟩⟩
theorem Own.lt (h : Own w e sz v n xs) {g : Nat} (hg : v.ownBlock = some g) : g < w.heap.size := by
  rcases h.2 with ⟨rfl, _⟩ | ⟨g', off, cap, A, R, rfl, hb, _⟩
  · cases hg
  · cases hg; exact hb.lt
theorem Own.kept (h : Own w e sz v n xs) (hb : ∀ g, v.ownBlock = some g → w'.heap[g]? = w.heap[g]?) : Own w' e sz v n xs := by
  refine ⟨h.1, ?_⟩
  rcases h.2 with h | ⟨g, off, cap, A, R, rfl, hk, r⟩
  · exact .inl h
  · exact .inr ⟨g, off, cap, A, R, rfl, hk.same (hb g rfl), r⟩
theorem Own.grown {row : Option Nat} (h : Own w e sz v n xs) (hg : w.grownBy w' row) (hne : v.ownBlock = none ∨ v.ownBlock ≠ row) : Own w' e sz v n xs :=
  h.kept fun g hv => hg.block g (h.lt hv) (fun e => by rcases hne with h0 | h0; · rw [hv] at h0; cases h0
                                                       · exact h0 (hv.trans e))
theorem Own.below (h : Own w e sz v n xs) (hb : Below w.heap.size w w') : Own w' e sz v n xs := h.kept fun g hv => hb.block g (h.lt hv)
theorem Own.alloc (h : Own w e sz v n xs) (o : Obj) : Own (w.alloc o) e sz v n xs := h.below ((Below.refl _ _).alloc (Nat.le_refl _) _)
theorem Own.drew (h : Own w e sz v n xs) : Own w.drew e sz v n xs := h.kept fun _ _ => rfl
theorem Own.drewN (h : Own w e sz v n xs) (k : Nat) : Own (w.drewN k) e sz v n xs := h.kept fun _ _ => rfl
theorem Own.of_row {base : Nat} (h : w.ownsRow base e sz v n xs) : Own w e sz v n xs := by
  refine ⟨h.1, ?_⟩
  rcases h.2 with h | ⟨g, cap, cur, hv, _, hg, hn, hc, hs, ht⟩
  · exact .inl h
  · refine .inr ⟨g, 0, cap, [], cur.toList.drop (n * sz), hv, ?_, rfl, hn, hc, ?_⟩
    · unfold Bk
      rw [hg, ← ht]
      simp
    · have h1 := h.1
      simp
      omega
theorem own_cells {g off cap : Nat} (h : Own w e sz (.slice (some ⟨g, off, none⟩) n cap) n xs) : ∀ j u, xs[j]? = some u → w.cell? ⟨g, off + j, none⟩ = some u := by
  rcases h.2 with ⟨h, _⟩ | ⟨g', off', cap', A, R, hv, hk, rfl, _⟩
  · cases h
  · cases hv
    intro j u hu
    rw [hk.cell]
    have hj : j < xs.length := by
      rcases Nat.lt_or_ge j xs.length with h' | h'
      · exact h'
      · rw [List.getElem?_eq_none h'] at hu; cases hu
    simp only [List.getElem?_toArray]
    rw [List.getElem?_append_right (by omega), List.getElem?_append_left (by omega)]
    simpa using hu
end

section
variable {P : Program}
theorem run_copy_blk (w : World) (dT sT ty elem : TypeId) (i : TypeInfo) (g o dLen dCap : Nat) (a : Addr) (sLen sCap k : Nat) (cur : Array Value) (t : TypeId) (cs : List Value)
    (hu : P.underlying dT = some (.slice elem)) (hi : P.info? elem = some i) (hk : Nat.min sLen dLen = k)
    (hg : w.heap[g]? = some (.cells cur t (0, 0))) (hn : cs.length = k * i.size)
    (hsrc : ∀ j v, cs[j]? = some v → w.cell? (a.add j) = some v) (hfit : o + cs.length ≤ cur.size) (h1 : ∀ v ∈ cs, v.oneCell' = true) :
    (Builtin.copy_ #[dT, sT] ty #[.slice (some ⟨g, o, none⟩) dLen dCap, .slice (some a) sLen sCap]).run P w =
      .ok (goInt k) (w.setRow g (cur.toList.take o ++ cs ++ cur.toList.drop (o + cs.length)).toArray) := by
  have hl := run_loadCells_list (P := P) w a cs hsrc
  have hst := run_storeCells_at P g o t cs 0 cur w hg (by simpa using hfit) h1
  simp [Builtin.copy_, run_underlying hu, Builtin.lenOf, Builtin.firstCells, sizeOf, typeInfo, hi, ← hn, hk, hl, hst]

theorem run_clear_blk (w : World) (t e ty : TypeId) (z : Value) (ht : P.underlying t = some (.slice e)) (hv : ∀ w, (zeroValue e).run P w = .ok z w) (h1 : ∀ u ∈ (Builtin.zeroCells z.cells 1).toList, u.oneCell' = true)
    (g o c : Nat) (cur : Array Value) (tt : TypeId) (hg : w.heap[g]? = some (.cells cur tt (0, 0))) (hfit : o + z.cells.size ≤ cur.size) :
    (Builtin.clear_ #[t] ty #[.slice (some ⟨g, o, none⟩) 1 c]).run P w = .ok (.tuple #[]) (w.setRow g (cur.toList.take o ++ (Builtin.zeroCells z.cells 1).toList ++ cur.toList.drop (o + z.cells.size)).toArray) := by
  have hz : (Builtin.zeroCells z.cells 1).toList.length = z.cells.size := by rw [Array.length_toList, size_zeroCells]; simp
  have hst := run_storeCells_at P g o tt (Builtin.zeroCells z.cells 1).toList 0 cur w hg (by rw [hz]; simpa using hfit) h1
  simp only [Nat.add_zero] at hst
  rw [hz] at hst
  simp [Builtin.clear_, run_underlying ht, hv, hst]

theorem run_append_room_blk (w : World) (t ty e : TypeId) (i : TypeInfo) (ht : P.underlying t = some (.slice e)) (hi : P.info? e = some i)
    (g off sLen sCap : Nat) (cur : Array Value) (tt : TypeId) (hg : w.heap[g]? = some (.cells cur tt (0, 0)))
    (a : Addr) (m c : Nat) (news : List Value) (hl : news.length = m * i.size) (hnews : ∀ j u, news[j]? = some u → w.cell? (a.add j) = some u) (h1 : ∀ u ∈ news, u.oneCell' = true)
    (hroom : sLen + m ≤ sCap) (hfit : off + sLen * i.size + news.length ≤ cur.size) :
    (Builtin.append_ #[t, t] ty #[.slice (some ⟨g, off, none⟩) sLen sCap, .slice (some a) m c]).run P w =
      .ok (.slice (some ⟨g, off, none⟩) (sLen + m) sCap) (w.setRow g (cur.toList.take (off + sLen * i.size) ++ news ++ cur.toList.drop (off + sLen * i.size + news.length)).toArray) := by
  have hf := run_firstCells_some (P := P) w i.size m a m c news hl hnews
  have hst := run_storeCells_at P g (off + sLen * i.size) tt news 0 cur w hg (by simpa using hfit) h1
  simp only [Nat.add_zero] at hst
  simp [Builtin.append_, run_underlying ht, sizeOf, typeInfo, hi, Builtin.lenOf, hroom, hf, Addr.add_lit, hst]

/-- 'append(s, make(S, k)...)' where there is no room: a new row, zeros behind what was there. -/
theorem run_append_made (w : World) (t tx ty e : TypeId) (i : TypeInfo) (z : Value) (ht : P.underlying t = some (.slice e)) (hx : P.underlying tx = some (.int .i64)) (hi : P.info? e = some i) (hz : i.zero = some z)
    (b : Addr) (sLen sCap k : Nat) (olds : List Value) (hlo : olds.length = sLen * i.size) (holds : ∀ j v, olds[j]? = some v → w.cell? (b.add j) = some v)
    (hk : 0 < k) (hsz : 0 < i.size) (hg : sCap < sLen + k) (h63 : sLen + k ≤ 1000000) (hb : i.bytes ≤ 1000) (hfit : Builtin.nextslicecap (sLen + k) sCap * i.bytes ≤ 281474976710656) :
    (Builtin.append_ #[t, tx] ty #[.slice (some b) sLen sCap, .int .i64 k]).run P w =
      .ok (.slice (some ⟨w.heap.size, 0, none⟩) (sLen + k) (grownCap w (sLen + k) sCap e))
        (w.drew.alloc (.cells (olds.toArray ++ Builtin.zeroCells z.cells k ++ Builtin.zeroCells z.cells (grownCap w (sLen + k) sCap e - (sLen + k))) e)) := by
  have hn : ¬ (sLen + k ≤ sCap) := by omega
  have h63' : ¬ (9223372036854775807 < ((sLen : Int) + (k : Int))) := by omega
  have h48' : ¬ (281474976710656 < Builtin.nextslicecap (sLen + k) sCap * i.bytes) := by omega
  have hfo := run_firstCells_some (P := P) w.drew i.size sLen b sLen sCap olds hlo (by simpa using holds)
  have hw : IntKind.i64.wrap (k : Int) = k := IntWalk.i64_in _ (by omega)
  have hneg : ¬ ((k : Int) < 0) := by omega
  have hbig : ¬ (281474976710656 < (k : Int) * (i.bytes : Int)) := by
    have : k * i.bytes ≤ 1000000 * 1000 := Nat.mul_le_mul (by omega) hb
    have h2 : ((k * i.bytes : Nat) : Int) ≤ 1000000000 := by omega
    rw [Int.natCast_mul] at h2
    omega
  have hks : ¬ (k = 0 ∨ i.size = 0) := by omega
  have hmax : max (k : Int) 0 = k := by omega
  simp [Builtin.append_, run_underlying ht, run_underlying hx, sizeOf, typeInfo, zeroValue, hi, hz, asInt, asIntOf, hmax, hw, hneg, hbig, hn, h63', h48', Question.forced, hfo, hks, newRow, grownCap]
  intro h
  exact absurd (Nat.mul_eq_zero.1 h) hks

/-- What v' stands on is what v stood on, or new. -/
def Fresh (w : World) (v v' : Value) : Prop := ∀ g, v'.ownBlock = some g → v.ownBlock = some g ∨ w.heap.size ≤ g

theorem take_add {α : Type} (A B : List α) (n : Nat) : (A ++ B).take (A.length + n) = A ++ B.take n := List.take_length_add_append n
theorem drop_add {α : Type} (A B : List α) (n : Nat) : (A ++ B).drop (A.length + n) = B.drop n := List.drop_length_add_append n

theorem grownBy_setRow (w : World) (g : Nat) (cs : Array Value) : w.grownBy (w.setRow g cs) (some g) :=
  ⟨rfl, rfl, rfl, by simp, fun k _ hk => setRow_other w g k _ (fun e => hk (by simp [e]))⟩
theorem grownBy_refl (w : World) (row : Option Nat) : w.grownBy w row := ⟨rfl, rfl, rfl, Nat.le_refl _, fun _ _ _ => rfl⟩
theorem grownBy_any {w w' : World} (h : w.grownBy w' none) (row : Option Nat) : w.grownBy w' row := ⟨h.os, h.tape, h.output, h.size, fun k hk _ => h.block k hk (by simp)⟩
theorem grownBy_trans {w w1 w2 : World} {row : Option Nat} (h : w.grownBy w1 row) (h' : w1.grownBy w2 row) : w.grownBy w2 row :=
  ⟨h'.os.trans h.os, h'.tape.trans h.tape, h'.output.trans h.output, Nat.le_trans h.size h'.size, fun k hk hr => (h'.block k (Nat.lt_of_lt_of_le hk h.size) hr).trans (h.block k hk hr)⟩
/-- Writes to a block that is new count as none. -/
theorem grownBy_new {w w1 w2 : World} {row row' : Option Nat} (h : w.grownBy w1 row) (h' : w1.grownBy w2 row') (hr : ∀ k, row' = some k → w.heap.size ≤ k) : w.grownBy w2 row :=
  ⟨h'.os.trans h.os, h'.tape.trans h.tape, h'.output.trans h.output, Nat.le_trans h.size h'.size, fun k hk hk' => (h'.block k (Nat.lt_of_lt_of_le hk h.size) (fun e => by have := hr k e.symm; omega)).trans (h.block k hk hk')⟩
theorem grownBy_drew {w w1 : World} {row : Option Nat} (h : w.drew.grownBy w1 row) : w.grownBy w1 row := ⟨h.os, h.tape, h.output, h.size, h.block⟩
theorem Bk.row {w : World} {g : Nat} {t : TypeId} {cs cs' : Array Value} (h : Bk w g t cs) : Bk (w.setRow g cs') g t cs' := setRow_heap w g cs cs' t (0, 0) h

theorem own_append (w : World) (t ty e : TypeId) (i : TypeInfo) (z : Value) (sz bytes : Nat) (ht : P.underlying t = some (.slice e)) (hi : P.info? e = some i) (hz : i.zero = some z)
    (hsize : i.size = sz) (hby : i.bytes = bytes) (hzs : z.cells.size = sz) (hsz : 0 < sz) (v : Value) (n : Nat) (xs : List Value) (h : Own w e sz v n xs)
    (a : Addr) (m c : Nat) (news : List Value) (hl : news.length = m * sz) (hnews : ∀ j u, news[j]? = some u → w.cell? (a.add j) = some u) (h1 : ∀ u ∈ news, u.oneCell' = true) (hm : 0 < m)
    (b1 : n + m ≤ maxLen) (b2 : (n + m) * bytes ≤ 140737488355328) :
    ∃ v' w', (Builtin.append_ #[t, t] ty #[v, .slice (some a) m c]).run P w = .ok v' w' ∧ Own w' e sz v' (n + m) (xs ++ news) ∧ w.grownBy w' v.ownBlock ∧ Fresh w v v' := by
  have fr : ∀ {v' : Value} {w' : World} {k : Nat} {ys : List Value}, w'.ownsRow w.heap.size e sz v' k ys → Fresh w v v' := fun {v' w' k ys} ho g hg => by
    rcases ho.2 with ⟨rfl, _⟩ | ⟨g', cap, cur, rfl, hb, _⟩
    · cases hg
    · cases hg; exact Or.inr hb
  rcases h.2 with ⟨rfl, rfl⟩ | ⟨g, off, cap, A, R, rfl, hk, rfl, hn, hc, hs⟩
  · obtain rfl : xs = [] := List.eq_nil_of_length_eq_zero (by simpa using h.1)
    obtain ⟨v', w', hr, ho, hg, _⟩ := run_append_own (P := P) w w.heap.size t ty e i z sz bytes ht hi hz hsize hby hzs hsz (.slice none 0 0) 0 [] (World.ownsRow_nil w _ e sz) a m c news hl hnews h1 b1 b2 (Nat.le_refl _)
    exact ⟨v', w', hr, Own.of_row ho, hg, fr ho⟩
  · by_cases hroom : n + m ≤ cap
    · have hx := h.1
      have hle : (n + m) * sz ≤ cap * sz := Nat.mul_le_mul_right _ hroom
      rw [Nat.add_mul] at hle
      have hfit : A.length + n * sz + news.length ≤ (A ++ (xs ++ R)).toArray.size := by simp; omega
      subst hsize
      have hr := run_append_room_blk (P := P) w t ty e i ht hi g A.length n cap _ e hk a m c news hl hnews h1 hroom hfit
      refine ⟨_, _, hr, ⟨by rw [List.length_append, hx, hl, Nat.add_mul], .inr ⟨g, A.length, cap, A, R.drop (m * i.size), rfl, ?_, rfl, hroom, hc, ?_⟩⟩, grownBy_setRow _ _ _, fun g' hg' => Or.inl hg'⟩
      · have hk' := hk.row (cs' := (((A ++ (xs ++ R)).toArray.toList.take (A.length + n * i.size)) ++ news ++ ((A ++ (xs ++ R)).toArray.toList.drop (A.length + n * i.size + news.length))).toArray)
        have e1 : ((A ++ (xs ++ R)).toArray.toList.take (A.length + n * i.size)) ++ news ++ ((A ++ (xs ++ R)).toArray.toList.drop (A.length + n * i.size + news.length)) = A ++ (xs ++ news ++ R.drop (m * i.size)) := by
          rw [← hx, ← hl]
          show (A ++ (xs ++ R)).take (A.length + xs.length) ++ news ++ (A ++ (xs ++ R)).drop (A.length + xs.length + news.length) = _
          rw [Nat.add_assoc, take_add, drop_add, drop_add, List.take_left']
          · simp
          · rfl
        rw [e1] at hk'
        rw [e1]
        exact hk'
      · simp; omega
    · obtain ⟨v', w', hr, ho, hg⟩ := run_append_arg_grows (P := P) w t ty e i z sz bytes ht hi hz hsize hby hzs hsz ⟨g, A.length, none⟩ n cap xs h.1 (fun j u hj => by rw [Addr.add_lit]; exact own_cells h j u hj) a m c news hl hnews (by omega) b1 b2
      exact ⟨v', w', hr, Own.of_row ho, grownBy_any hg _, fr ho⟩

section
variable {w w' : World} {ops : Array Oper} {rest : List Oper} {o : Oper} {a : Act} {Q : Exit → Act → World → Prop}
theorem wpList_append_run (hgd : o.guard = none) (s x : Operand) (t tx : TypeId) (vs vx v : Value) (hop : o.op = .call { callee := .builtin .append, args := #[s, x], argTypes := #[t, tx] }) (hs : a.eval s = vs) (hx : a.eval x = vx)
    (hrun : (Builtin.append_ #[t, tx] o.type #[vs, vx]).run P w = .ok v w') (h : wpList P ops Q rest (a.put o.dst v) w') : wpList P ops Q (o :: rest) a w :=
  wpList_plain hgd fun K hK => by
    unfold Oper.wp
    simp [execOp, hop, resolve, invoke, builtin, hs, hx, hrun, Result.andThen]
    exact hK _ _ h
theorem wpList_copy_run (hgd : o.guard = none) (s x : Operand) (t tx : TypeId) (vs vx v : Value) (hop : o.op = .call { callee := .builtin .copy, args := #[s, x], argTypes := #[t, tx] }) (hs : a.eval s = vs) (hx : a.eval x = vx)
    (hrun : (Builtin.copy_ #[t, tx] o.type #[vs, vx]).run P w = .ok v w') (h : wpList P ops Q rest (a.put o.dst v) w') : wpList P ops Q (o :: rest) a w :=
  wpList_plain hgd fun K hK => by
    unfold Oper.wp
    simp [execOp, hop, resolve, invoke, builtin, hs, hx, hrun, Result.andThen]
    exact hK _ _ h
theorem wpList_clear_run (hgd : o.guard = none) (s : Operand) (t : TypeId) (vs v : Value) (hop : o.op = .call { callee := .builtin .clear, args := #[s], argTypes := #[t] }) (hs : a.eval s = vs)
    (hrun : (Builtin.clear_ #[t] o.type #[vs]).run P w = .ok v w') (h : wpList P ops Q rest (a.put o.dst v) w') : wpList P ops Q (o :: rest) a w :=
  wpList_plain hgd fun K hK => by
    unfold Oper.wp
    simp [execOp, hop, resolve, invoke, builtin, hs, hrun, Result.andThen]
    exact hK _ _ h
end
end
end Go.Proofs.YtciioiklkaannaaGreatDoor
