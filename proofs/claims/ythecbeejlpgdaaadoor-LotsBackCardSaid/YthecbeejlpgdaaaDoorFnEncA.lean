/- Writing a script: the bytes, and the growing row that holds them. -/
import Derived.Test.YthecbeejlpgdaaaDoorFnDecode
import Derived.Test.YthecbeejlpgdaaaDoorFnIndex
import Derived.Test.YthecbeejlpgdaaaDoorFnB
import Derived.Test.YthecbeejlpgdaaaDoorStEq
import Derived.ArgAppend
import Derived.Laws.BytesArg
namespace Go.Proofs.YthecbeejlpgdaaaDoor
open Go Go.RowKit
set_option linter.unusedSimpArgs false
set_option linter.unusedVariables false
set_option linter.unusedSectionVars false

/-- Can an operation be written? -/
def encOk (st : Int) (t : PTask) : Bool := decide (partsA t.op ≤ 255) && decide (partsB t.op ≤ 255) && decide (formOp st t.op.kind (partsA t.op) (partsB t.op) = t.op)
def opNums (st : Int) (t : PTask) : List Int := [t.thread, placeOf (kindsOf st) t.op.kind (-1), partsA t.op, partsB t.op]
def headNums (x : PScr) : List Int := [x.st - 1, x.en - 1, x.th - 1, x.sl, x.no - 1, x.ops.length]
def encNums (x : PScr) : List Int := headNums x ++ x.ops.flatMap (opNums x.st) ++ x.picks
def encB (x : PScr) : Bool := goodB x && decide (x.sl ≤ 255) && x.ops.all (encOk x.st)

def ucells (l : List Int) : List Value := l.map (Value.int .u8)
theorem ucells_length (l : List Int) : (ucells l).length = l.length := by simp [ucells]
theorem ucells_append (a b : List Int) : ucells (a ++ b) = ucells a ++ ucells b := by simp [ucells]

/-- The row of bytes: the head's own array, still, or a row of the call's own. -/
def OutRel (w : World) (h base : Nat) (v : Value) (n : Nat) (xs : List Value) : Prop :=
  w.ownsRow base 5 1 v n xs ∨ (v = .slice (some ⟨h, 0, none⟩) n n ∧ xs.length = n ∧ ∃ t, Bk w h t xs.toArray)

theorem OutRel.slice {w : World} {h base : Nat} {v : Value} {n : Nat} {xs : List Value} (H : OutRel w h base v n xs) : ∃ A c, v = .slice A n c := by
  rcases H with H | ⟨rfl, _⟩
  · exact own_slice H
  · exact ⟨_, _, rfl⟩
theorem OutRel.block {w : World} {h base : Nat} {v : Value} {n : Nat} {xs : List Value} (H : OutRel w h base v n xs) : ∀ g, v.ownBlock = some g → base ≤ g ∨ g = h := by
  intro g hg
  rcases H with H | ⟨rfl, _⟩
  · exact .inl (H.lt g hg).1
  · exact .inr (by simpa [Value.ownBlock] using hg.symm)
theorem OutRel.below {w w' : World} {h base : Nat} {v : Value} {n : Nat} {xs : List Value} (H : OutRel w h base v n xs) (hb : Below w.heap.size w w') : OutRel w' h base v n xs := by
  rcases H with H | ⟨e, hl, t, hk⟩
  · exact .inl (own_below H hb)
  · exact .inr ⟨e, hl, t, hk.belowAll hb⟩
theorem OutRel.len {w : World} {h base : Nat} {v : Value} {n : Nat} {xs : List Value} (H : OutRel w h base v n xs) : xs.length = n := by
  rcases H with H | ⟨_, hl, _⟩
  · simpa using H.1
  · exact hl

theorem grownAny {w w' : World} (h : w.grownBy w' none) (row : Option Nat) : w.grownBy w' row := ⟨h.os, h.tape, h.output, h.size, fun k hk _ => h.block k hk (by simp)⟩

section
variable {P : Program} {w : World} {ops : Array Oper} {rest : List Oper} {o : Oper} {a : Act} {Q : Exit → Act → World → Prop}
theorem wpList_append_out (hgd : o.guard = none) (s x : Operand) (t : TypeId) (ho : o.op = Op.call { callee := Callee.builtin Builtin.append, args := #[s, x], argTypes := #[t, t] })
    (h base : Nat) (i : TypeInfo) (z : Value) (ht : P.underlying t = some (.slice 5)) (hi : P.info? 5 = some i) (hz : i.zero = some z) (hsz : i.size = 1) (hby : i.bytes = 1) (hzs : z.cells.size = 1)
    (v : Value) (n : Nat) (xs : List Value) (hs : a.eval s = v) (H : OutRel w h base v n xs)
    (ad : Addr) (m c : Nat) (news : List Value) (hx : a.eval x = .slice (some ad) m c) (hn : news.length = m) (hc : ∀ j u, news[j]? = some u → w.cell? (ad.add j) = some u) (h1 : ∀ u ∈ news, u.oneCell' = true)
    (hm : 0 < m) (hb2 : n + m ≤ 140737488355328) (hbase : base ≤ w.heap.size)
    (hK : ∀ v' w', w'.ownsRow base 5 1 v' (n + m) (xs ++ news) → w.grownBy w' v.ownBlock → wpList P ops Q rest (a.put o.dst v') w') : wpList P ops Q (o :: rest) a w := by
  rcases H with H | ⟨rfl, hl, t', hk⟩
  · exact wpList_append_lies _ hgd s x t ho base _ i z 1 1 ht hi hz hsz hby hzs (by omega) v n xs hs H ad m c news hx (by omega) hc h1 hm (by simp only [maxLen]; omega) (by omega) hbase w.heap.size rfl
      fun g cap w' hown hg _ _ => hK _ _ hown hg
  · refine wpList_append_grows w hgd s x t ho _ i z 1 1 ht hi hz hsz hby hzs (by omega) _ n n xs hs (by simp) (by omega) (fun b hb j u hu => ?_) ad m c news hx (by omega) hc h1 (by omega) (by simp only [maxLen]; omega) (by omega)
      fun v' w' hown hg => hK _ _ (own_more hown hbase) (grownAny hg _)
    injection hb with hb
    subst hb
    have := hk.cell j
    unfold Addr.add
    split
    · rename_i h0; subst h0; rw [hk.cell]; simpa using hu
    · simp only [Nat.zero_add]; rw [hk.cell]; simpa using hu
end

theorem OutRel.conv {w : World} {h base n : Nat} {v : Value} {l : List Int} (H : OutRel w h base v n (ucells l)) (hn : 0 < n) (src dst : TypeId) (hs : Tryd.prog.underlying src = some (.slice 5))
    (hd : Tryd.prog.underlying dst = some .string) (he : Tryd.prog.underlying 5 = some (.int .u8)) : (convert src dst v).run Tryd.prog w = .ok (.string (strOfNums l)) w := by
  have hl := H.len
  rw [ucells_length] at hl
  rcases H with H | ⟨rfl, _, t', hk⟩
  · obtain ⟨g, cap, rfl, _⟩ := H.form hn
    refine run_convert_bytes_arg w src _ hs he g 0 n cap l hl (fun i hi => ?_) dst hd
    have hc := H.cells (g := g) rfl
    have h2 := hc i (.int .u8 (l.getD i 0)) (by simp [ucells, List.getD, List.getElem?_eq_getElem (show i < l.length by omega)])
    simp only [Addr.add] at h2
    split at h2
    · rename_i h0; subst h0; simpa using h2
    · simpa using h2
  · refine run_convert_bytes_arg w src _ hs he h 0 n n l hl (fun i hi => ?_) dst hd
    rw [Nat.zero_add, hk.cell]
    simp [ucells, List.getD, List.getElem?_eq_getElem (show i < l.length by omega)]

/-- While a script is written. -/
structure EW (w wr : World) (x : PScr) (A A' : Option Addr) (c c' : Nat) (C : Nat) (v : Value) (n : Nat) (bs : List Int) : Prop where
  o : Bk wr w.heap.size 29 #[.int .i64 x.st, .int .i64 x.en, .int .i64 x.th, .int .i64 x.sl, .int .i64 x.no, .slice A x.ops.length c, .slice A' x.picks.length c']
  c : Bk wr C 25 #[.int .i64 x.st, .int .i64 x.en, .int .i64 x.th, .int .i64 x.sl, .int .i64 x.no]
  kk : Bk wr (C + 2) 3 ((kindsOf x.st).map (Value.int .i64)).toArray
  out : OutRel wr (C + 1) (C + 3) v n (ucells bs)
  hC : w.heap.size < C
  below : Below w.heap.size w wr

section
variable {w wr w' : World} {x : PScr} {A A' : Option Addr} {c c' C n : Nat} {v : Value} {bs : List Int}
theorem EW.more (E : EW w wr x A A' c c' C v n bs) (h : Below wr.heap.size wr w') : EW w w' x A A' c c' C v n bs :=
  ⟨E.o.belowAll h, E.c.belowAll h, E.kk.belowAll h, E.out.below h, E.hC, E.below.trans (h.mono E.below.size)⟩
theorem EW.alloc (E : EW w wr x A A' c c' C v n bs) (o : Obj) : EW w (wr.alloc o) x A A' c c' C v n bs := E.more ((Below.refl _ _).alloc (Nat.le_refl _) _)
theorem EW.drew (E : EW w wr x A A' c c' C v n bs) : EW w wr.drew x A A' c c' C v n bs := E.more (Below.refl _ _).drew
theorem EW.drewN (E : EW w wr x A A' c c' C v n bs) (k : Nat) : EW w (wr.drewN k) x A A' c c' C v n bs := E.more (below_drewN (Below.refl _ _) k)
theorem EW.lt (E : EW w wr x A A' c c' C v n bs) : C + 3 ≤ wr.heap.size := E.kk.lt
theorem EW.st (E : EW w wr x A A' c c' C v n bs) : wr.cell? ⟨C, 0, none⟩ = some (.int .i64 x.st) := by have := E.c.cell 0; simpa using this
theorem EW.picks (E : EW w wr x A A' c c' C v n bs) : wr.cell? ⟨w.heap.size, 6, none⟩ = some (.slice A' x.picks.length c') := by have := E.o.cell 6; simpa using this
theorem EW.ops (E : EW w wr x A A' c c' C v n bs) : wr.cell? ⟨w.heap.size, 5, none⟩ = some (.slice A x.ops.length c) := by have := E.o.cell 5; simpa using this
theorem EW.push {m : Nat} {v' : Value} {ns : List Int} (E : EW w wr x A A' c c' C v n bs) (hown : w'.ownsRow (C + 3) 5 1 v' (n + m) (ucells bs ++ ucells ns)) (hg : wr.grownBy w' v.ownBlock) :
    EW w w' x A A' c c' C v' (n + m) (bs ++ ns) := by
  have hb := E.out.block
  have hC := E.hC
  refine ⟨E.o.grown hg (fun e => ?_), E.c.grown hg (fun e => ?_), E.kk.grown hg (fun e => ?_), .inl (by rw [ucells_append]; exact hown), hC, E.below.grown hg E.below.size (fun g e => ?_)⟩
  · have := hb _ e.symm; omega
  · have := hb _ e.symm; omega
  · have := hb _ e.symm; omega
  · have := hb _ e; omega
end

end Go.Proofs.YthecbeejlpgdaaaDoor
