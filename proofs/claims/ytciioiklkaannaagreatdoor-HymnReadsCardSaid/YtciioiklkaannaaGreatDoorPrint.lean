/- hymn.Print, walked. -/
import Derived.Test.YtciioiklkaannaaGreatDoorChunk
import Derived.Test.YtciioiklkaannaaGreatDoorPrintP
import Derived.Test.YtciioiklkaannaaGreatDoorFnGood
import Derived.Test.YtciioiklkaannaaGreatDoorShelf
import Derived.Deep.CutBlock
namespace Go.Proofs.YtciioiklkaannaaGreatDoor
open Go Go.RowKit Go.Shelf
set_option linter.unusedSimpArgs false
set_option linter.unusedVariables false
set_option linter.unusedSectionVars false

attribute [local go_sem] Oper.semAt_some

theorem stCell {w : World} {a b c : Addr} {m : Int} (G : GH w a b c m) {k : Int} (h1 : 1 ≤ k) (h5 : k ≤ 5) : w.cell? ⟨3, (k - 1).toNat, none⟩ = some (.string (bs (stWord k))) := by
  refine G.sts _ _ ?_
  have : k = 1 ∨ k = 2 ∨ k = 3 ∨ k = 4 ∨ k = 5 := by omega
  rcases this with rfl | rfl | rfl | rfl | rfl <;> rfl
theorem enCell {w : World} {a b c : Addr} {m : Int} (G : GH w a b c m) {k : Int} (h1 : 1 ≤ k) (h5 : k ≤ 5) : w.cell? ⟨4, (k - 1).toNat, none⟩ = some (.string (bs (enWord k))) := by
  refine G.ens _ _ ?_
  have : k = 1 ∨ k = 2 ∨ k = 3 ∨ k = 4 ∨ k = 5 := by omega
  rcases this with rfl | rfl | rfl | rfl | rfl <;> rfl

set_option maxRecDepth 100000 in
set_option maxHeartbeats 1600000 in
theorem sizes_bk (g : Nat) (w : World) : Calls Tryz.prog 20 #[.pointer (some ⟨g, 0, none⟩)] w fun e w' => ∃ N T, e = .returned (.slice (some ⟨N, 0, none⟩) 3 3) ∧ Bk w' N T #[.pointer (some ⟨g, 2, none⟩), .pointer (some ⟨g, 3, none⟩), .pointer (some ⟨g, 4, none⟩)] ∧ T ≠ tU8 ∧ w.heap.size ≤ N ∧ Below w.heap.size w w' := by
  go_enter Tryz.func20, Tryz.ntmps20
  go_wp2_with fail
  refine wp_region_T (fun _ => True) 11 (by kernel_rfl) trivial (fun hS => ?_)
  generalize hw : w.drew = w1
  ((try simp only [Act.put, List.setIfInBounds_toArray, List.set_cons_succ, List.set_cons_zero]); refine wpT_batch (fuel := 2) (by kernel_rfl) (by kernel_rfl) (fun d => by cases d <;> exact fun _ _ _ _ h => h) hS [0, 1, 2, 3, 4, 5, 6, 7, 8] _ _ (by kernel_rfl) ?_; simp only [pickOps, nthOp, List.toList_toArray]; (repeat (first | go_big_quiet_skip | (go_big_quiet_want; first | (go_big_quiet_op; go_big_quiet_on) | (apply Exists.intro; refine ⟨fun w' hS' => ?_, ?_⟩; (· (skip; go_simp; first | done | rfl | exact ⟨rfl, rfl⟩)); go_big_quiet_on; simp only [Act.put, List.setIfInBounds_toArray, List.set_cons_succ, List.set_cons_zero])))); refine wpQuiet_nil ?_; (try dsimp only))
  (refine wpT_loudN 9 (by kernel_rfl) (fun K hK => ?_); simp only [nthOp, List.toList_toArray])
  go_wp2_with fail
  refine hK.out _ _ (fun _ => trivial) ?_
  clear hK hS
  have hS : (fun _ : World => True) w1 := trivial
  ((try simp only [Act.put, List.setIfInBounds_toArray, List.set_cons_succ, List.set_cons_zero]); refine wpT_batch (fuel := 0) (by kernel_rfl) (by kernel_rfl) (fun d => by cases d <;> exact fun _ _ _ _ h => h) hS [10] _ _ (by kernel_rfl) ?_; simp only [pickOps, nthOp, List.toList_toArray]; (repeat (first | go_big_quiet_skip | (go_big_quiet_want; first | (go_big_quiet_op; go_big_quiet_on) | (apply Exists.intro; refine ⟨fun w' hS' => ?_, ?_⟩; (· (skip; go_simp; first | done | rfl | exact ⟨rfl, rfl⟩)); go_big_quiet_on; simp only [Act.put, List.setIfInBounds_toArray, List.set_cons_succ, List.set_cons_zero])))); refine wpQuiet_nil ?_; (try dsimp only))
  refine wpT_done (by kernel_rfl) ?_ _
  go_wp2_with fail
  subst hw
  go_ret
  exact ⟨_, rfl, _, Bk.at_ rfl, by decide, Nat.le_refl _, by (repeat' (first | (with_reducible exact Below.refl _ _) | (with_reducible assumption) | (with_reducible refine Below.alloc ?_ ?_ _) | (with_reducible refine Below.drew ?_) | (with_reducible refine below_drewN ?_ _) | (with_reducible refine Below.setCell ?_ ?_ _) | go_size))⟩

theorem range_piece {α : Type} {g : Operand} {ps : Array Tmp} {assign body : Code} {Q : Exit → Act → World → Prop} {a : Act} {w : World} {n : Nat} (i j : Nat) (h1 : 1 ≤ n) {gf : Nat} {lb : Array Value} (hg : a.eval g = .func (.func gf) #[] lb)
    (eg : ∀ args w, (callFunc gf args).run Tryz.prog w = .ok (.enter gf args) w) {enc : α → Value} {Kp : World → World → Prop} {S Sp : List α → Prop} {N : Nat} (hseq : SeqStopsK Fence.wide (n - 1) Tryz.prog gf lb (fun x => #[enc x]) Kp S Sp N w)
    (hKt : ∀ {A B C : World}, Kp A B → Kp B C → Kp A C) (hKb : ∀ (W : World) (l : Nat) (o o' : Obj), w.heap.size ≤ l → W.heap[l]? = some o → o.isCells = false → o.isWalk = false → Kp W (W.putObj l o')) (hps : ps.size = 1)
    (I : List α → World → Prop) (hI : OwnFrom w.heap.size I) (h0 : I [] w)
    (hassign : ∀ (l : Nat) (x : α) (W : World) (K : Act → World → Prop), K { tmps := (a.tmps.setIfInBounds i (enc x)).setIfInBounds j (enc x), defers := [] } W →
      assign.wpIn (Fence.wide.inRound l) (n - 1 - 1) Tryz.prog (Exit.then K (fun _ _ _ => False)) { tmps := (ps.zip #[enc x]).foldl (fun t (p, v) => t.setIfInBounds p v) a.tmps, defers := [] } W)
    (hbody : ∀ (l : Nat) (pre : List α) (x : α) (W : World), I pre W → pre.length < N → body.wpIn (Fence.wide.inRound l) (n - 1 - 1) Tryz.prog (ownPostK Kp I (fun _ _ _ => False) (pre ++ [x]) W) { tmps := (a.tmps.setIfInBounds i (enc x)).setIfInBounds j (enc x), defers := [] } W)
    (hdone : ∀ (D : Nat) (xs : List α) (W : World), w.heap.size ≤ D → S xs → I xs W → W.heap[D]? = some (.deferred (some [])) → Q .normal { a with defers := { target := .collected D, args := #[] } :: a.defers } W) :
    (Code.rangeFunc g ps assign body).wpIn Fence.wide n Tryz.prog Q a w :=
  wpIn_rangeFunc_ownF rfl h1 hg trivial eg hseq hKt hKb (Below.refl _ _) (fun _ => hps.symm) I (fun _ _ _ => False) hI (fun _ _ _ _ _ hs _ _ => hs) h0 _ hassign hbody hdone (fun D c pre W _ _ h _ => h.elim)
theorem kept2_t {Bs Bn : Nat} {A B C : World} (h : kept2 Bs Bn A B) (k : kept2 Bs Bn B C) : kept2 Bs Bn A C := ⟨k.1.trans h.1, k.2.trans h.2⟩

/-- A post that no panic meets. -/
def calmly (Q : Exit → Act → World → Prop) : Exit → Act → World → Prop
  | .panic _, _, _ => False
  | e, a, w => Q e a w
theorem calmly_of {Q : Exit → Act → World → Prop} (e : Exit) (a : Act) (w : World) (h : calmly Q e a w) : Q e a w := by
  cases e <;> first | exact h | exact h.elim

section
variable {w : World} {a b c : Addr} {m : Int} (G : GH w a b c m)
include G
set_option maxRecDepth 100000 in
set_option maxHeartbeats 1600000 in
theorem print_no (x : PScr) (A A' : Option Addr) (ca ca' : Nat) (ho : Sl w w.heap.size 5 A x.ops.length (tcells x.ops)) (hp : Sl w w.heap.size 1 A' x.picks.length (icells x.picks))
    (lo : x.ops.length ≤ 9223372036854775807) (lp : x.picks.length ≤ 9223372036854775807) (hg : goodB x = false) :
    Calls Tryz.prog 6 #[x.v A ca A' ca'] w fun e w' => e = .returned (.tuple #[.string ⟨#[]⟩, .iface 203 (.pointer (some a))]) ∧ Below w.heap.size w w' := by
  have HG := Lib.hid hg; clear hg
  have hgood := fun (w1 : World) (G1 : GH w1 a b c m) (h1 : Below w.heap.size w w1) => good_any x A A' ca ca' w1 _ _ G1.ea ((ho.below h1).more h1.size) ((hp.below h1).more h1.size) lo lp
  have HH := Lib.hid hgood
  clear hgood
  obtain ⟨st, en, th, sl, no, ops, picks⟩ := x
  simp only [PScr.v] at *
  have hb0 : Below w.heap.size w (w.alloc (.cells #[.int .i64 st, .int .i64 en, .int .i64 th, .int .i64 sl, .int .i64 no, .slice A ops.length ca, .slice A' picks.length ca'] 27)) := (Below.refl _ _).alloc (Nat.le_refl _) _
  have G0 := G.more hb0
  go_enter Tryz.func6, Tryz.ntmps6
  go_wp2_with fail
  generalize (w.alloc (.cells #[.int .i64 st, .int .i64 en, .int .i64 th, .int .i64 sl, .int .i64 no, .slice A ops.length ca, .slice A' picks.length ca'] 27)) = w0 at *
  refine (HH.out _ G0 hb0).mono ?_
  rintro e w1 ⟨rfl, hb1⟩
  rw [HG.out]
  have hB := hb0.trans (hb1.mono hb0.size)
  have hea := (G.more hB).ea
  clear HH hb1 hb0 G0
  go_wp2_with fail
  go_quiet (fail)
  go_wp2_with fail
  go_ret2
  exact ⟨rfl, by (repeat' (first | (with_reducible exact Below.refl _ _) | (with_reducible assumption) | (with_reducible refine Below.alloc ?_ ?_ _) | (with_reducible refine Below.drew ?_) | (with_reducible refine below_drewN ?_ _) | (with_reducible refine Below.setCell ?_ ?_ _) | go_size))⟩

set_option maxRecDepth 100000 in
set_option maxHeartbeats 6400000 in
theorem print_yes (x : PScr) (A A' : Option Addr) (ca ca' : Nat) (ho : Sl w w.heap.size 5 A x.ops.length (tcells x.ops)) (hp : Sl w w.heap.size 1 A' x.picks.length (icells x.picks))
    (hg : goodB x = true) (hca : x.picks.length ≤ ca') (hca' : ca' ≤ 9223372036854775807) :
    Calls Tryz.prog 6 #[x.v A ca A' ca'] w fun e w' => e = .returned (.tuple #[.string (bs (textL x)), .nilIface]) ∧ Below w.heap.size w w' := by
  have HG := Lib.hid hg
  have HC := Lib.hid (canon_of_good hg)
  have hlen : x.ops.length ≤ 64 ∧ x.picks.length ≤ 4096 := by
    simp only [goodB, Bool.and_eq_true, decide_eq_true_eq] at hg
    exact ⟨hg.1.1.1.2, hg.1.1.2⟩
  obtain ⟨lo, lp⟩ := hlen
  clear hg
  have hgood := fun (w1 : World) (G1 : GH w1 a b c m) (h1 : Below w.heap.size w w1) => good_any x A A' ca ca' w1 _ _ G1.ea ((ho.below h1).more h1.size) ((hp.below h1).more h1.size) (by omega) (by omega)
  have HH := Lib.hid hgood
  have HT := Lib.hid (text_picks x)
  clear hgood
  have hb0 : Below w.heap.size w (w.alloc (.cells #[.int .i64 x.st, .int .i64 x.en, .int .i64 x.th, .int .i64 x.sl, .int .i64 x.no, .slice A x.ops.length ca, .slice A' x.picks.length ca'] 27)) := (Below.refl _ _).alloc (Nat.le_refl _) _
  have X0 : Bk (w.alloc (.cells #[.int .i64 x.st, .int .i64 x.en, .int .i64 x.th, .int .i64 x.sl, .int .i64 x.no, .slice A x.ops.length ca, .slice A' x.picks.length ca'] 27)) w.heap.size 27 #[.int .i64 x.st, .int .i64 x.en, .int .i64 x.th, .int .i64 x.sl, .int .i64 x.no, .slice A x.ops.length ca, .slice A' x.picks.length ca'] := Bk.at_ rfl
  have G0 := G.more hb0
  refine (callsIn_wide (n := 6)).1 ?_
  refine callsIn_of_wp_marks Tryz.func6 rfl trivial ?_ rfl
  simp only [Tryz.ntmps6, PScr.v, List.size_toArray, List.length_cons, List.length_nil, Nat.reduceAdd, Nat.reduceSub, Array.replicate_succ, Array.replicate_zero, List.push_toArray, List.append_toArray, List.nil_append, List.cons_append]
  refine wpIn_mono ?_ calmly_of
  refine wpIn_wide.2 ?_
  go_wp2_with fail
  generalize (w.alloc (.cells #[.int .i64 x.st, .int .i64 x.en, .int .i64 x.th, .int .i64 x.sl, .int .i64 x.no, .slice A x.ops.length ca, .slice A' x.picks.length ca'] 27)) = w0 at *
  refine (HH.out _ G0 hb0).mono ?_
  rintro e w1 ⟨rfl, hb1⟩
  rw [HG.out]
  have hB := hb0.trans (hb1.mono hb0.size)
  have X1 := X0.belowAll hb1
  clear HH hb1 hb0 G0 X0
  have X2 := X1.alloc (.cells #[.pointer none, .slice none 0 0] 57)
  have y0 := X2.cell 0; have y1 := X2.cell 1; have y2 := X2.cell 2; have y3 := X2.cell 3; have y4 := X2.cell 4
  simp only [List.getElem?_toArray, List.getElem?_cons_zero, List.getElem?_cons_succ] at y0 y1 y2 y3 y4
  have C2 : Bk ((w1.alloc (.cells #[.pointer none, .slice none 0 0] 57)).alloc (.cells #[.int .i64 0, .int .i64 0, .int .i64 0, .int .i64 0, .int .i64 0] 23)) (w1.heap.size + 1) 23 #[.int .i64 0, .int .i64 0, .int .i64 0, .int .i64 0, .int .i64 0] := Bk.at_ (by simp)
  have M2 : PB w w1.heap.size [(w.heap.size, 27, #[.int .i64 x.st, .int .i64 x.en, .int .i64 x.th, .int .i64 x.sl, .int .i64 x.no, .slice A x.ops.length ca, .slice A' x.picks.length ca'])] [] ((w1.alloc (.cells #[.pointer none, .slice none 0 0] 57)).alloc (.cells #[.int .i64 0, .int .i64 0, .int .i64 0, .int .i64 0, .int .i64 0] 23)) :=
    (PB.fresh hB X1 (by decide)).alloc _
  go_wp2_with (refine wpList_store_bk (by rfl) _ _ _ (by rfl) (w1.heap.size + 1) _ (by rfl) (by rfl) _ _ C2 (by rfl) (by kernel_rfl) (by rfl) ?_; intro wy hst)
  have M3 := M2.stored C2 hst (by have := hB.size; omega) (by omega) (by decide) (by simp; have := X1.lt; omega)
  clear M2 C2 X2 y0 y1 y2 y3 y4 hst hB
  generalize w1.heap.size = b0 at *
  obtain ⟨j, hj⟩ : ∃ j : Nat, (x.st - 1).toNat = j := ⟨_, rfl⟩
  obtain ⟨k, hk⟩ : ∃ k : Nat, (x.en - 1).toNat = k := ⟨_, rfl⟩
  have hst := HC.out.st
  have hen := HC.out.en
  have Gd := G.more M3.drew.below
  have ts := stCell Gd hst.1 hst.2
  have te := enCell Gd hen.1 hen.2
  rw [hj] at ts
  rw [hk] at te
  have j1 : x.st - 1 = (j : Int) := by omega
  have k1 : x.en - 1 = (k : Int) := by omega
  have j2 : (0 : Int) ≤ (j : Int) := by omega
  have j3 : (j : Int) < 5 := by omega
  have k2 : (0 : Int) ≤ (k : Int) := by omega
  have k3 : (k : Int) < 5 := by omega
  have wj : IntKind.i64.wrap (j : Int) = (j : Int) := IntWalk.i64_in _ (by omega)
  have wk : IntKind.i64.wrap (k : Int) = (k : Int) := IntWalk.i64_in _ (by omega)
  have lst := stWord_len hst.1 hst.2
  have len' := enWord_len hen.1 hen.2
  have HS := Lib.hid (head_start x)
  have M4 := M3.drew
  have sS : (bs (stWord x.st)).size ≤ 8 := by rw [bs_size]; omega
  have sE : (bs (enWord x.en)).size ≤ 8 := by rw [bs_size]; omega
  have z1 : ¬ (9223372036854775807 < 5 + (bs (stWord x.st)).size) := by omega
  have z2 : ¬ (9223372036854775807 < 5 + (bs (stWord x.st)).size + 1) := by omega
  have z3 : ¬ (9223372036854775807 < 5 + (bs (stWord x.st)).size + 1 + (bs (enWord x.en)).size) := by omega
  clear hj hk hst hen Gd M3
  refine wp_region_T (fun w' : World => (Bk w' (b0 + 1) 23 #[.int .i64 x.st, .int .i64 x.en, .int .i64 x.th, .int .i64 x.sl, .int .i64 x.no] ∧ w'.cell? ⟨3, j, none⟩ = some (.string (bs (stWord x.st)))) ∧ w'.cell? ⟨4, k, none⟩ = some (.string (bs (enWord x.en)))) 14 (by kernel_rfl) ⟨⟨M4.bl _ (List.mem_cons_self ..), ts⟩, te⟩ (fun hS => ?_)
  generalize wy.drew = w5 at *
  ((try simp only [Act.put, List.setIfInBounds_toArray, List.set_cons_succ, List.set_cons_zero]); refine wpT_batch (fuel := 1) (by kernel_rfl) (by kernel_rfl) (fun d => by cases d <;> exact fun _ _ _ _ h => h) hS [0, 1, 2, 3, 4, 5, 6, 7, 8, 9, 10, 11, 12] _ _ (by kernel_rfl) ?_; simp only [pickOps, nthOp, List.toList_toArray]; (repeat (first | go_big_quiet_skip | (go_big_quiet_want; first | (go_big_quiet_op; go_big_quiet_on) | (apply Exists.intro; refine ⟨fun w' hS' => ?_, ?_⟩; (· ((obtain ⟨⟨hq, f3⟩, f4⟩ := hS'; have f1 := hq.cell 0; have f2 := hq.cell 1; simp at f1 f2); go_simp; first | done | rfl | exact ⟨rfl, rfl⟩)); go_big_quiet_on; simp only [Act.put, List.setIfInBounds_toArray, List.set_cons_succ, List.set_cons_zero])))); refine wpQuiet_nil ?_; (try dsimp only))
  clear hS
  have e0 : (⟨#[121, 97, 114, 100, 32]⟩ : ByteArray) ++ bs (stWord x.st) ++ ⟨#[32]⟩ ++ bs (enWord x.en) = bs (headK x 0) := by
    rw [HS.out, ← bs_append, ← bs_append, ← bs_append]; rfl
  have hl0 := head_len x HC.out 0 (by omega)
  (refine wpT_loudN 13 (by kernel_rfl) (fun K hK => ?_); simp only [nthOp, List.toList_toArray])
  go_wp2_with fail
  rw [e0]
  refine (M4.write_call (headK x 0) (by simp; omega)).mono ?_
  rintro e w6 ⟨rfl, M6, _⟩
  rw [List.nil_append] at M6
  have G6 := G.more M6.below
  have ts6 := stCell G6 HC.out.st.1 HC.out.st.2
  have te6 := enCell G6 HC.out.en.1 HC.out.en.2
  rw [show (x.st - 1).toNat = j from by omega] at ts6
  rw [show (x.en - 1).toNat = k from by omega] at te6
  go_wp2_with fail
  refine hK.out _ _ (fun _ => ⟨⟨M6.bl _ (List.mem_cons_self ..), ts6⟩, te6⟩) ?_
  clear hK ts te ts6 te6 G6 M4 HS sS sE z1 z2 z3 lst len' wj wk j1 j2 j3 k1 k2 k3 e0 hl0
  refine wpT_done (by kernel_rfl) ?_ _
  go_wp2_with fail
  refine (sizes_bk (b0 + 1) w6).mono ?_
  rintro e w7 ⟨N, T, rfl, hN, hT, hNz, hb7⟩
  have M7 := Lib.hid ((M6.more hb7).push hN (by have := M6.ltb; omega) hT)
  clear M6 hb7 hN hNz
  go_wp2_with fail
  have cN := M7.out.get (List.mem_cons_self ..)
  go_loopw [37] (fun t37 wr => ∃ k, t37 = .int .i64 (k : Nat) ∧ k ≤ 3 ∧ PB w b0 [(N, T, #[.pointer (some ⟨b0 + 1, 2, none⟩), .pointer (some ⟨b0 + 1, 3, none⟩), .pointer (some ⟨b0 + 1, 4, none⟩)]), (b0 + 1, 23, #[.int .i64 x.st, .int .i64 x.en, .int .i64 x.th, .int .i64 x.sl, .int .i64 x.no]), (w.heap.size, 27, #[.int .i64 x.st, .int .i64 x.en, .int .i64 x.th, .int .i64 x.sl, .int .i64 x.no, .slice A x.ops.length ca, .slice A' x.picks.length ca'])] (headK x k) wr) (fun t37 _ => 3 - (intOf t37).toNat)
  case atStart => exact ⟨0, rfl, by omega, M7.out⟩
  case round =>
    obtain ⟨k, rfl, hk, M'⟩ := hrel
    have M := Lib.hid M'; clear M' M7
    by_cases hlt : k < 3
    · obtain ⟨v, o, hv, q1, q2, v0, v1⟩ : ∃ v o, [x.th, x.sl, x.no][k]? = some v ∧ wr.cell? ⟨N, k, none⟩ = some (.pointer (some ⟨b0 + 1, o, none⟩)) ∧ wr.cell? ⟨b0 + 1, o, none⟩ = some (.int .i64 v) ∧ 0 ≤ v ∧ v ≤ 1073741824 := by
        have h1 := M.out.get (List.mem_cons_self ..)
        have h2 := M.out.get (List.mem_cons_of_mem _ (List.mem_cons_self ..))
        have : k = 0 ∨ k = 1 ∨ k = 2 := by omega
        rcases this with rfl | rfl | rfl
        · exact ⟨x.th, 2, rfl, h1.cell 0, h2.cell 2, HC.out.th.1, HC.out.th.2⟩
        · exact ⟨x.sl, 3, rfl, h1.cell 1, h2.cell 3, HC.out.sl.1, HC.out.sl.2⟩
        · exact ⟨x.no, 4, rfl, h1.cell 2, h2.cell 4, HC.out.no.1, HC.out.no.2⟩
      have HST := Lib.hid (head_step x k hlt v hv)
      obtain ⟨dd, hdd, ldd⟩ := dec_size v v0 v1
      have T1 := Lib.hid (G.more M.out.below).tab
      have hsum : ¬ (9223372036854775807 < 1 + dd.size) := by omega
      have e1 : Hid ((⟨#[32]⟩ : ByteArray) ++ dd = bs ([32] ++ Lib.decDigits v.toNat)) := by show _ = _; rw [← hdd.out, ← bs_append]; rfl
      have hl0 := head_len x HC.out k hk
      have hl1 := dec_le v0 v1
      have i1 : (0 : Int) ≤ (k : Int) := by omega
      have i2 : (k : Int) < 3 := by omega
      clear hv
      go_wp2_with fail
      refine (dec_is v v0 v1 _ T1 dd hdd).mono ?_
      rintro e w3 ⟨rfl, hb3⟩
      have M3 := M.out.more hb3
      go_wp2_with fail
      rw [e1.out]
      refine (M3.write_call ([32] ++ Lib.decDigits v.toNat) (by simp; omega)).mono ?_
      rintro e w4 ⟨rfl, M4, _⟩
      rw [← HST.out] at M4
      have M5 := Lib.hid M4
      clear M4 M3 e1 hsum T1
      go_wp2_with fail
      go_roundw
      case rel => exact ⟨k + 1, by go_num, by omega, M5.out⟩
      case measure => simp [intOf]; omega
    · obtain rfl : k = 3 := by omega
      have hl0 := head_len x HC.out 3 (by omega)
      go_wp2_with fail
      rw [show (⟨#[10]⟩ : ByteArray) = bs [10] from rfl]
      refine (M.out.write_call [10] (by simp; omega)).mono ?_
      rintro e w4 ⟨rfl, M4, _⟩
      rw [head_fin] at M4
      have M5 := Lib.hid M4.pop
      clear M M4 cN hl0
      have q5 := (M5.out.get (List.mem_cons_of_mem _ (List.mem_cons_self ..))).cell 5
      simp at q5
      go_wp2_with fail
      clear q5
      go_loopw [52] (fun t52 wr => ∃ k, t52 = .int .i64 (k : Nat) ∧ k ≤ x.ops.length ∧ PB w b0 [(b0 + 1, 23, #[.int .i64 x.st, .int .i64 x.en, .int .i64 x.th, .int .i64 x.sl, .int .i64 x.no]), (w.heap.size, 27, #[.int .i64 x.st, .int .i64 x.en, .int .i64 x.th, .int .i64 x.sl, .int .i64 x.no, .slice A x.ops.length ca, .slice A' x.picks.length ca'])] (opsK x k) wr) (fun t52 _ => x.ops.length - (intOf t52).toNat)
      case atStart => exact ⟨0, rfl, Nat.zero_le _, M5.out⟩
      case round =>
        obtain ⟨k, rfl, hk, M'⟩ := hrel
        have M := Lib.hid M'; clear M' M5
        by_cases hlt : k < x.ops.length
        · obtain ⟨ob, off, rfl, hob, c0, c1, c2, c3, c4⟩ := (ho.below M.out.below).task hlt
          obtain ⟨t1, t2, t3⟩ := HC.out.ops _ (List.getElem_mem hlt)
          have HST := Lib.hid (ops_step x k hlt)
          have hl0 := ops_len x HC.out k hk
          have hl1 := lineL_len t3
          have HF := Lib.hid t3
          clear t3
          generalize x.ops[k] = tk at *
          obtain ⟨tn, ok, oe, ov, ot⟩ := tk
          simp only at c0 c1 c2 c3 c4 t1 t2 HF HST hl1
          obtain ⟨dd, hdd, ldd⟩ := dec_size tn t1 t2
          have ld := dec_le t1 t2
          have hz := M.out.ltb
          have TB : Bk (wr.alloc (.cells #[.int .i64 0, .int .i64 0, .int .i64 0, .int .i64 0, .int .i64 0] 53)) wr.heap.size 53 #[.int .i64 0, .int .i64 0, .int .i64 0, .int .i64 0, .int .i64 0] := Bk.at_ rfl
          have MA := Lib.hid (M.out.alloc (.cells #[.int .i64 0, .int .i64 0, .int .i64 0, .int .i64 0, .int .i64 0] 53))
          have hbl := M.out.below.size
          have i1 : (0 : Int) ≤ (k : Int) := by omega
          have i2 : (k : Int) < (x.ops.length : Int) := by omega
          go_upto_region 15 with (refine wpList_store_bk (by rfl) _ _ _ (by rfl) wr.heap.size _ (by rfl) (by rfl) _ _ TB (by rfl) (by kernel_rfl) (by rfl) ?_; intro wy2 hst)
          have hc1 := (M.out.get (List.mem_cons_self ..)).lt
          have hx1 := (M.out.get (List.mem_cons_of_mem _ (List.mem_cons_self ..))).lt
          have M2 := MA.out.stored TB hst hbl (by omega) (by decide) (by simp; omega)
          have TB2 := Lib.hid hst.bk
          have d0 := (M2.get (List.mem_cons_of_mem _ (List.mem_cons_self ..))).cell 0
          have e1 := hst.bk.cell 1; have e2 := hst.bk.cell 2; have e3 := hst.bk.cell 3; have e4 := hst.bk.cell 4
          simp at d0 e1 e2 e3 e4
          have Gy := Lib.hid (G.more M2.below)
          have M3 := Lib.hid M2.pop
          clear M2 hst TB MA M c0 c1 c2 c3 c4 i1 i2 hob hbl hc1 hx1 hz
          generalize wr.heap.size = tb at *
          go_wp2_with fail
          refine (line_yes Gy.out x.st ⟨ok, oe, ov, ot⟩ HF.out).mono ?_
          rintro e w8 ⟨rfl, hb8⟩
          have M4 := Lib.hid (M3.out.more hb8)
          have TB3 := TB2.out.belowAll hb8
          have f0 := TB3.cell 0
          simp at f0
          have T1 := Lib.hid (Gy.out.more hb8).tab
          have hsl : (bs (lineL x.st ⟨ok, oe, ov, ot⟩)).size ≤ 40 := by rw [bs_size]; exact hl1
          have hE : Hid ((⟨#[100, 111, 32]⟩ : ByteArray) ++ dd ++ ⟨#[32]⟩ ++ bs (lineL x.st ⟨ok, oe, ov, ot⟩) ++ ⟨#[10]⟩ = bs ([100, 111, 32] ++ Lib.decDigits tn.toNat ++ [32] ++ lineL x.st ⟨ok, oe, ov, ot⟩ ++ [10])) := by
            show _ = _
            rw [← hdd.out, ← bs_append, ← bs_append, ← bs_append, ← bs_append]; rfl
          clear d0 e1 e2 e3 e4 hb8 Gy M3 TB2 TB3
          generalize bs (lineL x.st ⟨ok, oe, ov, ot⟩) = sl at *
          have z1 : ¬ (9223372036854775807 < 3 + dd.size) := by omega
          have z2 : ¬ (9223372036854775807 < 3 + dd.size + 1) := by omega
          have z3 : ¬ (9223372036854775807 < 3 + dd.size + 1 + sl.size) := by omega
          have z4 : ¬ (9223372036854775807 < 3 + dd.size + 1 + sl.size + 1) := by omega
          go_wp2_with fail
          refine (dec_is tn t1 t2 _ T1 dd hdd).mono ?_
          rintro e w9 ⟨rfl, hb9⟩
          have M5 := M4.out.more hb9
          clear M4
          go_wp2_with fail
          rw [hE.out]
          refine (M5.write_call _ (by simp; omega)).mono ?_
          rintro e w10 ⟨rfl, M6', _⟩
          rw [← HST.out] at M6'
          have M6 := Lib.hid M6'
          clear M6' M5 hE z1 z2 z3 z4 T1
          go_wp2_with fail
          go_roundw
          case rel => exact ⟨k + 1, by go_num, hlt, M6.out⟩
          case measure => simp [intOf]; omega
        · obtain rfl : k = x.ops.length := by omega
          have q6 := (M.out.get (List.mem_cons_of_mem _ (List.mem_cons_self ..))).cell 6
          simp at q6
          go_wp2_with fail
          refine (chunk_any _ _ _ _).mono ?_
          rintro e w8 ⟨rfl, rfl⟩
          have S1 : Bk ((wr.alloc (.cells #[.slice A' x.picks.length ca'] 25)).alloc (.cells #[.int .i64 16] 3)) wr.heap.size 25 #[.slice A' x.picks.length ca'] := (Bk.at_ rfl).alloc _
          have N1 : Bk ((wr.alloc (.cells #[.slice A' x.picks.length ca'] 25)).alloc (.cells #[.int .i64 16] 3)) (wr.heap.size + 1) 3 #[.int .i64 16] := Bk.at_ (by simp)
          have hz := M.out.ltb
          have M1 := (((M.out.alloc (.cells #[.slice A' x.picks.length ca'] 25)).alloc (.cells #[.int .i64 16] 3)).push N1 (by omega) (by decide)).push S1 (by omega) (by decide)
          rw [← ops_fin] at M1
          have M2 := Lib.hid M1
          clear M M1 q6
          generalize wr.heap.size = b1 at *
          generalize ((wr.alloc (.cells #[.slice A' x.picks.length ca'] 25)).alloc (.cells #[.int .i64 16] 3)) = w9 at *
          go_wp2_with fail
          obtain ⟨pb, po, hA, hbt, hcs⟩ : ∃ pb po, (0 < x.picks.length → A' = some ⟨pb, po, none⟩) ∧ (0 < x.picks.length → pb < w.heap.size) ∧ ∀ j u, (icells x.picks)[j]? = some u → w.cell? ⟨pb, po + j, none⟩ = some u := by
            by_cases h : 0 < x.picks.length
            · obtain ⟨pb, po, h1, h2, h3⟩ := hp.2 h
              exact ⟨pb, po, fun _ => h1, fun _ => h2, h3⟩
            · exact ⟨0, 0, fun h' => absurd h' h, fun h' => absurd h' h, fun j u hu => by
                have : x.picks = [] := List.eq_nil_of_length_eq_zero (by omega)
                rw [this] at hu; simp [icells] at hu⟩
          refine (wpIn_wide (n := 6)).1 ?_
          refine range_piece 80 12 (by omega) (gf := 46) rfl (enters_of Tryz.func46 (by kernel_rfl) rfl) (chunk_stops 5 (by omega) b1 (b1 + 1) A' pb po x.picks.length ca' hA lp hca hca' _ S1 N1) kept2_t
            (fun W l o o' h1 h2 _ _ => ⟨World.putObj_heap_other (by have := S1.lt; omega), World.putObj_heap_other (by have := N1.lt; omega)⟩) rfl
            (fun (pre : List (Piece x.picks.length)) W => PB w b0 [(b1, 25, #[.slice A' x.picks.length ca']), (b1 + 1, 3, #[.int .i64 16]), (b0 + 1, 23, #[.int .i64 x.st, .int .i64 x.en, .int .i64 x.th, .int .i64 x.sl, .int .i64 x.no]), (w.heap.size, 27, #[.int .i64 x.st, .int .i64 x.en, .int .i64 x.th, .int .i64 x.sl, .int .i64 x.no, .slice A x.ops.length ca, .slice A' x.picks.length ca'])] (picksK x (pre.map Subtype.val)) W) (pb_own (fun (pre : List (Piece x.picks.length)) => picksK x (pre.map Subtype.val)) M2.out.below.size) M2.out ?assign ?body ?done
          case assign =>
            intro l x W K hK
            gi_wp2
            exact hK
          case body =>
            rintro l pre pc W M3 hlen
            obtain ⟨k, hk16⟩ := pc
            have M := Lib.hid M3
            clear M3
            obtain ⟨q, hq⟩ : ∃ q, q = (cAt x.picks k).length := ⟨_, rfl⟩
            have hq' : min 16 (x.picks.length - 16 * k) = q := by rw [hq, cAt]; simp
            obtain ⟨p, hp'⟩ : ∃ p, p = po + 16 * k := ⟨_, rfl⟩
            have hv : pieceV pb po x.picks.length k = .slice (some ⟨pb, p, none⟩) q q := by unfold pieceV; rw [hq', hp']
            simp only [hv, List.setIfInBounds_toArray, List.set_cons_succ, List.set_cons_zero]
            have HCL : Hid (∀ (j : Nat) (h : j < (cAt x.picks k).length) (W' : World), Below w.heap.size w W' → W'.cell? ⟨pb, p + j, none⟩ = some (.int .i64 (cAt x.picks k)[j])) := fun j h W' hb => by
              have h1 : 16 * k + j < x.picks.length := by rw [← hq] at h; omega
              rw [hb.cell (p := ⟨pb, p + j, none⟩) (hbt (by omega)), hp', Nat.add_assoc]
              refine hcs _ _ ?_
              rw [icells_get _ _ h1]
              simp [cAt]
            have hq16 : q ≤ 16 := by rw [hq]; exact cAt_len x.picks k
            have hl0 := picks_len x HC.out lo (pre.map Subtype.val)
            rw [List.length_map] at hl0
            have HQ := Lib.hid hq
            clear hq hq' hp' hv hcs hbt hA
            gi_wp2_with fail
            refine ⟨trivial, ?_⟩
            rw [show (⟨#[112, 105, 99, 107]⟩ : ByteArray) = bs [112, 105, 99, 107] from rfl]
            refine (CallsIn.inRound l (callsIn_wide.2 (M.out.write_call [112, 105, 99, 107] (by simp only [List.length_append, List.length_cons, List.length_nil]; omega)))).mono ?_
            rintro e w1 ⟨rfl, M1, k1⟩
            rw [← row_start x _ k] at M1
            have M1 := Lib.hid M1
            gi_wp2_with fail
            gi_loopw [84] (fun t84 wr => ∃ j, t84 = .int .i64 (j : Nat) ∧ j ≤ q ∧ PB w b0 [(b1, 25, #[.slice A' x.picks.length ca']), (b1 + 1, 3, #[.int .i64 16]), (b0 + 1, 23, #[.int .i64 x.st, .int .i64 x.en, .int .i64 x.th, .int .i64 x.sl, .int .i64 x.no]), (w.heap.size, 27, #[.int .i64 x.st, .int .i64 x.en, .int .i64 x.th, .int .i64 x.sl, .int .i64 x.no, .slice A x.ops.length ca, .slice A' x.picks.length ca'])] (rowK x (pre.map Subtype.val) k j) wr ∧ KeepsOthers W wr) (fun t84 _ => q - (intOf t84).toNat)
            case atStart => exact ⟨0, rfl, Nat.zero_le _, M1.out, k1⟩
            case round =>
              obtain ⟨j, rfl, hj, M', kr⟩ := hrel
              have M2 := Lib.hid M'; clear M' M1
              have hl1 := row_len x HC.out lo (pre.map Subtype.val) k j
              rw [List.length_map] at hl1
              by_cases hlt : j < q
              · have hlt' : j < (cAt x.picks k).length := by rw [← HQ.out]; exact hlt
                have q1 := HCL.out j hlt' _ M2.out.below
                obtain ⟨v0, v1⟩ := HC.out.picks _ (cAt_mem (List.getElem_mem hlt'))
                have HST := Lib.hid (row_step x (pre.map Subtype.val) k j hlt')
                generalize (cAt x.picks k)[j] = v at *
                obtain ⟨dd, hdd, ldd⟩ := dec_size v v0 v1
                have hl2 := dec_le v0 v1
                have T1 := Lib.hid (G.more M2.out.below).tab
                have hsum : ¬ (9223372036854775807 < 1 + dd.size) := by omega
                have e1 : Hid ((⟨#[32]⟩ : ByteArray) ++ dd = bs ([32] ++ Lib.decDigits v.toNat)) := by show _ = _; rw [← hdd.out, ← bs_append]; rfl
                have i1 : (0 : Int) ≤ (j : Int) := by omega
                have i2 : (j : Int) < (q : Int) := by omega
                gi_wp2_with fail
                refine ⟨trivial, ?_⟩
                refine (CallsIn.inRound l (callsIn_wide.2 (dec_is v v0 v1 _ T1 dd hdd))).mono ?_
                rintro e w3 ⟨rfl, hb3⟩
                have M3 := M2.out.more hb3
                gi_wp2_with fail
                refine ⟨trivial, ?_⟩
                rw [e1.out]
                refine (CallsIn.inRound l (callsIn_wide.2 (M3.write_call ([32] ++ Lib.decDigits v.toNat) (by simp only [List.length_append, List.length_cons, List.length_nil]; omega)))).mono ?_
                rintro e w4 ⟨rfl, M4', k4⟩
                rw [← HST.out] at M4'
                have M5 := Lib.hid M4'
                have kk := kr.trans ((KeepsOthers.of_grownBy (grown_of_below hb3 none) (fun j o e => by cases e)).trans k4)
                clear M4' M3 M2 e1 hsum T1
                gi_wp2_with fail
                go_roundw
                case rel => exact ⟨j + 1, by go_num, hlt, M5.out, kk⟩
                case measure => simp [intOf]; omega
              · obtain rfl : j = q := by omega
                gi_wp2_with fail
                refine ⟨trivial, ?_⟩
                rw [show (⟨#[10]⟩ : ByteArray) = bs [10] from rfl]
                refine (CallsIn.inRound l (callsIn_wide.2 (M2.out.write_call [10] (by simp only [List.length_append, List.length_cons, List.length_nil]; omega)))).mono ?_
                rintro e w4 ⟨rfl, M4', k4⟩
                rw [HQ.out, row_fin] at M4'
                gi_wp2_with fail
                refine ⟨kr.trans k4, ⟨?_, ?_⟩, ?_⟩
                · exact Eq.trans (M4'.get (List.mem_cons_self ..)) (Eq.symm (M.out.get (List.mem_cons_self ..)))
                · exact Eq.trans (M4'.get (List.mem_cons_of_mem _ (List.mem_cons_self ..))) (Eq.symm (M.out.get (List.mem_cons_of_mem _ (List.mem_cons_self ..))))
                · (try dsimp only); rw [List.map_append]; exact M4'
          case done =>
            intro D xs W hD hxs M3 hDD
            have hxs' : xs.map Subtype.val = List.range ((x.picks.length + 15) / 16) := hxs
            simp only [hxs', ← HT.out] at M3
            have M4 := Lib.hid M3
            clear M3 hxs hxs'
            go_wp2_with fail
            refine (Tryz.Builder_String_any_k w.heap.size b0 (textL x) W M4.out.bb M4.out.below.size).mono ?_
            rintro e w10 ⟨rfl, h1, h2, h3⟩
            have hs1 := S1.lt
            have hs2 := M2.out.below.size
            have hDD2 := h3 D _ hDD (by intro e; cases e; omega) (fun _ _ e => by cases e)
            have hB := M4.out.below.trans h2
            go_wp2_with fail
            refine ⟨by simp, Or.inl ⟨_, _, rfl, run_takeDeferred hDD2, ?_⟩⟩
            refine ⟨.tuple #[.string (bs (textL x)), .nilIface], by simp [results, Tryz.results6, go_sem, bs], rfl, ?_⟩
            exact hB.trans (belowK_b (w := w) (Nat.le_refl _) w10 D _ _ (by omega) hDD2 rfl rfl)
end
end Go.Proofs.YtciioiklkaannaaGreatDoor
