/- hymn.readConfig: the first line. -/
import Derived.Test.YtciioiklkaannaaGreatDoorRead
import Derived.Test.YtciioiklkaannaaGreatDoorRun
namespace Go.Proofs.YtciioiklkaannaaGreatDoor
open Go Go.RowKit
set_option linter.unusedSimpArgs false
set_option linter.unusedVariables false
set_option linter.unusedSectionVars false

def stW : List ByteArray := stWords.map bs
def enW : List ByteArray := enWords.map bs
def stOf (x : ByteArray) : Int := Lib.idxOfS stW x + 1
def enOf (x : ByteArray) : Int := Lib.idxOfS enW x + 1
def stWord (k : Int) : List UInt8 := stWords.getD (k - 1).toNat []
def enWord (k : Int) : List UInt8 := enWords.getD (k - 1).toNat []
theorem stCells_eq : wordCells stWords = strs stW := by simp [wordCells, strs, stW]
theorem enCells_eq : wordCells enWords = strs enW := by simp [wordCells, strs, enW]
theorem stOf_hit {k : Int} (h1 : 1 ≤ k) (h5 : k ≤ 5) : stOf (bs (stWord k)) = k := by
  have : k = 1 ∨ k = 2 ∨ k = 3 ∨ k = 4 ∨ k = 5 := by omega
  rcases this with rfl | rfl | rfl | rfl | rfl <;> decide
theorem enOf_hit {k : Int} (h1 : 1 ≤ k) (h5 : k ≤ 5) : enOf (bs (enWord k)) = k := by
  have : k = 1 ∨ k = 2 ∨ k = 3 ∨ k = 4 ∨ k = 5 := by omega
  rcases this with rfl | rfl | rfl | rfl | rfl <;> decide
theorem stOf_bd (x : ByteArray) : 0 ≤ stOf x ∧ stOf x ≤ 5 := by
  have h := idx_bd stW x 0
  have hl : stW.length = 5 := rfl
  unfold stOf Lib.idxOfS
  omega
theorem enOf_bd (x : ByteArray) : 0 ≤ enOf x ∧ enOf x ≤ 5 := by
  have h := idx_bd enW x 0
  have hl : enW.length = 5 := rfl
  unfold enOf Lib.idxOfS
  omega
theorem stOf_word {x : ByteArray} (h1 : 1 ≤ stOf x) : x = bs (stWord (stOf x)) := by
  have hm : x ∈ stW := (Lib.idxOfS_nonneg_iff stW x).1 (by unfold stOf at h1; omega)
  obtain ⟨l, hl, rfl⟩ := List.mem_map.1 hm
  simp only [stWords, List.mem_cons, List.mem_nil_iff, or_false] at hl
  rcases hl with rfl | rfl | rfl | rfl | rfl <;> decide
theorem enOf_word {x : ByteArray} (h1 : 1 ≤ enOf x) : x = bs (enWord (enOf x)) := by
  have hm : x ∈ enW := (Lib.idxOfS_nonneg_iff enW x).1 (by unfold enOf at h1; omega)
  obtain ⟨l, hl, rfl⟩ := List.mem_map.1 hm
  simp only [enWords, List.mem_cons, List.mem_nil_iff, or_false] at hl
  rcases hl with rfl | rfl | rfl | rfl | rfl <;> decide

def yard : List UInt8 := [121, 97, 114, 100]
def headW (st en : Int) (th sl no : Nat) : List (List UInt8) := [yard, stWord st, enWord en, Lib.decDigits th, Lib.decDigits sl, Lib.decDigits no]
/-- The line's words are a layout's. -/
def CfgIs (s : ByteArray) (st en : Int) (th sl no : Nat) : Prop :=
  1 ≤ st ∧ st ≤ 5 ∧ 1 ≤ en ∧ en ≤ 5 ∧ th ≤ 1073741824 ∧ sl ≤ 1073741824 ∧ no ≤ 1073741824 ∧ sp 32 s.data.toList = headW st en th sl no
def RetCfg (X : Nat) (v5 v6 : Value) (s : ByteArray) (w : World) (e : Ending) (w' : World) : Prop :=
  ∃ st en th sl no : Int, Bk w' X 27 #[.int .i64 st, .int .i64 en, .int .i64 th, .int .i64 sl, .int .i64 no, v5, v6] ∧ w.grownBy w' (some X) ∧
    ((e = .returned (.bool true) ∧ ∃ a b c : Nat, th = a ∧ sl = b ∧ no = c ∧ CfgIs s st en a b c) ∨ (e = .returned (.bool false) ∧ ∀ st en th sl no, ¬ CfgIs s st en th sl no))

theorem cfg_no_len {s : ByteArray} (h : (sp 32 s.data.toList).length ≠ 6) : ∀ st en th sl no, ¬ CfgIs s st en th sl no := fun st en th sl no hc => h (by rw [hc.2.2.2.2.2.2.2]; rfl)
theorem cfg_parts {s : ByteArray} {x0 x1 x2 x3 x4 x5 : List UInt8} (hW : sp 32 s.data.toList = [x0, x1, x2, x3, x4, x5]) {st en : Int} {th sl no : Nat} (hc : CfgIs s st en th sl no) :
    x0 = yard ∧ stOf (bs x1) = st ∧ enOf (bs x2) = en ∧ FillIs 3 [bs x3, bs x4, bs x5] [th, sl, no] := by
  obtain ⟨a, b, c, d, e, f, g, h⟩ := hc
  rw [hW] at h
  simp only [headW, List.cons.injEq, and_true] at h
  obtain ⟨h0, h1, h2, h3, h4, h5⟩ := h
  refine ⟨h0, by rw [h1]; exact stOf_hit a b, by rw [h2]; exact enOf_hit c d, rfl, by rw [h3, h4, h5]; rfl, fun n hn => ?_⟩
  simp at hn; rcases hn with rfl | rfl | rfl <;> assumption
theorem cfg_yes {s : ByteArray} {x0 x1 x2 x3 x4 x5 : List UInt8} (hW : sp 32 s.data.toList = [x0, x1, x2, x3, x4, x5]) (h0 : x0 = yard) (h1 : 1 ≤ stOf (bs x1)) (h2 : 1 ≤ enOf (bs x2)) {th sl no : Nat} (hf : FillIs 3 [bs x3, bs x4, bs x5] [th, sl, no]) :
    CfgIs s (stOf (bs x1)) (enOf (bs x2)) th sl no := by
  have e1 := bs_inj (stOf_word h1)
  have e2 := bs_inj (enOf_word h2)
  have e3 := hf.2.1
  simp only [List.map_cons, List.map_nil, List.cons.injEq, and_true, numB] at e3
  have hl := hf.2.2
  refine ⟨h1, (stOf_bd _).2, h2, (enOf_bd _).2, hl th (by simp), hl sl (by simp), hl no (by simp), ?_⟩
  rw [hW, headW, ← e1, ← e2, ← bs_inj e3.1, ← bs_inj e3.2.1, ← bs_inj e3.2.2, h0]
theorem len6 {L : List (List UInt8)} (h : L.length = 6) : ∃ x0 x1 x2 x3 x4 x5, L = [x0, x1, x2, x3, x4, x5] := by
  match L, h with
  | [x0, x1, x2, x3, x4, x5], _ => exact ⟨_, _, _, _, _, _, rfl⟩

theorem three {α : Type} {l : List α} (h : l.length = 3) : ∃ a b c, l = [a, b, c] := by
  match l, h with
  | [a, b, c], _ => exact ⟨_, _, _, rfl⟩
/-- The world while the first line is read. -/
structure RG (w : World) (X : Nat) (x0 x1 x2 x3 x4 x5 : List UInt8) (c0 c1 c2 c3 c4 : Int) (v5 v6 : Value) (wx : World) : Prop where
  bx : Bk wx X 27 #[.int .i64 c0, .int .i64 c1, .int .i64 c2, .int .i64 c3, .int .i64 c4, v5, v6]
  bw : Bk wx w.heap.size 9 (strs [bs x0, bs x1, bs x2, bs x3, bs x4, bs x5]).toArray
  bs : Bk wx (w.heap.size + 1) 60 (strs stW).toArray
  be : Bk wx (w.heap.size + 1 + 1) 60 (strs enW).toArray
  gr : w.grownBy wx (some X)
theorem RG.drew {w : World} {X : Nat} {x0 x1 x2 x3 x4 x5 : List UInt8} {c0 c1 c2 c3 c4 : Int} {v5 v6 : Value} {wx : World} (h : RG w X x0 x1 x2 x3 x4 x5 c0 c1 c2 c3 c4 v5 v6 wx) : RG w X x0 x1 x2 x3 x4 x5 c0 c1 c2 c3 c4 v5 v6 wx.drew :=
  ⟨h.bx.drew, h.bw.drew, h.bs.drew, h.be.drew, ⟨h.gr.os, h.gr.tape, h.gr.output, h.gr.size, h.gr.block⟩⟩
theorem grown_set {w wx : World} {X i : Nat} (h : w.grownBy wx (some X)) (u : Value) : w.grownBy (wx.setCell ⟨X, i, none⟩ u) (some X) :=
  ⟨h.os, h.tape, h.output, by simp [World.setCell]; exact h.size, fun b hb hne => (Below.heap_setCell wx ⟨X, i, none⟩ _ b (fun e => hne (by simp [e]))).trans (h.block b hb hne)⟩
theorem RG.set0 {w : World} {X : Nat} {x0 x1 x2 x3 x4 x5 : List UInt8} {c0 c1 c2 c3 c4 : Int} {v5 v6 : Value} {wx : World} (h : RG w X x0 x1 x2 x3 x4 x5 c0 c1 c2 c3 c4 v5 v6 wx) (hX : X < w.heap.size) (k : Int) :
    RG w X x0 x1 x2 x3 x4 x5 k c1 c2 c3 c4 v5 v6 (wx.setCell ⟨X, 0, none⟩ (.int .i64 k)) :=
  ⟨by have := h.bx.set_ 0 (.int .i64 k); simpa using this, h.bw.far (by simp; omega) _, h.bs.far (by simp; omega) _, h.be.far (by simp; omega) _, grown_set h.gr _⟩
theorem RG.set1 {w : World} {X : Nat} {x0 x1 x2 x3 x4 x5 : List UInt8} {c0 c1 c2 c3 c4 : Int} {v5 v6 : Value} {wx : World} (h : RG w X x0 x1 x2 x3 x4 x5 c0 c1 c2 c3 c4 v5 v6 wx) (hX : X < w.heap.size) (k : Int) :
    RG w X x0 x1 x2 x3 x4 x5 c0 k c2 c3 c4 v5 v6 (wx.setCell ⟨X, 1, none⟩ (.int .i64 k)) :=
  ⟨by have := h.bx.set_ 1 (.int .i64 k); simpa using this, h.bw.far (by simp; omega) _, h.bs.far (by simp; omega) _, h.be.far (by simp; omega) _, grown_set h.gr _⟩

set_option maxRecDepth 100000 in
set_option maxHeartbeats 6400000 in
theorem cfg_any {w : World} {a b c : Addr} {m : Int} (G : GH w a b c m) (s : ByteArray) (hs : s.size ≤ 1000000) (X : Nat) (c0 c1 c2 c3 c4 : Int) (v5 v6 : Value)
    (hX : Bk w X 27 #[.int .i64 c0, .int .i64 c1, .int .i64 c2, .int .i64 c3, .int .i64 c4, v5, v6]) :
    Calls Tryz.prog 53 #[.string s, .pointer (some ⟨X, 0, none⟩)] w (RetCfg X v5 v6 s w) := by
  obtain ⟨hsp, hcnt⟩ := split_is 32 s
  have HS := Lib.hid (Tryz.strings_Split s ⟨#[32]⟩ m w (by omega) G.mx (by decide))
  have HC := Lib.hid hcnt; have HP := Lib.hid hsp
  have hXl := hX.lt
  clear hcnt hsp
  go_enter Tryz.func53, Tryz.ntmps53
  go_wp2_with fail
  refine HS.out.mono ?_
  rintro e w1 ⟨rfl, rfl⟩
  rw [HP.out, HC.out]
  by_cases hl : (sp 32 s.data.toList).length = 6
  · obtain ⟨x0, x1, x2, x3, x4, x5, hW⟩ := len6 hl
    have HW := Lib.hid hW
    rw [hW]
    clear hl hW HS HC HP
    have B1 : Bk (w.alloc (.cells (([x0, x1, x2, x3, x4, x5].map bs).map Value.string).toArray 9)) w.heap.size 9 (strs [bs x0, bs x1, bs x2, bs x3, bs x4, bs x5]).toArray := Bk.at_ rfl
    have X1 := hX.alloc (.cells (([x0, x1, x2, x3, x4, x5].map bs).map Value.string).toArray 9)
    have hg1 : w.grownBy (w.alloc (.cells (([x0, x1, x2, x3, x4, x5].map bs).map Value.string).toArray 9)) (some X) := grown_of_below ((Below.refl _ _).alloc (Nat.le_refl _) _) _
    have G1 := G.alloc (.cells (([x0, x1, x2, x3, x4, x5].map bs).map Value.string).toArray 9)
    have hz1 : (w.alloc (.cells (([x0, x1, x2, x3, x4, x5].map bs).map Value.string).toArray 9)).heap.size = w.heap.size + 1 := by simp
    generalize (w.alloc (.cells (([x0, x1, x2, x3, x4, x5].map bs).map Value.string).toArray 9)) = w1 at *
    have q0 := B1.cell 0
    simp [strs] at q0
    by_cases hy : x0 = yard
    · subst hy
      have hq : (bs yard).toList = [121, 97, 114, 100] := by rw [Go.ByteArray.toList_eq]; rfl
      have hrs : w1.rangeAt 3 0 (wordCells stWords) := fun j u hu => by rw [Nat.zero_add]; exact G1.sts j u hu
      have hre : w1.rangeAt 4 0 (wordCells enWords) := fun j u hu => by rw [Nat.zero_add]; exact G1.ens j u hu
      have S2 : Bk ((w1.alloc (.cells #[.string ⟨#[]⟩, .string ⟨#[]⟩, .string ⟨#[]⟩, .string ⟨#[]⟩, .string ⟨#[]⟩] 60)).alloc (.cells #[.string ⟨#[]⟩, .string ⟨#[]⟩, .string ⟨#[]⟩, .string ⟨#[]⟩, .string ⟨#[]⟩] 60)) (w.heap.size + 1) 60 #[.string ⟨#[]⟩, .string ⟨#[]⟩, .string ⟨#[]⟩, .string ⟨#[]⟩, .string ⟨#[]⟩] := (Bk.at_ hz1.symm).alloc _
      have E2 : Bk ((w1.alloc (.cells #[.string ⟨#[]⟩, .string ⟨#[]⟩, .string ⟨#[]⟩, .string ⟨#[]⟩, .string ⟨#[]⟩] 60)).alloc (.cells #[.string ⟨#[]⟩, .string ⟨#[]⟩, .string ⟨#[]⟩, .string ⟨#[]⟩, .string ⟨#[]⟩] 60)) (w.heap.size + 1 + 1) 60 #[.string ⟨#[]⟩, .string ⟨#[]⟩, .string ⟨#[]⟩, .string ⟨#[]⟩, .string ⟨#[]⟩] := Bk.at_ (by simp [hz1])
      have X2 := (X1.alloc (.cells #[.string ⟨#[]⟩, .string ⟨#[]⟩, .string ⟨#[]⟩, .string ⟨#[]⟩, .string ⟨#[]⟩] 60)).alloc (.cells #[.string ⟨#[]⟩, .string ⟨#[]⟩, .string ⟨#[]⟩, .string ⟨#[]⟩, .string ⟨#[]⟩] 60)
      have B2 := (B1.alloc (.cells #[.string ⟨#[]⟩, .string ⟨#[]⟩, .string ⟨#[]⟩, .string ⟨#[]⟩, .string ⟨#[]⟩] 60)).alloc (.cells #[.string ⟨#[]⟩, .string ⟨#[]⟩, .string ⟨#[]⟩, .string ⟨#[]⟩, .string ⟨#[]⟩] 60)
      have hg2 : w.grownBy ((w1.alloc (.cells #[.string ⟨#[]⟩, .string ⟨#[]⟩, .string ⟨#[]⟩, .string ⟨#[]⟩, .string ⟨#[]⟩] 60)).alloc (.cells #[.string ⟨#[]⟩, .string ⟨#[]⟩, .string ⟨#[]⟩, .string ⟨#[]⟩, .string ⟨#[]⟩] 60)) (some X) := grownBy_trans hg1 (grown_of_below (((Below.refl _ _).alloc (Nat.le_refl _) _).alloc (by simp) _) _)
      go_upto_region 5 with (first | (refine wpList_load_mid (by rfl) _ _ (by rfl) 3 0 (by rfl) (wordCells stWords) _ hrs Tryz.underlying60 (by rfl) (by kernel_rfl) ?_; clear hrs) | (refine wpList_load_mid (by rfl) _ _ (by rfl) 4 0 (by rfl) (wordCells enWords) _ hre Tryz.underlying60 (by rfl) (by kernel_rfl) ?_; clear hre) | (refine wpList_store_bk (by rfl) _ _ _ (by rfl) (w.heap.size + 1) _ (by rfl) (by rfl) _ _ S2 (by rfl) (by kernel_rfl) (by rfl) ?_; intro w3 hst1) | (refine wpList_store_bk (by rfl) _ _ _ (by rfl) (w.heap.size + 1 + 1) _ (by rfl) (by rfl) _ _ (hst1.far E2 (by omega)) (by rfl) (by kernel_rfl) (by rfl) ?_; intro w4 hst2))
      have R4 : RG w X yard x1 x2 x3 x4 x5 c0 c1 c2 c3 c4 v5 v6 w4 :=
        ⟨hst2.far (hst1.far X2 (by omega)) (by omega), hst2.far (hst1.far B2 (by omega)) (by omega), by rw [← stCells_eq]; exact hst2.far hst1.bk (by omega), by rw [← enCells_eq]; exact hst2.bk,
          grownBy_new (grownBy_new hg2 hst1.grown (fun k e => by cases e; omega)) hst2.grown (fun k e => by cases e; omega)⟩
      clear S2 E2 X2 B2 hg2 hst1 hst2 X1 B1 hg1 q0 hq hz1 G1
      (try simp only [Act.put, List.setIfInBounds_toArray, List.set_cons_succ, List.set_cons_zero])
      obtain ⟨kS, hkS⟩ : ∃ k, k = stOf (bs x1) := ⟨_, rfl⟩
      obtain ⟨kE, hkE⟩ : ∃ k, k = enOf (bs x2) := ⟨_, rfl⟩
      have HFs : Hid (∀ w0, Bk w0 (w.heap.size + 1) 60 (strs stW).toArray → Calls Tryz.prog 39 #[.string (bs x1), .slice (some ⟨w.heap.size + 1, 0, none⟩) 5 5] w0 fun e w' => e = .returned (.int .i64 kS) ∧ w0 = w') := fun w0 h => by
        rw [hkS]; exact find_any stW _ 5 5 (bs x1) w0 _ rfl (by omega) h
      have HFe : Hid (∀ w0, Bk w0 (w.heap.size + 1 + 1) 60 (strs enW).toArray → Calls Tryz.prog 39 #[.string (bs x2), .slice (some ⟨w.heap.size + 1 + 1, 0, none⟩) 5 5] w0 fun e w' => e = .returned (.int .i64 kE) ∧ w0 = w') := fun w0 h => by
        rw [hkE]; exact find_any enW _ 5 5 (bs x2) w0 _ rfl (by omega) h
      have HKS := Lib.hid hkS; have HKE := Lib.hid hkE
      clear hkS hkE
      (have R5 := R4.drew; clear R4; refine wp_region_T (fun w' : World => Bk w' w.heap.size 9 (strs [bs yard, bs x1, bs x2, bs x3, bs x4, bs x5]).toArray ∧ Bk w' (w.heap.size + 1) 60 (strs stW).toArray ∧ Bk w' (w.heap.size + 1 + 1) 60 (strs enW).toArray) 9 (by kernel_rfl) ⟨R5.bw, R5.bs, R5.be⟩ (fun hS => ?_); generalize w4.drew = w5 at *; ((try simp only [Act.put, List.setIfInBounds_toArray, List.set_cons_succ, List.set_cons_zero]); refine wpT_batch (fuel := 4) (by kernel_rfl) (by kernel_rfl) (fun d => by cases d <;> exact fun _ _ _ _ h => h) hS [0, 1, 2, 3, 4] _ _ (by kernel_rfl) ?_; simp only [pickOps, nthOp, List.toList_toArray]; (repeat (first | go_big_quiet_skip | (go_big_quiet_want; first | (go_big_quiet_op; go_big_quiet_on) | (apply Exists.intro; refine ⟨fun w' hS' => ?_, ?_⟩; (· ((have f0 := hS'.1.cell 1; simp [strs] at f0); go_simp; first | done | rfl | exact ⟨rfl, rfl⟩)); go_big_quiet_on; simp only [Act.put, List.setIfInBounds_toArray, List.set_cons_succ, List.set_cons_zero])))); refine wpQuiet_nil ?_; (try dsimp only)); (refine wpT_loudN 5 (by kernel_rfl) (fun K hK => ?_); simp only [nthOp, List.toList_toArray]); go_wp2_with fail; refine (HFs.out _ hS.2.1).mono ?_; rintro e wq ⟨rfl, rfl⟩; go_wp2_with fail; refine hK.out _ _ (fun _ => hS) ?_; clear hK; ((try simp only [Act.put, List.setIfInBounds_toArray, List.set_cons_succ, List.set_cons_zero]); refine wpT_batch (fuel := 1) (by kernel_rfl) (by kernel_rfl) (fun d => by cases d <;> exact fun _ _ _ _ h => h) hS [6, 7] _ _ (by kernel_rfl) ?_; simp only [pickOps, nthOp, List.toList_toArray]; (repeat (first | go_big_quiet_skip | (go_big_quiet_want; first | (go_big_quiet_op; go_big_quiet_on) | (apply Exists.intro; refine ⟨fun w' hS' => ?_, ?_⟩; (· (skip; go_simp; first | done | rfl | exact ⟨rfl, rfl⟩)); go_big_quiet_on; simp only [Act.put, List.setIfInBounds_toArray, List.set_cons_succ, List.set_cons_zero])))); refine wpQuiet_nil ?_; (try dsimp only)); (refine wpT_loudN 8 (by kernel_rfl) (fun K hK => ?_); simp only [nthOp, List.toList_toArray]); have f0 := R5.bx.cell 0; have f1 := R5.bx.cell 1; have f2 := R5.bx.free 0; have f3 := R5.bx.free 1; simp at f0 f1; have R6 := R5.set0 hXl kS; go_wp2_with fail; refine hK.out _ _ (fun _ => ⟨R6.bw, R6.bs, R6.be⟩) ?_; clear hK f0 f1 f2 f3 R5 hS; refine wpT_done (by kernel_rfl) ?_ _)
      have R4 := R6
      clear R6
      generalize (w5.setCell ⟨X, 0, none⟩ (.int .i64 kS)) = w4 at *
      go_upto_region 6 with (fail)
      (have R5 := R4.drew; clear R4; refine wp_region_T (fun w' : World => Bk w' w.heap.size 9 (strs [bs yard, bs x1, bs x2, bs x3, bs x4, bs x5]).toArray ∧ Bk w' (w.heap.size + 1) 60 (strs stW).toArray ∧ Bk w' (w.heap.size + 1 + 1) 60 (strs enW).toArray) 9 (by kernel_rfl) ⟨R5.bw, R5.bs, R5.be⟩ (fun hS => ?_); generalize w4.drew = w5 at *; ((try simp only [Act.put, List.setIfInBounds_toArray, List.set_cons_succ, List.set_cons_zero]); refine wpT_batch (fuel := 4) (by kernel_rfl) (by kernel_rfl) (fun d => by cases d <;> exact fun _ _ _ _ h => h) hS [0, 1, 2, 3, 4] _ _ (by kernel_rfl) ?_; simp only [pickOps, nthOp, List.toList_toArray]; (repeat (first | go_big_quiet_skip | (go_big_quiet_want; first | (go_big_quiet_op; go_big_quiet_on) | (apply Exists.intro; refine ⟨fun w' hS' => ?_, ?_⟩; (· ((have f0 := hS'.1.cell 2; simp [strs] at f0); go_simp; first | done | rfl | exact ⟨rfl, rfl⟩)); go_big_quiet_on; simp only [Act.put, List.setIfInBounds_toArray, List.set_cons_succ, List.set_cons_zero])))); refine wpQuiet_nil ?_; (try dsimp only)); (refine wpT_loudN 5 (by kernel_rfl) (fun K hK => ?_); simp only [nthOp, List.toList_toArray]); go_wp2_with fail; refine (HFe.out _ hS.2.2).mono ?_; rintro e wq ⟨rfl, rfl⟩; go_wp2_with fail; refine hK.out _ _ (fun _ => hS) ?_; clear hK; ((try simp only [Act.put, List.setIfInBounds_toArray, List.set_cons_succ, List.set_cons_zero]); refine wpT_batch (fuel := 1) (by kernel_rfl) (by kernel_rfl) (fun d => by cases d <;> exact fun _ _ _ _ h => h) hS [6, 7] _ _ (by kernel_rfl) ?_; simp only [pickOps, nthOp, List.toList_toArray]; (repeat (first | go_big_quiet_skip | (go_big_quiet_want; first | (go_big_quiet_op; go_big_quiet_on) | (apply Exists.intro; refine ⟨fun w' hS' => ?_, ?_⟩; (· (skip; go_simp; first | done | rfl | exact ⟨rfl, rfl⟩)); go_big_quiet_on; simp only [Act.put, List.setIfInBounds_toArray, List.set_cons_succ, List.set_cons_zero])))); refine wpQuiet_nil ?_; (try dsimp only)); (refine wpT_loudN 8 (by kernel_rfl) (fun K hK => ?_); simp only [nthOp, List.toList_toArray]); have f0 := R5.bx.cell 0; have f1 := R5.bx.cell 1; have f2 := R5.bx.free 0; have f3 := R5.bx.free 1; simp at f0 f1; have R6 := R5.set1 hXl kE; go_wp2_with fail; refine hK.out _ _ (fun _ => ⟨R6.bw, R6.bs, R6.be⟩) ?_; clear hK f0 f1 f2 f3 R5 hS; refine wpT_done (by kernel_rfl) ?_ _)
      clear HFs HFe
      generalize (w5.setCell ⟨X, 1, none⟩ (.int .i64 kE)) = w6 at *
      go_upto_region 7 with (fail)
      have HY : Hid (∀ st en th sl no, CfgIs s st en th sl no → kS = st ∧ kE = en ∧ FillIs 3 [bs x3, bs x4, bs x5] [th, sl, no]) := fun st en th sl no hc => by
        obtain ⟨_, h2, h3, h4⟩ := cfg_parts HW.out hc
        exact ⟨HKS.out.trans h2, HKE.out.trans h3, h4⟩
      have R7 := R6.drew
      clear R6
      refine wp_region_T (fun w' : World => w'.cell? ⟨X, 0, none⟩ = some (.int .i64 kS) ∧ w'.cell? ⟨X, 1, none⟩ = some (.int .i64 kE)) 20 (by kernel_rfl) ⟨R7.bx.cell 0, R7.bx.cell 1⟩ (fun hS => ?_)
      generalize w6.drew = w7 at *
      by_cases z0 : kS = 0
      · have HN : Hid (∀ st en th sl no, ¬ CfgIs s st en th sl no) := fun st en th sl no hc => by
          have h1 := (HY.out st en th sl no hc).1
          have h2 := hc.1
          omega
        have q1 : (kS != 0) = false := by simp [z0]
        clear z0 HY
        ((try simp only [Act.put, List.setIfInBounds_toArray, List.set_cons_succ, List.set_cons_zero]); refine wpT_batch (fuel := 6) (by kernel_rfl) (by kernel_rfl) (fun d => by cases d <;> exact fun _ _ _ _ h => h) hS [0, 1, 2, 3, 4, 5, 6, 7, 8, 9, 10, 11, 12, 13] _ _ (by kernel_rfl) ?_; simp only [pickOps, nthOp, List.toList_toArray]; (repeat (first | go_big_quiet_skip | (go_big_quiet_want; first | (go_big_quiet_op; go_big_quiet_on) | (apply Exists.intro; refine ⟨fun w' hS' => ?_, ?_⟩; (· (obtain ⟨f0, f1⟩ := hS'; go_simp; first | done | rfl | exact ⟨rfl, rfl⟩)); go_big_quiet_on; simp only [Act.put, List.setIfInBounds_toArray, List.set_cons_succ, List.set_cons_zero])))); refine wpQuiet_nil ?_; (try dsimp only))
        ((refine wpT_off 14 (by kernel_rfl) (by kernel_rfl) (fun d => by cases d <;> exact fun _ _ _ _ h => h) hS (by decide) (by kernel_rfl) (by kernel_rfl) (by rfl) ?_; simp only [nthOp, List.toList_toArray, Act.put, List.setIfInBounds_toArray, List.set_cons_succ, List.set_cons_zero]); ((try simp only [Act.put, List.setIfInBounds_toArray, List.set_cons_succ, List.set_cons_zero]); refine wpT_batch (fuel := 3) (by kernel_rfl) (by kernel_rfl) (fun d => by cases d <;> exact fun _ _ _ _ h => h) hS [15, 16] _ _ (by kernel_rfl) ?_; simp only [pickOps, nthOp, List.toList_toArray]; (repeat (first | go_big_quiet_skip | (go_big_quiet_want; first | (go_big_quiet_op; go_big_quiet_on) | (apply Exists.intro; refine ⟨fun w' hS' => ?_, ?_⟩; (· (skip; go_simp; first | done | rfl | exact ⟨rfl, rfl⟩)); go_big_quiet_on; simp only [Act.put, List.setIfInBounds_toArray, List.set_cons_succ, List.set_cons_zero])))); refine wpQuiet_nil ?_; (try dsimp only)); (refine wpT_off 17 (by kernel_rfl) (by kernel_rfl) (fun d => by cases d <;> exact fun _ _ _ _ h => h) hS (by decide) (by kernel_rfl) (by kernel_rfl) (by rfl) ?_; simp only [nthOp, List.toList_toArray, Act.put, List.setIfInBounds_toArray, List.set_cons_succ, List.set_cons_zero]); ((try simp only [Act.put, List.setIfInBounds_toArray, List.set_cons_succ, List.set_cons_zero]); refine wpT_batch (fuel := 0) (by kernel_rfl) (by kernel_rfl) (fun d => by cases d <;> exact fun _ _ _ _ h => h) hS [18, 19] _ _ (by kernel_rfl) ?_; simp only [pickOps, nthOp, List.toList_toArray]; (repeat (first | go_big_quiet_skip | (go_big_quiet_want; first | (go_big_quiet_op; go_big_quiet_on) | (apply Exists.intro; refine ⟨fun w' hS' => ?_, ?_⟩; (· (skip; go_simp; first | done | rfl | exact ⟨rfl, rfl⟩)); go_big_quiet_on; simp only [Act.put, List.setIfInBounds_toArray, List.set_cons_succ, List.set_cons_zero])))); refine wpQuiet_nil ?_; (try dsimp only)); clear hS; refine wpT_done (by kernel_rfl) ?_ _; go_wp2_with fail; go_ret; exact ⟨_, _, _, _, _, R7.bx, R7.gr, Or.inr ⟨rfl, HN.out⟩⟩)
      · have q1 : (kS != 0) = true := by simpa using z0
        by_cases z1 : kE = 0
        · have HN : Hid (∀ st en th sl no, ¬ CfgIs s st en th sl no) := fun st en th sl no hc => by
            have h1 := (HY.out st en th sl no hc).2.1
            have h2 := hc.2.2.1
            omega
          have q2 : (kE != 0) = false := by simp [z1]
          clear z0 z1 HY
          ((try simp only [Act.put, List.setIfInBounds_toArray, List.set_cons_succ, List.set_cons_zero]); refine wpT_batch (fuel := 6) (by kernel_rfl) (by kernel_rfl) (fun d => by cases d <;> exact fun _ _ _ _ h => h) hS [0, 1, 2, 3, 4, 5, 6, 7, 8, 9, 10, 11, 12, 13] _ _ (by kernel_rfl) ?_; simp only [pickOps, nthOp, List.toList_toArray]; (repeat (first | go_big_quiet_skip | (go_big_quiet_want; first | (go_big_quiet_op; go_big_quiet_on) | (apply Exists.intro; refine ⟨fun w' hS' => ?_, ?_⟩; (· (obtain ⟨f0, f1⟩ := hS'; go_simp; first | done | rfl | exact ⟨rfl, rfl⟩)); go_big_quiet_on; simp only [Act.put, List.setIfInBounds_toArray, List.set_cons_succ, List.set_cons_zero])))); refine wpQuiet_nil ?_; (try dsimp only))
          ((refine wpT_off 14 (by kernel_rfl) (by kernel_rfl) (fun d => by cases d <;> exact fun _ _ _ _ h => h) hS (by decide) (by kernel_rfl) (by kernel_rfl) (by rfl) ?_; simp only [nthOp, List.toList_toArray, Act.put, List.setIfInBounds_toArray, List.set_cons_succ, List.set_cons_zero]); ((try simp only [Act.put, List.setIfInBounds_toArray, List.set_cons_succ, List.set_cons_zero]); refine wpT_batch (fuel := 3) (by kernel_rfl) (by kernel_rfl) (fun d => by cases d <;> exact fun _ _ _ _ h => h) hS [15, 16] _ _ (by kernel_rfl) ?_; simp only [pickOps, nthOp, List.toList_toArray]; (repeat (first | go_big_quiet_skip | (go_big_quiet_want; first | (go_big_quiet_op; go_big_quiet_on) | (apply Exists.intro; refine ⟨fun w' hS' => ?_, ?_⟩; (· (skip; go_simp; first | done | rfl | exact ⟨rfl, rfl⟩)); go_big_quiet_on; simp only [Act.put, List.setIfInBounds_toArray, List.set_cons_succ, List.set_cons_zero])))); refine wpQuiet_nil ?_; (try dsimp only)); (refine wpT_off 17 (by kernel_rfl) (by kernel_rfl) (fun d => by cases d <;> exact fun _ _ _ _ h => h) hS (by decide) (by kernel_rfl) (by kernel_rfl) (by rfl) ?_; simp only [nthOp, List.toList_toArray, Act.put, List.setIfInBounds_toArray, List.set_cons_succ, List.set_cons_zero]); ((try simp only [Act.put, List.setIfInBounds_toArray, List.set_cons_succ, List.set_cons_zero]); refine wpT_batch (fuel := 0) (by kernel_rfl) (by kernel_rfl) (fun d => by cases d <;> exact fun _ _ _ _ h => h) hS [18, 19] _ _ (by kernel_rfl) ?_; simp only [pickOps, nthOp, List.toList_toArray]; (repeat (first | go_big_quiet_skip | (go_big_quiet_want; first | (go_big_quiet_op; go_big_quiet_on) | (apply Exists.intro; refine ⟨fun w' hS' => ?_, ?_⟩; (· (skip; go_simp; first | done | rfl | exact ⟨rfl, rfl⟩)); go_big_quiet_on; simp only [Act.put, List.setIfInBounds_toArray, List.set_cons_succ, List.set_cons_zero])))); refine wpQuiet_nil ?_; (try dsimp only)); clear hS; refine wpT_done (by kernel_rfl) ?_ _; go_wp2_with fail; go_ret; exact ⟨_, _, _, _, _, R7.bx, R7.gr, Or.inr ⟨rfl, HN.out⟩⟩)
        · have q2 : (kE != 0) = true := by simpa using z1
          have hk1 : 1 ≤ kS := by have := (stOf_bd (bs x1)).1; rw [← HKS.out] at this; omega
          have hk2 : 1 ≤ kE := by have := (enOf_bd (bs x2)).1; rw [← HKE.out] at this; omega
          have HM : Hid (∀ th sl no, FillIs 3 [bs x3, bs x4, bs x5] [th, sl, no] → CfgIs s kS kE th sl no) := fun th sl no hf => by
            rw [HKS.out, HKE.out]
            exact cfg_yes HW.out rfl (by rw [← HKS.out]; exact hk1) (by rw [← HKE.out]; exact hk2) hf
          clear z0 z1
          ((try simp only [Act.put, List.setIfInBounds_toArray, List.set_cons_succ, List.set_cons_zero]); refine wpT_batch (fuel := 4) (by kernel_rfl) (by kernel_rfl) (fun d => by cases d <;> exact fun _ _ _ _ h => h) hS [0, 1, 2, 3, 4, 5, 6, 7, 8, 9, 10, 11, 12, 13, 15, 16] _ _ (by kernel_rfl) ?_; simp only [pickOps, nthOp, List.toList_toArray]; (repeat (first | go_big_quiet_skip | (go_big_quiet_want; first | (go_big_quiet_op; go_big_quiet_on) | (apply Exists.intro; refine ⟨fun w' hS' => ?_, ?_⟩; (· (obtain ⟨f0, f1⟩ := hS'; go_simp; first | done | rfl | exact ⟨rfl, rfl⟩)); go_big_quiet_on; simp only [Act.put, List.setIfInBounds_toArray, List.set_cons_succ, List.set_cons_zero])))); refine wpQuiet_nil ?_; (try dsimp only))
          clear hS
          (refine wpT_loudN 14 (by kernel_rfl) (fun K hK => ?_); simp only [nthOp, List.toList_toArray])
          go_wp2_with fail
          refine (sizes_any X _).mono ?_
          rintro e w8 ⟨A, rfl, hA, hb8, hfar⟩
          have X8 := R7.bx.belowAll hb8
          go_wp2_with fail
          refine hK.out _ _ (fun _ => ⟨X8.cell 0, X8.cell 1⟩) ?_
          clear hK
          have W8 : Sl w8 w8.heap.size 1 (some ⟨w.heap.size, 3, none⟩) 3 (strs [bs x3, bs x4, bs x5]) := ⟨rfl, fun _ => ⟨_, 3, rfl, (R7.bw.belowAll hb8).lt, fun j u hu => by
            rw [(R7.bw.belowAll hb8).cell, Nat.add_comm 3 j]; simpa [strs] using hu⟩⟩
          have hwx := R7.bw.lt
          have hx7 := R7.bx.lt
          have hg8 := grownBy_trans R7.gr (grown_of_below hb8 (some X))
          have HE : Hid (∀ t ∈ [bs x3, bs x4, bs x5], t.size ≤ 9223372036854775807) := fun t ht => by
            have key : ∀ y ∈ [yard, x1, x2, x3, x4, x5], (bs y).size ≤ 1000000 := fun y hy => by
              rw [bs_size]; have h1 := sp_elt 32 s.data.toList y (by rw [HW.out]; exact hy); rw [s_len] at h1; omega
            simp at ht
            rcases ht with rfl | rfl | rfl
            · exact Nat.le_trans (key x3 (by simp)) (by omega)
            · exact Nat.le_trans (key x4 (by simp)) (by omega)
            · exact Nat.le_trans (key x5 (by simp)) (by omega)
          (refine wpT_loudN 17 (by kernel_rfl) (fun K hK => ?_); simp only [nthOp, List.toList_toArray])
          go_wp2_with fail
          refine (fill_any X 27 _ [2, 3, 4] [bs x3, bs x4, bs x5] A (some ⟨w.heap.size, 3, none⟩) 3 3 w8 X8 (by simp) hA W8 (fun b o e => by have := hfar b o e; omega) (fun b o e => by cases e; omega) (by simp) (by simp) HE.out).mono ?_
          rintro e w9 ⟨ns, hbk, hg9, _, hres⟩
          have hgr := grownBy_trans hg8 hg9
          rcases hres with ⟨rfl, hfi⟩ | ⟨rfl, hno⟩
          · obtain ⟨n0, n1, n2, rfl⟩ := three hfi.1
            have HN := Lib.hid (HM.out n0 n1 n2 hfi)
            have X9 : Bk w9 X 27 #[.int .i64 kS, .int .i64 kE, .int .i64 n0, .int .i64 n1, .int .i64 n2, v5, v6] := hbk
            go_wp2_with fail
            refine hK.out _ _ (fun _ => ⟨X9.cell 0, X9.cell 1⟩) ?_
            clear hK
            have hS := And.intro (X9.cell 0) (X9.cell 1)
            ((try simp only [Act.put, List.setIfInBounds_toArray, List.set_cons_succ, List.set_cons_zero]); refine wpT_batch (fuel := 0) (by kernel_rfl) (by kernel_rfl) (fun d => by cases d <;> exact fun _ _ _ _ h => h) hS [18, 19] _ _ (by kernel_rfl) ?_; simp only [pickOps, nthOp, List.toList_toArray]; (repeat (first | go_big_quiet_skip | (go_big_quiet_want; first | (go_big_quiet_op; go_big_quiet_on) | (apply Exists.intro; refine ⟨fun w' hS' => ?_, ?_⟩; (· (skip; go_simp; first | done | rfl | exact ⟨rfl, rfl⟩)); go_big_quiet_on; simp only [Act.put, List.setIfInBounds_toArray, List.set_cons_succ, List.set_cons_zero])))); refine wpQuiet_nil ?_; (try dsimp only))
            clear hS
            refine wpT_done (by kernel_rfl) ?_ _
            go_wp2_with fail
            go_ret
            exact ⟨_, _, _, _, _, X9, hgr, Or.inl ⟨rfl, n0, n1, n2, rfl, rfl, rfl, HN.out⟩⟩
          · have HN : Hid (∀ st en th sl no, ¬ CfgIs s st en th sl no) := fun st en th sl no hc => hno _ (HY.out st en th sl no hc).2.2
            clear hno
            obtain ⟨i2, i3, i4, X9⟩ : ∃ i2 i3 i4 : Int, Bk w9 X 27 #[.int .i64 kS, .int .i64 kE, .int .i64 i2, .int .i64 i3, .int .i64 i4, v5, v6] := by
              match ns, hbk with
              | [], h => exact ⟨_, _, _, h⟩
              | [a], h => exact ⟨_, _, _, h⟩
              | [a, b], h => exact ⟨_, _, _, h⟩
              | a :: b :: c :: _, h => exact ⟨_, _, _, h⟩
            go_wp2_with fail
            refine hK.out _ _ (fun _ => ⟨X9.cell 0, X9.cell 1⟩) ?_
            clear hK
            have hS := And.intro (X9.cell 0) (X9.cell 1)
            ((try simp only [Act.put, List.setIfInBounds_toArray, List.set_cons_succ, List.set_cons_zero]); refine wpT_batch (fuel := 0) (by kernel_rfl) (by kernel_rfl) (fun d => by cases d <;> exact fun _ _ _ _ h => h) hS [18, 19] _ _ (by kernel_rfl) ?_; simp only [pickOps, nthOp, List.toList_toArray]; (repeat (first | go_big_quiet_skip | (go_big_quiet_want; first | (go_big_quiet_op; go_big_quiet_on) | (apply Exists.intro; refine ⟨fun w' hS' => ?_, ?_⟩; (· (skip; go_simp; first | done | rfl | exact ⟨rfl, rfl⟩)); go_big_quiet_on; simp only [Act.put, List.setIfInBounds_toArray, List.set_cons_succ, List.set_cons_zero])))); refine wpQuiet_nil ?_; (try dsimp only))
            clear hS
            refine wpT_done (by kernel_rfl) ?_ _
            go_wp2_with fail
            go_ret
            exact ⟨_, _, _, _, _, X9, hgr, Or.inr ⟨rfl, HN.out⟩⟩
    · have HN : Hid (∀ st en th sl no, ¬ CfgIs s st en th sl no) := fun st en th sl no hc => hy (cfg_parts HW.out hc).1
      have hq : ((bs x0).toList == [121, 97, 114, 100]) = false := by
        have := ba_ne (a := bs x0) (b := bs yard) (fun e => hy (bs_inj e))
        rwa [show (bs yard).toList = [121, 97, 114, 100] from by rw [Go.ByteArray.toList_eq]; rfl] at this
      clear hy
      go_wp2_with fail
      go_ret
      exact ⟨_, _, _, _, _, X1, hg1, Or.inr ⟨rfl, HN.out⟩⟩
  · have HN := Lib.hid (cfg_no_len hl)
    have hd : (((sp 32 s.data.toList).length : Int) != 6) = true := by simp; omega
    have hg1 : w.grownBy (w.alloc (.cells (((sp 32 s.data.toList).map bs).map Value.string).toArray 9)) (some X) := grown_of_below ((Below.refl _ _).alloc (Nat.le_refl _) _) _
    have X1 := hX.alloc (.cells (((sp 32 s.data.toList).map bs).map Value.string).toArray 9)
    clear hl HS HC HP
    generalize (w.alloc (.cells (((sp 32 s.data.toList).map bs).map Value.string).toArray 9)) = w1 at *
    generalize (sp 32 s.data.toList).length = L at *
    go_wp2_with fail
    go_ret
    exact ⟨_, _, _, _, _, X1, hg1, Or.inr ⟨rfl, HN.out⟩⟩
end Go.Proofs.YtciioiklkaannaaGreatDoor
