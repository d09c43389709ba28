/- slices.Chunk over ints, by sixteen: its iterator hands out the chunks one behind the other. -/
import Derived.RangeFuncNested
import Derived.RangeFuncBound
import Derived.RangeFuncCalls
import Derived.RangeFuncLeaves
import Derived.Shelf.Abstract
import Derived.Shelf.RegionOpen
import Derived.WalkKit
import Derived.OwnWalkIn
import Derived.TacticsInMore
import Derived.LoopNIn
import Derived.LoopIn
import Derived.KernelRfl
import Derived.Test.YtciioiklkaannaaGreatDoorPb
import Derived.Test.YtciioiklkaannaaGreatDoorReg2
import Derived.Test.YtciioiklkaannaaGreatDoorFnA
namespace Go.Proofs.YtciioiklkaannaaGreatDoor
open Go Go.RowKit Go.Shelf
set_option linter.unusedSimpArgs false
set_option linter.unusedVariables false
set_option linter.unusedSectionVars false

attribute [local go_sem] Oper.semAt_some

theorem chunk_any (A : Option Addr) (len cap : Nat) (w : World) :
    Calls Tryz.prog 22 #[.slice A len cap, .int .i64 16] w fun e w' => e = .returned (.func (.func 46) #[] #[.pointer (some ⟨w.heap.size, 0, none⟩), .pointer (some ⟨w.heap.size + 1, 0, none⟩)]) ∧ w' = (w.alloc (.cells #[.slice A len cap] 25)).alloc (.cells #[.int .i64 16] 3) := by
  go_enter Tryz.func22, Tryz.ntmps22
  go_wp2_with fail
  go_ret
  exact ⟨rfl, rfl⟩

/-- The piece number k of a slice of len elements. -/
def pieceV (b off len k : Nat) : Value := .slice (some ⟨b, off + 16 * k, none⟩) (min 16 (len - 16 * k)) (min 16 (len - 16 * k))
/-- Which pieces there are. -/
abbrev Piece (len : Nat) : Type := { k : Nat // 16 * k < len }
def pieces (len n : Nat) (h : ∀ k, k < n → 16 * k < len) : List (Piece len) := (List.range n).pmap (fun k hk => ⟨k, h k hk⟩) (fun _ hk => List.mem_range.1 hk)
theorem pieces_succ (len n : Nat) (h : ∀ k, k < n + 1 → 16 * k < len) : pieces len (n + 1) h = pieces len n (fun k hk => h k (by omega)) ++ [⟨n, h n (by omega)⟩] := by
  simp [pieces, List.range_succ, List.pmap_append]
theorem pieces_vals (len n : Nat) (h : ∀ k, k < n → 16 * k < len) : (pieces len n h).map (·.1) = List.range n := by
  simp [pieces, List.map_pmap]
theorem pieces_length (len n : Nat) (h : ∀ k, k < n → 16 * k < len) : (pieces len n h).length = n := by simp [pieces]
def kept2 (Bs Bn : Nat) (W W' : World) : Prop := W'.heap[Bs]? = W.heap[Bs]? ∧ W'.heap[Bn]? = W.heap[Bn]?

set_option maxRecDepth 100000 in
set_option maxHeartbeats 3200000 in
theorem chunk1_in (n : Nat) (hn : 1 ≤ n) (l Bs Bn b off len cap : Nat) (hlen : len ≤ 4096) (hcap : len ≤ cap) (hcap' : cap ≤ 9223372036854775807) (J Jx : List (Piece len) → World → Prop) (B : Nat) (hJ : AbidesFrom B J)
    (hY : ∀ pre x W, J pre W → pre.length < (len + 15) / 16 → YieldAt Fence.wide (n - 1) Tryz.prog l #[pieceV b off len x.1] W fun e W' =>
      (e = .returned (.bool true) ∧ J (pre ++ [x]) W' ∧ kept2 Bs Bn W W') ∨ (e = .returned (.bool false) ∧ Jx (pre ++ [x]) W'))
    (W : World) (hBs : Bk W Bs 25 #[.slice (some ⟨b, off, none⟩) len cap]) (hBn : Bk W Bn 3 #[.int .i64 16]) (h0 : J [] W) :
    CallsIn Fence.wide n Tryz.prog 46 #[.func (.yield l) #[] #[], .pointer (some ⟨Bs, 0, none⟩), .pointer (some ⟨Bn, 0, none⟩)] W fun e W' => (∃ v, e = .returned v) ∧
      ((∃ ys, ys = pieces len ((len + 15) / 16) (fun k hk => by omega) ∧ J ys W') ∨ (∃ pre, True ∧ Jx pre W')) := by
  refine callsIn_of_wp Tryz.func46 rfl trivial ?_ rfl
  simp only [Tryz.ntmps46, List.size_toArray, List.length_cons, List.length_nil, Nat.reduceAdd, Nat.reduceSub, Array.replicate_succ, Array.replicate_zero, List.push_toArray, List.append_toArray, List.nil_append, List.cons_append]
  gi_wp2
  gi_loopw [4] (fun i wr => ∃ (k p : Nat) (hk : k ≤ (len + 15) / 16), i = .int .i64 (p : Nat) ∧ p = 16 * k ∧ J (pieces len k (fun j hj => by omega)) wr ∧ Bk wr Bs 25 #[.slice (some ⟨b, off, none⟩) len cap] ∧ Bk wr Bn 3 #[.int .i64 16])
    (fun i _ => len + 16 - (intOf i).toNat)
  case atStart => exact ⟨0, 0, Nat.zero_le _, rfl, rfl, h0, hBs, hBn⟩
  case round =>
    obtain ⟨k, p, hk, rfl, hpk, hJs, bS, bN⟩ := hrel
    have c1 := bS.cell 0
    simp at c1
    by_cases hlt : 16 * k < len
    · have hp : (pieces len k (fun j hj => by omega)).length < (len + 15) / 16 := by rw [pieces_length]; omega
      have p1 : (0 : Int) ≤ (p : Int) := by omega
      have p2 : (p : Int) < (len : Int) := by omega
      have p3 : (p : Int) ≤ (len : Int) := by omega
      have p4 : (len : Int) ≤ (cap : Int) := by omega
      have p5 : ¬ (cap = p) := by omega
      have HPK := Lib.hid hpk; clear hpk
      gi_wp2
      have hJd : J (pieces len k (fun j hj => by omega)) wr.drew := hJ _ _ _ none hJs (grown_of_below ((Below.refl _ wr).drew) none) (fun r e => by cases e)
      have bS := bS.drew
      have bN := bN.drew
      refine wpIn_wide.2 ?_
      refine wp_region_T (fun w' : World => Bk w' Bs 25 #[.slice (some ⟨b, off, none⟩) len cap] ∧ Bk w' Bn 3 #[.int .i64 16]) 7 (by kernel_rfl) ⟨bS, bN⟩ (fun hS => ?_)
      clear hJs
      generalize wr.drew = w1 at *
      obtain ⟨r, hr⟩ : ∃ r, r = len - p := ⟨_, rfl⟩
      ((try simp only [Act.put, List.setIfInBounds_toArray, List.set_cons_succ, List.set_cons_zero]); refine wpT_batch (fuel := 2) (by kernel_rfl) (by kernel_rfl) (fun d => by cases d <;> exact fun _ _ _ _ h => h) hS [0, 1, 2, 3, 4] _ _ (by kernel_rfl) ?_; simp only [pickOps, nthOp, List.toList_toArray]; (repeat (first | go_big_quiet_skip | (go_big_quiet_want; first | (go_big_quiet_op; go_big_quiet_on) | (apply Exists.intro; refine ⟨fun w' hS' => ?_, ?_⟩; (· ((have f1 := hS'.1.cell 0; have f2 := hS'.2.cell 0; simp at f1 f2); go_simp; first | done | rfl | exact ⟨rfl, rfl⟩)); go_big_quiet_on; simp only [Act.put, List.setIfInBounds_toArray, List.set_cons_succ, List.set_cons_zero])))); refine wpQuiet_nil ?_; (try dsimp only))
      rw [← hr]
      have HR := Lib.hid hr; clear hr
      obtain ⟨q, hq⟩ : ∃ q, q = min 16 r := ⟨_, rfl⟩
      have HQ := Lib.hid hq
      clear hq
      (refine wpT_loudN 5 (by kernel_rfl) (fun K hK => ?_); simp only [nthOp, List.toList_toArray])
      go_wp2_with fail
      rw [show min 16 (r : Int) = (q : Int) from by rw [HQ.out]; omega]
      refine hK.out _ _ (fun _ => hS) ?_
      clear hK
      ((try simp only [Act.put, List.setIfInBounds_toArray, List.set_cons_succ, List.set_cons_zero]); refine wpT_batch (fuel := 0) (by kernel_rfl) (by kernel_rfl) (fun d => by cases d <;> exact fun _ _ _ _ h => h) hS [6] _ _ (by kernel_rfl) ?_; simp only [pickOps, nthOp, List.toList_toArray]; (repeat (first | go_big_quiet_skip | (go_big_quiet_want; first | (go_big_quiet_op; go_big_quiet_on) | (apply Exists.intro; refine ⟨fun w' hS' => ?_, ?_⟩; (· (skip; go_simp; first | done | rfl | exact ⟨rfl, rfl⟩)); go_big_quiet_on; simp only [Act.put, List.setIfInBounds_toArray, List.set_cons_succ, List.set_cons_zero])))); refine wpQuiet_nil ?_; (try dsimp only))
      clear hS
      refine wpT_done (by kernel_rfl) ?_ _
      obtain ⟨fn, tmps, assign, body, hy, hR⟩ := hY _ ⟨k, hlt⟩ w1 hJd hp
      have hv : pieceV b off len k = .slice (some ⟨b, off + p, none⟩) q q := by
        unfold pieceV
        rw [HQ.out, HR.out, HPK.out]
      rw [hv] at hy
      have s1 : (p : Int) + (q : Int) ≤ (cap : Int) := by have h1 := HQ.out; have h2 := HR.out; omega
      have s3 : ¬ (p + q = p) := by have h1 := HQ.out; have h2 := HR.out; have h3 := HPK.out; omega
      have s5 : (0 : Int) ≤ (q : Int) := by omega
      have c1 := bS.cell 0
      have c2 := bN.cell 0
      simp at c1 c2
      gi_wp2
      refine hR.mono ?_
      rintro e W3 (⟨rfl, hJ3, hk3⟩ | ⟨rfl, hJx3⟩)
      · have bS3 := bS.same hk3.1
        have bN3 := bN.same hk3.2
        have d1 := bS3.cell 0
        have d2 := bN3.cell 0
        simp at d1 d2
        gi_wp2
        go_roundw
        case rel => exact ⟨k + 1, p + 16, by omega, by go_num, by rw [HPK.out]; omega, by rw [pieces_succ]; exact hJ3, bS3, bN3⟩
        case measure => simp [intOf]; omega
      · gi_wp2
        refine bodyPost_ret (results_none rfl _ _ _) rfl ?_
        exact ⟨⟨_, rfl⟩, Or.inr ⟨_, trivial, hJx3⟩⟩
    · have hk' : k = (len + 15) / 16 := by omega
      have p2 : ¬ ((p : Int) < (len : Int)) := by omega
      subst hk'
      have HPK := Lib.hid hpk; clear hpk
      gi_wp2
      go_end0
      exact ⟨⟨_, rfl⟩, Or.inl hJs⟩
set_option maxRecDepth 100000 in
set_option maxHeartbeats 1600000 in
/-- No element: no piece. -/
theorem chunk0_in (n : Nat) (l Bs Bn : Nat) (A : Option Addr) (cap : Nat) (J : List (Piece 0) → World → Prop) (W : World) (hBs : Bk W Bs 25 #[.slice A 0 cap]) (hBn : Bk W Bn 3 #[.int .i64 16]) (h0 : J [] W) :
    CallsIn Fence.wide n Tryz.prog 46 #[.func (.yield l) #[] #[], .pointer (some ⟨Bs, 0, none⟩), .pointer (some ⟨Bn, 0, none⟩)] W fun e W' => (∃ v, e = .returned v) ∧ J [] W' := by
  refine callsIn_of_wp Tryz.func46 rfl trivial ?_ rfl
  simp only [Tryz.ntmps46, List.size_toArray, List.length_cons, List.length_nil, Nat.reduceAdd, Nat.reduceSub, Array.replicate_succ, Array.replicate_zero, List.push_toArray, List.append_toArray, List.nil_append, List.cons_append]
  have c1 := hBs.cell 0
  simp at c1
  gi_wp2
  gi_loopw [4] (fun i wr => i = .int .i64 0 ∧ J [] wr ∧ wr.cell? ⟨Bs, 0, none⟩ = some (.slice A 0 cap)) (fun _ _ => 0)
  case atStart => exact ⟨rfl, h0, c1⟩
  case round =>
    obtain ⟨rfl, hJs, c2⟩ := hrel
    gi_wp2
    go_end0
    exact ⟨⟨_, rfl⟩, hJs⟩

/-- The iterator of the chunks of a slice of ints. -/
theorem chunk_stops (n : Nat) (hn : 1 ≤ n) (Bs Bn : Nat) (A : Option Addr) (b off len cap : Nat) (hA : 0 < len → A = some ⟨b, off, none⟩) (hlen : len ≤ 4096) (hcap : len ≤ cap) (hcap' : cap ≤ 9223372036854775807) (w : World)
    (hBs : Bk w Bs 25 #[.slice A len cap]) (hBn : Bk w Bn 3 #[.int .i64 16]) :
    SeqStopsK Fence.wide n Tryz.prog 46 #[.pointer (some ⟨Bs, 0, none⟩), .pointer (some ⟨Bn, 0, none⟩)] (fun x : Piece len => #[pieceV b off len x.1]) (kept2 Bs Bn)
      (fun ys => ys.map (·.1) = List.range ((len + 15) / 16)) (fun _ => True) ((len + 15) / 16) w := fun l J Jx W hW hJ _ hY h0 => by
  have bs := hBs.belowAll hW
  have bn := hBn.belowAll hW
  by_cases h : 0 < len
  · rw [hA h] at bs
    refine (chunk1_in n hn l Bs Bn b off len cap hlen hcap hcap' J Jx _ hJ hY W bs bn h0).mono ?_
    rintro e W' ⟨he, ⟨ys, rfl, hj⟩ | ⟨pre, hp, hj⟩⟩
    · exact ⟨he, Or.inl ⟨_, pieces_vals _ _ _, hj⟩⟩
    · exact ⟨he, Or.inr ⟨_, trivial, hj⟩⟩
  · obtain rfl : len = 0 := by omega
    refine (chunk0_in n l Bs Bn A cap J W bs bn h0).mono ?_
    rintro e W' ⟨he, hj⟩
    exact ⟨he, Or.inl ⟨_, rfl, hj⟩⟩
end Go.Proofs.YtciioiklkaannaaGreatDoor
