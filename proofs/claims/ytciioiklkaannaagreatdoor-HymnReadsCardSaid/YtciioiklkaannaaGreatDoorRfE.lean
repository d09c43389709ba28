/- The reference's words. -/
import Derived.Test.YtciioiklkaannaaGreatDoorRfD
import Derived.Test.YtciioiklkaannaaGreatDoorRun
import Derived.Deep.CutBlock
namespace Go.Proofs.YtciioiklkaannaaGreatDoor
open Go Go.RowKit
set_option linter.unusedSimpArgs false
set_option linter.unusedVariables false
set_option linter.unusedSectionVars false

theorem infoStr : (Tryz.prog.info? 9).map (fun i => (i.zero, i.size, i.bytes)) = some (some (.string ⟨#[]⟩), 1, 16) := by kernel_rfl
theorem own_str_append (w : World) (v : Value) (l : List ByteArray) (h : Own w 9 1 v l.length (strs l)) (hl : l.length ≤ 100000) (x : ByteArray) (b : Nat) (hb : Bk w b 9 #[.string x]) (t : TypeId) :
    ∃ v' w', (Builtin.append_ #[83, 83] t #[v, .slice (some ⟨b, 0, none⟩) 1 1]).run Tryz.prog w = .ok v' w' ∧
      Own w' 9 1 v' (l ++ [x]).length (strs (l ++ [x])) ∧ w.grownBy w' v.ownBlock ∧ Fresh w v v' := by
  obtain ⟨i, hi, hz, hz1, hz2⟩ := info_parts infoStr
  have h0 := own_append (P := Tryz.prog) w 83 t 9 i _ 1 16 Tryz.underlying83 hi hz hz1 hz2 rfl (by omega) v l.length (strs l) h ⟨b, 0, none⟩ 1 1 [.string x] rfl (bk_cells hb) (by intro u hu; simp at hu; subst hu; rfl) (by omega) (by simp only [maxLen]; omega) (by omega)
  rw [List.length_append]
  simpa [strs] using h0
theorem own_last {w : World} {e : TypeId} {g off c n : Nat} {I : List Value} {x u : Value} (h : Own w e 1 (.slice (some ⟨g, off, none⟩) n c) n (I ++ [x])) :
    w.cell? ⟨g, off + I.length, none⟩ = some x ∧ w.frozen? ⟨g, off + I.length, none⟩ = false ∧ Own (w.setCell ⟨g, off + I.length, none⟩ u) e 1 (.slice (some ⟨g, off, none⟩) n c) n (I ++ [u]) := by
  refine ⟨own_cells h I.length x (by simp), ?_, ?_⟩
  · rcases h.2 with ⟨hv, _⟩ | ⟨g', off', cap, A, R, hv, hk, _⟩
    · cases hv
    · injection hv with e1 e2 e3
      cases e1
      exact hk.free _
  · refine ⟨by have := h.1; simpa using this, ?_⟩
    rcases h.2 with ⟨hv, _⟩ | ⟨g', off', cap, A, R, hv, hk, hA, h1, h2, h3⟩
    · cases hv
    · injection hv with e1 e2 e3
      cases e1
      subst e3
      refine Or.inr ⟨g, off, c, A, R, rfl, ?_, hA, h1, h2, by simpa using h3⟩
      have h4 := hk.set_ (off + I.length) u
      have e : ((A ++ (I ++ [x] ++ R)).toArray.setIfInBounds (off + I.length) u) = (A ++ (I ++ [u] ++ R)).toArray := by
        rw [← hA]
        apply Array.toList_inj.1
        simp [List.set_append]
      rwa [e] at h4

/-- Behind i bytes. -/
structure WS (s : ByteArray) (w : World) (i : Nat) (v : Value) (W : List (List UInt8)) (wr : World) : Prop where
  hi : i ≤ s.size
  ws : W = sp 32 (s.data.toList.take i)
  own : Own wr 9 1 v (W.map bs).length (strs (W.map bs))
  fr : ∀ g, v.ownBlock = some g → w.heap.size ≤ g
  below : Below w.heap.size w wr
theorem WS.len {s : ByteArray} {w : World} {i : Nat} {v : Value} {W : List (List UInt8)} {wr : World} (h : WS s w i v W wr) : W.length ≤ i + 1 ∧ ∀ x ∈ W, x.length ≤ i := by
  have h1 := sp_len 32 (s.data.toList.take i)
  have h2 := sp_elt 32 (s.data.toList.take i)
  rw [← h.ws, List.length_take] at h1
  rw [← h.ws] at h2
  exact ⟨by omega, fun x hx => by have := h2 x hx; rw [List.length_take] at this; omega⟩
theorem WS.hit {s : ByteArray} {w : World} {i : Nat} {v v' : Value} {W : List (List UInt8)} {wr w1 : World} (h : WS s w i v W wr) (hlt : i < s.size) (h32 : s[i] = 32) (ho : Own w1 9 1 v' (W.map bs ++ [bs []]).length (strs (W.map bs ++ [bs []]))) (hg : wr.grownBy w1 v.ownBlock) (hf : Fresh wr v v') :
    WS s w (i + 1) v' (W ++ [[]]) w1 := by
  refine ⟨hlt, ?_, by simpa using ho, fun g hv => ?_, h.below.grown hg h.below.size (fun g e => h.fr g e)⟩
  · rw [List.take_add_one, s_at s i hlt, h32]
    show _ = sp 32 (s.data.toList.take i ++ [32])
    rw [sp_snoc_hit, ← h.ws]
  · rcases hf g hv with h1 | h1
    · exact h.fr g h1
    · exact Nat.le_trans h.below.size h1

set_option maxRecDepth 100000 in
set_option maxHeartbeats 6400000 in
theorem words_any (s : ByteArray) (hs : s.size ≤ 50000) (w : World) : Calls Tryz.prog 41 #[.string s] w fun e w' => ∃ A c, e = .returned (.slice A (sp 32 s.data.toList).length c) ∧ WL w' A (sp 32 s.data.toList) ∧ Below w.heap.size w w' ∧ ∀ b o, A = some ⟨b, o, none⟩ → w.heap.size ≤ b := by
  have B0 : Bk (w.alloc (.cells #[.string ⟨#[]⟩] 9)) w.heap.size 9 #[.string ⟨#[]⟩] := Bk.at_ rfl
  have S0 : WS s w 0 (.slice (some ⟨w.heap.size, 0, none⟩) 1 1) [[]] (w.alloc (.cells #[.string ⟨#[]⟩] 9)) := by
    refine ⟨Nat.zero_le _, by simp [sp], ⟨by simp [strs], Or.inr ⟨w.heap.size, 0, 1, [], [], rfl, ?_, rfl, Nat.le_refl _, by simp [maxLen], by simp [strs]⟩⟩, fun g hv => by cases hv; exact Nat.le_refl _, (Below.refl _ _).alloc (Nat.le_refl _) _⟩
    exact B0
  have SH := Lib.hid S0
  clear S0 B0
  go_enter Tryz.func41, Tryz.ntmps41
  go_wp2_with fail
  generalize (w.alloc (.cells #[.string ⟨#[]⟩] 9)) = w0 at *
  go_loopw [3, 4] (fun t3 t4 wr => ∃ (i : Nat) (W : List (List UInt8)), t4 = .int .i64 i ∧ WS s w i t3 W wr) (fun _ t4 _ => s.size - (intOf t4).toNat)
  case atStart => exact ⟨0, _, rfl, SH.out⟩
  case round =>
    obtain ⟨i, W, rfl, S'⟩ := hrel
    have S := Lib.hid S'; clear S' SH
    have hi := S.out.hi
    obtain ⟨lW, lx⟩ := S.out.len
    obtain ⟨A, c, rfl, hSl⟩ := own_sl S.out.own
    rw [List.length_map] at hSl
    by_cases hlt : i < s.size
    · by_cases h32 : s[i] = 32
      · have q1 : ((s[i]).toNat : Int) = 32 := by rw [h32]; rfl
        have EB : Bk (wr.alloc (.cells #[.string ⟨#[]⟩] 9)) wr.heap.size 9 #[.string ⟨#[]⟩] := Bk.at_ rfl
        have hb1 : Below wr.heap.size wr (wr.alloc (.cells #[.string ⟨#[]⟩] 9)) := (Below.refl _ _).alloc (Nat.le_refl _) _
        obtain ⟨v', w7, hrun, O7, hg7, hf7⟩ := own_str_append _ _ (W.map bs) (S.out.own.below hb1) (by simp; omega) ⟨#[]⟩ _ EB 83
        have S1 : WS s w i (.slice A (W.map bs).length c) W (wr.alloc (.cells #[.string ⟨#[]⟩] 9)) := ⟨S.out.hi, S.out.ws, S.out.own.below hb1, S.out.fr, S.out.below.trans (hb1.mono S.out.below.size)⟩
        have S7 := Lib.hid (S1.hit hlt h32 O7 hg7 hf7)
        have O7' : Own w7 9 1 v' (W.length + 1) (strs (W.map bs ++ [⟨#[]⟩])) := by have h1 := O7; rw [List.length_append, List.length_map] at h1; exact h1
        obtain ⟨nA, nc, rfl, _⟩ := own_sl O7'
        have HR := Lib.hid hrun
        clear O7' O7 hrun hg7 hf7 S1 EB hb1 hSl h32
        rw [List.length_map] at *
        go_wp2_with (at_builtin; refine wpList_append_run (by rfl) _ _ _ _ _ _ _ (by rfl) (by rfl) (by rfl) HR.out ?_)
        go_roundw
        case rel => exact ⟨i + 1, W ++ [[]], by go_num, S7.out⟩
        case measure => simp [intOf]; omega
      · obtain ⟨I, x, hIx, hIb⟩ := sp_snoc_no 32 s[i] h32 (s.data.toList.take i)
        have hWI : W = I ++ [x] := by rw [S.out.ws, hIx]
        obtain ⟨g, off, rfl, _, _⟩ := hSl.2 (by rw [hWI]; simp)
        obtain ⟨m, hm⟩ : ∃ m, m = I.length := ⟨_, rfl⟩
        have q1 : ¬ (((s[i]).toNat : Int) = 32) := fun e => h32 (UInt8.toNat_inj.1 (by have : (32 : UInt8).toNat = 32 := rfl; omega))
        have hlm : (List.map bs W).length = m + 1 := by rw [hWI, hm]; simp
        have lm : m ≤ 60000 := by have h1 := congrArg List.length hWI; simp at h1; omega
        have O1 : Own wr.drew 9 1 (.slice (some ⟨g, off, none⟩) (m + 1) c) (m + 1) ((I.map bs).map Value.string ++ [.string (bs x)]) := by
          have h1 := S.out.own.below ((Below.refl wr.heap.size wr).drew)
          rw [hlm, hWI] at h1
          simpa [strs] using h1
        have hll : ((I.map bs).map Value.string).length = m := by simp [hm]
        obtain ⟨c1, c2, O2⟩ := own_last (u := .string (bs (x ++ [s[i]]))) O1
        rw [hll] at c1 c2 O2
        have hg := S.out.fr g rfl
        have SX : WS s w (i + 1) (.slice (some ⟨g, off, none⟩) (m + 1) c) (I ++ [x ++ [s[i]]]) (wr.drew.setCell ⟨g, off + m, none⟩ (.string (bs (x ++ [s[i]])))) := by
          refine ⟨hlt, ?_, ?_, fun g' e => by cases e; exact hg, S.out.below.drew.setCell hg _⟩
          · rw [List.take_add_one, s_at s i hlt]; exact hIb.symm
          · have e : (List.map bs (I ++ [x ++ [s[i]]])).length = m + 1 := by simp [hm]
            rw [e]
            simpa [strs] using O2
        have S7 := Lib.hid SX
        have e15 : bs x ++ s.extract i (i + 1) = bs (x ++ [s[i]]) := by
          have e1 : s.extract i (i + 1) = bs [s[i]] := by
            apply ByteArray.ext
            rw [ByteArray.data_extract]
            apply Array.toList_inj.1
            rw [Array.toList_extract]
            simp only [List.extract, bs]
            rw [show i + 1 - i = 1 from by omega, List.drop_eq_getElem_cons (by rw [s_len]; exact hlt)]
            rfl
          rw [e1, bs_append]
        have E15 := Lib.hid e15
        have hx15 : ¬ (9223372036854775807 < (bs x).size + (s.extract i (i + 1)).size) := by
          have h2 := congrArg ByteArray.size e15
          rw [ByteArray.size_append, bs_size (x ++ [s[i]]), List.length_append, List.length_singleton] at h2
          have h3 := lx x (by rw [hWI]; simp)
          omega
        have wm : IntKind.i64.wrap (m : Int) = m := IntWalk.i64_in _ (by omega)
        obtain ⟨p1, hp1⟩ : ∃ p1, p1 = i + 1 := ⟨_, rfl⟩
        have wi : IntKind.i64.wrap ((i : Int) + 1) = (p1 : Int) := by rw [hp1]; exact IntWalk.i64_in _ (by omega)
        have i1 : (0 : Int) ≤ (i : Int) := by omega
        have i2 : (i : Int) ≤ (p1 : Int) := by omega
        have i3 : (p1 : Int) ≤ (s.size : Int) := by omega
        have i5 : (0 : Int) ≤ (p1 : Int) := by omega
        have m1 : (0 : Int) ≤ (m : Int) := by omega
        have m2 : (m : Int) < (m : Int) + 1 := by omega
        rw [← hp1] at hx15 E15
        have hx16 : ¬ (9223372036854775807 < (bs x).size + (min p1 s.size - i)) := by
          rw [ByteArray.size_extract] at hx15; exact hx15
        have HP := Lib.hid hp1
        clear hp1
        rw [hlm]
        clear SX e15 O1 O2 hg hIx hIb hWI hm hll h32 hlm lx lW hSl S
        go_wp2_with fail
        refine wp_region_T (fun w' : World => w'.cell? ⟨g, off + m, none⟩ = some (.string (bs x))) 16 (by kernel_rfl) c1 (fun hS => ?_)
        generalize wr.drew = w1 at *
        ((try simp only [Act.put, List.setIfInBounds_toArray, List.set_cons_succ, List.set_cons_zero]); refine wpT_batch (fuel := 2) (by kernel_rfl) (by kernel_rfl) (fun d => by cases d <;> exact fun _ _ _ _ h => h) hS [0, 1, 2, 3, 4, 5, 6, 7, 8, 9, 10, 11, 12, 13, 14, 15] _ _ (by kernel_rfl) ?_; simp only [pickOps, nthOp, List.toList_toArray]; (repeat (first | go_big_quiet_skip | (go_big_quiet_want; first | (go_big_quiet_op; go_big_quiet_on) | (apply Exists.intro; refine ⟨fun w' hS' => ?_, ?_⟩; (· (skip; go_simp; first | done | rfl | exact ⟨rfl, rfl⟩)); go_big_quiet_on; simp only [Act.put, List.setIfInBounds_toArray, List.set_cons_succ, List.set_cons_zero])))); refine wpQuiet_nil ?_; (try dsimp only))
        rw [E15.out]
        clear hS
        ((refine wpT_loudN 16 (by kernel_rfl) (fun K hK => ?_); simp only [nthOp, List.toList_toArray]); go_wp2_with fail; refine hK.out _ _ (fun h => absurd h (by omega)) ?_; clear hK)
        (refine wpT_loudN 17 (by kernel_rfl) (fun K hK => ?_); simp only [nthOp, List.toList_toArray])
        go_wp2_with fail
        refine hK.out _ _ (fun h => absurd h (by omega)) ?_
        clear hK
        refine wpT_done (by kernel_rfl) ?_ _
        go_wp2_with fail
        go_roundw
        case rel => exact ⟨i + 1, _, by have h9 := HP.out; go_num, S7.out⟩
        case measure => have h9 := HP.out; simp [intOf]; omega
    · obtain rfl : i = s.size := by omega
      go_wp2_with fail
      go_ret
      have hW : W = sp 32 s.data.toList := by rw [S.out.ws, List.take_of_length_le (by rw [s_len]; exact Nat.le_refl _)]
      rw [List.length_map]
      rw [← hW]
      exact ⟨A, c, rfl, hSl, S.out.below, fun b o e => S.out.fr b (by rw [e]; rfl)⟩
end Go.Proofs.YtciioiklkaannaaGreatDoor
