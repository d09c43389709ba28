/- Reading a script: the walk of lots.Decode. -/
import Derived.Test.YthecbeejlpgdaaaDoorFnDecode
import Derived.Test.YthecbeejlpgdaaaDoorFnB
import Derived.Test.YthecbeejlpgdaaaDoorReg
import Derived.Deep.DeepMust
namespace Go.Proofs.YthecbeejlpgdaaaDoor
open Go Go.RowKit
set_option linter.unusedSimpArgs false
set_option linter.unusedVariables false
set_option linter.unusedSectionVars false

set_option maxRecDepth 100000 in
set_option maxHeartbeats 1000000 in
theorem decode_any (s : ByteArray) (w : World) (hs : s.size ≤ 140737488351232) :
    Calls Tryd.prog 11 #[.string s] w (DecPost s w) := by
  have hq : ∀ k, bat s k < 256 := bat_lt s
  have q0 := hq 0
  have q1 := hq 1
  have q2 := hq 2
  have q3 := hq 3
  have q4 := hq 4
  have q5 := hq 5
  clear hq
  go_enter Tryd.func11, Tryd.ntmps11
  go_wp2_with fail
  have D : DW w _ s 0 #[.int .i64 0, .int .i64 0, .int .i64 0, .int .i64 0, .int .i64 0, .slice none 0 0, .slice none 0 0] := ⟨(((Bk.at_ rfl).alloc _).alloc _), by rw [rest_zero]; exact ((Bk.at_ (by simp)).alloc _), Bk.at_ (by simp), (((Below.refl _ _).alloc (Nat.le_refl _) _).alloc (by simp) _).alloc (by simp; omega) _⟩
  refine (next_bk s 0 _ _ D.r).mono ?_
  rintro e w1 ⟨rfl, hn⟩
  have D0a := D.next ⟨rfl, hn⟩
  clear D hn
  have f0 := D0a.x.cell 0
  have g0 := D0a.x.free 0
  simp at f0
  go_wp2_with fail
  have D1 := D0a.set_ 0 (.int .i64 (dSt s))
  clear D0a f0 g0
  refine (next_bk s 1 _ _ D1.r).mono ?_
  rintro e w2 ⟨rfl, hn⟩
  have D1a := D1.next ⟨rfl, hn⟩
  clear D1 hn
  have f0 := D1a.x.cell 1
  have g0 := D1a.x.free 1
  simp at f0
  go_wp2_with fail
  have D2 := D1a.set_ 1 (.int .i64 (dEn s))
  clear D1a f0 g0
  refine (next_bk s 2 _ _ D2.r).mono ?_
  rintro e w3 ⟨rfl, hn⟩
  have D2a := D2.next ⟨rfl, hn⟩
  clear D2 hn
  have f0 := D2a.x.cell 2
  have g0 := D2a.x.free 2
  simp at f0
  go_wp2_with fail
  have D3 := D2a.set_ 2 (.int .i64 (dTh s))
  clear D2a f0 g0
  refine (next_bk s 3 _ _ D3.r).mono ?_
  rintro e w4 ⟨rfl, hn⟩
  have D3a := D3.next ⟨rfl, hn⟩
  clear D3 hn
  have f0 := D3a.x.cell 3
  have g0 := D3a.x.free 3
  simp at f0
  go_wp2_with fail
  have D4 := D3a.set_ 3 (.int .i64 (dSl s))
  clear D3a f0 g0
  refine (next_bk s 4 _ _ D4.r).mono ?_
  rintro e w5 ⟨rfl, hn⟩
  have D4a := D4.next ⟨rfl, hn⟩
  clear D4 hn
  have f0 := D4a.x.cell 4
  have g0 := D4a.x.free 4
  simp at f0
  have f1 := D4a.x.cell 0
  simp at f1
  go_wp2_with fail
  have D5 := D4a.set_ 4 (.int .i64 (dNo s))
  clear D4a f0 g0 f1
  refine (kinds_any (dSt s) _ (by unfold dSt; omega) (by unfold dSt; omega)).mono ?_
  rintro e w6 ⟨rfl, rfl⟩
  have hkb := D5.x.lt
  have D6 := D5.more ((Below.refl _ _).alloc (Nat.le_refl _) (.cells ((kindsOf (dSt s)).map (Value.int .i64)).toArray 3))
  have hK : Bk ((w5.setCell ⟨w.heap.size + 2, 4, none⟩ (.int .i64 (dNo s))).alloc (.cells (kcells s) 3)) w5.heap.size 3 (kcells s) := Bk.at_ (by simp [World.setCell])
  simp [World.setCell] at hkb
  clear D5
  go_wp2_with fail
  refine (next_bk s 5 _ _ D6.r).mono ?_
  rintro e w7 ⟨rfl, hn⟩
  have D7 := D6.next ⟨rfl, hn⟩
  have hK7 := hK.grown (t := 3) hn.2.1 (by simp; omega)
  clear D6 hK hn
  generalize w5.heap.size = kb at *
  have hsz7 := hK7.lt
  have L : L1 w w7 s kb 6 0 (.slice none 0 0) := ⟨D7, hK7, ⟨rfl, .inl ⟨rfl, rfl⟩⟩, hkb⟩
  clear D7 hK7 hsz7
  go_wp2_with fail
  go_loopw [49] (fun i wr => ∃ (k : Nat) (v : Value), k ≤ dN s ∧ i = .int .i64 k ∧ L1 w wr s kb (6 + 4 * k) k v) (fun i _ => dN s - (intOf i).toNat)
  case atStart => exact ⟨0, _, Nat.zero_le _, rfl, L⟩
  case round =>
    obtain ⟨k, v, hk, rfl, L⟩ := hrel
    by_cases hlt : k < dN s
    · have hlt' : (k : Int) < (bat s 5 : Int) % 65 := by unfold dN at hlt; omega
      have th1 : 1 ≤ dTh s := by unfold dTh; omega
      have th2 : dTh s ≤ 6 := by unfold dTh; omega
      have b6 := bat_lt s (6 + 4 * k)
      have c2 := L.th
      have th0 : ¬ dTh s = 0 := by omega
      go_wp2_with fail
      go_region_held3 (fun w' => w'.cell? ⟨w.heap.size + 1 + 1, 2, none⟩ = some (.int .i64 (dTh s))) (first | go_keep | exact c2' | exact c2)
        ((go_at_call 24; refine (next_bk s (6 + 4 * k) _ _ L.d.r.drew).mono ?_; rintro e w8 ⟨rfl, hn⟩; have L8 := L.drew.next ⟨rfl, hn⟩; have c2' := L8.th))
      clear hn
      have hl1 : 1 ≤ (kindsOf (dSt s)).length := by
        have hst : dSt s = 1 ∨ dSt s = 2 ∨ dSt s = 3 ∨ dSt s = 4 ∨ dSt s = 5 := by unfold dSt; omega
        rcases hst with e | e | e | e | e <;> rw [e] <;> decide
      have hl3 : (kindsOf (dSt s)).length ≤ 3 := by
        have hst : dSt s = 1 ∨ dSt s = 2 ∨ dSt s = 3 ∨ dSt s = 4 ∨ dSt s = 5 := by unfold dSt; omega
        rcases hst with e | e | e | e | e <;> rw [e] <;> decide
      go_wp2_with fail
      refine (next_bk s (6 + 4 * k + 1) _ _ L8.d.r).mono ?_
      rintro e w9 ⟨rfl, hn⟩
      have L9 := L8.next ⟨rfl, hn⟩
      clear hn L8 c2' c2
      have c3 := L9.kind (bat s (6 + 4 * k + 1))
      have b7 := bat_lt s (6 + 4 * k + 1)
      have m7 : bat s (6 + 4 * k + 1) % (kindsOf (dSt s)).length < (kindsOf (dSt s)).length := Nat.mod_lt _ (by omega)
      go_wp2_with fail
      clear c3 m7
      refine (next_bk s (6 + 4 * k + 1 + 1) _ _ L9.d.r).mono ?_
      rintro e w10 ⟨rfl, hn⟩
      have L10 := L9.next ⟨rfl, hn⟩
      clear hn L9
      have b8 := bat_lt s (6 + 4 * k + 1 + 1)
      go_wp2_with fail
      refine (next_bk s (6 + 4 * k + 1 + 1 + 1) _ _ L10.d.r).mono ?_
      rintro e w11 ⟨rfl, hn⟩
      have L11 := L10.next ⟨rfl, hn⟩
      clear hn L10
      have b9 := bat_lt s (6 + 4 * k + 1 + 1 + 1)
      have e5 := L11.ops
      have e0 := L11.st
      obtain ⟨i0, hi0, hz0, hz1, hz2⟩ := info_parts infoTask
      have hkN : k < 65 := by unfold dN at hlt; omega
      go_wp2_with fail
      refine wp_region_T (fun w' => w'.cell? ⟨w.heap.size + 1 + 1, 5, none⟩ = some v ∧ w'.cell? ⟨w.heap.size + 1 + 1, 0, none⟩ = some (.int .i64 (dSt s))) 15 (by kernel_rfl) ⟨e5, e0⟩ (fun hS => ?_)
      (refine wpT_more (i := 0) (by kernel_rfl) (by omega) rfl (by kernel_rfl) (by kernel_rfl) (by kernel_rfl) (fun _ _ _ _ h => h) hS ?_; apply Exists.intro; apply And.intro; (refine Or.inl ⟨by rfl, ?_⟩; intro w' hS'; obtain ⟨h1, h2⟩ := hS'; go_simp; rfl); simp only [Act.put, List.setIfInBounds_toArray, List.set_cons_succ, List.set_cons_zero])
      (refine wpT_more (i := 1) (by kernel_rfl) (by omega) rfl (by kernel_rfl) (by kernel_rfl) (by kernel_rfl) (fun _ _ _ _ h => h) hS ?_; apply Exists.intro; apply And.intro; (refine Or.inl ⟨by rfl, ?_⟩; intro w' hS'; obtain ⟨h1, h2⟩ := hS'; go_simp; rfl); simp only [Act.put, List.setIfInBounds_toArray, List.set_cons_succ, List.set_cons_zero])
      (refine wpT_more (i := 2) (by kernel_rfl) (by omega) rfl (by kernel_rfl) (by kernel_rfl) (by kernel_rfl) (fun _ _ _ _ h => h) hS ?_; apply Exists.intro; apply And.intro; (refine Or.inl ⟨by rfl, ?_⟩; intro w' hS'; obtain ⟨h1, h2⟩ := hS'; go_simp; rfl); simp only [Act.put, List.setIfInBounds_toArray, List.set_cons_succ, List.set_cons_zero])
      (refine wpT_more (i := 3) (by kernel_rfl) (by omega) rfl (by kernel_rfl) (by kernel_rfl) (by kernel_rfl) (fun _ _ _ _ h => h) hS ?_; apply Exists.intro; apply And.intro; (refine Or.inl ⟨by rfl, ?_⟩; intro w' hS'; obtain ⟨h1, h2⟩ := hS'; go_simp; rfl); simp only [Act.put, List.setIfInBounds_toArray, List.set_cons_succ, List.set_cons_zero])
      (refine wpT_more (i := 4) (by kernel_rfl) (by omega) rfl (by kernel_rfl) (by kernel_rfl) (by kernel_rfl) (fun _ _ _ _ h => h) hS ?_; apply Exists.intro; apply And.intro; (refine Or.inl ⟨by rfl, ?_⟩; intro w' hS'; obtain ⟨h1, h2⟩ := hS'; go_simp; rfl); simp only [Act.put, List.setIfInBounds_toArray, List.set_cons_succ, List.set_cons_zero])
      (refine wpT_more (i := 5) (by kernel_rfl) (by omega) rfl (by kernel_rfl) (by kernel_rfl) (by kernel_rfl) (fun _ _ _ _ h => h) hS ?_; apply Exists.intro; apply And.intro; (refine Or.inl ⟨by rfl, ?_⟩; intro w' hS'; obtain ⟨h1, h2⟩ := hS'; go_simp; rfl); simp only [Act.put, List.setIfInBounds_toArray, List.set_cons_succ, List.set_cons_zero])
      (refine wpT_more (i := 6) (by kernel_rfl) (by omega) rfl (by kernel_rfl) (by kernel_rfl) (by kernel_rfl) (fun _ _ _ _ h => h) hS ?_; apply Exists.intro; apply And.intro; (refine Or.inl ⟨by rfl, ?_⟩; intro w' hS'; obtain ⟨h1, h2⟩ := hS'; go_simp; rfl); simp only [Act.put, List.setIfInBounds_toArray, List.set_cons_succ, List.set_cons_zero])
      (refine wpT_more (i := 7) (by kernel_rfl) (by omega) rfl (by kernel_rfl) (by kernel_rfl) (by kernel_rfl) (fun _ _ _ _ h => h) hS ?_; apply Exists.intro; apply And.intro; (refine Or.inl ⟨by rfl, ?_⟩; intro w' hS'; obtain ⟨h1, h2⟩ := hS'; go_simp; rfl); simp only [Act.put, List.setIfInBounds_toArray, List.set_cons_succ, List.set_cons_zero])
      (refine wpT_more (i := 8) (by kernel_rfl) (by omega) rfl (by kernel_rfl) (by kernel_rfl) (by kernel_rfl) (fun _ _ _ _ h => h) hS ?_; apply Exists.intro; apply And.intro; (refine Or.inl ⟨by rfl, ?_⟩; intro w' hS'; obtain ⟨h1, h2⟩ := hS'; go_simp; rfl); simp only [Act.put, List.setIfInBounds_toArray, List.set_cons_succ, List.set_cons_zero])
      (refine wpT_more (i := 9) (by kernel_rfl) (by omega) rfl (by kernel_rfl) (by kernel_rfl) (by kernel_rfl) (fun _ _ _ _ h => h) hS ?_; apply Exists.intro; apply And.intro; (refine Or.inl ⟨by rfl, ?_⟩; intro w' hS'; obtain ⟨h1, h2⟩ := hS'; go_simp; rfl); simp only [Act.put, List.setIfInBounds_toArray, List.set_cons_succ, List.set_cons_zero])
      (refine wpT_loud (i := 10) rfl (by kernel_rfl) (fun K hK => ?_))
      go_wp2_with (go_at_call 25; refine (form_agg (dSt s) (kindAt (dSt s) (bat s (6 + 4 * k + 1))) (bat s (6 + 4 * k + 1 + 1)) (bat s (6 + 4 * k + 1 + 1 + 1)) _ (by omega) (by omega) (by omega) (by omega)).mono ?_; rintro e w12 ⟨rfl, hb12⟩; have L12 := L11.drew.more hb12; have e5' := L12.ops; have e0' := L12.st; have hk12 := L12.kk.lt)
      refine hK.out _ _ (fun _ => ⟨e5', e0'⟩) ?_
      clear hK hS
      have hS := (⟨e5', e0'⟩ : w12.cell? ⟨w.heap.size + 1 + 1, 5, none⟩ = some v ∧ w12.cell? ⟨w.heap.size + 1 + 1, 0, none⟩ = some (.int .i64 (dSt s)))
      (refine wpT_more (i := 11) (by kernel_rfl) (by omega) rfl (by kernel_rfl) (by kernel_rfl) (by kernel_rfl) (fun _ _ _ _ h => h) hS ?_; apply Exists.intro; apply And.intro; (refine Or.inl ⟨by rfl, ?_⟩; intro w' hS'; obtain ⟨h1, h2⟩ := hS'; go_simp; rfl); simp only [Act.put, List.setIfInBounds_toArray, List.set_cons_succ, List.set_cons_zero])
      (refine wpT_loud (i := 12) rfl (by kernel_rfl) (fun K hK => ?_))
      go_wp2
      have hS12 : ∀ o : Obj, (w12.alloc o).cell? ⟨w.heap.size + 1 + 1, 5, none⟩ = some v ∧ (w12.alloc o).cell? ⟨w.heap.size + 1 + 1, 0, none⟩ = some (.int .i64 (dSt s)) := fun o => ⟨(World.cell?_alloc_lt w12 o _ (by have := L12.kb; simp; omega)).trans e5', (World.cell?_alloc_lt w12 o _ (by have := L12.kb; simp; omega)).trans e0'⟩
      refine hK.out _ _ (fun _ => hS12 _) ?_
      clear hK hS
      (refine wpT_loud (i := 13) rfl (by kernel_rfl) (fun K hK => ?_))
      refine wpList_append_lies _ (by rfl) _ _ _ (by rfl) (kb + 1) 41 i0 _ 5 40 Tryd.underlying26 hi0 hz0 hz1 hz2 rfl (by omega) v k (tcells (decOps s k)) (by rfl) (L12.own.alloc _) ⟨w12.heap.size, 0, none⟩ 1 1 (taskOf s (6 + 4 * k)).cells (by rfl) (by rfl) (World.news_of_block (cs := (taskOf s (6 + 4 * k)).cells.toArray) (t := 41) (fr := (0, 0)) (heap_alloc_new w12 _)) (by simp [PTask.cells, Value.oneCell']) (by omega) (by simp only [maxLen]; omega) (by omega) (by simp; omega) (w12.heap.size + 1) (by simp) ?_
      intro gg cap w13 hown13 hg13 hat13 hlt13
      obtain ⟨e5a, e0a, fz⟩ := L12.xAfter _ hg13
      go_wp2
      refine hK.out _ _ (fun _ => ⟨e5a, e0a⟩) ?_
      clear hK hS12
      have hS := (⟨e5a, e0a⟩ : w13.cell? ⟨w.heap.size + 1 + 1, 5, none⟩ = some v ∧ w13.cell? ⟨w.heap.size + 1 + 1, 0, none⟩ = some (.int .i64 (dSt s)))
      (refine wpT_more (i := 14) (by kernel_rfl) (by omega) rfl (by kernel_rfl) (by kernel_rfl) (by kernel_rfl) (fun _ _ _ _ h => h) hS ?_; apply Exists.intro; apply And.intro; (refine Or.inl ⟨by rfl, ?_⟩; intro w' hS'; obtain ⟨h1, h2⟩ := hS'; go_simp; rfl); simp only [Act.put, List.setIfInBounds_toArray, List.set_cons_succ, List.set_cons_zero])
      (refine wpT_loud (i := 15) rfl (by kernel_rfl) (fun K hK => ?_))
      go_wp2
      refine hK.out _ _ (fun h => absurd h (by omega)) ?_
      clear hK hS
      refine wpT_done (by kernel_rfl) ?_ _
      have Ln := L12.push _ hown13 hg13 (by omega)
      clear L12 L11 L
      go_wp2
      go_roundw
      case rel => exact ⟨k + 1, _, by omega, by go_num, Ln⟩
      case measure => simp [intOf]; omega
    · have hke : k = dN s := by omega
      subst hke
      have M0 := L.two
      have hge : ¬ ((dN s : Nat) : Int) < (bat s 5 : Int) % 65 := by unfold dN; omega
      clear L
      go_wp2_with fail
      clear hge
      go_loopw [] (fun wr => ∃ (j : Nat) (A' : Option Addr) (c' : Nat), j ≤ dP s ∧ L2 w wr s kb (6 + 4 * dN s + j) j v (.slice A' j c')) (fun wr => leftN wr (w.heap.size + 1))
      case atStart => exact ⟨0, none, 0, Nat.zero_le _, M0⟩
      case round =>
        obtain ⟨j, A', c', hj, M⟩ := hrel
        have m4 := M.left
        have m5 := M.picks
        have m6 := M.th
        have th1 : 1 ≤ dTh s := by unfold dTh; omega
        have th2 : dTh s ≤ 6 := by unfold dTh; omega
        have th0 : ¬ dTh s = 0 := by omega
        by_cases hlt : 6 + 4 * dN s + j < s.size
        · have hne : (rest s (6 + 4 * dN s + j)).toList.isEmpty = false := isEmpty_of_size (by rw [rest_size]; omega)
          by_cases h4 : j < 4096
          · have h4' : (j : Int) < 4096 := by omega
            have b6 := bat_lt s (6 + 4 * dN s + j)
            go_wp2_with fail
            refine wp_region_T (fun w' => w'.cell? ⟨w.heap.size + 1 + 1, 6, none⟩ = some (.slice A' j c') ∧ w'.cell? ⟨w.heap.size + 1 + 1, 2, none⟩ = some (.int .i64 (dTh s))) 11 (by kernel_rfl) ⟨m5, m6⟩ (fun hS => ?_)
            (refine wpT_more (i := 0) (by kernel_rfl) (by omega) rfl (by kernel_rfl) (by kernel_rfl) (by kernel_rfl) (fun _ _ _ _ h => h) hS ?_; apply Exists.intro; apply And.intro; (refine Or.inl ⟨by rfl, ?_⟩; intro w' hS'; obtain ⟨h1, h2⟩ := hS'; go_simp; rfl); simp only [Act.put, List.setIfInBounds_toArray, List.set_cons_succ, List.set_cons_zero])
            (refine wpT_more (i := 1) (by kernel_rfl) (by omega) rfl (by kernel_rfl) (by kernel_rfl) (by kernel_rfl) (fun _ _ _ _ h => h) hS ?_; apply Exists.intro; apply And.intro; (refine Or.inl ⟨by rfl, ?_⟩; intro w' hS'; obtain ⟨h1, h2⟩ := hS'; go_simp; rfl); simp only [Act.put, List.setIfInBounds_toArray, List.set_cons_succ, List.set_cons_zero])
            (refine wpT_more (i := 3) (by kernel_rfl) (by omega) rfl (by kernel_rfl) (by kernel_rfl) (by kernel_rfl) (fun _ _ _ _ h => h) hS ?_; apply Exists.intro; apply And.intro; (refine Or.inl ⟨by rfl, ?_⟩; intro w' hS'; obtain ⟨h1, h2⟩ := hS'; go_simp; rfl); simp only [Act.put, List.setIfInBounds_toArray, List.set_cons_succ, List.set_cons_zero])
            (refine wpT_more (i := 4) (by kernel_rfl) (by omega) rfl (by kernel_rfl) (by kernel_rfl) (by kernel_rfl) (fun _ _ _ _ h => h) hS ?_; apply Exists.intro; apply And.intro; (refine Or.inl ⟨by rfl, ?_⟩; intro w' hS'; obtain ⟨h1, h2⟩ := hS'; go_simp; rfl); simp only [Act.put, List.setIfInBounds_toArray, List.set_cons_succ, List.set_cons_zero])
            (refine wpT_more (i := 5) (by kernel_rfl) (by omega) rfl (by kernel_rfl) (by kernel_rfl) (by kernel_rfl) (fun _ _ _ _ h => h) hS ?_; apply Exists.intro; apply And.intro; (refine Or.inl ⟨by rfl, ?_⟩; intro w' hS'; obtain ⟨h1, h2⟩ := hS'; go_simp; rfl); simp only [Act.put, List.setIfInBounds_toArray, List.set_cons_succ, List.set_cons_zero])
            (refine wpT_more (i := 6) (by kernel_rfl) (by omega) rfl (by kernel_rfl) (by kernel_rfl) (by kernel_rfl) (fun _ _ _ _ h => h) hS ?_; apply Exists.intro; apply And.intro; (refine Or.inl ⟨by rfl, ?_⟩; intro w' hS'; obtain ⟨h1, h2⟩ := hS'; go_simp; rfl); simp only [Act.put, List.setIfInBounds_toArray, List.set_cons_succ, List.set_cons_zero])
            (refine wpT_loud (i := 2) rfl (by kernel_rfl) (fun K hK => ?_))
            go_wp2_with (go_at_call 24; refine (next_bk s (6 + 4 * dN s + j) _ _ M.d.r.drew).mono ?_; rintro e w8 ⟨rfl, hn⟩; have M8 := M.drew.next ⟨rfl, hn⟩; have m5' := M8.picks; have m6' := M8.th)
            refine hK.out _ _ (fun _ => ⟨m5', m6'⟩) ?_
            clear hK hS hn
            have hS := (⟨m5', m6'⟩ : w8.cell? ⟨w.heap.size + 1 + 1, 6, none⟩ = some (.slice A' j c') ∧ w8.cell? ⟨w.heap.size + 1 + 1, 2, none⟩ = some (.int .i64 (dTh s)))
            (refine wpT_more (i := 7) (by kernel_rfl) (by omega) rfl (by kernel_rfl) (by kernel_rfl) (by kernel_rfl) (fun _ _ _ _ h => h) hS ?_; apply Exists.intro; apply And.intro; (refine Or.inl ⟨by rfl, ?_⟩; intro w' hS'; obtain ⟨h1, h2⟩ := hS'; go_simp; rfl); simp only [Act.put, List.setIfInBounds_toArray, List.set_cons_succ, List.set_cons_zero])
            (refine wpT_loud (i := 8) rfl (by kernel_rfl) (fun K hK => ?_))
            go_wp2
            have hS8 : ∀ o : Obj, (w8.alloc o).cell? ⟨w.heap.size + 1 + 1, 6, none⟩ = some (.slice A' j c') ∧ (w8.alloc o).cell? ⟨w.heap.size + 1 + 1, 2, none⟩ = some (.int .i64 (dTh s)) := fun o => ⟨(World.cell?_alloc_lt w8 o _ (by have := M8.kb; have := M8.kl; simp; omega)).trans m5', (World.cell?_alloc_lt w8 o _ (by have := M8.kb; have := M8.kl; simp; omega)).trans m6'⟩
            refine hK.out _ _ (fun _ => hS8 _) ?_
            clear hK hS
            (refine wpT_loud (i := 9) rfl (by kernel_rfl) (fun K hK => ?_))
            obtain ⟨i0, hi0, hz0, hz1, hz2⟩ := info_parts infoInt
            have hk8 := M8.kl
            refine wpList_append_lies _ (by rfl) _ _ _ (by rfl) (kb + 1) 3 i0 _ 1 8 Tryd.underlying27 hi0 hz0 hz1 hz2 rfl (by omega) (.slice A' j c') j (icells (decPicks s j)) (by rfl) (M8.own'.alloc _) ⟨w8.heap.size, 0, none⟩ 1 1 [.int .i64 (pickAt s (dTh s) (dN s) j)] (by rfl) (by rfl) (World.news_of_block (cs := #[.int .i64 (pickAt s (dTh s) (dN s) j)]) (t := 3) (fr := (0, 0)) (heap_alloc_new w8 _)) (by simp [Value.oneCell']) (by omega) (by simp only [maxLen]; omega) (by omega) (by simp; omega) (w8.heap.size + 1) (by simp) ?_
            intro gg cap w9 hown9 hg9 hat9 hlt9
            obtain ⟨e6a, e2a, fz⟩ := M8.xAfter _ hg9
            go_wp2
            refine hK.out _ _ (fun _ => ⟨e6a, e2a⟩) ?_
            clear hK hS8
            have hS := (⟨e6a, e2a⟩ : w9.cell? ⟨w.heap.size + 1 + 1, 6, none⟩ = some (.slice A' j c') ∧ w9.cell? ⟨w.heap.size + 1 + 1, 2, none⟩ = some (.int .i64 (dTh s)))
            (refine wpT_more (i := 10) (by kernel_rfl) (by omega) rfl (by kernel_rfl) (by kernel_rfl) (by kernel_rfl) (fun _ _ _ _ h => h) hS ?_; apply Exists.intro; apply And.intro; (refine Or.inl ⟨by rfl, ?_⟩; intro w' hS'; obtain ⟨h1, h2⟩ := hS'; go_simp; rfl); simp only [Act.put, List.setIfInBounds_toArray, List.set_cons_succ, List.set_cons_zero])
            (refine wpT_loud (i := 11) rfl (by kernel_rfl) (fun K hK => ?_))
            go_wp2
            refine hK.out _ _ (fun h => absurd h (by omega)) ?_
            clear hK hS
            refine wpT_done (by kernel_rfl) ?_ _
            have Mn := M8.push _ hown9 hg9
            have hl0 := M.leftN
            clear M8 M
            go_wp2
            go_roundw
            case rel => exact ⟨j + 1, _, _, by unfold dP; omega, Mn⟩
            case measure => rw [Mn.leftN, hl0]; omega
          · obtain rfl : j = dP s := by unfold dP at hj ⊢; omega
            have h4' : ¬ ((dP s : Nat) : Int) < 4096 := by omega
            ((obtain ⟨A0, c0, rfl⟩ := own_slice M.own); have O := M.d.o; have X := M.d.x; have o0 := O.cell 0; have o1 := O.cell 1; have o2 := O.cell 2; have o3 := O.cell 3; have o4 := O.cell 4; have o5 := O.cell 5; have o6 := O.cell 6; have x0 := X.cell 0; have x1 := X.cell 1; have x3 := X.cell 3; have x4 := X.cell 4; have x5 := X.cell 5; simp [xcell] at o0 o1 o2 o3 o4 o5 o6 x0 x1 x3 x4 x5; have fo := O.free; go_wp2_with fail; refine bodyPost_ret (v := .agg #[.int .i64 (dSt s), .int .i64 (dEn s), .int .i64 (dTh s), .int .i64 (dSl s), .int .i64 (dNo s), .slice A0 (dN s) c0, .slice A' (dP s) c']) (by simp [results, Tryd.results11, go_sem, o0, o1, o2, o3, o4, o5, o6]) rfl (M.out _ _ _ _ _ _ _))
        · have hne : (rest s (6 + 4 * dN s + j)).toList.isEmpty = true := by rw [rest_empty _ _ (by omega), Go.ByteArray.toList_eq]; rfl
          obtain rfl : j = dP s := by unfold dP at hj ⊢; omega
          ((obtain ⟨A0, c0, rfl⟩ := own_slice M.own); have O := M.d.o; have X := M.d.x; have o0 := O.cell 0; have o1 := O.cell 1; have o2 := O.cell 2; have o3 := O.cell 3; have o4 := O.cell 4; have o5 := O.cell 5; have o6 := O.cell 6; have x0 := X.cell 0; have x1 := X.cell 1; have x3 := X.cell 3; have x4 := X.cell 4; have x5 := X.cell 5; simp [xcell] at o0 o1 o2 o3 o4 o5 o6 x0 x1 x3 x4 x5; have fo := O.free; go_wp2_with fail; refine bodyPost_ret (v := .agg #[.int .i64 (dSt s), .int .i64 (dEn s), .int .i64 (dTh s), .int .i64 (dSl s), .int .i64 (dNo s), .slice A0 (dN s) c0, .slice A' (dP s) c']) (by simp [results, Tryd.results11, go_sem, o0, o1, o2, o3, o4, o5, o6]) rfl (M.out _ _ _ _ _ _ _))

end Go.Proofs.YthecbeejlpgdaaaDoor
