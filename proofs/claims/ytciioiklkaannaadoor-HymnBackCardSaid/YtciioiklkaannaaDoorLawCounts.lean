/- HymnCounts: how many lines a text has. -/
import Derived.Test.YtciioiklkaannaaDoorAwakeH
namespace Go.Proofs.YtciioiklkaannaaDoor
open Go Go.RowKit
set_option linter.unusedSimpArgs false
set_option linter.unusedVariables false
set_option linter.unusedSectionVars false

theorem count_free {c : UInt8} {l : List UInt8} (h : ∀ b ∈ l, b ≠ c) : l.count c = 0 := List.count_eq_zero.2 fun hc => h c hc rfl
theorem count_lines : ∀ (ls : List (List UInt8)), (∀ l ∈ ls, ∀ b ∈ l, b ≠ 10) → (ls.flatMap (· ++ [10])).count 10 = ls.length
  | [], _ => rfl
  | l :: ls, h => by
    rw [List.flatMap_cons, List.count_append, List.count_append, count_free (h l (by simp)), count_lines ls (fun x hx => h x (by simp [hx]))]
    simp; omega
theorem chunks_length (l : List Int) : (chunks l).length = (l.length + 15) / 16 := by rw [chunks_range _ l rfl]; simp
theorem text_count {x : PScr} (hx : Canon x) : (textL x).count 10 = 1 + x.ops.length + (x.picks.length + 15) / 16 := by
  have h := count_lines (linesOf x) (lines_no10 hx)
  rw [textL]
  unfold linesOf at h ⊢
  rw [flat_end, h]
  simp [chunks_length]; omega
theorem text_len {x : PScr} (hx : goodB x = true) : 1 ≤ (textL x).length ∧ (textL x).length ≤ 60000 := by
  have hc := canon_of_good hx
  simp only [goodB, Bool.and_eq_true, decide_eq_true_eq] at hx
  have h1 := picks_len x hc hx.1.1.1.2 (List.range ((x.picks.length + 15) / 16))
  rw [← text_picks, List.length_range] at h1
  have h2 := hx.1.1.2
  refine ⟨by simp [textL], by omega⟩
theorem text_last (x : PScr) (d : ByteArray) (h : bs (textL x) = d) (hd : d.size - 1 < d.size) : d[d.size - 1] = 10 := by
  subst h
  have h1 := s_at (bs (textL x)) ((bs (textL x)).size - 1) hd
  have h2 : (bs (textL x)).data.toList[(bs (textL x)).size - 1]? = some 10 := by
    rw [bs_data, bs_size, ← List.getLast?_eq_getElem?]; simp [textL]
  rw [h1] at h2
  exact Option.some.inj h2

theorem wrap_small {a : Int} (h0 : 0 ≤ a) (h1 : a < 9223372036854775808) : wrap64 a = a := by unfold wrap64; omega
theorem lines_sum {c o q : Nat} (h : c = 1 + o + q) (ho : o ≤ 64) (hq : q ≤ 1000) : wrap64 ((1 : Int) + (o : Int) + (q : Int)) = (c : Int) := by
  rw [wrap_small (by omega) (by omega)]; omega
theorem lines_eq {c o q : Nat} (h : c = 1 + o + q) : (c : Int) = 1 + (o : Int) + (q : Int) := by omega
theorem tdiv16 {n q : Nat} (h : q = (n + 15) / 16) : ((n : Int) + 15).tdiv 16 = (q : Int) := by
  rw [Int.tdiv_eq_ediv_of_nonneg (by omega)]; omega
theorem q_small {n q : Nat} (h : q = (n + 15) / 16) (hn : n ≤ 4096) : q ≤ 1000 := by omega
theorem last_at {n p : Nat} (h : p = n - 1) (hn : 1 ≤ n) : (n : Int) - 1 = (p : Int) ∧ p < n := by omega
/-- The lines in the first i bytes. -/
def cnt (d : ByteArray) (i : Nat) : Nat := (d.data.toList.take i).count 10
theorem cnt_step (d : ByteArray) (i : Nat) (h : i < d.size) : cnt d (i + 1) = cnt d i + if d[i] = 10 then 1 else 0 := by
  unfold cnt
  rw [List.take_add_one, s_at d i h, List.count_append]
  congr 1
  show ([d[i]] : List UInt8).count 10 = _
  by_cases e : d[i] = 10 <;> simp [e]
theorem cnt_le (d : ByteArray) (i : Nat) : cnt d i ≤ i := by
  unfold cnt
  exact Nat.le_trans List.count_le_length (by rw [List.length_take]; omega)

set_option maxRecDepth 100000 in
set_option maxHeartbeats 6400000 in
theorem hymnCounts_any {w : World} {a b c : Addr} {m : Int} (G : GH w a b c m) (x : PScr) (A A' : Option Addr) (k k' : Nat) (S : SA w x A k A' k') :
    Calls Tryd.prog 5 #[x.v A k A' k'] w (RetB true w) := by
  have B0 : Bk (w.alloc (.cells #[.int .i64 x.st, .int .i64 x.en, .int .i64 x.th, .int .i64 x.sl, .int .i64 x.no, .slice A x.ops.length k, .slice A' x.picks.length k'] 38)) w.heap.size 38 #[.int .i64 x.st, .int .i64 x.en, .int .i64 x.th, .int .i64 x.sl, .int .i64 x.no, .slice A x.ops.length k, .slice A' x.picks.length k'] := Bk.at_ rfl
  have hb0 : Below w.heap.size w (w.alloc (.cells #[.int .i64 x.st, .int .i64 x.en, .int .i64 x.th, .int .i64 x.sl, .int .i64 x.no, .slice A x.ops.length k, .slice A' x.picks.length k'] 38)) := (Below.refl _ _).alloc (Nat.le_refl _) _
  have G0 := G.more hb0
  simp only [PScr.v]
  go_enter Tryd.func5, Tryd.ntmps5
  go_wp2_with fail
  generalize (w.alloc (.cells #[.int .i64 x.st, .int .i64 x.en, .int .i64 x.th, .int .i64 x.sl, .int .i64 x.no, .slice A x.ops.length k, .slice A' x.picks.length k'] 38)) = w0 at *
  refine (awake_any G0).mono ?_
  rintro e w1 ⟨rfl, hb1⟩
  have B1 := B0.belowAll hb1
  have hB1 := hb0.trans (hb1.mono hb0.size)
  have G1 := G.more hB1
  have S1 := S.more hB1
  clear B0 hb0 G0 hb1
  have z0 := B1.cell 0; have z1 := B1.cell 1; have z2 := B1.cell 2; have z3 := B1.cell 3; have z4 := B1.cell 4; have z5 := B1.cell 5; have z6 := B1.cell 6; simp only [List.getElem?_toArray, List.getElem?_cons_zero, List.getElem?_cons_succ] at z0 z1 z2 z3 z4 z5 z6
  cases hg : goodB x
  · by_cases h1 : x.ops.length ≤ 100
    · have i1 : (x.ops.length : Int) ≤ 100 := by omega
      by_cases h2 : x.picks.length ≤ 4200
      · have i2 : (x.picks.length : Int) ≤ 4200 := by omega
        go_wp2_with fail
        refine (print_bad G1 x A A' k k' S1 hg).mono ?_
        rintro e w2 ⟨rfl, hb2⟩
        go_wp2_with fail
        go_ret
        exact ⟨rfl, hB1.trans (hb2.mono hB1.size)⟩
      · have i2 : (4200 : Int) < (x.picks.length : Int) := by omega
        go_wp2_with fail
        go_ret
        exact ⟨rfl, hB1⟩
    · have i1 : (100 : Int) < (x.ops.length : Int) := by omega
      go_wp2_with fail
      go_ret
      exact ⟨rfl, hB1⟩
  · have HG := Lib.hid hg
    have hl : x.ops.length ≤ 64 ∧ x.picks.length ≤ 4096 := by
      simp only [goodB, Bool.and_eq_true, decide_eq_true_eq] at hg
      exact ⟨hg.1.1.1.2, hg.1.1.2⟩
    obtain ⟨l1, l2⟩ := hl
    clear hg
    have i1 : (x.ops.length : Int) ≤ 100 := by omega
    have i2 : (x.picks.length : Int) ≤ 4200 := by omega
    go_wp2_with fail
    refine (print_good G1 x A A' k k' S1 HG.out).mono ?_
    rintro e w2 ⟨rfl, hb2⟩
    have B2 := B1.belowAll hb2
    have hB2 := hB1.trans (hb2.mono hB1.size)
    obtain ⟨t1, t2⟩ := text_len HG.out
    have HCN := Lib.hid (text_count (canon_of_good HG.out))
    obtain ⟨d, hd⟩ : ∃ d, bs (textL x) = d := ⟨_, rfl⟩
    have HD := Lib.hid hd
    have hz : d.size = (textL x).length := by rw [← hd, bs_size]
    have hz1 : 1 ≤ d.size := by omega
    have hz2 : d.size ≤ 60000 := by omega
    have HL := Lib.hid (text_last x d hd)
    rw [hd]
    clear B1 hB1 G1 S1 hb2 z0 z1 z2 z3 z4 z5 z6 hd t1 t2 hz
    have x5 := B2.cell 5; have x6 := B2.cell 6
    simp at x5 x6
    go_wp2_with fail
    go_loop [5, 6] (fun t5 t6 => ∃ i : Nat, t6 = .int .i64 i ∧ t5 = .int .i64 (cnt d i : Nat) ∧ i ≤ d.size) (fun _ t6 => d.size - (intOf t6).toNat)
    case atStart => exact ⟨0, rfl, rfl, Nat.zero_le _⟩
    case round =>
      obtain ⟨i, rfl, rfl, hi⟩ := hrel
      by_cases hlt : i < d.size
      · have HST := Lib.hid (cnt_step d i hlt)
        have hcl := cnt_le d i
        by_cases h10 : d[i] = 10
        · have q1 : ((d[i]).toNat : Int) = 10 := by rw [h10]; rfl
          go_wp2_with fail
          go_round
          case rel => exact ⟨i + 1, by go_num, by rw [HST.out, if_pos h10]; go_num, hlt⟩
          case measure => simp [intOf]; omega
        · have q1 : ¬ (((d[i]).toNat : Int) = 10) := fun e => h10 (UInt8.toNat_inj.1 (by have : (10 : UInt8).toNat = 10 := rfl; omega))
          go_wp2_with fail
          go_round
          case rel => exact ⟨i + 1, by go_num, by rw [HST.out, if_neg h10]; go_num, hlt⟩
          case measure => simp [intOf]; omega
      · obtain rfl : i = d.size := by omega
        have hn : cnt d d.size = 1 + x.ops.length + (x.picks.length + 15) / 16 := by
          unfold cnt
          rw [List.take_of_length_le (by rw [s_len]; omega), ← HCN.out, ← HD.out, bs_data]
        obtain ⟨q, hq⟩ : ∃ q, q = (x.picks.length + 15) / 16 := ⟨_, rfl⟩
        rw [← hq] at hn
        obtain ⟨p, hp⟩ : ∃ p, p = d.size - 1 := ⟨_, rfl⟩
        obtain ⟨p1, p3'⟩ := last_at hp hz1
        have p2 : (0 : Int) ≤ (p : Int) := Int.natCast_nonneg _
        have p3 : (p : Int) < (d.size : Int) := Int.ofNat_lt.2 p3'
        have p4 : ((d[p]).toNat : Int) = 10 := by
          subst hp
          rw [HL.out p3']; rfl
        have wp1 : IntKind.i64.wrap (p : Int) = (p : Int) := IntWalk.i64_in _ (by omega)
        have hq1 := q_small hq l2
        have g0 : wrap64 (q : Int) = (q : Int) := wrap_small (by omega) (by omega)
        have g1 := lines_eq hn
        have g2 := tdiv16 hq
        have HQ := Lib.hid hq
        clear hp hq hn
        go_wp2_with fail
        go_ret
        exact ⟨rfl, hB2⟩
end Go.Proofs.YtciioiklkaannaaDoor
