/- Plain laws of a word's text: its parts, and what they spell. -/
import Derived.Test.YtfkfleojdheffaaDoorText
import Derived.Lib.AtoiAll
import Derived.Lib.Split
namespace Go.Proofs.YtfkfleojdheffaaDoor
open Go Go.RowKit
set_option linter.unusedSimpArgs false
set_option linter.unusedVariables false
set_option linter.unusedSectionVars false

def isDig (c : UInt8) : Prop := 48 ≤ c.toNat ∧ c.toNat ≤ 57
theorem dig_of (k : Nat) (h : k < 10) : (UInt8.ofNat (48 + k)).toNat = 48 + k := by
  rw [UInt8.toNat_ofNat']; omega
theorem dec_dig (u : Nat) : ∀ c ∈ Lib.decDigits u, isDig c := by
  induction u using Nat.strongRecOn with
  | _ u ih =>
    intro c hc
    rw [Lib.decDigits] at hc
    split at hc
    · rename_i h
      simp only [List.mem_singleton] at hc
      subst hc
      unfold isDig
      rw [dig_of u h]; omega
    · rename_i h
      rcases List.mem_append.1 hc with hc | hc
      · exact ih (u / 10) (by omega) c hc
      · simp only [List.mem_singleton] at hc
        subst hc
        unfold isDig
        rw [dig_of (u % 10) (by omega)]; omega
theorem dec_ne (u : Nat) : Lib.decDigits u ≠ [] := by
  rw [Lib.decDigits]
  split <;> simp
theorem dec_parse (u : Nat) : ∃ p, ∀ acc r, acc * p + u < 18446744073709551616 → Lib.parseUint10 acc (Lib.decDigits u ++ r) = Lib.parseUint10 (acc * p + u) r := by
  induction u using Nat.strongRecOn with
  | _ u ih =>
    rw [Lib.decDigits]
    split
    · rename_i h
      refine ⟨10, fun acc r hb => ?_⟩
      have hd := dig_of u h
      simp only [List.singleton_append, Lib.parseUint10]
      rw [if_pos (by omega), if_neg (by omega), if_neg (by omega), hd, show 48 + u - 48 = u from by omega]
    · rename_i h
      obtain ⟨p, hp⟩ := ih (u / 10) (by omega)
      refine ⟨p * 10, fun acc r hb => ?_⟩
      have hd := dig_of (u % 10) (by omega)
      rw [← Nat.mul_assoc] at hb ⊢
      rw [List.append_assoc, hp acc _ (by omega)]
      simp only [List.singleton_append, Lib.parseUint10]
      generalize acc * p = q at *
      rw [if_pos (by omega), if_neg (by omega), if_neg (by omega), hd, show (q + u / 10) * 10 + (48 + u % 10 - 48) = q * 10 + u from by omega]
theorem mag_dec (u : Nat) (h : u < 18446744073709551616) : Lib.parseMag (Lib.decDigits u) = .ok u := by
  unfold Lib.parseMag
  rw [if_neg (dec_ne u)]
  obtain ⟨p, hp⟩ := dec_parse u
  have := hp 0 [] (by omega)
  rw [List.append_nil] at this
  rw [this]
  simp [Lib.parseUint10]
theorem atoi_itoa (n : Int) (h0 : -1099511627776 ≤ n) (h1 : n ≤ 1099511627776) : Lib.atoiAll (Lib.itoa n) = .ok n := by
  unfold Lib.itoa
  split
  · rename_i h
    unfold Lib.atoiAll
    simp only [show (45 : UInt8).toNat = 45 from rfl, or_true, if_true]
    rw [mag_dec _ (by omega)]
    simp only []
    rw [if_neg (by omega), if_neg (by omega)]
    simp; omega
  · rename_i h
    have hd := dec_dig n.toNat
    cases hl : Lib.decDigits n.toNat with
    | nil => exact absurd hl (dec_ne _)
    | cons c r =>
      have hc := hd c (by rw [hl]; simp)
      unfold isDig at hc
      unfold Lib.atoiAll
      simp only []
      rw [if_neg (by omega), ← hl, mag_dec _ (by omega)]
      simp only []
      rw [if_neg (by omega), if_neg (by omega), if_neg (by omega)]
      congr 1
      omega
theorem itoa_nodot (n : Int) : ∀ c ∈ Lib.itoa n, c ≠ 46 := by
  intro c hc
  unfold Lib.itoa at hc
  have key : ∀ u, ∀ c ∈ Lib.decDigits u, c ≠ 46 := fun u c hc h => by
    have := dec_dig u c hc
    unfold isDig at this
    rw [h] at this
    simp at this
  split at hc
  · rcases List.mem_cons.1 hc with rfl | hc
    · decide
    · exact key _ c hc
  · exact key _ c hc
theorem itoa_pos (n : Int) : 0 < (Lib.itoa n).length := by
  unfold Lib.itoa
  split
  · simp
  · exact List.length_pos_iff.2 (dec_ne _)

theorem index_hit : ∀ (a r : List UInt8), (∀ c ∈ a, c ≠ 46) → Lib.index (a ++ 46 :: r) [46] = a.length
  | [], r, _ => by simp [Lib.index, List.isPrefixOf]
  | c :: a, r, h => by
    have hc : c ≠ 46 := h c (by simp)
    have ih := index_hit a r (fun d hd => h d (by simp [hd]))
    simp only [List.cons_append, Lib.index]
    rw [if_neg (by simp [List.isPrefixOf]; exact fun e => hc e.symm), ih, if_neg (by simp)]
    simp
theorem index_miss : ∀ (a : List UInt8), (∀ c ∈ a, c ≠ 46) → Lib.index a [46] = -1
  | [], _ => by simp [Lib.index]
  | c :: a, h => by
    have hc : c ≠ 46 := h c (by simp)
    have ih := index_miss a (fun d hd => h d (by simp [hd]))
    simp only [Lib.index]
    rw [if_neg (by simp [List.isPrefixOf]; exact fun e => hc e.symm), ih]
    simp
theorem split_hit (k : Nat) (a r : List UInt8) (h : ∀ c ∈ a, c ≠ 46) : Lib.splitK [46] 0 (k + 1) (a ++ 46 :: r) = a :: Lib.splitK [46] 0 k r := by
  rw [Lib.splitK, index_hit a r h, if_neg (by simp)]
  simp
theorem split_miss (k : Nat) (a : List UInt8) (h : ∀ c ∈ a, c ≠ 46) : Lib.splitK [46] 0 k a = [a] := by
  cases k with
  | zero => rfl
  | succ k => rw [Lib.splitK, index_miss a h]; simp

theorem txt_eq (x : PW) : txt x = [letter x] ++ 46 :: (Lib.itoa x.slot ++ 46 :: (Lib.itoa x.gen ++ 46 :: (Lib.itoa x.tag ++ 46 :: Lib.itoa x.num))) := by
  simp [txt]
theorem letter_nodot (x : PW) : ∀ c ∈ [letter x], c ≠ 46 := by
  intro c hc
  simp only [List.mem_singleton] at hc
  subst hc
  unfold letter; split <;> decide
theorem split_txt (x : PW) : Lib.splitK [46] 0 5 (txt x) = [[letter x], Lib.itoa x.slot, Lib.itoa x.gen, Lib.itoa x.tag, Lib.itoa x.num] := by
  rw [txt_eq, split_hit 4 _ _ (letter_nodot x), split_hit 3 _ _ (itoa_nodot _), split_hit 2 _ _ (itoa_nodot _), split_hit 1 _ _ (itoa_nodot _), split_miss 1 _ (itoa_nodot _)]
theorem txt_len (x : PW) : 9 ≤ (txt x).length := by
  have h0 := itoa_pos x.slot; have h1 := itoa_pos x.gen; have h2 := itoa_pos x.tag; have h3 := itoa_pos x.num
  rw [txt_eq]; simp; omega
theorem bs_inj {l m : List UInt8} (h : bs l = bs m) : l = m := by
  have := congrArg (fun s : ByteArray => s.data.toList) h
  simpa [bs] using this
theorem map_bs {P : List ByteArray} {L : List (List UInt8)} (h : P.map (·.data.toList) = L) : P = L.map bs := by
  subst h
  rw [List.map_map]
  have : (bs ∘ fun s : ByteArray => s.data.toList) = id := by funext s; apply ByteArray.ext; simp [bs]
  rw [this, List.map_id]
/-- A word's text falls into its five parts. -/
theorem parts_txt (x : PW) {s : ByteArray} (h : bs (txt x) = s) : Lib.splitB ⟨#[46]⟩ 0 (min 6 (s.size + 1) - 1) s = [bs [letter x], bs (Lib.itoa x.slot), bs (Lib.itoa x.gen), bs (Lib.itoa x.tag), bs (Lib.itoa x.num)] := by
  subst h
  have hl := txt_len x
  have hz : (bs (txt x)).size = (txt x).length := by simp [bs, ByteArray.size]
  rw [hz, show min 6 ((txt x).length + 1) - 1 = 5 from by omega]
  have := Lib.splitB_data ⟨#[46]⟩ 0 5 (bs (txt x))
  rw [show (bs (txt x)).data.toList = txt x from by simp [bs], split_txt] at this
  exact map_bs this
theorem letter_m (x : PW) : (bs [letter x] == (⟨#[109]⟩ : ByteArray)) = x.mark := by
  unfold letter
  cases x.mark <;> rfl
/-- Unlike words have unlike texts. -/
theorem txt_inj {x y : PW} (hx : GoodP x) (hy : GoodP y) (h : txt x = txt y) : x = y := by
  have h1 := split_txt x
  rw [h, split_txt y] at h1
  simp only [List.cons.injEq, and_true] at h1
  obtain ⟨e0, e1, e2, e3, e4⟩ := h1
  obtain ⟨_, s0, s1, g0, g1, t0, t1, n0, n1⟩ := hx
  obtain ⟨_, s0', s1', g0', g1', t0', t1', n0', n1'⟩ := hy
  have key : ∀ m n : Int, -1099511627776 ≤ m → m ≤ 1099511627776 → -1099511627776 ≤ n → n ≤ 1099511627776 → Lib.itoa m = Lib.itoa n → m = n := fun m n a b c d e => by
    have h1 := atoi_itoa m a b
    rw [e, atoi_itoa n c d] at h1
    injection h1 with h1
    exact h1.symm
  obtain ⟨a, b, c, d, m⟩ := x
  obtain ⟨a', b', c', d', m'⟩ := y
  simp only at *
  have q1 := key a a' (by omega) (by omega) (by omega) (by omega) e1.symm
  have q2 := key b b' (by omega) (by omega) (by omega) (by omega) e2.symm
  have q3 := key c c' (by omega) (by omega) (by omega) (by omega) e3.symm
  have q4 := key d d' (by omega) (by omega) (by omega) (by omega) e4.symm
  subst q1 q2 q3 q4
  have q5 : m = m' := by
    unfold letter at e0
    cases m <;> cases m' <;> simp at e0 <;> rfl
  subst q5
  rfl
end Go.Proofs.YtfkfleojdheffaaDoor
