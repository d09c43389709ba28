/- hymn.parse, walked. -/
import Derived.Test.YtciioiklkaannaaGreatDoorParse
namespace Go.Proofs.YtciioiklkaannaaGreatDoor
open Go Go.RowKit
set_option linter.unusedSimpArgs false
set_option linter.unusedVariables false
set_option linter.unusedSectionVars false

theorem suffix_no {s : ByteArray} (h : Lib.hasSuffix s.data.toList [10] = false) : NoText s := fun y _ e => by
  rw [← e, bs_data] at h
  have : Lib.hasSuffix (textL y) [10] = true := by
    unfold Lib.hasSuffix
    rw [List.isSuffixOf_iff_suffix]
    exact ⟨_, rfl⟩
  rw [this] at h; cases h
theorem suffix_yes {s : ByteArray} (h : Lib.hasSuffix s.data.toList [10] = true) : s.data.toList = Lib.trimSuffix s.data.toList [10] ++ [10] := by
  unfold Lib.trimSuffix
  rw [if_pos h]
  unfold Lib.hasSuffix at h
  rw [List.isSuffixOf_iff_suffix] at h
  obtain ⟨t, ht⟩ := h
  rw [← ht]
  simp
theorem text_iff {s : ByteArray} {b : List UInt8} (hs : s.data.toList = b ++ [10]) {y : PScr} (hy : Canon y) : bs (textL y) = s ↔ linesOf y = sp 10 b := by
  constructor
  · intro e
    have h1 : textL y = b ++ [10] := by rw [← hs, ← e, bs_data]
    have h2 : jn 10 (linesOf y) = b := by
      have := congrArg List.dropLast h1
      simpa [textL] using this
    rw [← h2, text_lines hy]
  · intro e
    have h1 : textL y = b ++ [10] := by rw [textL, e, jn_sp]
    rw [h1, ← hs, s_bs]
theorem noText_of {s : ByteArray} {b l0 : List UInt8} {ls : List (List UInt8)} (hs : s.data.toList = b ++ [10]) (hL : sp 10 b = l0 :: ls) (h : ∀ x, Canon x → linesOf x ≠ l0 :: ls) : NoText s := fun y hy e => h y hy (by rw [← hL]; exact (text_iff hs hy).1 e)
theorem noCfg {l0 : List UInt8} {ls : List (List UInt8)} (h : ∀ st en th sl no, ¬ CfgIs (bs l0) st en th sl no) : ∀ x, Canon x → linesOf x ≠ l0 :: ls := fun x hx e => by
  have h1 := (List.cons.inj e).1
  refine h x.st x.en x.th.toNat x.sl.toNat x.no.toNat ⟨hx.st.1, hx.st.2, hx.en.1, hx.en.2, by have := hx.th; omega, by have := hx.sl; omega, by have := hx.no; omega, ?_⟩
  rw [bs_data, ← h1, headL]
  refine sp_jn 32 _ (by simp [headW]) (fun z hz => ?_)
  simp only [headW, List.mem_cons, List.mem_nil_iff, or_false] at hz
  have hs : ∀ b ∈ stWord x.st, b ≠ 32 := by
    have := hx.st
    have : x.st = 1 ∨ x.st = 2 ∨ x.st = 3 ∨ x.st = 4 ∨ x.st = 5 := by omega
    rcases this with h | h | h | h | h <;> rw [h] <;> decide
  have he : ∀ b ∈ enWord x.en, b ≠ 32 := by
    have := hx.en
    have : x.en = 1 ∨ x.en = 2 ∨ x.en = 3 ∨ x.en = 4 ∨ x.en = 5 := by omega
    rcases this with h | h | h | h | h <;> rw [h] <;> decide
  rcases hz with rfl | rfl | rfl | rfl | rfl | rfl
  · decide
  · exact hs
  · exact he
  · exact dec_no 32 (by decide) _
  · exact dec_no 32 (by decide) _
  · exact dec_no 32 (by decide) _
theorem pinv_start {l0 : List UInt8} {ls : List (List UInt8)} {st en : Int} {th sl no : Nat} (hc : CfgIs (bs l0) st en th sl no) : PInv l0 ls st en th sl no 0 [] [] := by
  refine ⟨Nat.zero_le _, by simp, by simp, by simp [chunks_nil], fun x hx hl => ⟨?_, by simp, by simp⟩⟩
  have h1 := (List.cons.inj hl).1
  obtain ⟨c1, c2, c3, c4, c5, c6, c7, c8⟩ := hc
  have h2 : sp 32 (headL x) = headW x.st x.en x.th.toNat x.sl.toNat x.no.toNat := by
    refine sp_jn 32 _ (by simp [headW]) (fun z hz => ?_)
    simp only [headW, List.mem_cons, List.mem_nil_iff, or_false] at hz
    have hs : ∀ b ∈ stWord x.st, b ≠ 32 := by
      have := hx.st
      have : x.st = 1 ∨ x.st = 2 ∨ x.st = 3 ∨ x.st = 4 ∨ x.st = 5 := by omega
      rcases this with h | h | h | h | h <;> rw [h] <;> decide
    have he : ∀ b ∈ enWord x.en, b ≠ 32 := by
      have := hx.en
      have : x.en = 1 ∨ x.en = 2 ∨ x.en = 3 ∨ x.en = 4 ∨ x.en = 5 := by omega
      rcases this with h | h | h | h | h <;> rw [h] <;> decide
    rcases hz with rfl | rfl | rfl | rfl | rfl | rfl
    · decide
    · exact hs
    · exact he
    · exact dec_no 32 (by decide) _
    · exact dec_no 32 (by decide) _
    · exact dec_no 32 (by decide) _
  rw [bs_data, ← h1, h2] at c8
  simp only [headW, List.cons.injEq, and_true, true_and] at c8
  obtain ⟨d1, d2, d3, d4, d5⟩ := c8
  have e1 := congrArg (fun l => stOf (bs l)) d1
  have e2 := congrArg (fun l => enOf (bs l)) d2
  rw [stOf_hit hx.st.1 hx.st.2, stOf_hit c1 c2] at e1
  rw [enOf_hit hx.en.1 hx.en.2, enOf_hit c3 c4] at e2
  have e3 := dec_inj d3; have e4 := dec_inj d4; have e5 := dec_inj d5
  have := hx.th; have := hx.sl; have := hx.no
  exact ⟨e1, e2, by omega, by omega, by omega⟩

set_option maxRecDepth 100000 in
set_option maxHeartbeats 12800000 in
theorem parse_any {w : World} {a b c : Addr} {m : Int} (G : GH w a b c m) (s : ByteArray) (hs : s.size ≤ 32768) :
    Calls Tryz.prog 37 #[.string s] w (RetParse0 s w) := by
  have B0 : Bk ((w.alloc (.cells #[.int .i64 0, .int .i64 0, .int .i64 0, .int .i64 0, .int .i64 0, .slice none 0 0, .slice none 0 0] 27)).alloc (.cells #[.int .i64 0, .int .i64 0, .int .i64 0, .int .i64 0, .int .i64 0, .slice none 0 0, .slice none 0 0] 27)) w.heap.size 27 #[.int .i64 0, .int .i64 0, .int .i64 0, .int .i64 0, .int .i64 0, .slice none 0 0, .slice none 0 0] := (Bk.at_ rfl).alloc _
  have X0 : Bk ((w.alloc (.cells #[.int .i64 0, .int .i64 0, .int .i64 0, .int .i64 0, .int .i64 0, .slice none 0 0, .slice none 0 0] 27)).alloc (.cells #[.int .i64 0, .int .i64 0, .int .i64 0, .int .i64 0, .int .i64 0, .slice none 0 0, .slice none 0 0] 27)) (w.heap.size + 1) 27 #[.int .i64 0, .int .i64 0, .int .i64 0, .int .i64 0, .int .i64 0, .slice none 0 0, .slice none 0 0] := Bk.at_ (by simp)
  have hb0 : Below w.heap.size w ((w.alloc (.cells #[.int .i64 0, .int .i64 0, .int .i64 0, .int .i64 0, .int .i64 0, .slice none 0 0, .slice none 0 0] 27)).alloc (.cells #[.int .i64 0, .int .i64 0, .int .i64 0, .int .i64 0, .int .i64 0, .slice none 0 0, .slice none 0 0] 27)) := by (repeat' (first | (with_reducible exact Below.refl _ _) | (with_reducible assumption) | (with_reducible refine Below.alloc ?_ ?_ _) | (with_reducible refine Below.drew ?_) | (with_reducible refine below_drewN ?_ _) | (with_reducible refine Below.setCell ?_ ?_ _) | go_size))
  have hz0 : ((w.alloc (.cells #[.int .i64 0, .int .i64 0, .int .i64 0, .int .i64 0, .int .i64 0, .slice none 0 0, .slice none 0 0] 27)).alloc (.cells #[.int .i64 0, .int .i64 0, .int .i64 0, .int .i64 0, .int .i64 0, .slice none 0 0, .slice none 0 0] 27)).heap.size = w.heap.size + 1 + 1 := by simp
  go_enter Tryz.func37, Tryz.ntmps37
  go_wp2_with fail
  generalize ((w.alloc (.cells #[.int .i64 0, .int .i64 0, .int .i64 0, .int .i64 0, .int .i64 0, .slice none 0 0, .slice none 0 0] 27)).alloc (.cells #[.int .i64 0, .int .i64 0, .int .i64 0, .int .i64 0, .int .i64 0, .slice none 0 0, .slice none 0 0] 27)) = w0 at *
  refine (Tryz.strings_CutSuffix s ⟨#[10]⟩ _ (by omega)).mono ?_
  rintro e w9 ⟨rfl, rfl⟩
  cases hsf : Lib.hasSuffix s.data.toList [10]
  · have HN := Lib.hid (suffix_no hsf)
    clear hsf
    generalize Lib.trimSuffix s.data.toList [10] = body at *
    (have y0 := X0.cell 0; have y1 := X0.cell 1; have y2 := X0.cell 2; have y3 := X0.cell 3; have y4 := X0.cell 4; have y5 := X0.cell 5; have y6 := X0.cell 6; simp at y0 y1 y2 y3 y4 y5 y6; go_wp2_with (refine wpList_store_bk (by rfl) _ _ _ (by rfl) w.heap.size _ (by rfl) (by rfl) _ _ B0 (by rfl) (by kernel_rfl) (by rfl) ?_; intro wy hst); have r0 := hst.bk.cell 0; have r1 := hst.bk.cell 1; have r2 := hst.bk.cell 2; have r3 := hst.bk.cell 3; have r4 := hst.bk.cell 4; have r5 := hst.bk.cell 5; have r6 := hst.bk.cell 6; simp at r0 r1 r2 r3 r4 r5 r6; refine bodyPost_ret (v := .tuple #[.agg #[.int .i64 (0), .int .i64 (0), .int .i64 (0), .int .i64 (0), .int .i64 (0), .slice none 0 0, .slice none 0 0], .bool false]) (by simp [results, Tryz.results37, go_sem, r0, r1, r2, r3, r4, r5, r6]) rfl ?_)
    exact ⟨⟨0, 0, 0, 0, 0, [], []⟩, none, 0, none, 0, Sl.none_, Sl.none_, by simp, by simp, by simp, by simp, by simp, by simp, hst.below hb0 (Nat.le_refl _), Or.inr ⟨rfl, HN.out⟩⟩
  · have hsb := suffix_yes hsf
    generalize Lib.trimSuffix s.data.toList [10] = body at *
    have HSB := Lib.hid hsb
    have hbl : body.length ≤ 32768 := by have := s_len s; rw [hsb] at this; simp at this; omega
    clear hsb hsf
    have G0 := G.more hb0
    obtain ⟨l0, ls, hL⟩ : ∃ l0 ls, sp 10 body = l0 :: ls := by
      cases h : sp 10 body with
      | nil => exact absurd h (sp_ne _ _)
      | cons x xs => exact ⟨x, xs, rfl⟩
    have HL := Lib.hid hL
    obtain ⟨hsp, hcnt⟩ := split_is 10 (bs body)
    rw [bs_data, hL] at hsp hcnt
    have HC := Lib.hid hcnt; have HP := Lib.hid hsp
    clear hcnt hsp hL
    rw [show (⟨body.toArray⟩ : ByteArray) = bs body from rfl]
    go_wp2_with fail
    refine (Tryz.strings_Split (bs body) ⟨#[10]⟩ m _ (by rw [bs_size]; omega) G0.mx (by decide)).mono ?_
    rintro e w1 ⟨rfl, rfl⟩
    rw [HP.out, HC.out]
    have B1 := B0.alloc (.cells (((l0 :: ls).map bs).map Value.string).toArray 9)
    have X1 := X0.alloc (.cells (((l0 :: ls).map bs).map Value.string).toArray 9)
    have L1 : Bk (w9.alloc (.cells (((l0 :: ls).map bs).map Value.string).toArray 9)) (w.heap.size + 1 + 1) 9 (strs ((l0 :: ls).map bs)).toArray := Bk.at_ hz0.symm
    have hb1 := hb0.alloc hb0.size (.cells (((l0 :: ls).map bs).map Value.string).toArray 9)
    rw [hz0]
    generalize (w9.alloc (.cells (((l0 :: ls).map bs).map Value.string).toArray 9)) = w1 at *
    have G1 := G.more hb1
    have hll : ls.length ≤ 32768 ∧ l0.length ≤ 32768 ∧ ∀ l ∈ ls, l.length ≤ 32768 := by
      have h1 := sp_len 10 body
      have h2 := sp_elt 10 body
      rw [HL.out] at h1 h2
      exact ⟨by simp at h1; omega, Nat.le_trans (h2 l0 (by simp)) hbl, fun l hl => Nat.le_trans (h2 l (by simp [hl])) hbl⟩
    obtain ⟨hl1, hl2, hl3⟩ := hll
    have HE := Lib.hid hl3
    clear B0 X0 hb0 hz0 G0 hl3 HP HC
    have q0 := L1.cell 0
    simp [strs] at q0
    go_wp2_with fail
    refine (cfg_any G1 (bs l0) (by rw [bs_size]; omega) (w.heap.size + 1) 0 0 0 0 0 _ _ X1).mono ?_
    rintro e w2 ⟨st, en, th, sl, no, X2, hg2, hres⟩
    have B2 := B1.grown hg2 (by simp)
    have L2 := L1.grown hg2 (by simp)
    have hb2 := hb1.grown hg2 hb1.size (fun b e => by cases e; omega)
    clear B1 X1 L1 hb1 hg2 G1 q0
    rcases hres with ⟨rfl, ta, tb, tc, rfl, rfl, rfl, hcfg⟩ | ⟨rfl, hno⟩
    · have M : PM w (l0 :: ls) st en ta tb tc [] [] (.slice none 0 0) (.slice none 0 0) w2 := ⟨B2, X2, L2, Own.nil, Own.nil, fun b e => (by cases e), fun b e => (by cases e), fun b e => (by cases e), hb2⟩
      have HM := Lib.hid M
      have HCF := Lib.hid hcfg
      have HPI := Lib.hid (pinv_start (ls := ls) hcfg)
      clear M B2 L2 X2 hb2 hcfg
      have hnn : (1 : Int) ≤ ((ls.length : Int) + 1) := by omega
      by_cases hx0 : ls = []
      · subst hx0
        go_wp2_with fail
        refine wp_loop_rounds 1 ?_
        rw [rounds_succ]
        have BR := HM.out.br
        have BX := HM.out.bx
        have F := Lib.hid (HPI.out.fin HCF.out)
        (have y0 := BX.cell 0; have y1 := BX.cell 1; have y2 := BX.cell 2; have y3 := BX.cell 3; have y4 := BX.cell 4; have y5 := BX.cell 5; have y6 := BX.cell 6; simp at y0 y1 y2 y3 y4 y5 y6; go_wp2_with (refine wpList_store_bk (by rfl) _ _ _ (by rfl) w.heap.size _ (by rfl) (by rfl) _ _ BR (by rfl) (by kernel_rfl) (by rfl) ?_; intro wy hst); have r0 := hst.bk.cell 0; have r1 := hst.bk.cell 1; have r2 := hst.bk.cell 2; have r3 := hst.bk.cell 3; have r4 := hst.bk.cell 4; have r5 := hst.bk.cell 5; have r6 := hst.bk.cell 6; simp at r0 r1 r2 r3 r4 r5 r6; refine bodyPost_ret (v := .tuple #[.agg #[.int .i64 (st), .int .i64 (en), .int .i64 ((ta : Int)), .int .i64 ((tb : Int)), .int .i64 ((tc : Int)), .slice none 0 0, .slice none 0 0], .bool true]) (by simp [results, Tryz.results37, go_sem, r0, r1, r2, r3, r4, r5, r6]) rfl ?_)
        exact ⟨⟨st, en, ta, tb, tc, [], []⟩, none, 0, none, 0, Sl.none_, Sl.none_, by simp, by simp, by simp, by simp, by simp, by simp, hst.below HM.out.below (Nat.le_refl _), Or.inl ⟨rfl, F.out.1, (text_iff HSB.out F.out.1).2 (F.out.2.1.trans HL.out.symm), fun y hy e => F.out.2.2 y hy (((text_iff HSB.out hy).1 e).trans HL.out)⟩⟩
      · have hx1 : 1 ≤ ls.length := List.length_pos_iff.2 hx0
        clear hx0
        go_wp2_with fail
        go_loopw [35] (fun t35 wr => ∃ (k : Nat) (ops : List PTask) (picks : List Int) (vo vp : Value), t35 = .int .i64 k ∧ PInv l0 ls st en ta tb tc k ops picks ∧ PM w (l0 :: ls) st en ta tb tc ops picks vo vp wr) (fun t35 _ => ls.length - (intOf t35).toNat)
        case atStart => exact ⟨0, [], [], _, _, rfl, HPI.out, HM.out⟩
        case round =>
          obtain ⟨k, ops, picks, vo, vp, rfl, P', M'⟩ := hrel
          have P := Lib.hid P'; have M := Lib.hid M'; clear P' M' HPI HM
          have hk := P.out.hk
          obtain ⟨so, sp'⟩ := P.out.sizes
          obtain ⟨oA, oc, rfl, _⟩ := own_sl M.out.oo
          obtain ⟨pA, pc, rfl, _⟩ := own_sl M.out.op
          by_cases hlt : k < ls.length
          · (have q1 := M.out.bl.cell (1 + k); rw [List.getElem?_toArray, show (strs (List.map bs (l0 :: ls)))[1 + k]? = some (.string (bs ls[k])) from by rw [Nat.add_comm]; simp [strs, hlt]] at q1; have hlk := HE.out ls[k] (List.getElem_mem hlt); have Gr := G.more M.out.below; obtain ⟨y, xs, hY⟩ : ∃ y xs, sp 32 ls[k] = y :: xs := (by cases h : sp 32 ls[k] with | nil => exact absurd h (sp_ne _ _) | cons y xs => exact ⟨y, xs, rfl⟩); obtain ⟨hsp, hcnt⟩ := split_is 32 (bs ls[k]); rw [bs_data, hY] at hsp hcnt; have HY := Lib.hid hY; have HC := Lib.hid hcnt; have HP := Lib.hid hsp; have hxs : xs.length ≤ 32768 := (by have h1 := sp_len 32 ls[k]; rw [hY] at h1; simp at h1; omega); have HXE : Hid (∀ t ∈ xs.map bs, t.size ≤ 9223372036854775807) := (fun t ht => by obtain ⟨l, hl, rfl⟩ := List.mem_map.1 ht; rw [bs_size]; have h1 := sp_elt 32 ls[k] l (by rw [HY.out]; simp [hl]); omega); clear hsp hcnt hY; go_wp2_with fail; refine (Tryz.strings_Split (bs ls[k]) ⟨#[32]⟩ m _ (by rw [bs_size]; omega) Gr.mx (by decide)).mono ?_; rintro e w1 ⟨rfl, rfl⟩; rw [HP.out, HC.out]; have M1 := Lib.hid (M.out.alloc (.cells (((y :: xs).map bs).map Value.string).toArray 9)); have W1 : Bk (wr.alloc (.cells (((y :: xs).map bs).map Value.string).toArray 9)) wr.heap.size 9 (strs ((y :: xs).map bs)).toArray := Bk.at_ rfl; generalize wr.heap.size = WB at *; generalize (wr.alloc (.cells (((y :: xs).map bs).map Value.string).toArray 9)) = w1 at *; clear M q1 HC HP Gr; have q0 := W1.cell 0; simp [strs] at q0; have y0 := M1.out.bx.cell 0; have y5 := M1.out.bx.cell 5; have y6 := M1.out.bx.cell 6; simp at y0 y5 y6; by_cases hdo : y = wDo; (· subst hdo; have t1 : (bs wDo).toList = [100, 111] := (by rw [Go.ByteArray.toList_eq]; rfl); by_cases hp0 : picks = []; (· subst hp0; (go_wp2_with fail; refine (task_any (G.more M1.out.below) st (bs ls[k]) (by rw [bs_size]; omega)).mono ?_; rintro e w2 (⟨n, op, hti, rfl, hb⟩ | ⟨hno, n, op, rfl, hb⟩); (· have HTI := Lib.hid hti; clear hti; obtain ⟨tk, te, tv, tt⟩ := op; simp only [taskV]; (have M2 := Lib.hid ((M1.out.more hb).alloc (.cells #[.int .i64 n, .int .i64 tk, .int .i64 te, .int .i64 tv, .int .i64 tt] 53)); have TB2 : Bk (w2.alloc (.cells #[.int .i64 n, .int .i64 tk, .int .i64 te, .int .i64 tv, .int .i64 tt] 53)) w2.heap.size 53 #[.int .i64 n, .int .i64 tk, .int .i64 te, .int .i64 tv, .int .i64 tt] := Bk.at_ rfl; clear M1 hb W1 q0 y0 y5 y6); go_upto_region 17 with (fail); (generalize w2.heap.size = TB at *; generalize (w2.alloc (.cells #[.int .i64 n, .int .i64 tk, .int .i64 te, .int .i64 tv, .int .i64 tt] 53)) = w3 at *; have M4 := M2.out.alloc (.cells #[.int .i64 n, .int .i64 tk, .int .i64 te, .int .i64 tv, .int .i64 tt] 53); obtain ⟨v', w7, hrun, O7, hg7, hf7⟩ := own_task_append _ _ ops M4.oo (by omega) ⟨n, ⟨tk, te, tv, tt⟩⟩ _ (Bk.at_ rfl) 24; have O7' : Own w7 53 5 v' (ops.length + 1) (tcells (ops ++ [⟨n, ⟨tk, te, tv, tt⟩⟩])) := (by have h1 := O7; rw [List.length_append] at h1; exact h1); obtain ⟨nA, nc, rfl, _⟩ := own_sl O7'; clear O7'; have HR := Lib.hid hrun; have M7 := Lib.hid (M4.pushO O7 hg7 hf7); have X7 := M4.bx.grown hg7 (fun e => by have h1 := M4.fo _ e.symm; omega); have c5 := X7.cell 5; have f5 := X7.free 5; have t0 := TB2.cell 0; have t1 := TB2.cell 1; have t2 := TB2.cell 2; have t3 := TB2.cell 3; have t4 := TB2.cell 4; have y5 := M2.out.bx.cell 5; simp at c5 t0 t1 t2 t3 t4 y5; clear hrun O7 hg7 hf7 M4 X7 TB2; go_wp2_with (at_builtin; refine wpList_append_run (by rfl) _ _ _ _ _ _ _ (by rfl) (by rfl) (by rfl) HR.out ?_); go_roundw; (case rel => exact ⟨k + 1, _, [], _, _, (by go_num), P.out.task hlt ⟨xs, HY.out⟩ rfl HTI.out, M7.out⟩); (case measure => simp [intOf]; omega))); (· have HN := Lib.hid (noText_of HSB.out HL.out (P.out.noTask hlt ⟨xs, HY.out⟩ hno)); clear hno; obtain ⟨tk, te, tv, tt⟩ := op; simp only [taskV]; (have M2 := Lib.hid ((M1.out.more hb).alloc (.cells #[.int .i64 n, .int .i64 tk, .int .i64 te, .int .i64 tv, .int .i64 tt] 53)); have TB2 : Bk (w2.alloc (.cells #[.int .i64 n, .int .i64 tk, .int .i64 te, .int .i64 tv, .int .i64 tt] 53)) w2.heap.size 53 #[.int .i64 n, .int .i64 tk, .int .i64 te, .int .i64 tv, .int .i64 tt] := Bk.at_ rfl; clear M1 hb W1 q0 y0 y5 y6); clear TB2; go_upto_region 16 with (fail); generalize (w2.alloc (.cells #[.int .i64 n, .int .i64 tk, .int .i64 te, .int .i64 tv, .int .i64 tt] 53)) = w3 at *; (have BR := M2.out.br; have BX := M2.out.bx; (have y0 := BX.cell 0; have y1 := BX.cell 1; have y2 := BX.cell 2; have y3 := BX.cell 3; have y4 := BX.cell 4; have y5 := BX.cell 5; have y6 := BX.cell 6; simp at y0 y1 y2 y3 y4 y5 y6; go_wp2_with (refine wpList_store_bk (by rfl) _ _ _ (by rfl) w.heap.size _ (by rfl) (by rfl) _ _ BR (by rfl) (by kernel_rfl) (by rfl) ?_; intro wy hst); have r0 := hst.bk.cell 0; have r1 := hst.bk.cell 1; have r2 := hst.bk.cell 2; have r3 := hst.bk.cell 3; have r4 := hst.bk.cell 4; have r5 := hst.bk.cell 5; have r6 := hst.bk.cell 6; simp at r0 r1 r2 r3 r4 r5 r6; refine bodyPost_ret (v := .tuple #[.agg #[.int .i64 (st), .int .i64 (en), .int .i64 ((ta : Int)), .int .i64 ((tb : Int)), .int .i64 ((tc : Int)), .slice oA ops.length oc, .slice pA 0 pc], .bool false]) (by simp [results, Tryz.results37, go_sem, r0, r1, r2, r3, r4, r5, r6]) rfl ?_); have O1 := M2.out.oo.kept (fun g hg => hst.grown.block g (M2.out.oo.lt hg) (fun e => by have h1 := M2.out.fo g hg; cases e; omega)); have O2 := M2.out.op.kept (fun g hg => hst.grown.block g (M2.out.op.lt hg) (fun e => by have h1 := M2.out.fp g hg; cases e; omega)); have F1 : ∀ b o, oA = some ⟨b, o, none⟩ → w.heap.size ≤ b := (fun b o e => by have h1 := M2.out.fo b (by rw [e]; rfl); omega); have F2 : ∀ b o, pA = some ⟨b, o, none⟩ → w.heap.size ≤ b := (fun b o e => by have h1 := M2.out.fp b (by rw [e]; rfl); omega); exact ⟨⟨st, en, ta, tb, tc, ops, []⟩, oA, oc, pA, pc, own_sl' O1, own_sl' O2, by simp; omega, by simp, (own_cap O2).1, (own_cap O2).2, F1, F2, hst.below M2.out.below (Nat.le_refl _), Or.inr ⟨rfl, HN.out⟩⟩)))); (· have hp1 : ((picks.length : Int) == 0) = false := (by have := List.length_pos_iff.2 hp0; simp; omega); have HN := Lib.hid (noText_of HSB.out HL.out (P.out.noLine hlt HY.out (fun h => hp0 (List.eq_nil_of_length_eq_zero h.2)) (fun h => wDo_ne h.1))); clear hp0; have M2 := M1; ((have BR := M2.out.br; have BX := M2.out.bx; (have y0 := BX.cell 0; have y1 := BX.cell 1; have y2 := BX.cell 2; have y3 := BX.cell 3; have y4 := BX.cell 4; have y5 := BX.cell 5; have y6 := BX.cell 6; simp at y0 y1 y2 y3 y4 y5 y6; go_wp2_with (refine wpList_store_bk (by rfl) _ _ _ (by rfl) w.heap.size _ (by rfl) (by rfl) _ _ BR (by rfl) (by kernel_rfl) (by rfl) ?_; intro wy hst); have r0 := hst.bk.cell 0; have r1 := hst.bk.cell 1; have r2 := hst.bk.cell 2; have r3 := hst.bk.cell 3; have r4 := hst.bk.cell 4; have r5 := hst.bk.cell 5; have r6 := hst.bk.cell 6; simp at r0 r1 r2 r3 r4 r5 r6; refine bodyPost_ret (v := .tuple #[.agg #[.int .i64 (st), .int .i64 (en), .int .i64 ((ta : Int)), .int .i64 ((tb : Int)), .int .i64 ((tc : Int)), .slice oA ops.length oc, .slice pA picks.length pc], .bool false]) (by simp [results, Tryz.results37, go_sem, r0, r1, r2, r3, r4, r5, r6]) rfl ?_); have O1 := M2.out.oo.kept (fun g hg => hst.grown.block g (M2.out.oo.lt hg) (fun e => by have h1 := M2.out.fo g hg; cases e; omega)); have O2 := M2.out.op.kept (fun g hg => hst.grown.block g (M2.out.op.lt hg) (fun e => by have h1 := M2.out.fp g hg; cases e; omega)); have F1 : ∀ b o, oA = some ⟨b, o, none⟩ → w.heap.size ≤ b := (fun b o e => by have h1 := M2.out.fo b (by rw [e]; rfl); omega); have F2 : ∀ b o, pA = some ⟨b, o, none⟩ → w.heap.size ≤ b := (fun b o e => by have h1 := M2.out.fp b (by rw [e]; rfl); omega)); exact ⟨⟨st, en, ta, tb, tc, ops, picks⟩, oA, oc, pA, pc, own_sl' O1, own_sl' O2, by simp; omega, by simp; omega, (own_cap O2).1, (own_cap O2).2, F1, F2, hst.below M2.out.below (Nat.le_refl _), Or.inr ⟨rfl, HN.out⟩⟩))); (· have t1 : ((bs y).toList == [100, 111]) = false := (by have := ba_ne (a := bs y) (b := bs wDo) (fun e => hdo (bs_inj e)); rwa [show (bs wDo).toList = [100, 111] from by rw [Go.ByteArray.toList_eq]; rfl] at this); by_cases hpk : y = wPick; (· subst hpk; have t2 : (bs wPick).toList = [112, 105, 99, 107] := (by rw [Go.ByteArray.toList_eq]; rfl); by_cases h16 : picks.length % 16 = 0; (· (have t3 : ((picks.length : Int) % 16 == 0) = true := (by simp; omega); have H16 := Lib.hid h16; clear h16; by_cases hx0 : xs = []; (· subst hx0; go_wp2_with fail; refine (picks_any [] (some ⟨WB, 0, none⟩) 0 w1 ⟨rfl, fun h => absurd h (by simp)⟩ (by simp) (by simp)).mono ?_; rintro e w2 (⟨ns, N, hpi, _⟩ | ⟨hno, rfl, hb⟩); (· exact absurd hpi.1 (by simp)); (have HN := Lib.hid (noText_of HSB.out HL.out (P.out.noPick hlt HY.out hno))); have M2 := Lib.hid (M1.out.more hb); clear M1 hb W1 q0 y0 y5 y6 hno; ((have BR := M2.out.br; have BX := M2.out.bx; (have y0 := BX.cell 0; have y1 := BX.cell 1; have y2 := BX.cell 2; have y3 := BX.cell 3; have y4 := BX.cell 4; have y5 := BX.cell 5; have y6 := BX.cell 6; simp at y0 y1 y2 y3 y4 y5 y6; go_wp2_with (refine wpList_store_bk (by rfl) _ _ _ (by rfl) w.heap.size _ (by rfl) (by rfl) _ _ BR (by rfl) (by kernel_rfl) (by rfl) ?_; intro wy hst); have r0 := hst.bk.cell 0; have r1 := hst.bk.cell 1; have r2 := hst.bk.cell 2; have r3 := hst.bk.cell 3; have r4 := hst.bk.cell 4; have r5 := hst.bk.cell 5; have r6 := hst.bk.cell 6; simp at r0 r1 r2 r3 r4 r5 r6; refine bodyPost_ret (v := .tuple #[.agg #[.int .i64 (st), .int .i64 (en), .int .i64 ((ta : Int)), .int .i64 ((tb : Int)), .int .i64 ((tc : Int)), .slice oA ops.length oc, .slice pA picks.length pc], .bool false]) (by simp [results, Tryz.results37, go_sem, r0, r1, r2, r3, r4, r5, r6]) rfl ?_); have O1 := M2.out.oo.kept (fun g hg => hst.grown.block g (M2.out.oo.lt hg) (fun e => by have h1 := M2.out.fo g hg; cases e; omega)); have O2 := M2.out.op.kept (fun g hg => hst.grown.block g (M2.out.op.lt hg) (fun e => by have h1 := M2.out.fp g hg; cases e; omega)); have F1 : ∀ b o, oA = some ⟨b, o, none⟩ → w.heap.size ≤ b := (fun b o e => by have h1 := M2.out.fo b (by rw [e]; rfl); omega); have F2 : ∀ b o, pA = some ⟨b, o, none⟩ → w.heap.size ≤ b := (fun b o e => by have h1 := M2.out.fp b (by rw [e]; rfl); omega)); exact ⟨⟨st, en, ta, tb, tc, ops, picks⟩, oA, oc, pA, pc, own_sl' O1, own_sl' O2, by simp; omega, by simp; omega, (own_cap O2).1, (own_cap O2).2, F1, F2, hst.below M2.out.below (Nat.le_refl _), Or.inr ⟨rfl, HN.out⟩⟩)); (· have hx1 : 1 ≤ xs.length := List.length_pos_iff.2 hx0; have S1 : Sl w1 w1.heap.size 1 (some ⟨WB, 1, none⟩) (xs.map bs).length (strs (xs.map bs)) := ⟨(by simp [strs]), fun _ => ⟨_, 1, rfl, W1.lt, fun j u hu => by rw [W1.cell, Nat.add_comm 1 j]; simpa [strs] using hu⟩⟩; have HPK := Lib.hid (picks_any (xs.map bs) (some ⟨WB, 1, none⟩) xs.length w1 S1 (by simp; omega) HXE.out); simp only [List.length_map] at HPK; clear hx0 S1; have hx2 : ¬ (xs.length = 0) := (by omega); go_wp2_with fail; refine HPK.out.mono ?_; rintro e w2 (⟨ns, N, hpi, rfl, hO, hN, hb⟩ | ⟨hno, rfl, hb⟩); (· (have M2 := Lib.hid (M1.out.more hb); have HPI2 := Lib.hid hpi; have hnl : (nats ns).length = ns.length := (by simp [nats]); have hns : 1 ≤ ns.length ∧ ns.length ≤ 16 := (by have h1 := hpi.1; have h2 := hpi.2.1; have h3 := hpi.2.2.1; omega); obtain ⟨v', w7, hrun, O7, hg7, hf7⟩ := own_ints_append _ _ picks M2.out.op (by omega) (nats ns) ns.length hnl hns.1 hns.2 N ns.length hO 25; have O7' : Own w7 3 1 v' (picks.length + ns.length) (icells (picks ++ nats ns)) := (by have h1 := O7; rw [List.length_append, hnl] at h1; exact h1); obtain ⟨nA, nc, rfl, _⟩ := own_sl O7'; clear O7'; clear hnl; have HR := Lib.hid hrun; have M7 := Lib.hid (M2.out.pushP O7 hg7 hf7); have X7 := M2.out.bx.grown hg7 (fun e => by have h1 := M2.out.fp _ e.symm; omega); have c6 := X7.cell 6; have f6 := X7.free 6; have z6 := M2.out.bx.cell 6; simp at c6 z6; clear hrun O7 hg7 hf7 X7 M1 hb W1 q0 y0 y5 y6 hpi hO HPK; go_wp2_with (at_builtin; refine wpList_append_run (by rfl) _ _ _ _ _ _ _ (by rfl) (by rfl) (by rfl) HR.out ?_); go_roundw; (case rel => exact ⟨k + 1, ops, _, _, _, (by go_num), P.out.pick hlt HY.out H16.out HPI2.out, M7.out⟩); (case measure => simp [intOf]; omega))); (· have HN := Lib.hid (noText_of HSB.out HL.out (P.out.noPick hlt HY.out hno)); have M2 := Lib.hid (M1.out.more hb); clear M1 hb W1 q0 y0 y5 y6 hno HPK; ((have BR := M2.out.br; have BX := M2.out.bx; (have y0 := BX.cell 0; have y1 := BX.cell 1; have y2 := BX.cell 2; have y3 := BX.cell 3; have y4 := BX.cell 4; have y5 := BX.cell 5; have y6 := BX.cell 6; simp at y0 y1 y2 y3 y4 y5 y6; go_wp2_with (refine wpList_store_bk (by rfl) _ _ _ (by rfl) w.heap.size _ (by rfl) (by rfl) _ _ BR (by rfl) (by kernel_rfl) (by rfl) ?_; intro wy hst); have r0 := hst.bk.cell 0; have r1 := hst.bk.cell 1; have r2 := hst.bk.cell 2; have r3 := hst.bk.cell 3; have r4 := hst.bk.cell 4; have r5 := hst.bk.cell 5; have r6 := hst.bk.cell 6; simp at r0 r1 r2 r3 r4 r5 r6; refine bodyPost_ret (v := .tuple #[.agg #[.int .i64 (st), .int .i64 (en), .int .i64 ((ta : Int)), .int .i64 ((tb : Int)), .int .i64 ((tc : Int)), .slice oA ops.length oc, .slice pA picks.length pc], .bool false]) (by simp [results, Tryz.results37, go_sem, r0, r1, r2, r3, r4, r5, r6]) rfl ?_); have O1 := M2.out.oo.kept (fun g hg => hst.grown.block g (M2.out.oo.lt hg) (fun e => by have h1 := M2.out.fo g hg; cases e; omega)); have O2 := M2.out.op.kept (fun g hg => hst.grown.block g (M2.out.op.lt hg) (fun e => by have h1 := M2.out.fp g hg; cases e; omega)); have F1 : ∀ b o, oA = some ⟨b, o, none⟩ → w.heap.size ≤ b := (fun b o e => by have h1 := M2.out.fo b (by rw [e]; rfl); omega); have F2 : ∀ b o, pA = some ⟨b, o, none⟩ → w.heap.size ≤ b := (fun b o e => by have h1 := M2.out.fp b (by rw [e]; rfl); omega)); exact ⟨⟨st, en, ta, tb, tc, ops, picks⟩, oA, oc, pA, pc, own_sl' O1, own_sl' O2, by simp; omega, by simp; omega, (own_cap O2).1, (own_cap O2).2, F1, F2, hst.below M2.out.below (Nat.le_refl _), Or.inr ⟨rfl, HN.out⟩⟩))))); (· have t3 : ((picks.length : Int) % 16 == 0) = false := (by simp; omega); have HN := Lib.hid (noText_of HSB.out HL.out (P.out.noLine hlt HY.out (fun h => hdo h.1) (fun h => h16 h.2))); have M2 := M1; ((have BR := M2.out.br; have BX := M2.out.bx; (have y0 := BX.cell 0; have y1 := BX.cell 1; have y2 := BX.cell 2; have y3 := BX.cell 3; have y4 := BX.cell 4; have y5 := BX.cell 5; have y6 := BX.cell 6; simp at y0 y1 y2 y3 y4 y5 y6; go_wp2_with (refine wpList_store_bk (by rfl) _ _ _ (by rfl) w.heap.size _ (by rfl) (by rfl) _ _ BR (by rfl) (by kernel_rfl) (by rfl) ?_; intro wy hst); have r0 := hst.bk.cell 0; have r1 := hst.bk.cell 1; have r2 := hst.bk.cell 2; have r3 := hst.bk.cell 3; have r4 := hst.bk.cell 4; have r5 := hst.bk.cell 5; have r6 := hst.bk.cell 6; simp at r0 r1 r2 r3 r4 r5 r6; refine bodyPost_ret (v := .tuple #[.agg #[.int .i64 (st), .int .i64 (en), .int .i64 ((ta : Int)), .int .i64 ((tb : Int)), .int .i64 ((tc : Int)), .slice oA ops.length oc, .slice pA picks.length pc], .bool false]) (by simp [results, Tryz.results37, go_sem, r0, r1, r2, r3, r4, r5, r6]) rfl ?_); have O1 := M2.out.oo.kept (fun g hg => hst.grown.block g (M2.out.oo.lt hg) (fun e => by have h1 := M2.out.fo g hg; cases e; omega)); have O2 := M2.out.op.kept (fun g hg => hst.grown.block g (M2.out.op.lt hg) (fun e => by have h1 := M2.out.fp g hg; cases e; omega)); have F1 : ∀ b o, oA = some ⟨b, o, none⟩ → w.heap.size ≤ b := (fun b o e => by have h1 := M2.out.fo b (by rw [e]; rfl); omega); have F2 : ∀ b o, pA = some ⟨b, o, none⟩ → w.heap.size ≤ b := (fun b o e => by have h1 := M2.out.fp b (by rw [e]; rfl); omega)); exact ⟨⟨st, en, ta, tb, tc, ops, picks⟩, oA, oc, pA, pc, own_sl' O1, own_sl' O2, by simp; omega, by simp; omega, (own_cap O2).1, (own_cap O2).2, F1, F2, hst.below M2.out.below (Nat.le_refl _), Or.inr ⟨rfl, HN.out⟩⟩))); (· have t2 : ((bs y).toList == [112, 105, 99, 107]) = false := (by have := ba_ne (a := bs y) (b := bs wPick) (fun e => hpk (bs_inj e)); rwa [show (bs wPick).toList = [112, 105, 99, 107] from by rw [Go.ByteArray.toList_eq]; rfl] at this); have HN := Lib.hid (noText_of HSB.out HL.out (P.out.noLine hlt HY.out (fun h => hdo h.1) (fun h => hpk h.1))); have M2 := M1; ((have BR := M2.out.br; have BX := M2.out.bx; (have y0 := BX.cell 0; have y1 := BX.cell 1; have y2 := BX.cell 2; have y3 := BX.cell 3; have y4 := BX.cell 4; have y5 := BX.cell 5; have y6 := BX.cell 6; simp at y0 y1 y2 y3 y4 y5 y6; go_wp2_with (refine wpList_store_bk (by rfl) _ _ _ (by rfl) w.heap.size _ (by rfl) (by rfl) _ _ BR (by rfl) (by kernel_rfl) (by rfl) ?_; intro wy hst); have r0 := hst.bk.cell 0; have r1 := hst.bk.cell 1; have r2 := hst.bk.cell 2; have r3 := hst.bk.cell 3; have r4 := hst.bk.cell 4; have r5 := hst.bk.cell 5; have r6 := hst.bk.cell 6; simp at r0 r1 r2 r3 r4 r5 r6; refine bodyPost_ret (v := .tuple #[.agg #[.int .i64 (st), .int .i64 (en), .int .i64 ((ta : Int)), .int .i64 ((tb : Int)), .int .i64 ((tc : Int)), .slice oA ops.length oc, .slice pA picks.length pc], .bool false]) (by simp [results, Tryz.results37, go_sem, r0, r1, r2, r3, r4, r5, r6]) rfl ?_); have O1 := M2.out.oo.kept (fun g hg => hst.grown.block g (M2.out.oo.lt hg) (fun e => by have h1 := M2.out.fo g hg; cases e; omega)); have O2 := M2.out.op.kept (fun g hg => hst.grown.block g (M2.out.op.lt hg) (fun e => by have h1 := M2.out.fp g hg; cases e; omega)); have F1 : ∀ b o, oA = some ⟨b, o, none⟩ → w.heap.size ≤ b := (fun b o e => by have h1 := M2.out.fo b (by rw [e]; rfl); omega); have F2 : ∀ b o, pA = some ⟨b, o, none⟩ → w.heap.size ≤ b := (fun b o e => by have h1 := M2.out.fp b (by rw [e]; rfl); omega)); exact ⟨⟨st, en, ta, tb, tc, ops, picks⟩, oA, oc, pA, pc, own_sl' O1, own_sl' O2, by simp; omega, by simp; omega, (own_cap O2).1, (own_cap O2).2, F1, F2, hst.below M2.out.below (Nat.le_refl _), Or.inr ⟨rfl, HN.out⟩⟩))))
          · obtain rfl : k = ls.length := by omega
            have F := Lib.hid (P.out.fin HCF.out)
            (have BR := M.out.br; have BX := M.out.bx; (have y0 := BX.cell 0; have y1 := BX.cell 1; have y2 := BX.cell 2; have y3 := BX.cell 3; have y4 := BX.cell 4; have y5 := BX.cell 5; have y6 := BX.cell 6; simp at y0 y1 y2 y3 y4 y5 y6; go_wp2_with (refine wpList_store_bk (by rfl) _ _ _ (by rfl) w.heap.size _ (by rfl) (by rfl) _ _ BR (by rfl) (by kernel_rfl) (by rfl) ?_; intro wy hst); have r0 := hst.bk.cell 0; have r1 := hst.bk.cell 1; have r2 := hst.bk.cell 2; have r3 := hst.bk.cell 3; have r4 := hst.bk.cell 4; have r5 := hst.bk.cell 5; have r6 := hst.bk.cell 6; simp at r0 r1 r2 r3 r4 r5 r6; refine bodyPost_ret (v := .tuple #[.agg #[.int .i64 (st), .int .i64 (en), .int .i64 ((ta : Int)), .int .i64 ((tb : Int)), .int .i64 ((tc : Int)), .slice oA ops.length oc, .slice pA picks.length pc], .bool true]) (by simp [results, Tryz.results37, go_sem, r0, r1, r2, r3, r4, r5, r6]) rfl ?_); have O1 := M.out.oo.kept (fun g hg => hst.grown.block g (M.out.oo.lt hg) (fun e => by have h1 := M.out.fo g hg; cases e; omega)); have O2 := M.out.op.kept (fun g hg => hst.grown.block g (M.out.op.lt hg) (fun e => by have h1 := M.out.fp g hg; cases e; omega)); have F1 : ∀ b o, oA = some ⟨b, o, none⟩ → w.heap.size ≤ b := (fun b o e => by have h1 := M.out.fo b (by rw [e]; rfl); omega); have F2 : ∀ b o, pA = some ⟨b, o, none⟩ → w.heap.size ≤ b := (fun b o e => by have h1 := M.out.fp b (by rw [e]; rfl); omega))
            exact ⟨⟨st, en, ta, tb, tc, ops, picks⟩, oA, oc, pA, pc, own_sl' O1, own_sl' O2, by simp; omega, by simp; omega, (own_cap O2).1, (own_cap O2).2, F1, F2, hst.below M.out.below (Nat.le_refl _), Or.inl ⟨rfl, F.out.1, (text_iff HSB.out F.out.1).2 (F.out.2.1.trans HL.out.symm), fun y hy e => F.out.2.2 y hy (((text_iff HSB.out hy).1 e).trans HL.out)⟩⟩
    · have HN := Lib.hid (noText_of HSB.out HL.out (noCfg hno))
      clear hno
      (have y0 := X2.cell 0; have y1 := X2.cell 1; have y2 := X2.cell 2; have y3 := X2.cell 3; have y4 := X2.cell 4; have y5 := X2.cell 5; have y6 := X2.cell 6; simp at y0 y1 y2 y3 y4 y5 y6; go_wp2_with (refine wpList_store_bk (by rfl) _ _ _ (by rfl) w.heap.size _ (by rfl) (by rfl) _ _ B2 (by rfl) (by kernel_rfl) (by rfl) ?_; intro wy hst); have r0 := hst.bk.cell 0; have r1 := hst.bk.cell 1; have r2 := hst.bk.cell 2; have r3 := hst.bk.cell 3; have r4 := hst.bk.cell 4; have r5 := hst.bk.cell 5; have r6 := hst.bk.cell 6; simp at r0 r1 r2 r3 r4 r5 r6; refine bodyPost_ret (v := .tuple #[.agg #[.int .i64 (st), .int .i64 (en), .int .i64 (th), .int .i64 (sl), .int .i64 (no), .slice none 0 0, .slice none 0 0], .bool false]) (by simp [results, Tryz.results37, go_sem, r0, r1, r2, r3, r4, r5, r6]) rfl ?_)
      exact ⟨⟨st, en, th, sl, no, [], []⟩, none, 0, none, 0, Sl.none_, Sl.none_, by simp, by simp, by simp, by simp, by simp, by simp, hst.below hb2 (Nat.le_refl _), Or.inr ⟨rfl, HN.out⟩⟩
end Go.Proofs.YtciioiklkaannaaGreatDoor
