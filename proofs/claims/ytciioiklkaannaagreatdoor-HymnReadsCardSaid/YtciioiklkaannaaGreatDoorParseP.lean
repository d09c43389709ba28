/- A script's text, read line by line: plain laws. -/
import Derived.Test.YtciioiklkaannaaGreatDoorTextP
namespace Go.Proofs.YtciioiklkaannaaGreatDoor
open Go Go.RowKit
set_option linter.unusedSimpArgs false
set_option linter.unusedVariables false
set_option linter.unusedSectionVars false

/-- Behind k lines of the rest. -/
structure PInv (l0 : List UInt8) (ls : List (List UInt8)) (st en th sl no : Int) (k : Nat) (ops : List PTask) (picks : List Int) : Prop where
  hk : k ≤ ls.length
  okO : ∀ t ∈ ops, 0 ≤ t.thread ∧ t.thread ≤ 1073741824 ∧ FitsP st t.op
  okP : ∀ p ∈ picks, 0 ≤ p ∧ p ≤ 1073741824
  lines : ls.take k = ops.map (taskL st) ++ (chunks picks).map pickL
  all : ∀ x, Canon x → linesOf x = l0 :: ls → (x.st = st ∧ x.en = en ∧ x.th = th ∧ x.sl = sl ∧ x.no = no) ∧ ops = x.ops.take k ∧ picks = x.picks.take (16 * (k - x.ops.length))

theorem sp_task (st : Int) (t : PTask) : ∃ xs, sp 32 (taskL st t) = wDo :: xs := ⟨_, sp_hit 32 wDo _ (by decide)⟩
theorem intW_no32 (p : Int) : ∀ b ∈ intW p, b ≠ 32 := dec_no 32 (by decide) _
theorem sp_pick (c : List Int) : sp 32 (pickL c) = wPick :: c.map intW := sp_jn 32 _ (by simp) (fun x hx => by
  rcases List.mem_cons.1 hx with rfl | hx
  · decide
  · obtain ⟨p, _, rfl⟩ := List.mem_map.1 hx; exact intW_no32 p)
theorem wDo_ne : wDo ≠ wPick := by decide

section
variable {l0 : List UInt8} {ls : List (List UInt8)} {st en th sl no : Int} {k : Nat} {ops : List PTask} {picks : List Int} (P : PInv l0 ls st en th sl no k ops picks)
include P
theorem PInv.line {x : PScr} (hx : Canon x) (hl : linesOf x = l0 :: ls) (hk : k < ls.length) :
    (∃ h : k < x.ops.length, ls[k] = taskL st x.ops[k] ∧ picks = []) ∨ (x.ops.length ≤ k ∧ ∃ h : k - x.ops.length < (chunks x.picks).length, ls[k] = pickL ((chunks x.picks)[k - x.ops.length]) ∧ picks.length = 16 * (k - x.ops.length)) := by
  obtain ⟨⟨e1, _⟩, e2, e3⟩ := P.all x hx hl
  have h1 := (List.cons.inj hl).2
  have hlen := congrArg List.length h1
  simp only [List.length_append, List.length_map] at hlen
  have hg : ls[k]? = (x.ops.map (taskL x.st) ++ (chunks x.picks).map pickL)[k]? := by rw [h1]
  rw [List.getElem?_eq_getElem hk] at hg
  by_cases hkx : k < x.ops.length
  · refine Or.inl ⟨hkx, ?_, ?_⟩
    · rw [List.getElem?_append_left (by simpa using hkx), List.getElem?_map, List.getElem?_eq_getElem hkx] at hg
      rw [← e1]; simpa using hg
    · rw [e3, show 16 * (k - x.ops.length) = 0 from by omega]; rfl
  · have hj : k - x.ops.length < (chunks x.picks).length := by omega
    refine Or.inr ⟨by omega, hj, ?_, ?_⟩
    · rw [List.getElem?_append_right (by simp; omega), List.getElem?_map, List.length_map, List.getElem?_eq_getElem hj] at hg
      simpa using hg
    · have := (chunks_get _ _ hj).2
      rw [e3, List.length_take]; omega

theorem PInv.task (hk : k < ls.length) (h0 : ∃ xs, sp 32 ls[k] = wDo :: xs) (hp : picks = []) {n : Nat} {op : POp} (ht : TaskIs st (bs ls[k]) n op) : PInv l0 ls st en th sl no (k + 1) (ops ++ [⟨n, op⟩]) [] := by
  obtain ⟨a, ha, hn, hf, hd⟩ := ht
  rw [bs_data] at hd
  obtain ⟨xs, h0⟩ := h0
  have ea : a = wDo := by rw [hd, sp_hit 32 a _ ha] at h0; exact (List.cons.inj h0).1
  have hline : ls[k] = taskL st ⟨n, op⟩ := by rw [hd, ea]; simp [taskL]
  refine ⟨hk, fun t ht => ?_, by simp, ?_, fun x hx hl => ?_⟩
  · rcases List.mem_append.1 ht with ht | ht
    · exact P.okO t ht
    · obtain rfl := List.mem_singleton.1 ht
      exact ⟨by simp, by simp; omega, hf⟩
  · rw [List.take_succ_eq_append_getElem hk, P.lines, hp, chunks_nil, hline]; simp
  · obtain ⟨e1, e2, e3⟩ := P.all x hx hl
    refine ⟨e1, ?_, ?_⟩
    · rcases P.line hx hl hk with ⟨hkx, h1, _⟩ | ⟨_, hj, h1, _⟩
      · rw [List.take_succ_eq_append_getElem hkx, ← e2]
        congr 1
        rw [hline] at h1
        have h2 : TaskIs st (bs (taskL st ⟨n, op⟩)) x.ops[k].thread.toNat x.ops[k].op := by
          obtain ⟨t1, t2, t3⟩ := hx.ops _ (List.getElem_mem hkx)
          refine ⟨wDo, by decide, by omega, e1.1 ▸ t3, ?_⟩
          rw [bs_data, h1]; rfl
        have h3 := task_parts (a := wDo) (b := Lib.decDigits n) (r := lineL st op) (by rw [bs_data]; simp [taskL]) (by decide) (dec_no 32 (by decide) n) h2
        have h4 : n = x.ops[k].thread.toNat := dec_inj (bs_inj h3.1.2.symm)
        have h5 : op = x.ops[k].op := by
          obtain ⟨y, ys, hy⟩ : ∃ y ys, sp 32 (bs (lineL st op)).data.toList = y :: ys := by
            cases h : sp 32 (bs (lineL st op)).data.toList with
            | nil => exact absurd h (sp_ne _ _)
            | cons y ys => exact ⟨y, ys, rfl⟩
          obtain ⟨_, ⟨ns, hns⟩, q1⟩ := read_back hy hf rfl
          obtain ⟨_, _, q2⟩ := read_back hy h3.2.2 h3.2.1
          rw [← q1 ns hns, q2 ns hns]
        have h6 := (hx.ops _ (List.getElem_mem hkx)).1
        show [_] = [_]
        congr 1
        have : x.ops[k] = ⟨x.ops[k].thread, x.ops[k].op⟩ := rfl
        rw [this, ← h5, show x.ops[k].thread = (n : Int) from by omega]
      · exfalso
        rw [h1, sp_pick] at h0
        exact wDo_ne (List.cons.inj h0).1.symm
    · rcases P.line hx hl hk with ⟨hkx, _, _⟩ | ⟨_, hj, h1, _⟩
      · rw [show 16 * (k + 1 - x.ops.length) = 0 from by omega]; rfl
      · exfalso
        rw [h1, sp_pick] at h0
        exact wDo_ne (List.cons.inj h0).1.symm
theorem PInv.noTask (hk : k < ls.length) (h0 : ∃ xs, sp 32 ls[k] = wDo :: xs) (ht : ∀ n op, ¬ TaskIs st (bs ls[k]) n op) : ∀ x, Canon x → linesOf x ≠ l0 :: ls := fun x hx hl => by
  obtain ⟨xs, h0⟩ := h0
  obtain ⟨e1, _, _⟩ := P.all x hx hl
  rcases P.line hx hl hk with ⟨hkx, h1, _⟩ | ⟨_, hj, h1, _⟩
  · obtain ⟨t1, t2, t3⟩ := hx.ops _ (List.getElem_mem hkx)
    exact ht x.ops[k].thread.toNat x.ops[k].op ⟨wDo, by decide, by omega, e1.1 ▸ t3, by rw [bs_data, h1]; rfl⟩
  · rw [h1, sp_pick] at h0
    exact wDo_ne (List.cons.inj h0).1.symm
theorem PInv.pick (hk : k < ls.length) {xs : List (List UInt8)} (h0 : sp 32 ls[k] = wPick :: xs) (hp : picks.length % 16 = 0) {ns : List Nat} (hn : PicksIs (xs.map bs) ns) : PInv l0 ls st en th sl no (k + 1) ops (picks ++ nats ns) := by
  obtain ⟨l1, l2, f1, f2, f3⟩ := hn
  rw [List.length_map] at l1 l2 f1
  rw [numB_map] at f2
  have f4 := map_bs_inj f2
  have hw : (nats ns).map intW = ns.map Lib.decDigits := by simp [nats, intW, Function.comp_def]
  have hline : ls[k] = pickL (nats ns) := by
    have := jn_sp 32 ls[k]
    rw [h0, f4] at this
    rw [← this, pickL, hw]
  have hne : nats ns ≠ [] := fun e => by have := congrArg List.length e; simp [nats] at this; rw [this] at f1; simp at f1; omega
  have hlen : (nats ns).length = ns.length := by simp [nats]
  have hch : ∀ p : List Int, p.length % 16 = 0 → chunks (p ++ nats ns) = chunks p ++ [nats ns] := fun p h => chunks_snoc (p.length / 16) p _ (by omega) hne (by omega)
  refine ⟨hk, P.okO, fun p hp' => ?_, ?_, fun x hx hl => ?_⟩
  · rcases List.mem_append.1 hp' with h | h
    · exact P.okP p h
    · obtain ⟨n, hn, rfl⟩ := List.mem_map.1 h
      have := f3 n hn
      omega
  · rw [List.take_succ_eq_append_getElem hk, P.lines, hch picks hp, hline]; simp
  · obtain ⟨e1, e2, e3⟩ := P.all x hx hl
    rcases P.line hx hl hk with ⟨hkx, h1, _⟩ | ⟨hkx, hj, h1, hpl⟩
    · exfalso
      obtain ⟨ys, hy⟩ := sp_task st x.ops[k]
      rw [h1, hy] at h0
      exact wDo_ne (List.cons.inj h0).1
    · refine ⟨e1, by rw [e2, List.take_of_length_le hkx, List.take_of_length_le (by omega)], ?_⟩
      obtain ⟨g1, g2⟩ := chunks_get _ _ hj
      have h2 : nats ns = (chunks x.picks)[k - x.ops.length] := by
        have h3 := congrArg (sp 32) (hline.symm.trans h1)
        rw [sp_pick, sp_pick] at h3
        have h4 := (List.cons.inj h3).2
        have hpos : ∀ p ∈ (chunks x.picks)[k - x.ops.length], 0 ≤ p := fun p hp' => by
          rw [g1] at hp'
          exact (hx.picks p (List.mem_of_mem_drop (List.mem_of_mem_take hp'))).1
        have hpos' : ∀ p ∈ nats ns, 0 ≤ p := fun p hp' => by obtain ⟨n, _, rfl⟩ := List.mem_map.1 hp'; omega
        have key : ∀ (a b : List Int), (∀ p ∈ a, 0 ≤ p) → (∀ p ∈ b, 0 ≤ p) → a.map intW = b.map intW → a = b := by
          intro a
          induction a with
          | nil => intro b _ _ h; cases b with
            | nil => rfl
            | cons _ _ => simp at h
          | cons p a ih =>
            intro b ha hb h
            cases b with
            | nil => simp at h
            | cons q b =>
              simp only [List.map_cons, List.cons.injEq] at h
              have h5 := dec_inj h.1
              have h6 := ha p (by simp)
              have h7 := hb q (by simp)
              rw [ih b (fun z hz => ha z (by simp [hz])) (fun z hz => hb z (by simp [hz])) h.2, show p = q from by omega]
        exact key _ _ hpos' hpos h4
      rw [h2, g1, e3, show 16 * (k + 1 - x.ops.length) = 16 * (k - x.ops.length) + 16 from by omega, List.take_add]
theorem PInv.noPick (hk : k < ls.length) {xs : List (List UInt8)} (h0 : sp 32 ls[k] = wPick :: xs) (hn : ∀ ns, ¬ PicksIs (xs.map bs) ns) : ∀ x, Canon x → linesOf x ≠ l0 :: ls := fun x hx hl => by
  rcases P.line hx hl hk with ⟨hkx, h1, _⟩ | ⟨hkx, hj, h1, hpl⟩
  · obtain ⟨ys, hy⟩ := sp_task st x.ops[k]
    rw [h1, hy] at h0
    exact wDo_ne (List.cons.inj h0).1
  · obtain ⟨g1, g2⟩ := chunks_get _ _ hj
    rw [h1, sp_pick] at h0
    have h2 := (List.cons.inj h0).2
    refine hn (((chunks x.picks)[k - x.ops.length]).map Int.toNat) ?_
    have hl1 : ((chunks x.picks)[k - x.ops.length]).length ≤ 16 ∧ 1 ≤ ((chunks x.picks)[k - x.ops.length]).length := by rw [g1, List.length_take, List.length_drop]; omega
    rw [← h2]
    refine ⟨by simpa using hl1.2, by simpa using hl1.1, by simp, ?_, ?_⟩
    · simp [numB, intW, Function.comp_def]
    · intro n hn'
      obtain ⟨p, hp, rfl⟩ := List.mem_map.1 hn'
      rw [g1] at hp
      have := hx.picks p (List.mem_of_mem_drop (List.mem_of_mem_take hp))
      omega
theorem PInv.noLine (hk : k < ls.length) {y : List UInt8} {xs : List (List UInt8)} (h0 : sp 32 ls[k] = y :: xs) (hd : ¬ (y = wDo ∧ picks.length = 0)) (hp : ¬ (y = wPick ∧ picks.length % 16 = 0)) : ∀ x, Canon x → linesOf x ≠ l0 :: ls := fun x hx hl => by
  rcases P.line hx hl hk with ⟨hkx, h1, h2⟩ | ⟨hkx, hj, h1, hpl⟩
  · obtain ⟨ys, hy⟩ := sp_task st x.ops[k]
    rw [h1, hy] at h0
    exact hd ⟨(List.cons.inj h0).1.symm, by rw [h2]; rfl⟩
  · rw [h1, sp_pick] at h0
    exact hp ⟨(List.cons.inj h0).1.symm, by omega⟩
end
/-- At the end of the lines. -/
theorem PInv.fin {l0 : List UInt8} {ls : List (List UInt8)} {st en : Int} {th sl no : Nat} {ops : List PTask} {picks : List Int} (P : PInv l0 ls st en th sl no ls.length ops picks) (hc : CfgIs (bs l0) st en th sl no) :
    Canon ⟨st, en, th, sl, no, ops, picks⟩ ∧ linesOf ⟨st, en, th, sl, no, ops, picks⟩ = l0 :: ls ∧ ∀ y, Canon y → linesOf y = l0 :: ls → y = ⟨st, en, th, sl, no, ops, picks⟩ := by
  obtain ⟨c1, c2, c3, c4, c5, c6, c7, c8⟩ := hc
  have hl := P.lines
  rw [List.take_length] at hl
  rw [bs_data] at c8
  have hcan : Canon ⟨st, en, th, sl, no, ops, picks⟩ := ⟨⟨c1, c2⟩, ⟨c3, c4⟩, ⟨by simp, by simp; omega⟩, ⟨by simp, by simp; omega⟩, ⟨by simp, by simp; omega⟩, P.okO, P.okP⟩
  have hlin : linesOf ⟨st, en, th, sl, no, ops, picks⟩ = l0 :: ls := by
    unfold linesOf
    rw [← hl]
    congr 1
    have := jn_sp 32 l0
    rw [c8] at this
    simp only [headL, Int.toNat_natCast]
    exact this
  refine ⟨hcan, hlin, fun y hy hyl => ?_⟩
  obtain ⟨⟨e1, e2, e3, e4, e5⟩, e6, e7⟩ := P.all y hy hyl
  have h1 := congrArg List.length (List.cons.inj (hyl.trans hlin.symm)).2
  have h2 := congrArg List.length (List.cons.inj hyl).2
  simp only [List.length_append, List.length_map] at h1 h2
  obtain ⟨a, b, c, d, e, f, g⟩ := y
  simp only at e1 e2 e3 e4 e5 e6 e7 h2 ⊢
  subst e1 e2 e3 e4 e5
  rw [List.take_of_length_le (by omega)] at e6
  have h3 : g.length ≤ 16 * (ls.length - f.length) := by
    have : (chunks g).length = ls.length - f.length := by omega
    rw [← this]
    exact chunks_len g
  rw [List.take_of_length_le h3] at e7
  rw [e6, e7]
end Go.Proofs.YtciioiklkaannaaGreatDoor
