/- HymnReads: what the readings answer, in one form. HymnReads: what the program reads is what the reference reads. -/
import Derived.Test.YtciioiklkaannaaGreatDoorRfP
import Derived.Test.YtciioiklkaannaaGreatDoorAwakeH
import Derived.Test.YtciioiklkaannaaGreatDoorFnRefSame
namespace Go.Proofs.YtciioiklkaannaaGreatDoor
open Go Go.RowKit
set_option linter.unusedSimpArgs false
set_option linter.unusedVariables false
set_option linter.unusedSectionVars false

theorem parse_uni {s : ByteArray} {b c : Addr} {w w' : World} {e : Ending} (h : RetParse s b c w e w') : Below w.heap.size w w' ∧ ∃ x A k A' k' ev, e = .returned (.tuple #[PScr.v x A k A' k', ev]) ∧ SA w' x A k A' k' ∧
    ((ev = .nilIface ∧ ParseOk s x) ∨ (ev = .iface 203 (.pointer (some b)) ∧ s.size ≤ 32768 ∧ x = zScr ∧ ∀ y, goodB y = true → bs (textL y) ≠ s) ∨ (ev = .iface 203 (.pointer (some c)) ∧ x = zScr ∧ 32768 < s.size)) := by
  obtain ⟨hb, ⟨x, A, k, A', k', rfl, S, P⟩ | ⟨rfl, hs, hn⟩ | ⟨rfl, hs⟩⟩ := h
  · exact ⟨hb, x, A, k, A', k', _, rfl, S, Or.inl ⟨rfl, P⟩⟩
  · exact ⟨hb, zScr, none, 0, none, 0, _, rfl, SA.zero _, Or.inr (Or.inl ⟨rfl, hs, rfl, hn⟩)⟩
  · exact ⟨hb, zScr, none, 0, none, 0, _, rfl, SA.zero _, Or.inr (Or.inr ⟨rfl, rfl, hs⟩)⟩
theorem read_uni {st : Int} {s : ByteArray} {b : Addr} {w w' : World} {e : Ending} (h : RetRead st s b w e w') : Below w.heap.size w w' ∧ ∃ (tk te tv tt : Int) (ev : Value), e = .returned (.tuple #[.agg #[.int .i64 tk, .int .i64 te, .int .i64 tv, .int .i64 tt], ev]) ∧
    ((ev = .nilIface ∧ FitsP st ⟨tk, te, tv, tt⟩ ∧ bs (lineL st ⟨tk, te, tv, tt⟩) = s) ∨ (ev = .iface 203 (.pointer (some b)) ∧ tk = 0 ∧ te = 0 ∧ tv = 0 ∧ tt = 0 ∧ ∀ op, FitsP st op → bs (lineL st op) ≠ s)) := by
  rcases h with ⟨⟨tk, te, tv, tt⟩, hf, ht, rfl, hb⟩ | ⟨hn, rfl, hb⟩
  · exact ⟨hb, tk, te, tv, tt, _, rfl, Or.inl ⟨rfl, hf, ht⟩⟩
  · exact ⟨hb, 0, 0, 0, 0, _, rfl, Or.inr ⟨rfl, rfl, rfl, rfl, rfl, hn⟩⟩
/-- The reference reads what the program reads. -/
theorem refRead_yes {st : Int} {t : ByteArray} {tk te tv tt : Int} (hf : FitsP st ⟨tk, te, tv, tt⟩) (ht : bs (lineL st ⟨tk, te, tv, tt⟩) = t) (hs : t.size ≤ 9223372036854775807) (w : World) :
    Calls Tryz.prog 15 #[.int .i64 st, .string t] w fun e w' => e = .returned (.tuple #[.agg #[.int .i64 tk, .int .i64 te, .int .i64 tv, .int .i64 tt], .bool true]) ∧ Below w.heap.size w w' := by
  refine (refRead_any st t hs w).mono ?_
  rintro e w' ⟨hb, ⟨op, hf', ht', rfl⟩ | ⟨hn, _⟩⟩
  · have e2 : op = ⟨tk, te, tv, tt⟩ := by
      obtain ⟨q, qs, hq⟩ : ∃ q qs, sp 32 (bs (lineL st op)).data.toList = q :: qs := by
        cases h : sp 32 (bs (lineL st op)).data.toList with
        | nil => exact absurd h (sp_ne _ _)
        | cons q qs => exact ⟨q, qs, rfl⟩
      obtain ⟨_, ⟨ns, hns⟩, q1⟩ := read_back hq hf' rfl
      obtain ⟨_, _, q2⟩ := read_back hq hf (ht.trans ht'.symm)
      rw [← q1 ns hns, q2 ns hns]
    subst e2
    exact ⟨rfl, hb⟩
  · exact absurd ht (hn _ hf)
theorem refRead_no {st : Int} {t : ByteArray} (hn : ∀ op, FitsP st op → bs (lineL st op) ≠ t) (hs : t.size ≤ 9223372036854775807) (w : World) :
    Calls Tryz.prog 15 #[.int .i64 st, .string t] w fun e w' => e = .returned (.tuple #[.agg #[.int .i64 0, .int .i64 0, .int .i64 0, .int .i64 0], .bool false]) ∧ Below w.heap.size w w' := by
  refine (refRead_any st t hs w).mono ?_
  rintro e w' ⟨hb, ⟨op, hf', ht', _⟩ | ⟨_, rfl⟩⟩
  · exact absurd ht' (hn op hf')
  · exact ⟨rfl, hb⟩
theorem refParse_yes {s : ByteArray} {x : PScr} (P : ParseOk s x) (hs : s.size ≤ 8192) (w : World) :
    Calls Tryz.prog 17 #[.string s] w fun e w' => Below w.heap.size w w' ∧ ∃ A k A' k', e = .returned (.tuple #[x.v A k A' k', .bool true]) ∧ SA w' x A k A' k' := by
  refine (refParse_any s (by omega) w).mono ?_
  rintro e w' ⟨hb, ⟨y, A, k, A', k', hg, ht, rfl, S⟩ | ⟨hn, _⟩⟩
  · obtain rfl := P.one y (canon_of_good hg) ht
    exact ⟨hb, A, k, A', k', rfl, S⟩
  · exact absurd P.text (noG_bs hn x P.good)
theorem refParse_no {s : ByteArray} (hn : ∀ y, goodB y = true → bs (textL y) ≠ s) (hs : s.size ≤ 8192) (w : World) :
    Calls Tryz.prog 17 #[.string s] w fun e w' => Below w.heap.size w w' ∧ e = .returned (.tuple #[zScr.v none 0 none 0, .bool false]) := by
  refine (refParse_any s (by omega) w).mono ?_
  rintro e w' ⟨hb, ⟨y, A, k, A', k', hg, ht, _⟩ | ⟨_, rfl⟩⟩
  · exact absurd ht (hn y hg)
  · exact ⟨hb, rfl⟩
end Go.Proofs.YtciioiklkaannaaGreatDoor
namespace Go.Proofs.YtciioiklkaannaaGreatDoor
open Go Go.RowKit

/-- A script read, boxed. -/
structure RK (w : World) (x : PScr) (A : Option Addr) (k : Nat) (A' : Option Addr) (k' : Nat) (bX : Nat) (a b c : Addr) (m : Int) (wr : World) : Prop where
  bx : Bk wr bX 27 #[.int .i64 x.st, .int .i64 x.en, .int .i64 x.th, .int .i64 x.sl, .int .i64 x.no, .slice A x.ops.length k, .slice A' x.picks.length k']
  sa : SA wr x A k A' k'
  g : GH wr a b c m
  below : Below w.heap.size w wr
theorem RK.more {w : World} {x : PScr} {A : Option Addr} {k : Nat} {A' : Option Addr} {k' : Nat} {bX : Nat} {a b c : Addr} {m : Int} {wr w1 : World} (h : RK w x A k A' k' bX a b c m wr) (hb : Below wr.heap.size wr w1) : RK w x A k A' k' bX a b c m w1 :=
  ⟨h.bx.belowAll hb, h.sa.more hb, h.g.more hb, h.below.trans (hb.mono h.below.size)⟩

set_option maxRecDepth 100000 in
set_option maxHeartbeats 6400000 in
theorem hymnReads_out {w : World} {a b c : Addr} {m : Int} (G : GH w a b c m) (s : ByteArray) (hs : s.size ≤ 9223372036854775807) (st : Int) (t : ByteArray) (ht : t.size ≤ 9223372036854775807) (hbig : 1000 < t.size ∨ (8192 < s.size ∧ s.size ≤ 32768)) :
    Calls Tryz.prog 4 #[.string s, .int .i64 st, .string t] w (RetB true w) := by
  go_enter Tryz.func4, Tryz.ntmps4
  go_wp2_with fail
  refine (awake_any G).mono ?_
  rintro e w1 ⟨rfl, hb1⟩
  go_wp2_with fail
  all_goals first
    | (exfalso; omega)
    | (go_ret; exact ⟨rfl, hb1⟩)
end Go.Proofs.YtciioiklkaannaaGreatDoor
