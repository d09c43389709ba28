/- What the cards of this seat share: the listed variables' cells; a world that holds them; the row's last step. -/
import Derived.Test.YtfkfleojdheffaaDoorCards
import Derived.Test.YtfkfleojdheffaaDoorTie
import Derived.Test.YtfkfleojdheffaaDoorText
import Derived.WalkKit
import Derived.ProofKit
import Derived.OpenShut
import Derived.Below
import Derived.ChangeSame
import Derived.Deep.DeepHandedRow
import Derived.Stop.LaidErr
import Derived.LaidLaws
import Derived.ShutString
import Derived.Lib.LaidTab
import Derived.Shelf.Vars
import Derived.LaidSub
namespace Go.Proofs.YtfkfleojdheffaaDoor
open Go.ChangeShapes Go.WideShapes Go.ChangeAt Go.RowKit
set_option linter.unusedSimpArgs false
set_option linter.unusedVariables false
set_option linter.unusedSectionVars false

theorem own : ownKnob Tryd.prog.godebug = none := by kernel_rfl
theorem gErr : Tryd.prog.globalNamed "sexton/api.ErrArg" = some 0 := by kernel_rfl
theorem gWord : Tryd.prog.globalNamed "sexton/api.ErrWord" = some 1 := by kernel_rfl
theorem gRange : Tryd.prog.globalNamed "strconv.ErrRange" = some 3 := by kernel_rfl
theorem gSyntax : Tryd.prog.globalNamed "strconv.ErrSyntax" = some 2 := by kernel_rfl
theorem gPow : Tryd.prog.globalNamed "internal/strconv.uint64pow10" = some 5 := by kernel_rfl
theorem gWordType : (Tryd.prog.globals[1]?).map (·.type) = some 26 := by kernel_rfl
theorem gErrType : (Tryd.prog.globals[0]?).map (·.type) = some 26 := by kernel_rfl
theorem gRangeType : (Tryd.prog.globals[3]?).map (·.type) = some 26 := by kernel_rfl
theorem gSyntaxType : (Tryd.prog.globals[2]?).map (·.type) = some 26 := by kernel_rfl
theorem gPowType : (Tryd.prog.globals[5]?).map (·.type) = some 111 := by kernel_rfl
theorem cellsErr : Tryd.prog.cellsOf 109 = 1 := by kernel_rfl
theorem cellsStr : Tryd.prog.cellsOf 9 = 1 := by kernel_rfl
theorem cellsPow : Tryd.prog.cellsOf 111 = 20 := by kernel_rfl
theorem cellsU64 : Tryd.prog.cellsOf 91 = 1 := by kernel_rfl
theorem starErr : "*" ++ "errors.errorString" = "*errors.errorString" := by decide
theorem rowErr (u : TypeId) (h : Tryd.prog.typeName? 3 u = some "*errors.errorString") : u = 107 :=
  typeName_ptr_named (nm := "errors.errorString") (by rw [starErr]; kernel_rfl) (by kernel_rfl) (by decide) u (by rw [starErr]; exact h)
theorem pow_data : (Rows.laid_internal_strconv_uint64pow10 : DataW Unit) = Lib.tabData .u64 Lib.pow10Tab := by kernel_rfl

noncomputable def laidList : List (String × DataW Unit) := [("math/bits.deBruijn32tab", Rows.laid_math_bits_deBruijn32tab), ("math/bits.deBruijn64tab", Rows.laid_math_bits_deBruijn64tab), ("internal/strconv.uint64pow10", Rows.laid_internal_strconv_uint64pow10), ("unicode/utf8.acceptRanges", Rows.laid_unicode_utf8_acceptRanges), ("sexton/api.ErrArg", Rows.laid_sexton_api_ErrArg), ("sexton/api.ErrWord", Rows.laid_sexton_api_ErrWord), ("strconv.ErrRange", Rows.laid_strconv_ErrRange), ("strconv.ErrSyntax", Rows.laid_strconv_ErrSyntax), ("unicode/utf8.first", Rows.laid_unicode_utf8_first)]

theorem listed (W : World) (h : laidMetH Tryd.prog laidList W) : laidMet Tryd.prog laidList W := by
  have hm := (laidMetH_iff.1 h).1
  have e : (laidList.filter fun x => x.2.handleName?.isNone) = laidList := by kernel_rfl
  rwa [e] at hm

/-- What the row's list gives, and the world's shape. -/
theorem worldOf {W : World} (h0 : laidMetH Tryd.prog laidList W) (hsh : W.ShapedOpen Tryd.prog) :
    ∃ a b tS pS tR pR m, GW W a b tS pS tR pR m := by
  have h := listed W h0
  unfold laidList at h
  rw [pow_data] at h
  have t2 := h.tail.tail
  have t4 := t2.tail.tail
  have t5 := t4.tail
  have t6 := t5.tail
  have t7 := t6.tail
  have hp := Lib.tabIs_of_head gPow gPowType Tryd.underlying111 Tryd.underlying91 cellsU64 cellsPow t2
  obtain ⟨a, _, ha, _⟩ := laid_sentinel t4 gErr gErrType Tryd.underlying26 rowErr Tryd.underlying107 Tryd.underlying109 rfl rfl Tryd.underlying9 cellsErr cellsStr
  obtain ⟨b, _, hb, _⟩ := laid_sentinel t5 gWord gWordType Tryd.underlying26 rowErr Tryd.underlying107 Tryd.underlying109 rfl rfl Tryd.underlying9 cellsErr cellsStr
  obtain ⟨c, _, hc, _⟩ := laid_sentinel t6 gRange gRangeType Tryd.underlying26 rowErr Tryd.underlying107 Tryd.underlying109 rfl rfl Tryd.underlying9 cellsErr cellsStr
  obtain ⟨d, _, hd, _⟩ := laid_sentinel t7 gSyntax gSyntaxType Tryd.underlying26 rowErr Tryd.underlying107 Tryd.underlying109 rfl rfl Tryd.underlying9 cellsErr cellsStr
  obtain ⟨m, hm⟩ := cell_of_shapedOpen_int (P := Tryd.prog) (g := 4) (t := 3) (zero := #[.int .i64 0]) hsh (of_decide_eq_true (by kernel_rfl)) (by kernel_rfl) rfl (by kernel_rfl) (by kernel_rfl) Tryd.underlying3
  exact ⟨a, b, _, _, _, _, m, by simpa using World.var?_cell gErr ha 0, by simpa using World.var?_cell gWord hb 0, hp, hd, hc, hm⟩

theorem le_len {n : Nat} (h : n ≤ maxLen) : n ≤ 9223372036854775807 := by simp only [maxLen] at h; omega

/-- The row's last step where of the world behind the call 'Below' alone is known. -/
theorem lastStep {H : Type} {enc : TypeId × Value → H} {P : Program} {f : Func} {s : ChangeSpec} {apart fresh handsOn again : Bool} {W W' : World} {args : Array Value} {v : Value} {ds gs : List (DataW H)} {before pa pv : List MemPlace}
    (hW : DataW.Whole enc P f.params.toList s.vars apart W args.toList ds gs before)
    (hres : ∀ (b : Nat) (sp : Nat → Bool) (hd : Bool), DataW.TrodAll enc P W' b sp hd f.resultTypes.toList (v.resultList f.resultTypes.size) (s.fn H (ds ++ gs)).results [])
    (hargs : ∀ sp : Nat → Bool, (∀ p ∈ before, sp p.block = true) → DataW.TrodAll enc P W' 0 sp true f.params.toList args.toList (s.fn H (ds ++ gs)).args pa)
    (hvars : ∀ sp : Nat → Bool, (∀ p ∈ before, sp p.block = true) → DataW.TrodVars enc P W' sp s.vars (s.fn H (ds ++ gs)).vars pv)
    (hps : before = pa ++ pv) (hb : Below W.heap.size W W')
    (hok : ∀ (j : Nat) (t : TypeId) (r : Value), f.resultTypes[j]? = some t → (v.resultList f.resultTypes.size)[j]? = some r → Value.okWide P W' .any 0 t r) :
    s.post enc P f apart fresh handsOn again W args v W' := by
  have hlt : ∀ p ∈ before, p.block < W.heap.size := fun p hp => hW.lt p hp
  have hold : ∀ p ∈ before, (fun b => decide (b < W.heap.size)) p.block = true := fun p hp => by simpa using hlt p hp
  refine ⟨ds, gs, before, [], pa, pv, hW, hres _ _ _, hargs _ hold, hvars _ hold, World.keptBut_mono (fun p hp => ⟨hp, ?_⟩) (hb.frame (· ∈ before)), fun _ => ?_⟩
  · rw [hps, List.mem_append] at hp
    exact Or.inr hp
  · obtain ⟨_, _, _, _, _, hz, hn⟩ := hW
    refine ⟨hok, _, _, ([] ++ pa) ++ pv, ⟨[] ++ pa, pv, trodAll_append (hargs _ (fun _ _ => rfl)) (hres _ _ _), hvars _ (fun _ _ => rfl), rfl, ?_, ?_⟩, ?_⟩
    · intro b off hp
      have hin : MemPlace.cell b off ∈ before := by rw [hps]; simpa using hp
      rw [hb.frozen (hlt _ hin)]
      exact hz b off hin
    · intro ha
      have := hn ha
      rw [hps] at this
      simpa using this
    · intro p hp _
      rw [hps]
      simpa using hp

noncomputable def low : Nat := (World.holding Tryd.prog default ⟨#[], #[], []⟩).heap.size
def setVar (h : Array Obj) (g : Nat) (cs : Array Value) : Array Obj := h.modify g fun
  | .cells _ t frozen => .cells cs t frozen
  | o => o
/-- A flat reading's cells. -/
def cellsAt : Nat → DataW Unit → List Value
  | _, .lit (.int k z) => [.int k z]
  | n + 1, .agg l => (l.map (cellsAt n)).flatten
  | _, _ => []
noncomputable def errBlock (l : List UInt8) : Obj := .cells #[.string ⟨l.toArray⟩] 109
noncomputable def laidWorld (os : Os) : World :=
  let w0 := World.holding Tryd.prog os ⟨#[errBlock [97, 110, 32, 97, 114, 103, 117, 109, 101, 110, 116, 32, 116, 104, 97, 116, 32, 99, 97, 110, 39, 116, 32, 98, 101], errBlock [110, 111, 32, 119, 111, 114, 100], errBlock [118, 97, 108, 117, 101, 32, 111, 117, 116, 32, 111, 102, 32, 114, 97, 110, 103, 101], errBlock [105, 110, 118, 97, 108, 105, 100, 32, 115, 121, 110, 116, 97, 120]], #[], []⟩
  let ptr (i : Nat) : Array Value := #[.iface 107 (.pointer (some ⟨low + i, 0, none⟩))]
  let tab (d : DataW Unit) : Array Value := (cellsAt 3 d).toArray
  let h1 := setVar (setVar (setVar (setVar w0.heap 0 (ptr 0)) 1 (ptr 1)) 3 (ptr 2)) 2 (ptr 3)
  let h2 := setVar (setVar (setVar h1 8 (tab Rows.laid_math_bits_deBruijn32tab)) 9 (tab Rows.laid_math_bits_deBruijn64tab)) 5 (tab Rows.laid_internal_strconv_uint64pow10)
  let h3 := setVar (setVar h2 7 (tab Rows.laid_unicode_utf8_acceptRanges)) 6 (tab Rows.laid_unicode_utf8_first)
  { w0 with heap := h3 }
theorem laid_met (os : Os) (args : Array Value) : laidMet Tryd.prog laidList ((laidWorld os).forCall (fun _ _ => 0) ⟨#[], args, []⟩).memory :=
  laidMet_of_run' 8 (by kernel_rfl) (by kernel_rfl)
theorem laid_metH (os : Os) (args : Array Value) : laidMetH Tryd.prog laidList ((laidWorld os).forCall (fun _ _ => 0) ⟨#[], args, []⟩).memory := by
  have e : (laidList.filter fun x => x.2.handleName?.isNone) = laidList := by kernel_rfl
  have e' : (laidList.filter fun x => x.2.handleName?.isSome) = [] := by kernel_rfl
  refine laidMetH_iff.2 ⟨by rw [e]; exact laid_met os args, ?_⟩
  rw [e']
  intro x hx
  cases hx

end Go.Proofs.YtfkfleojdheffaaDoor
