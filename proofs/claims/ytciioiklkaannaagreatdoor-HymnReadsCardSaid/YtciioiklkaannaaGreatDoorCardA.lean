/- What the cards of this seat share: the listed variables' cells; a world that holds them; the row's last step. -/
import Derived.Test.YtciioiklkaannaaGreatDoorCards
import Derived.Test.YtciioiklkaannaaGreatDoorTie
import Derived.Test.YtciioiklkaannaaGreatDoorGw
import Derived.WalkKit
import Derived.ProofKit
import Derived.OpenShut
import Derived.Below
import Derived.ChangeSame
import Derived.Deep.DeepHandedRow
import Derived.Stop.LaidErr
import Derived.LaidLaws
import Derived.ShutString
import Derived.Lib.LaidTab
import Derived.Shelf.Vars
import Derived.LaidSub
namespace Go.Proofs.YtciioiklkaannaaGreatDoor
open Go.ChangeShapes Go.WideShapes Go.ChangeAt Go.RowKit
set_option linter.unusedSimpArgs false
set_option linter.unusedVariables false
set_option linter.unusedSectionVars false

theorem own : ownKnob Tryz.prog.godebug = none := by kernel_rfl
theorem gErr : Tryz.prog.globalNamed "sexton/api.ErrArg" = some 0 := by kernel_rfl
theorem gErrType : (Tryz.prog.globals[0]?).map (·.type) = some 32 := by kernel_rfl
theorem gWord : Tryz.prog.globalNamed "sexton/api.ErrWord" = some 1 := by kernel_rfl
theorem gWordType : (Tryz.prog.globals[1]?).map (·.type) = some 32 := by kernel_rfl
theorem gLong : Tryz.prog.globalNamed "sexton/api.ErrLong" = some 2 := by kernel_rfl
theorem gLongType : (Tryz.prog.globals[2]?).map (·.type) = some 32 := by kernel_rfl
theorem gPow : Tryz.prog.globalNamed "internal/strconv.uint64pow10" = some 6 := by kernel_rfl
theorem gPowType : (Tryz.prog.globals[6]?).map (·.type) = some 188 := by kernel_rfl
theorem gSt : Tryz.prog.globalNamed "sexton/hymn.structures" = some 3 := by kernel_rfl
theorem gStType : (Tryz.prog.globals[3]?).map (·.type) = some 60 := by kernel_rfl
theorem gEn : Tryz.prog.globalNamed "sexton/hymn.engines" = some 4 := by kernel_rfl
theorem gEnType : (Tryz.prog.globals[4]?).map (·.type) = some 60 := by kernel_rfl
theorem gOp : Tryz.prog.globalNamed "sexton/hymn.operations" = some 5 := by kernel_rfl
theorem gOpType : (Tryz.prog.globals[5]?).map (·.type) = some 70 := by kernel_rfl
theorem cells5 : Tryz.prog.cellsOf 60 = 5 := by kernel_rfl
theorem cells8 : Tryz.prog.cellsOf 70 = 8 := by kernel_rfl
theorem cellsErr : Tryz.prog.cellsOf 238 = 1 := by kernel_rfl
theorem cellsStr : Tryz.prog.cellsOf 9 = 1 := by kernel_rfl
theorem cellsPow : Tryz.prog.cellsOf 188 = 20 := by kernel_rfl
theorem cellsU64 : Tryz.prog.cellsOf 170 = 1 := by kernel_rfl
theorem starErr : "*" ++ "errors.errorString" = "*errors.errorString" := by decide
theorem rowErr (u : TypeId) (h : Tryz.prog.typeName? 3 u = some "*errors.errorString") : u = 203 :=
  typeName_ptr_named (nm := "errors.errorString") (by rw [starErr]; kernel_rfl) (by kernel_rfl) (by decide) u (by rw [starErr]; exact h)
theorem pow_data : (Rows.laid_internal_strconv_uint64pow10 : DataW Unit) = Lib.tabData .u64 Lib.pow10Tab := by kernel_rfl

def strData {H : Type} (l : List (List UInt8)) : DataW H := .agg (l.map fun s => .lit (.string s))
theorem cells_of_strs {H : Type} {enc : TypeId × Value → H} {P : Program} {w : World} {base : Nat} {sp : Nat → Bool} {held : Bool} {fuel : Nat} {t e : TypeId} {n : Nat} {cs : List Value} {l : List (List UInt8)} {p : List MemPlace}
    (ht : P.underlying t = some (.array n e)) (he : P.underlying e = some .string) (hce : P.cellsOf e = 1)
    (h : DataW.trod enc P w base sp held fuel t cs = some (strData l, p)) : ∀ (i : Nat) (s : List UInt8), l[i]? = some s → cs[i]? = some (Value.string (bs s)) := by
  obtain ⟨ys, m, _, hx, _, hlen, hg⟩ := DataW.trod_array ht h
  have hys : ys.map (·.1) = l.map fun s => (DataW.lit (.string s) : DataW H) := by
    have := congrArg Prod.fst hx
    simpa [strData] using this.symm
  intro i s hs
  have hil : i < l.length := (List.getElem?_eq_some_iff.1 hs).1
  have hyl : ys.length = l.length := by simpa using congrArg List.length hys
  have h0 := hg i (by omega)
  rw [hce, Nat.mul_one, List.getElem?_eq_getElem (by omega)] at h0
  obtain ⟨z, hc, hy, _⟩ := DataW.trod_string he h0
  have h1 : cs[i]? = some (.string z) := by
    have := congrArg (·[0]?) hc
    simpa [List.getElem?_take, List.getElem?_drop] using this
  have h2 : (ys.map (·.1))[i]? = some (DataW.lit (.string z.data.toList) : DataW H) := by
    rw [List.getElem?_map, List.getElem?_eq_getElem (by omega), hy]; rfl
  rw [hys, List.getElem?_map, hs] at h2
  simp only [Option.map_some, Option.some.injEq, DataW.lit.injEq, Lit.string.injEq] at h2
  rw [h1, h2, s_bs]
theorem strs_head {P : Program} {W : World} {name : String} {l : List (List UInt8)} {rest : List (String × DataW Unit)} {g : Nat} {t e : TypeId} {n : Nat}
    (hg : P.globalNamed name = some g) (hty : (P.globals[g]?).map (·.type) = some t) (ht : P.underlying t = some (.array n e)) (he : P.underlying e = some .string) (hce : P.cellsOf e = 1)
    (h : laidMet P ((name, strData l) :: rest) W) : ∀ j u, (wordCells l)[j]? = some u → W.cell? ⟨g, j, none⟩ = some u := by
  obtain ⟨ps, ⟨g', t', cs, fuel, p, q, hg', ht', hvar, hd, _, _⟩, _⟩ := h
  obtain rfl := Option.some.inj (hg.symm.trans hg')
  obtain rfl := Option.some.inj (hty.symm.trans ht')
  intro j u hu
  simp only [wordCells, List.getElem?_map, Option.map_eq_some_iff] at hu
  obtain ⟨s, hs, rfl⟩ := hu
  have h1 := cells_of_strs ht he hce hd j s hs
  have h2 := World.var?_cell hg hvar j
  rw [h2]
  simpa using h1
theorem st_data : (Rows.laid_sexton_hymn_structures : DataW Unit) = strData stWords := by kernel_rfl
theorem en_data : (Rows.laid_sexton_hymn_engines : DataW Unit) = strData enWords := by kernel_rfl
theorem op_data : (Rows.laid_sexton_hymn_operations : DataW Unit) = strData opWords := by kernel_rfl

noncomputable def laidList : List (String × DataW Unit) := [("math/bits.deBruijn32tab", Rows.laid_math_bits_deBruijn32tab), ("math/bits.deBruijn64tab", Rows.laid_math_bits_deBruijn64tab), ("internal/strconv.uint64pow10", Rows.laid_internal_strconv_uint64pow10), ("unicode/utf8.acceptRanges", Rows.laid_unicode_utf8_acceptRanges), ("sexton/api.ErrArg", Rows.laid_sexton_api_ErrArg), ("sexton/api.ErrLong", Rows.laid_sexton_api_ErrLong), ("sexton/api.ErrWord", Rows.laid_sexton_api_ErrWord), ("sexton/hymn.structures", Rows.laid_sexton_hymn_structures), ("sexton/hymn.engines", Rows.laid_sexton_hymn_engines), ("sexton/hymn.operations", Rows.laid_sexton_hymn_operations), ("unicode/utf8.first", Rows.laid_unicode_utf8_first)]

theorem listed (W : World) (h : laidMetH Tryz.prog laidList W) : laidMet Tryz.prog laidList W := by
  have hm := (laidMetH_iff.1 h).1
  have e : (laidList.filter fun x => x.2.handleName?.isNone) = laidList := by kernel_rfl
  rwa [e] at hm

/-- What the row's list gives, and the world's shape. -/
theorem worldOf {W : World} (h0 : laidMetH Tryz.prog laidList W) (hsh : W.ShapedOpen Tryz.prog) : ∃ a b c m, GH W a b c m := by
  have h := listed W h0
  unfold laidList at h
  rw [pow_data, st_data, en_data, op_data] at h
  have t2 := h.tail.tail
  have t4 := t2.tail.tail
  have t5 := t4.tail
  have t6 := t5.tail
  have t7 := t6.tail
  have t8 := t7.tail
  have t9 := t8.tail
  have hp := Lib.tabIs_of_head gPow gPowType Tryz.underlying188 Tryz.underlying170 cellsU64 cellsPow t2
  obtain ⟨a, _, ha, _⟩ := laid_sentinel t4 gErr gErrType Tryz.underlying32 rowErr Tryz.underlying203 Tryz.underlying238 rfl rfl Tryz.underlying9 cellsErr cellsStr
  obtain ⟨c, _, hc, _⟩ := laid_sentinel t5 gLong gLongType Tryz.underlying32 rowErr Tryz.underlying203 Tryz.underlying238 rfl rfl Tryz.underlying9 cellsErr cellsStr
  obtain ⟨b, _, hb, _⟩ := laid_sentinel t6 gWord gWordType Tryz.underlying32 rowErr Tryz.underlying203 Tryz.underlying238 rfl rfl Tryz.underlying9 cellsErr cellsStr
  have hst := strs_head gSt gStType Tryz.underlying60 Tryz.underlying9 cellsStr t7
  have hen := strs_head gEn gEnType Tryz.underlying60 Tryz.underlying9 cellsStr t8
  have hop := strs_head gOp gOpType Tryz.underlying70 Tryz.underlying9 cellsStr t9
  obtain ⟨m, hm⟩ := cell_of_shapedOpen_int (P := Tryz.prog) (g := 7) (t := 3) (zero := #[.int .i64 0]) hsh (of_decide_eq_true (by kernel_rfl)) (by kernel_rfl) rfl (by kernel_rfl) (by kernel_rfl) Tryz.underlying3
  exact ⟨a, b, c, m, by simpa using World.var?_cell gErr ha 0, by simpa using World.var?_cell gWord hb 0, by simpa using World.var?_cell gLong hc 0, hp, hop, hst, hen, hm⟩

theorem le_len {n : Nat} (h : n ≤ maxLen) : n ≤ 9223372036854775807 := by simp only [maxLen] at h; omega

/-- The row's last step where of the world behind the call 'Below' alone is known. -/
theorem lastStep {H : Type} {enc : TypeId × Value → H} {P : Program} {f : Func} {s : ChangeSpec} {apart fresh handsOn again : Bool} {W W' : World} {args : Array Value} {v : Value} {ds gs : List (DataW H)} {before pa pv : List MemPlace}
    (hW : DataW.Whole enc P f.params.toList s.vars apart W args.toList ds gs before)
    (hres : ∀ (b : Nat) (sp : Nat → Bool) (hd : Bool), DataW.TrodAll enc P W' b sp hd f.resultTypes.toList (v.resultList f.resultTypes.size) (s.fn H (ds ++ gs)).results [])
    (hargs : ∀ sp : Nat → Bool, (∀ p ∈ before, sp p.block = true) → DataW.TrodAll enc P W' 0 sp true f.params.toList args.toList (s.fn H (ds ++ gs)).args pa)
    (hvars : ∀ sp : Nat → Bool, (∀ p ∈ before, sp p.block = true) → DataW.TrodVars enc P W' sp s.vars (s.fn H (ds ++ gs)).vars pv)
    (hps : before = pa ++ pv) (hb : Below W.heap.size W W')
    (hok : ∀ (j : Nat) (t : TypeId) (r : Value), f.resultTypes[j]? = some t → (v.resultList f.resultTypes.size)[j]? = some r → Value.okWide P W' .any 0 t r) :
    s.post enc P f apart fresh handsOn again W args v W' := by
  have hlt : ∀ p ∈ before, p.block < W.heap.size := fun p hp => hW.lt p hp
  have hold : ∀ p ∈ before, (fun b => decide (b < W.heap.size)) p.block = true := fun p hp => by simpa using hlt p hp
  refine ⟨ds, gs, before, [], pa, pv, hW, hres _ _ _, hargs _ hold, hvars _ hold, World.keptBut_mono (fun p hp => ⟨hp, ?_⟩) (hb.frame (· ∈ before)), fun _ => ?_⟩
  · rw [hps, List.mem_append] at hp
    exact Or.inr hp
  · obtain ⟨_, _, _, _, _, hz, hn⟩ := hW
    refine ⟨hok, _, _, ([] ++ pa) ++ pv, ⟨[] ++ pa, pv, trodAll_append (hargs _ (fun _ _ => rfl)) (hres _ _ _), hvars _ (fun _ _ => rfl), rfl, ?_, ?_⟩, ?_⟩
    · intro b off hp
      have hin : MemPlace.cell b off ∈ before := by rw [hps]; simpa using hp
      rw [hb.frozen (hlt _ hin)]
      exact hz b off hin
    · intro ha
      have := hn ha
      rw [hps] at this
      simpa using this
    · intro p hp _
      rw [hps]
      simpa using hp

noncomputable def low : Nat := (World.holding Tryz.prog default ⟨#[], #[], []⟩).heap.size
def setVar (h : Array Obj) (g : Nat) (cs : Array Value) : Array Obj := h.modify g fun
  | .cells _ t frozen => .cells cs t frozen
  | o => o
/-- A flat reading's cells. -/
def cellsAt : Nat → DataW Unit → List Value
  | _, .lit (.int k z) => [.int k z]
  | n + 1, .agg l => (l.map (cellsAt n)).flatten
  | _, _ => []
noncomputable def errBlock (l : List UInt8) : Obj := .cells #[.string ⟨l.toArray⟩] 238
noncomputable def laidWorld (os : Os) : World :=
  let w0 := World.holding Tryz.prog os ⟨#[errBlock [97, 110, 32, 97, 114, 103, 117, 109, 101, 110, 116, 32, 116, 104, 97, 116, 32, 99, 97, 110, 39, 116, 32, 98, 101], errBlock [110, 111, 32, 119, 111, 114, 100], errBlock [116, 111, 111, 32, 108, 111, 110, 103]], #[], []⟩
  let ptr (i : Nat) : Array Value := #[.iface 203 (.pointer (some ⟨low + i, 0, none⟩))]
  let tab (d : DataW Unit) : Array Value := (cellsAt 3 d).toArray
  let h1 := setVar (setVar (setVar w0.heap 0 (ptr 0)) 1 (ptr 1)) 2 (ptr 2)
  let h2 := setVar (setVar (setVar h1 10 (tab Rows.laid_math_bits_deBruijn32tab)) 11 (tab Rows.laid_math_bits_deBruijn64tab)) 6 (tab Rows.laid_internal_strconv_uint64pow10)
  let h3 := setVar (setVar h2 9 (tab Rows.laid_unicode_utf8_acceptRanges)) 8 (tab Rows.laid_unicode_utf8_first)
  let h4 := setVar (setVar (setVar h3 3 (wordCells stWords).toArray) 4 (wordCells enWords).toArray) 5 (wordCells opWords).toArray
  { w0 with heap := h4 }
theorem laid_met (os : Os) (args : Array Value) : laidMet Tryz.prog laidList ((laidWorld os).forCall (fun _ _ => 0) ⟨#[], args, []⟩).memory :=
  laidMet_of_run' 8 (by kernel_rfl) (by kernel_rfl)
theorem laid_metH (os : Os) (args : Array Value) : laidMetH Tryz.prog laidList ((laidWorld os).forCall (fun _ _ => 0) ⟨#[], args, []⟩).memory := by
  have e : (laidList.filter fun x => x.2.handleName?.isNone) = laidList := by kernel_rfl
  have e' : (laidList.filter fun x => x.2.handleName?.isSome) = [] := by kernel_rfl
  refine laidMetH_iff.2 ⟨by rw [e]; exact laid_met os args, ?_⟩
  rw [e']
  intro x hx
  cases hx

end Go.Proofs.YtciioiklkaannaaGreatDoor
