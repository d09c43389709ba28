/- Core: PB, PC, CardA, PD. -/
import Derived.Test.YtaipogljokblkaaGreatDoorZ15
import Derived.Test.YtaipogljokblkaaGreatDoorZ10
import Derived.Test.YtaipogljokblkaaGreatDoorZ01
import Derived.Deep.Cut
import Derived.Test.YtaipogljokblkaaGreatDoorZ09
import Derived.Test.YtaipogljokblkaaGreatDoorCards
import Derived.Test.YtaipogljokblkaaGreatDoorTie
import Derived.WalkKit
import Derived.ProofKit
import Derived.OpenShut
import Derived.Below
import Derived.ChangeSame
import Derived.Deep.DeepHandedRow
import Derived.Stop.LaidErr
import Derived.LaidLaws
import Derived.ShutString
import Derived.LaidSub
import Derived.WideKeyArgs
import Derived.Carry
import Derived.Deep.Slices
set_option linter.all false
set_option maxRecDepth 100000
set_option maxHeartbeats 8000000
namespace Go.Proofs.YtaipogljokblkaaGreatDoor
open Go Go.RowKit
set_option linter.unusedSimpArgs false
set_option linter.unusedVariables false
set_option linter.unusedSectionVars false
def slotRow (s:GSlot):List Value:=[.int .i64 s.gen,.bool s.used]++rows Xf.l ((List.range 10).map fun (j:Nat)=>s.cell (j:Int))
theorem slotRow_len (s:GSlot):(slotRow s).length = 52:=by
 unfold slotRow
 rw [List.length_append,Yt wlen]
 simp
namespace Pl
def boardL (p:Pl):List Value:=rows Xf.l ((List.range p.nb).map fun (i:Nat)=>p.board (i:Int))
def slotsL (p:Pl):List Value:=rows slotRow ((List.range p.ns).map fun (i:Nat)=>p.slot ((i:Int)+1))
theorem boardL_len (p:Pl):p.boardL.length = p.nb*5:=by unfold boardL;rw [Yt wlen];simp
theorem slotsL_len (p:Pl):p.slotsL.length = p.ns*52:=by unfold slotsL;rw [Yt slotRow_len];simp
end Pl
theorem rows_at {α:Type} {f:α→List Value} {sz:Nat} (hf:∀ x,(f x).length = sz) (g:Nat→α) (n i:Nat) (hi:i < n):rows f ((List.range n).map g) = rows f ((List.range i).map g)++(f (g i)++rows f ((List.range (n - i - 1)).map fun j=>g (i+1+j))):=by
 have e:List.range n = List.range i++(i :: (List.range (n - i - 1)).map fun j=>i+1+j):=by
  apply List.ext_getElem
  ·simp;omega
  ·intro k h1 h2
   rw [List.getElem_range,List.getElem_append]
   split
   ·simp
   ·rename_i hk
    rw [List.length_range] at hk
    rw [List.getElem_cons]
    split
    ·rename_i hz;rw [List.length_range] at hz;omega
    ·rename_i hz
     rw [List.length_range] at hz
     rw [List.getElem_map,List.getElem_range,List.length_range];omega
 rw [e,List.map_append,rows_append,List.map_cons,rows_cons,List.map_map]
 rfl
theorem rows_set {α:Type} {f:α→List Value} {sz:Nat} (hf:∀ x,(f x).length = sz) (g g':Nat→α) (n i:Nat) (hi:i < n) (hg:∀ j,j≠i→g' j = g j) :
  rows f ((List.range n).map g') = (rows f ((List.range n).map g)).take (i*sz)++f (g' i)++(rows f ((List.range n).map g)).drop (i*sz+sz):=by
 rw [rows_at hf g n i hi,rows_at hf g' n i hi]
 have e1:(List.range i).map g' = (List.range i).map g:=List.map_congr_left fun j hj=>hg j (by have:=List.mem_range.1 hj;omega)
 have e2:((List.range (n - i - 1)).map fun j=>g' (i+1+j)) = ((List.range (n - i - 1)).map fun j=>g (i+1+j)):=List.map_congr_left fun j _=>hg _ (by omega)
 rw [e1,e2]
 have hl:(rows f ((List.range i).map g)).length = i*sz:=by rw [Yt hf];simp
 have hl2:=hf (g i)
 rw [show i*sz = (rows f ((List.range i).map g)).length from hl.symm,List.take_left',List.append_assoc]
 ·rw [show (rows f ((List.range i).map g)).length+sz = (rows f ((List.range i).map g)).length+(f (g i)).length from by rw [hl2],← List.drop_drop,List.drop_left',List.drop_left']
  ·rfl
  ·rfl
 ·rfl
structure PB (w:World) (g bb sb:Nat) (p:Pl) (fr:GSl) (fv:Value):Prop where
 bk:Bk w g 106 #[.slice (some ⟨bb,0,none⟩) p.nb p.nb,.slice (some ⟨sb,0,none⟩) p.ns p.ns,fr.v,.int .i64 p.steps,.int .i64 p.made,fv]
 bo:Bk w bb 51 p.boardL.toArray
 so:Bk w sb 149 p.slotsL.toArray
 fo:Own w 3 1 fr.v p.free.length (icells p.free)
 fau:if p.fault then ∃ T q,fv = .iface T (.pointer (some q)) else fv = .nilIface
 n1:g≠bb
 n2:g≠sb
 n3:bb≠sb
 f1:fr.v.ownBlock≠some g
 f2:fr.v.ownBlock≠some bb
 f3:fr.v.ownBlock≠some sb
 nbm:p.nb≤1000
 nsm:p.ns≤2000
def Yx (g bb sb:Nat) (fr:GSl):List Nat:=g :: bb :: sb :: fr.v.ownBlock.toList
section
variable {w w':World} {g bb sb:Nat} {p:Pl} {fr:GSl} {fv:Value}
theorem Xw {b:Nat}:b∈Yx g bb sb fr↔b = g∨b = bb∨b = sb∨fr.v.ownBlock = some b:=by
 simp only [Yx,List.mem_cons,Option.mem_toList]
theorem PB.lt (h:PB w g bb sb p fr fv):∀ b∈Yx g bb sb fr,b < w.heap.size:=fun b hb=>by
 rcases Xw.1 hb with rfl | rfl | rfl | h1
 ·exact h.bk.lt
 ·exact h.bo.lt
 ·exact h.so.lt
 ·exact h.fo.lt h1
theorem PB.chg {F:List Nat} (h:PB w g bb sb p fr fv) (hc:Chg F w w') (hF:∀ b∈Yx g bb sb fr,b ∉ F):PB w' g bb sb p fr fv :=
 ⟨h.bk.chg hc (hF g (Xw.2 (Or.inl rfl))),h.bo.chg hc (hF bb (Xw.2 (Or.inr (Or.inl rfl)))),h.so.chg hc (hF sb (Xw.2 (Or.inr (Or.inr (Or.inl rfl))))),h.fo.kept fun b hb=>hc.far b (h.fo.lt hb) (hF b (Xw.2 (Or.inr (Or.inr (Or.inr hb))))),h.fau,h.n1,h.n2,h.n3,h.f1,h.f2,h.f3,h.nbm,h.nsm⟩
theorem PB.below (h:PB w g bb sb p fr fv) (hb:Below w.heap.size w w'):PB w' g bb sb p fr fv:=h.chg (F:=[]) (Chg.of_below hb) (fun _ _=>List.not_mem_nil)
theorem PB.alloc (h:PB w g bb sb p fr fv) (o:Obj):PB (w.alloc o) g bb sb p fr fv:=h.below ((Below.refl _ _).alloc (Nat.le_refl _) _)
theorem PB.cells (h:PB w g bb sb p fr fv):w.cell? ⟨g,0,none⟩ = some (.slice (some ⟨bb,0,none⟩) p.nb p.nb)∧w.cell? ⟨g,1,none⟩ = some (.slice (some ⟨sb,0,none⟩) p.ns p.ns)∧w.cell? ⟨g,2,none⟩ = some fr.v∧w.cell? ⟨g,3,none⟩ = some (.int .i64 p.steps)∧w.cell? ⟨g,4,none⟩ = some (.int .i64 p.made)∧w.cell? ⟨g,5,none⟩ = some fv :=
 ⟨h.bk.cell 0,h.bk.cell 1,h.bk.cell 2,h.bk.cell 3,h.bk.cell 4,h.bk.cell 5⟩
theorem PB.board (h:PB w g bb sb p fr fv) {i:Nat} (hi:i < p.nb):w.rangeAt bb (i*5) (p.board i).l:=fun j u hu=>by
 rw [h.bo.cell,List.getElem?_toArray]
 have:=rows_get wlen ((List.range p.nb).map fun (i:Nat)=>p.board (i:Int)) i (by simpa using hi) j u (by simpa using hu)
 exact this
theorem PB.slot (h:PB w g bb sb p fr fv) {i:Nat} (hi:i < p.ns):w.rangeAt sb (i*52) (slotRow (p.slot ((i:Int)+1))):=fun j u hu=>by
 rw [h.so.cell,List.getElem?_toArray]
 have:=rows_get slotRow_len ((List.range p.ns).map fun (i:Nat)=>p.slot ((i:Int)+1)) i (by simpa using hi) j u (by simpa using hu)
 exact this
theorem PB.cell (h:PB w g bb sb p fr fv) {i k:Nat} (hi:i < p.ns) (hk:k < 10):w.rangeAt sb (i*52+2+k*5) ((p.slot ((i:Int)+1)).cell k).l:=fun j u hu=>by
 have h1:=rows_get wlen ((List.range 10).map fun (j:Nat)=>(p.slot ((i:Int)+1)).cell (j:Int)) k (by simpa using hk) j u (by simpa using hu)
 have h2:=h.slot hi (2+(k*5+j)) u (by
  unfold slotRow
  rw [List.getElem?_append_right (by simp)]
  simpa using h1)
 rw [show i*52+2+k*5+j = i*52+(2+(k*5+j)) from by omega]
 exact h2
end
theorem plotExists_any {w:World} {g bb sb:Nat} {p:Pl} {fr:GSl} {fv:Value} (h:PB w g bb sb p fr fv) (n:Int) :
  Calls Tryz.prog 53 #[.pointer (some ⟨g,0,none⟩),.int .i64 n] w (RetB (p.exists_ n) w):=by
 obtain ⟨_,c1,_,_,_,_⟩:=h.cells
 have hgl:=h.bk.lt
 clear h
 unfold Pl.exists_
 go_enter Tryz.func53,Tryz.ntmps53
 cases h1:decide (1≤n) with
 | true =>
  cases h2:decide (n≤(p.ns:Int)) with
  | true =>
   go_wp2_with fail
   go_ret
   exact ⟨rfl,vB⟩
  | false =>
   go_wp2_with fail
   go_ret
   exact ⟨rfl,vB⟩
 | false =>
  go_wp2_with fail
  go_ret
  exact ⟨rfl,vB⟩
structure ErrOk (w:World):Prop where
 arg:∃ T q,w.cell? ⟨0,0,none⟩ = some (.iface T (.pointer (some q)))
 nil_:∃ T q,w.cell? ⟨1,0,none⟩ = some (.iface T (.pointer (some q)))
 full:∃ T q,w.cell? ⟨2,0,none⟩ = some (.iface T (.pointer (some q)))
 state:∃ T q,w.cell? ⟨4,0,none⟩ = some (.iface T (.pointer (some q)))
 freed:∃ T q,w.cell? ⟨3,0,none⟩ = some (.iface T (.pointer (some q)))
 stale:∃ T q,w.cell? ⟨5,0,none⟩ = some (.iface T (.pointer (some q)))
 twice:∃ T q,w.cell? ⟨6,0,none⟩ = some (.iface T (.pointer (some q)))
 lt:7≤w.heap.size
def RetE (b:Bool) (w:World) (e:Ending) (w':World):Prop:=(if b then e = .returned .nilIface else ∃ T q,e = .returned (.iface T (.pointer (some q))))∧Below w.heap.size w w'
theorem plotHas_any {w:World} {g bb sb:Nat} {p:Pl} {fr:GSl} {fv:Value} (h:PB w g bb sb p fr fv) (a:Yj) :
  Calls Tryz.prog 32 #[.pointer (some ⟨g,0,none⟩),.agg a.l.toArray] w (RetB (p.has a) w):=by
 obtain ⟨c0,c1,_,_,_,_⟩:=h.cells
 have HH:=Lib.hid h
 have hgl:=h.bk.lt
 clear h
 obtain ⟨a0,a1,a2⟩:=a
 show Calls Tryz.prog 32 #[.pointer (some ⟨g,0,none⟩),.agg #[.int .i64 a0,.int .i64 a1,.int .i64 a2]] w _
 unfold Pl.has
 have hb0:Below w.heap.size w (w.alloc (.cells #[.int .i64 a0,.int .i64 a1,.int .i64 a2] 54)):=(Below.refl _ _).alloc (Nat.le_refl _) _
 have X0:Bk (w.alloc (.cells #[.int .i64 a0,.int .i64 a1,.int .i64 a2] 54)) w.heap.size 54 #[.int .i64 a0,.int .i64 a1,.int .i64 a2]:=Bk.at_ rfl
 cases h0:(a0==0) with
 | true =>
  cases h1:(a1==0) with
  | true =>
   cases h2:decide (0≤a2) with
   | true =>
    cases h3:decide (a2 < (p.nb:Int)) with
    | true =>
     go_enter Tryz.func32,Tryz.ntmps32
     go_wp2_with fail
     go_quiet (fail)
     go_wp2_with fail
     go_ret
     exact ⟨rfl,vB⟩
    | false =>
     go_enter Tryz.func32,Tryz.ntmps32
     go_wp2_with fail
     go_quiet (fail)
     go_wp2_with fail
     go_ret
     exact ⟨rfl,vB⟩
   | false =>
    go_enter Tryz.func32,Tryz.ntmps32
    go_wp2_with fail
    go_quiet (fail)
    go_wp2_with fail
    go_ret
    exact ⟨rfl,vB⟩
  | false =>
   go_enter Tryz.func32,Tryz.ntmps32
   go_wp2_with fail
   go_quiet (fail)
   go_wp2_with fail
   go_ret
   exact ⟨rfl,vB⟩
 | false =>
  have HE:=Lib.hid (plotExists_any (HH.out.below hb0) a0)
  cases he:p.exists_ a0 with
  | false =>
   go_enter Tryz.func32,Tryz.ntmps32
   go_wp2_with fail
   refine HE.out.mono ?_
   rintro e w1 ⟨rfl,hb1⟩
   rw [he]
   have x2:=(X0.belowAll hb1).cell 2
   simp at x2
   go_wp2_with fail
   go_ret
   exact ⟨rfl,hb0.trans (hb1.mono hb0.size)⟩
  | true =>
   cases h2:decide (0≤a2) with
   | false =>
    go_enter Tryz.func32,Tryz.ntmps32
    go_wp2_with fail
    refine HE.out.mono ?_
    rintro e w1 ⟨rfl,hb1⟩
    rw [he]
    have x2:=(X0.belowAll hb1).cell 2
    simp at x2
    go_wp2_with fail
    go_ret
    exact ⟨rfl,hb0.trans (hb1.mono hb0.size)⟩
   | true =>
    cases h3:decide (a2 < 10) with
    | true =>
     go_enter Tryz.func32,Tryz.ntmps32
     go_wp2_with fail
     refine HE.out.mono ?_
     rintro e w1 ⟨rfl,hb1⟩
     rw [he]
     have x2:=(X0.belowAll hb1).cell 2
     simp at x2
     go_wp2_with fail
     go_ret
     exact ⟨rfl,hb0.trans (hb1.mono hb0.size)⟩
    | false =>
     go_enter Tryz.func32,Tryz.ntmps32
     go_wp2_with fail
     refine HE.out.mono ?_
     rintro e w1 ⟨rfl,hb1⟩
     rw [he]
     have x2:=(X0.belowAll hb1).cell 2
     simp at x2
     go_wp2_with fail
     go_ret
     exact ⟨rfl,hb0.trans (hb1.mono hb0.size)⟩
end Go.Proofs.YtaipogljokblkaaGreatDoor
namespace Go.Proofs.YtaipogljokblkaaGreatDoor
open Go.ChangeShapes Go.WideShapes Go.ChangeAt Go.RowKit Go.Deep
theorem own:ownKnob Tryz.prog.godebug = none:=by kernel_rfl
theorem cellsErr:Tryz.prog.cellsOf 286 = 1:=by kernel_rfl
theorem cellsStr:Tryz.prog.cellsOf 9 = 1:=by kernel_rfl
theorem starErr: "*"++ "errors.errorString" = "*errors.errorString":=by decide
theorem rowErr (u:TypeId) (h:Tryz.prog.typeName? 3 u = some "*errors.errorString"):u = 228 :=
 typeName_ptr_named (nm:= "errors.errorString") (by rw [starErr];kernel_rfl) (by kernel_rfl) (by decide) u (by rw [starErr];exact h)
noncomputable def laidList:List (String × DataW Unit):=[("sexton/api.ErrArg",Rows.laid_sexton_api_ErrArg),("sexton/api.ErrNil",Rows.laid_sexton_api_ErrNil),("sexton/api.ErrFull",Rows.laid_sexton_api_ErrFull),("sexton/api.ErrState",Rows.laid_sexton_api_ErrState),("sexton/api.ErrFreed",Rows.laid_sexton_api_ErrFreed),("sexton/api.ErrStale",Rows.laid_sexton_api_ErrStale),("sexton/api.ErrTwice",Rows.laid_sexton_api_ErrTwice)]
theorem errHead {W:World} {nm:String} {l:List UInt8} {rest:List (String × DataW Unit)} {g:Nat} (h:laidMet Tryz.prog ((nm,.iface "*errors.errorString" (.ptr (.agg [.lit (.string l)]))) :: rest) W) (hg:Tryz.prog.globalNamed nm = some g) (ht:(Tryz.prog.globals[g]?).map (·.type) = some 28) :
  ∃ T q,W.cell? ⟨g,0,none⟩ = some (.iface T (.pointer (some q))):=by
 obtain ⟨a,s,hv,hc,_⟩:=laid_sentinel h hg ht Tryz.underlying28 rowErr Tryz.underlying228 Tryz.underlying286 rfl rfl Tryz.underlying9 cellsErr cellsStr
 exact ⟨_,a,by simpa using World.var?_cell hg hv 0⟩
theorem cell_lt {W:World} {g:Nat} {v:Value} (h:W.cell? ⟨g,0,none⟩ = some v):g < W.heap.size:=by
 unfold World.cell? at h
 rcases Nat.lt_or_ge g W.heap.size with hl | hl
 ·exact hl
 ·rw [Array.getElem?_eq_none hl] at h;cases h
theorem worldOf {W:World} (h:laidMet Tryz.prog laidList W):ErrOk W:=by
 have t0:=h
 unfold laidList at t0
 have eErrArg:=errHead t0 (g:=0) (by kernel_rfl) (by kernel_rfl)
 have t1:=t0.tail
 have eErrNil:=errHead t1 (g:=1) (by kernel_rfl) (by kernel_rfl)
 have t2:=t1.tail
 have eErrFull:=errHead t2 (g:=2) (by kernel_rfl) (by kernel_rfl)
 have t3:=t2.tail
 have eErrState:=errHead t3 (g:=4) (by kernel_rfl) (by kernel_rfl)
 have t4:=t3.tail
 have eErrFreed:=errHead t4 (g:=3) (by kernel_rfl) (by kernel_rfl)
 have t5:=t4.tail
 have eErrStale:=errHead t5 (g:=5) (by kernel_rfl) (by kernel_rfl)
 have t6:=t5.tail
 have eErrTwice:=errHead t6 (g:=6) (by kernel_rfl) (by kernel_rfl)
 have e8:=eErrTwice
 obtain ⟨_,_,hlast⟩:=e8
 exact ⟨eErrArg,eErrNil,eErrFull,eErrState,eErrFreed,eErrStale,eErrTwice,cell_lt hlast⟩
theorem lastStep {H:Type} {enc:TypeId × Value→H} {P:Program} {f:Func} {s:ChangeSpec} {apart fresh handsOn again:Bool} {W W':World} {args:Array Value} {v:Value} {ds gs:List (DataW H)} {before pa pv:List MemPlace}
  (hW:DataW.Whole enc P f.params.toList s.vars apart W args.toList ds gs before)
  (hres:∀ (b:Nat) (sp:Nat→Bool) (hd:Bool),DataW.TrodAll enc P W' b sp hd f.resultTypes.toList (v.resultList f.resultTypes.size) (s.fn H (ds++gs)).results [])
  (hargs:∀ sp:Nat→Bool,(∀ p∈before,sp p.block = true)→DataW.TrodAll enc P W' 0 sp true f.params.toList args.toList (s.fn H (ds++gs)).args pa)
  (hvars:∀ sp:Nat→Bool,(∀ p∈before,sp p.block = true)→DataW.TrodVars enc P W' sp s.vars (s.fn H (ds++gs)).vars pv)
  (hps:before = pa++pv) (hb:Below W.heap.size W W')
  (hok:∀ (j:Nat) (t:TypeId) (r:Value),f.resultTypes[j]? = some t→(v.resultList f.resultTypes.size)[j]? = some r→Value.okWide P W' .any 0 t r) :
  s.post enc P f apart fresh handsOn again W args v W':=by
 have hlt:∀ p∈before,p.block < W.heap.size:=fun p hp=>hW.lt p hp
 have hold:∀ p∈before,(fun b=>decide (b < W.heap.size)) p.block = true:=fun p hp=>by simpa using hlt p hp
 refine ⟨ds,gs,before,[],pa,pv,hW,hres _ _ _,hargs _ hold,hvars _ hold,World.keptBut_mono (fun p hp=>⟨hp,?_⟩) (hb.frame (·∈before)),fun _=>?_⟩
 ·rw [hps,List.mem_append] at hp
  exact Or.inr hp
 ·obtain ⟨_,_,_,_,_,hz,hn⟩:=hW
  refine ⟨hok,_,_,([]++pa)++pv,⟨[]++pa,pv,trodAll_append (hargs _ (fun _ _=>rfl)) (hres _ _ _),hvars _ (fun _ _=>rfl),rfl,?_,?_⟩,?_⟩
  ·intro b off hp
   have hin:MemPlace.cell b off∈before:=by rw [hps];simpa using hp
   rw [hb.frozen (hlt _ hin)]
   exact hz b off hin
  ·intro ha
   have:=hn ha
   rw [hps] at this
   simpa using this
  ·intro p hp _
   rw [hps]
   simpa using hp
noncomputable def low:Nat:=(World.holding Tryz.prog default ⟨#[],#[],[]⟩).heap.size
def setVar (h:Array Obj) (g:Nat) (cs:Array Value):Array Obj:=h.modify g fun
 | .cells _ t frozen=>.cells cs t frozen
 | o=>o
noncomputable def errBlock (l:List UInt8):Obj:=.cells #[.string ⟨l.toArray⟩] 286
noncomputable def laidWorld (os:Os):World :=
 let w0:=World.holding Tryz.prog os ⟨#[errBlock [97,110,32,97,114,103,117,109,101,110,116,32,116,104,97,116,32,99,97,110,39,116,32,98,101],errBlock [97,32,110,105,108,32,116,104,105,110,103],errBlock [110,111,32,114,111,111,109],errBlock [110,111,116,32,110,111,119],errBlock [97,32,115,108,111,116,32,116,104,97,116,32,105,115,32,102,114,101,101],errBlock [97,32,115,108,111,116,32,116,104,97,116,32,105,115,32,97,110,111,116,104,101,114,32,111,110,101,32,110,111,119],errBlock [100,111,110,101,32,97,108,114,101,97,100,121]],#[],[]⟩
 let ptr (i:Nat):Array Value:=#[.iface 228 (.pointer (some ⟨low+i,0,none⟩))]
 { w0 with heap:=setVar (setVar (setVar (setVar (setVar (setVar (setVar (w0.heap) 0 (ptr 0)) 1 (ptr 1)) 2 (ptr 2)) 4 (ptr 3)) 3 (ptr 4)) 5 (ptr 5)) 6 (ptr 6) }
theorem laid_met (os:Os) (args:Array Value):laidMet Tryz.prog laidList ((laidWorld os).forCall (fun _ _=>0) ⟨#[],args,[]⟩).memory :=
 laidMet_of_run' 8 (by kernel_rfl) (by kernel_rfl)
theorem laidOut:laidOutB Tryz.prog = true:=by kernel_rfl
section
variable {H:Type} {enc:TypeId × Value→H}
theorem trodAll_stays {P:Program} (hl:laidOutB P = true) {W W':World} {sp:Nat→Bool} (hb:Below W.heap.size W W') :
  ∀ {ts:List TypeId} {vs:List Value} {ds:List (DataW H)} {ps:List MemPlace},(∀ t∈ts,P.readableRec t = true∧t < P.types.size)→DataW.TrodAll enc P W 0 (fun _=>true) true ts vs ds ps →
   (∀ x∈ps,x.block < W.heap.size)→(∀ x∈ps,sp x.block = true)→DataW.TrodAll enc P W' 0 sp true ts vs ds ps
 | [],[],[],_,_,h,_,_=>h
 | [],[],_ :: _,_,_,h,_,_=>h.elim
 | [],_ :: _,_,_,_,h,_,_=>h.elim
 | _ :: _,[],_,_,_,h,_,_=>h.elim
 | _ :: _,_ :: _,[],_,_,h,_,_=>h.elim
 | t :: ts,v :: vs,d :: ds,ps,hr,h,hlt,hsp=>by
  obtain ⟨p,q,h1,h2,rfl⟩:=h
  refine ⟨p,q,?_,trodAll_stays hl hb (fun t ht=>hr t (by simp [ht])) h2 (fun x hx=>hlt x (by simp [hx])) (fun x hx=>hsp x (by simp [hx])),rfl⟩
  exact WideElems.Trod_stays hl (hr t (by simp)).1 (hr t (by simp)).2 h1 (fun x hx=>hb.same (hlt x (by simp [hx]))) (fun x hx=>hsp x (by simp [hx]))
end
theorem ErrOk.below {w w':World} (h:ErrOk w) (hb:Below w.heap.size w w'):ErrOk w':=by
 obtain ⟨h1,h2,h3,h4,h5,h6,h7,h8⟩:=h
 have k:∀ {b:Nat},(∃ T q,w.cell? ⟨b,0,none⟩ = some (.iface T (.pointer (some q))))→∃ T q,w'.cell? ⟨b,0,none⟩ = some (.iface T (.pointer (some q))):=fun {b} ⟨T,q,e⟩=>⟨T,q,by rw [(bcell hb).1 b 0 (World.block_lt_of_cell? w _ e)];exact e⟩
 exact ⟨k h1,k h2,k h3,k h4,k h5,k h6,k h7,Nat.le_trans h8 hb.size⟩
theorem exists_nat {p:Pl} {n:Int} (h:p.exists_ n = true):∃ i:Nat,n = (i:Int)+1∧i < p.ns:=by
 unfold Pl.exists_ at h
 simp at h
 exact ⟨(n - 1).toNat,by omega,by omega⟩
theorem PB.two {w:World} {g bb sb:Nat} {p:Pl} {fr:GSl} {fv:Value} (h:PB w g bb sb p fr fv) {i:Nat} (hi:i < p.ns):w.cell? ⟨sb,i*52,none⟩ = some (.int .i64 (p.slot ((i:Int)+1)).gen)∧w.cell? ⟨sb,i*52+1,none⟩ = some (.bool (p.slot ((i:Int)+1)).used) :=
 ⟨h.slot hi 0 _ rfl,h.slot hi 1 _ rfl⟩
theorem plotState_any {w:World} {g bb sb:Nat} {p:Pl} {fr:GSl} {fv:Value} (h:PB w g bb sb p fr fv) (he:ErrOk w) (n gen:Int) (hn:n = 0∨p.exists_ n = true) (T:TypeId) (q:Addr) :
  Calls Tryz.prog 33 #[.pointer (some ⟨g,0,none⟩),.int .i64 n,.int .i64 gen,.iface T (.pointer (some q))] w (RetE (p.live n gen) w):=by
 obtain ⟨_,c1,_,_,_,_⟩:=h.cells
 obtain ⟨T2,q2,es⟩:=he.stale
 have hgl:=h.bk.lt
 have hns:=h.nsm
 unfold Pl.live
 rcases hn with rfl | hn
 ·clear h he
  go_enter Tryz.func33,Tryz.ntmps33
  go_wp2_with fail
  go_ret
  exact ⟨rfl,vB⟩
 ·obtain ⟨i,rfl,hi⟩:=exists_nat hn
  obtain ⟨q0,q1⟩:=h.two hi
  have hnz:(((i:Int)+1)==0) = false:=by simp;omega
  rw [hnz]
  clear h he hn
  cases hu:(p.slot ((i:Int)+1)).used with
  | false =>
   rw [hu] at q1
   go_enter Tryz.func33,Tryz.ntmps33
   go_wp2_with fail
   go_ret
   exact ⟨⟨_,_,rfl⟩,vB⟩
  | true =>
   rw [hu] at q1
   cases hg:((p.slot ((i:Int)+1)).gen==gen) with
   | true =>
    have hg2:((p.slot ((i:Int)+1)).gen != gen) = false:=by simp only [bne,hg,Bool.not_true]
    go_enter Tryz.func33,Tryz.ntmps33
    go_wp2_with fail
    go_ret
    exact ⟨rfl,vB⟩
   | false =>
    have hg2:((p.slot ((i:Int)+1)).gen != gen) = true:=by simp only [bne,hg,Bool.not_false]
    go_enter Tryz.func33,Tryz.ntmps33
    go_wp2_with fail
    go_ret
    exact ⟨⟨_,_,rfl⟩,vB⟩
end Go.Proofs.YtaipogljokblkaaGreatDoor
