/- Core: Reg, Reg2, Base, Mem, Store, Run, Sto, FnA, Qlr. -/
import Derived.WalkKit
import Derived.OrdersHeld
import Derived.Deep.RegionHeld
import Derived.KernelRfl
import Derived.BigQuiet
import Derived.Outline
import Derived.WalkSpells
import Derived.WalkLawsBesides
import Derived.Lib.Hide
import Derived.Deep.Draws
import Derived.Laws.OwnMore
import Derived.Deep.AppendLies
import Derived.Laws.Rows
import Derived.OwnWalk
import Derived.Deep.MidRow
import Derived.Deep.AppendSrc
import Derived.Laws.CopyOwn
import Derived.Lib.SliceRun
import Derived.IntWalk
import Derived.Test.YtaipogljokblkaaGreatDoorRows
import Derived.Deep.QuietTactic
import Derived.Deep.RegionHeld3
import Derived.Handy
set_option linter.all false
set_option maxRecDepth 100000
set_option maxHeartbeats 8000000
namespace Go.Proofs.YtaipogljokblkaaGreatDoor
open Go Go.RowKit
set_option linter.unusedSimpArgs false
set_option linter.unusedVariables false
set_option linter.unusedSectionVars false
section
variable {P:Program} {ops:Array Oper} {Q:Exit→Act→World→Prop} {md:Region.Mode} {S:World→Prop} {n:Nat}
def wpT (P:Program) (md:Region.Mode) (ops:Array Oper) (Q:Exit→Act→World→Prop) (S:World→Prop) (n:Nat):Nat→Array Bool→Act→World→Prop
 | 0,listed,a,w=>Region.ready md ops listed = []∧Q .normal a w
 | fuel+1,listed,a,w=>(Region.ready md ops listed = []→Q .normal a w) ∧
   ∀ i∈Region.ready md ops listed,wpOp P ops Q i (fun a' w'=>(i < n→S w')∧wpT P md ops Q S n fuel (listed.setIfInBounds i true) a' w') a w
theorem wpAny_of_T:∀ (fuel:Nat) (listed:Array Bool) (a:Act) (w:World),wpT P md ops Q S n fuel listed a w→wpAny P md ops Q fuel listed a w
 | 0,_,_,_,h=>h
 | fuel+1,_,_,_,h=>⟨h.1,fun i hi=>wpOp_mono (fun a' w' h'=>wpAny_of_T fuel _ a' w' h'.2) (h.2 i hi)⟩
def sinkFrom (md:Region.Mode) (ops:Array Oper) (n:Nat):Bool :=
 (List.range ops.size).all fun j=>decide (j < n) || (List.range n).all fun i=>((ops[j]?).map fun o=>o.after.any fun e=>Region.binds md e && e.on==i).getD false
theorem sink_spec (h:sinkFrom md ops n = true) {j i:Nat} {oj:Oper} (hj:ops[j]? = some oj) (hjn:n≤j) (hi:i < n):∃ e∈oj.after,Region.binds md e = true∧e.on = i:=by
 have hlt:j < ops.size:=by
  rcases Nat.lt_or_ge j ops.size with h' | h'
  ·exact h'
  ·rw [Array.getElem?_eq_none h'] at hj;cases hj
 have h1:=List.all_eq_true.1 h j (List.mem_range.2 hlt)
 rw [Bool.or_eq_true] at h1
 rcases h1 with h1 | h1
 ·have:=of_decide_eq_true h1;omega
 ·have h2:=List.all_eq_true.1 h1 i (List.mem_range.2 hi)
  rw [hj] at h2
  simp only [Option.map_some,Option.getD_some] at h2
  rw [Array.any_eq_true'] at h2
  obtain ⟨e,he,hb⟩:=h2
  rw [Bool.and_eq_true] at hb
  exact ⟨e,he,hb.1,by simpa using hb.2⟩
theorem unlisted_of_ready {i:Nat} {listed:Array Bool} (hr:i∈Region.ready md ops listed):listed.getD i false = false:=by
 have h0:=(mem_ready.1 hr).1
 rcases Nat.lt_or_ge i listed.size with h' | h'
 ·simp [h'] at h0 ⊢;exact h0
 ·simp [Array.getElem?_eq_none h']
theorem wpT_first {i:Nat} {oi:Oper} {v:Value} (hs:sinkFrom md ops n = true) (hin:i < n) (hi:ops[i]? = some oi)
  (hsel:∀ (j:Nat) (o:Oper) cs b,ops[j]? = some o→o.op≠.select cs b) (hQ:∀ c a w,Q (.panic c) (a.put oi.dst v) w→Q (.panic c) a w) :
  ∀ (fuel:Nat) (listed:Array Bool) (a:Act) (w:World),
   (∀ j oj,ops[j]? = some oj→j≠i→listed.getD j true = false→(∀ e∈oj.after,Region.binds md e = true→e.on≠i)→oi.apart ops oj = true) →
   i∈Region.ready md ops listed→YieldsIf P ops S oi v a→S w →
   wpT P md ops Q S n fuel (listed.setIfInBounds i true) (a.put oi.dst v) w→wpT P md ops Q S n (fuel+1) listed a w:=by
 intro fuel
 induction fuel with
 | zero =>
  intro listed a w _ hr hy hS H
  refine ⟨fun h=>(by rw [h] at hr;cases hr),fun j hj=>?_⟩
  by_cases hji:j = i
  ·subst hji;exact hy.wpOp hi hS ⟨fun _=>hS,H⟩
  ·have:=ready_mono hj hji
   rw [H.1] at this
   cases this
 | succ fuel ih =>
  intro listed a w hfree hr hy hS H
  refine ⟨fun h=>(by rw [h] at hr;cases hr),fun j hj=>?_⟩
  by_cases hji:j = i
  ·subst hji;exact hy.wpOp hi hS ⟨fun _=>hS,H⟩
  ·have h1:=H.2 j (ready_mono hj hji)
   obtain ⟨hjun,oj,hoj,hall⟩:=mem_ready.1 hj
   have hun:=unlisted_of_ready hr
   have hnot:∀ e∈oj.after,Region.binds md e = true→e.on≠i:=fun e he hb heq=>by
    have h2:=hall e he hb
    rw [heq,hun] at h2
    cases h2
   have hjn:j < n:=by
    rcases Nat.lt_or_ge j n with h' | h'
    ·exact h'
    ·obtain ⟨e,he,hb,heq⟩:=sink_spec hs hoj h' hin
     exact absurd heq (hnot e he hb)
   have h2:=wpOp_putIf hoj (hfree j oj hoj hji hjun hnot) (fun cs b=>hsel i oi cs b hi) (fun cs b=>hsel j oj cs b hoj) hQ hy h1
   have hfree':∀ k ok,ops[k]? = some ok→k≠i→(listed.setIfInBounds j true).getD k true = false →
     (∀ e∈ok.after,Region.binds md e = true→e.on≠i)→oi.apart ops ok = true:=fun k ok hk hki hun' hno=>by
    refine hfree k ok hk hki ?_ hno
    by_cases hjk:j = k
    ·subst hjk;exact hjun
    ·rwa [getD_set_ne true hjk] at hun'
   refine wpOp_mono (fun a' w' h3=>⟨fun _=>h3.2.1 hjn,ih (listed.setIfInBounds j true) a' w' hfree' (ready_mono hr (Ne.symm hji)) h3.1 (h3.2.1 hjn) ?_⟩) h2
   rw [Array.setIfInBounds_comm _ _ hji]
   exact h3.2.2
theorem wpT_take {i:Nat} {oi:Oper} {v:Value} {fuel:Nat} {listed:Array Bool} {a:Act} {w:World} (hs:sinkFrom md ops n = true) (hin:i < n) (hi:ops[i]? = some oi)
  (hsel:Region.noSelect ops = true) (hf:Region.free md ops listed i = true) (hr:(Region.ready md ops listed).contains i = true)
  (hQ:∀ c a w,Q (.panic c) (a.put oi.dst v) w→Q (.panic c) a w) (hy:YieldsIf P ops S oi v a) (hS:S w)
  (h:wpT P md ops Q S n fuel (listed.setIfInBounds i true) (a.put oi.dst v) w):wpT P md ops Q S n (fuel+1) listed a w :=
 wpT_first hs hin hi (Region.noSelect_spec hsel) hQ fuel listed a w (Region.free_spec hi hf) (by simpa using hr) hy hS h
theorem wpT_more {i:Nat} {oi:Oper} {fuel:Nat} {listed:Array Bool} {a:Act} {w:World} (hs:sinkFrom md ops n = true) (hin:i < n) (hi:ops[i]? = some oi)
  (hsel:Region.noSelect ops = true) (hf:Region.free md ops listed i = true) (hr:(Region.ready md ops listed).contains i = true)
  (hQ:∀ v c a w,Q (.panic c) (a.put oi.dst v) w→Q (.panic c) a w) (hS:S w)
  (h:∃ v,YieldsIf P ops S oi v a∧wpT P md ops Q S n fuel (listed.setIfInBounds i true) (a.put oi.dst v) w):wpT P md ops Q S n (fuel+1) listed a w:=by
 obtain ⟨v,hy,h⟩:=h
 exact wpT_take hs hin hi hsel hf hr (hQ v) hy hS h
theorem wpT_one {i:Nat} {fuel:Nat} {listed:Array Bool} {a:Act} {w:World} (hr:Region.ready md ops listed = [i])
  (h:wpOp P ops Q i (fun a' w'=>(i < n→S w')∧wpT P md ops Q S n fuel (listed.setIfInBounds i true) a' w') a w):wpT P md ops Q S n (fuel+1) listed a w :=
 ⟨fun h0=>(by rw [hr] at h0;cases h0),fun j hj=>(by rw [hr] at hj;rw [List.mem_singleton.1 hj];exact h)⟩
theorem X9 {listed:Array Bool} {a:Act} {w:World} (hr:Region.ready md ops listed = []) (h:Q .normal a w):∀ fuel,wpT P md ops Q S n fuel listed a w
 | 0=>⟨hr,h⟩
 | _+1=>⟨fun _=>h,by rw [hr];simp⟩
theorem X2 {id:Nat} {a:Act} {w:World} (S:World→Prop) (n:Nat) (hm:P.follows .mixedOrders = true) (hS:S w.drew)
  (h:S w.drew→wpT P .any ops Q S n ops.size (Array.replicate ops.size false) a w.drew):(Code.region id ops true).wp P Q a w :=
 wp_region_any hm (wpAny_of_T _ _ _ _ (h hS))
def After (K:Act→World→Prop) (Q:Exit→Act→World→Prop):Exit→Act→World→Prop
 | .normal,a,w=>K a w
 | e,a,w=>Q e a w
theorem letsOut_after {K:Act→World→Prop} (h:LetsOut (After K Q)):LetsOut Q:=h
theorem wp_after {o:Oper} {a:Act} {w:World} {K K':Act→World→Prop} (h:o.wp P a w K' (After K Q)):o.wp P a w K' Q:=by
 unfold Oper.wp at *
 generalize (execOp a.eval o).run P w = r at *
 cases r with
 | ok nx w' =>
  cases nx <;> simp only [Oper.upon] at h ⊢ <;> first | exact h | (refine Calls.mono h (fun e w'' he=>?_);cases e <;> exact he)
 | halt x w'=>cases x <;> simp only [Oper.upon] at h ⊢ <;> exact h
theorem wpOp_loud {i:Nat} {o:Oper} {K':Act→World→Prop} {a:Act} {w:World} (hi:ops[i]? = some o)
  (h:∀ K:Act→World→Prop,Shut (∀ a' w',K' a' w'→K a' w')→wpList P ops (After K Q) [o] a w):wpOp P ops Q i K' a w:=by
 have h1:=h K' (fun a' w' h1=>h1)
 unfold wpOp
 simp only [hi]
 unfold wpList at h1
 split
 ·rename_i hw
  simp only [hw,if_true] at h1
  rcases h1 with h1 | h1
  ·exact .inl (wp_after h1)
  ·exact .inr ⟨h1.1,letsOut_after h1.2⟩
 ·rename_i hw
  simp only [hw] at h1
  exact h1
theorem wpT_two {i j:Nat} {oi oj:Oper} {fuel:Nat} {listed:Array Bool} {a:Act} {w:World} (hi:ops[i]? = some oi) (hj:ops[j]? = some oj) (hr:Region.ready md ops listed = [i,j])
  (h1:∀ K:Act→World→Prop,Shut (∀ a' w',((i < n→S w')∧wpT P md ops Q S n fuel (listed.setIfInBounds i true) a' w')→K a' w')→wpList P ops (After K Q) [oi] a w)
  (h2:∀ K:Act→World→Prop,Shut (∀ a' w',((j < n→S w')∧wpT P md ops Q S n fuel (listed.setIfInBounds j true) a' w')→K a' w')→wpList P ops (After K Q) [oj] a w) :
  wpT P md ops Q S n (fuel+1) listed a w:=by
 refine ⟨fun h0=>(by rw [hr] at h0;cases h0),fun k hk=>?_⟩
 rw [hr] at hk
 rcases List.mem_cons.1 hk with rfl | hk
 ·exact wpOp_loud hi h1
 ·rw [List.mem_singleton.1 hk]
  exact wpOp_loud hj h2
theorem wpT_loud {i:Nat} {o:Oper} {fuel:Nat} {listed:Array Bool} {a:Act} {w:World} (hi:ops[i]? = some o) (hr:Region.ready md ops listed = [i])
  (h:∀ K:Act→World→Prop,Shut (∀ a' w',(i < n→S w')→wpT P md ops Q S n fuel (listed.setIfInBounds i true) a' w'→K a' w')→wpList P ops (After K Q) [o] a w) :
  wpT P md ops Q S n (fuel+1) listed a w:=by
 refine wpT_one hr ?_
 have h1:=h _ (fun a' w' h1 h2=>(⟨h1,h2⟩:(i < n→S w')∧wpT P md ops Q S n fuel (listed.setIfInBounds i true) a' w'))
 unfold wpOp
 simp only [hi]
 unfold wpList at h1
 split
 ·rename_i hw
  simp only [hw,if_true] at h1
  rcases h1 with h1 | h1
  ·exact .inl (wp_after h1)
  ·exact .inr ⟨h1.1,letsOut_after h1.2⟩
 ·rename_i hw
  simp only [hw] at h1
  exact h1
end
def plainOp (o:Oper):Bool :=
 match o.op with
 | .move _ | .assign _ | .pick _ _ _ | .load _ _ | .binOp _ _ _ _ _ | .unOp _ _ _ | .fieldAddr _ _ _ | .field _ _ _ | .indexAddr _ _ _ | .index _ _ _ | .extract _ _ | .slice _ _ _ _ _ | .convert _ _ _ | .nilCheck _ | .build _ _=>true
 | .call c=>match c.callee with
  | .builtin .len=>true
  | .builtin .cap=>true
  | _=>false
 | _=>false
theorem run_val {P:Program} {s:Sem Value} {nx:Next} {w w':World} (h:((do pure (.value (← s))):Sem Next).run P w = .ok nx w'):∃ v,nx = .value v:=by
 rw [Sem.run_bind] at h
 cases hs:s.run P w with
 | ok v w1=>rw [hs] at h;simp [Result.andThen] at h;exact ⟨v,h.1.symm⟩
 | halt x w1=>rw [hs] at h;simp [Result.andThen] at h
theorem run_pick {P:Program} {s:Sem Bool} {f:Bool→Value} {nx:Next} {w w':World} (h:((do let b ← s;pure (.value (f b))):Sem Next).run P w = .ok nx w'):∃ v,nx = .value v:=by
 rw [Sem.run_bind] at h
 cases hs:s.run P w with
 | ok v w1=>rw [hs] at h;simp [Result.andThen] at h;exact ⟨_,h.1.symm⟩
 | halt x w1=>rw [hs] at h;simp [Result.andThen] at h
theorem plain_value {P:Program} {o:Oper} {ρ:Operand→Value} {nx:Next} {w w':World} (h:plainOp o = true) (hr:(execOp ρ o).run P w = .ok nx w'):∃ v,nx = .value v:=by
 unfold plainOp at h
 unfold execOp at hr
 cases ho:o.op <;> rw [ho] at h hr <;> simp only [] at h hr <;> first
  | (cases h;done)
  | exact run_val hr
  | (simp at hr;exact ⟨_,hr.1.symm⟩)
  | exact run_pick (f:=fun b=>if b = true then _ else _) hr
  | skip
 ·split at hr
  ·simp [runtimePanic] at hr
  ·simp [runtimePanic] at hr
  ·simp [runtimePanic] at hr
  ·split at hr
   ·simp [runtimePanic] at hr
   ·rw [Sem.run_bind,run_program] at hr
    simp only [Result.andThen_ok] at hr
    rw [Sem.run_bind] at hr
    rename_i t u _
    cases hs:(nilAhead (P.types.size+Made.depth) t u _).run P w with
    | ok v w1=>rw [hs] at hr;simp only [Result.andThen_ok] at hr;split at hr <;> simp [unsupported] at hr;exact ⟨_,hr.1.symm⟩
    | halt x w1=>rw [hs] at hr;simp [Result.andThen] at hr
   ·simp at hr;exact ⟨_,hr.1.symm⟩
  ·simp at hr;exact ⟨_,hr.1.symm⟩
 rename_i c
 cases hc:c.callee with
 | builtin b =>
  rw [hc] at h
  unfold resolve at hr
  rw [hc] at hr
  cases b <;> simp only [] at h hr <;> first
   | (cases h;done)
   | exact run_val (s:=Builtin.len_ _ _ _) hr
   | exact run_val (s:=Builtin.cap_ _ _ _) hr
 | invoke _ _=>rw [hc] at h;cases h
 | value _=>rw [hc] at h;cases h
section
variable {P:Program} {ops:Array Oper} {Q:Exit→Act→World→Prop} {md:Region.Mode} {S:World→Prop} {n:Nat}
theorem yieldsIf_of_quiet {o:Oper} {a:Act} {v:Value} (hp:plainOp o = true) (hw:Region.wanted o (yielded ops a.tmps) = true) (h:∀ w,S w→o.quietAt P a S w v):YieldsIf P ops S o v a:=by
 refine Or.inl ⟨hw,fun w hS=>?_⟩
 have h1:=h w hS
 unfold Oper.quietAt at h1
 cases hr:(execOp a.eval o).run P w with
 | halt x w1=>rw [hr] at h1;exact h1.elim
 | ok nx w1 =>
  obtain ⟨u,rfl⟩:=plain_value hp hr
  rw [hr] at h1
  obtain ⟨e1,e2⟩:=h1
  rw [e1,e2]
def Xj:List Oper→Nat→Oper
 | [],_=>default
 | o :: _,0=>o
 | _ :: l,i+1=>Xj l i
def Xu (l:List Oper):List Nat→List Oper
 | []=>[]
 | i :: is=>Xj l i :: Xu l is
def listAll:List Nat→Array Bool→Array Bool
 | [],listed=>listed
 | i :: is,listed=>listAll is (listed.setIfInBounds i true)
def planOk (md:Region.Mode) (ops:Array Oper) (n:Nat):List Nat→Array Bool→Bool
 | [],_=>true
 | i :: is,listed=>decide (i < n) && (Region.ready md ops listed).contains i && Region.free md ops listed i && plainOp (Xj ops.toList i) && planOk md ops n is (listed.setIfInBounds i true)
theorem nthOp_some:∀ (l:List Oper) (i:Nat),i < l.length→l[i]? = some (Xj l i)
 | [],_,h=>by simp at h
 | _ :: _,0,_=>rfl
 | _ :: l,i+1,h=>by simpa [Xj] using nthOp_some l i (by simpa using h)
theorem ready_lt {i:Nat} {listed:Array Bool} (h:(Region.ready md ops listed).contains i = true):i < ops.size:=by
 have h1:i∈Region.ready md ops listed:=by simpa using h
 obtain ⟨_,o,ho,_⟩:=mem_ready.1 h1
 rcases Nat.lt_or_ge i ops.size with h' | h'
 ·exact h'
 ·rw [Array.getElem?_eq_none h'] at ho;cases ho
theorem wpT_batch (hs:sinkFrom md ops n = true) (hsel:Region.noSelect ops = true) (hQ:∀ d v c a w,Q (.panic c) (a.put d v) w→Q (.panic c) a w) {fuel:Nat} {w:World} (hS:S w) :
  ∀ (is:List Nat) (listed:Array Bool) (a:Act),planOk md ops n is listed = true →
   wpQuiet P ops S (fun a'=>wpT P md ops Q S n fuel (listAll is listed) a' w) (Xu ops.toList is) a→wpT P md ops Q S n (fuel+is.length) listed a w
 | [],_,_,_,h=>h
 | i :: is,listed,a,hp,h=>by
  unfold planOk at hp
  simp only [Bool.and_eq_true] at hp
  obtain ⟨⟨⟨⟨h1,h2⟩,h3⟩,h4⟩,h5⟩:=hp
  have h1:=of_decide_eq_true h1
  have hi:ops[i]? = some (Xj ops.toList i):=by
   have:=nthOp_some ops.toList i (by simpa using ready_lt h2)
   rwa [Array.getElem?_toList] at this
  show wpT P md ops Q S n (fuel+is.length+1) listed a w
  unfold Xu wpQuiet at h
  split at h
  ·rename_i hw
   obtain ⟨v,hv,hk⟩:=h
   exact wpT_take hs h1 hi hsel h3 h2 (fun c a w=>hQ _ _ c a w) (yieldsIf_of_quiet h4 hw hv) hS (wpT_batch hs hsel hQ hS is _ _ h5 hk)
  ·rename_i hw
   exact wpT_take hs h1 hi hsel h3 h2 (fun c a w=>hQ _ _ c a w) (Or.inr ⟨by simpa using hw,rfl⟩) hS (wpT_batch hs hsel hQ hS is _ _ h5 h)
theorem vT {fuel:Nat} {w:World} (hS:S w) (is:List Nat) {listed:Array Bool} {a:Act} (h:wpQuiet P ops S (fun a'=>wpT P md ops Q S n fuel (listAll is listed) a' w) (Xu ops.toList is) a) (hs:sinkFrom md ops n = true:=by kernel_rfl) (hsel:Region.noSelect ops = true:=by kernel_rfl) (hQ:∀ d v c a w,Q (.panic c) (a.put d v) w→Q (.panic c) a w:=by intro d;cases d <;> exact fun _ _ _ _ h=>h) (hp:planOk md ops n is listed = true:=by kernel_rfl):wpT P md ops Q S n (fuel+is.length) listed a w:=wpT_batch hs hsel hQ hS is listed a hp h
theorem Xh {fuel:Nat} {w:World} {listed:Array Bool} {a:Act} (i:Nat) (hr:Region.ready md ops listed = [i])
  (h:∀ K:Act→World→Prop,Shut (∀ a' w',(i < n→S w')→wpT P md ops Q S n fuel (listed.setIfInBounds i true) a' w'→K a' w')→wpList P ops (After K Q) [Xj ops.toList i] a w) :
  wpT P md ops Q S n (fuel+1) listed a w:=by
 have hi:ops[i]? = some (Xj ops.toList i):=by
  have:=nthOp_some ops.toList i (by simpa using ready_lt (md:=md) (listed:=listed) (by rw [hr];simp))
  rwa [Array.getElem?_toList] at this
 exact wpT_loud hi hr h
theorem wp_region_class {id:Nat} {a:Act} {w:World} {l:List Oper} (C:World→Prop) (hm:P.follows .mixedOrders = true) (hB:Region.lexB .any l.toArray = true) (hC:C w.drew)
  (h:wpQuiet P l.toArray C (fun a'=>∀ w',C w'→Q .normal a' w') l a):(Code.region id l.toArray true).wp P Q a w :=
 wp_region_quiet (C:=C) hm hB hC (by simpa using h)
end
def bat (s:ByteArray) (n:Nat):Nat:=if h:n < s.size then s[n].toNat else 0
theorem bat_lt (s:ByteArray) (n:Nat):bat s n < 256:=by
 unfold bat;split
 ·exact UInt8.toNat_lt _
 ·omega
def rest (s:ByteArray) (k:Nat):ByteArray:=s.extract k s.size
theorem rest_size (s:ByteArray) (k:Nat):(rest s k).size = s.size - k:=by
 simp [rest]
theorem below_drewN {B:Nat} {a w:World} (h:Below B a w) (n:Nat):Below B a (w.drewN n):=⟨h.os,h.tape,h.output,h.size,h.block⟩
theorem bcell {W w1:World} (hb:Below W.heap.size W w1):(∀ b o,b < W.heap.size→w1.cell? ⟨b,o,none⟩ = W.cell? ⟨b,o,none⟩)∧(∀ b o,b < W.heap.size→w1.frozen? ⟨b,o,none⟩ = W.frozen? ⟨b,o,none⟩) :=
 ⟨fun b o h=>hb.cell (p:=⟨b,o,none⟩) h,fun b o h=>hb.frozen (p:=⟨b,o,none⟩) h⟩
theorem setCell_same {w:World} {p:Addr} {v:Value} (h:w.cell? p = some v):w.setCell p v = w:=by
 have hh:(w.setCell p v).heap = w.heap:=by
  apply Array.ext_getElem?
  intro i
  simp only [World.setCell,Array.getElem?_modify]
  by_cases hi:p.block = i
  ·subst hi
   unfold World.cell? at h
   cases hb:w.heap[p.block]? with
   | none=>simp [hb] at h
   | some o =>
    cases o <;> simp [hb] at h
    rename_i c e f
    obtain ⟨h1,h2⟩:=h
    simp [h1]
    apply Array.ext_getElem?
    intro j
    rw [Array.getElem?_setIfInBounds]
    split
    ·rename_i hj;subst hj
     split
     ·exact h2.symm
     ·rename_i hlt;rw [Array.getElem?_eq_none (by omega)] at h2;cases h2
    ·rfl
  ·simp [hi]
 cases w
 simp only [World.setCell] at hh ⊢
 rw [hh]
theorem rest_zero (s:ByteArray):rest s 0 = s:=by
 simp [rest]
theorem rest_step (s:ByteArray) (k:Nat):(rest s k).extract 1 (rest s k).size = rest s (k+1):=by
 apply ByteArray.ext
 simp [rest,ByteArray.data_extract,Array.extract_extract]
 congr 1
 omega
theorem rest_head (s:ByteArray) (k:Nat) (h:k < s.size) (h':0 < (rest s k).size):(rest s k)[0].toNat = bat s k:=by
 unfold bat
 rw [dif_pos h]
 simp [rest,ByteArray.getElem_extract]
def Bk (w:World) (g:Nat) (t:TypeId) (cs:Array Value):Prop:=w.heap[g]? = some (.cells cs t (0,0))
section
variable {w w':World} {g:Nat} {t:TypeId} {cs:Array Value}
theorem Bk.lt (h:Bk w g t cs):g < w.heap.size:=by
 unfold Bk at h
 rcases Nat.lt_or_ge g w.heap.size with hl | hl
 ·exact hl
 ·rw [Array.getElem?_eq_none hl] at h;cases h
theorem Bk.cell (h:Bk w g t cs) (i:Nat):w.cell? ⟨g,i,none⟩ = cs[i]?:=by
 unfold Bk at h
 simp [World.cell?,h]
theorem Bk.free (h:Bk w g t cs) (i:Nat):w.frozen? ⟨g,i,none⟩ = false:=by
 unfold Bk at h
 simp [World.frozen?,h]
theorem Bk.same (h:Bk w g t cs) (hh:w'.heap[g]? = w.heap[g]?):Bk w' g t cs:=by unfold Bk at *;rw [hh];exact h
theorem Bk.new (w:World) (t:TypeId) (cs:Array Value):Bk (w.alloc (.cells cs t)) w.heap.size t cs:=by
 show (w.heap.push _)[w.heap.size]? = _
 simp
theorem Bk.at_ {w:World} {t:TypeId} {cs:Array Value} {g:Nat} (h:g = w.heap.size):Bk (w.alloc (.cells cs t)) g t cs:=by subst h;exact Bk.new w t cs
theorem Bk.drew (h:Bk w g t cs):Bk w.drew g t cs:=h
theorem Bk.drewN (h:Bk w g t cs) (n:Nat):Bk (w.drewN n) g t cs:=h
theorem Bk.alloc (h:Bk w g t cs) (o:Obj):Bk (w.alloc o) g t cs:=h.same (Below.heap_alloc w o g h.lt)
theorem Bk.set_ (h:Bk w g t cs) (i:Nat) (u:Value):Bk (w.setCell ⟨g,i,none⟩ u) g t (cs.setIfInBounds i u):=by
 unfold Bk at *
 simp [World.setCell,Array.getElem?_modify,h]
theorem Bk.far (h:Bk w g t cs) {p:Addr} (hp:g≠p.block) (u:Value):Bk (w.setCell p u) g t cs:=h.same (Below.heap_setCell w p u g hp)
theorem Bk.below {B:Nat} (h:Bk w g t cs) (hb:Below B w w') (hg:g < B):Bk w' g t cs:=h.same (hb.block g hg)
theorem Bk.belowAll (h:Bk w g t cs) (hb:Below w.heap.size w w'):Bk w' g t cs:=h.below hb h.lt
theorem Bk.grown {row:Option Nat} (h:Bk w g t cs) (hb:w.grownBy w' row) (hg:some g≠row):Bk w' g t cs:=h.same (hb.block g h.lt hg)
end
theorem Xq (w:World) (b i:Nat) (u:Value):w.grownBy (w.setCell ⟨b,i,none⟩ u) (some b) :=
 ⟨rfl,rfl,rfl,by simp [World.setCell],fun k _ hne=>Below.heap_setCell w ⟨b,i,none⟩ u k (fun e=>hne (by simp [e]))⟩
theorem grown_of_below {w w':World} (h:Below w.heap.size w w') (row:Option Nat):w.grownBy w' row:=⟨h.os,h.tape,h.output,h.size,fun k hk _=>h.block k hk⟩
theorem below_of_grown {w w':World} {row:Option Nat} (h:w.grownBy w' row) {B:Nat} (hB:B≤w.heap.size) (hr:∀ b,row = some b→B≤b):Below B w w' :=
 (Below.refl B w).grown h hB hr
theorem own_below {w w':World} {base:Nat} {e:TypeId} {sz n:Nat} {v:Value} {xs:List Value} (h:w.ownsRow base e sz v n xs) (hb:Below w.heap.size w w'):w'.ownsRow base e sz v n xs :=
 h.kept (grown_of_below hb none) (by cases hv:v.ownBlock <;> simp)
theorem Yu {w:World} {base:Nat} {e:TypeId} {sz n:Nat} {v:Value} {xs:List Value} (h:w.ownsRow base e sz v n xs) {a:Addr} (ha:a.block < base) (u:Value):(w.setCell a u).ownsRow base e sz v n xs :=
 ownsRow_setCell_below h ha u
theorem setCells_bk {g:Nat} {t:TypeId}:∀ (vs:List Value) (o:Nat) (w:World) (C:Array Value),Bk w g t C→o+vs.length≤C.size →
  ∃ C',Bk (w.setCells g o vs) g t C'∧C'.toList = C.toList.take o++vs++C.toList.drop (o+vs.length)∧w.grownBy (w.setCells g o vs) (some g)∧(w.setCells g o vs).heap.size = w.heap.size
 | [],o,w,C,h,_=>⟨C,h,by simp,⟨rfl,rfl,rfl,Nat.le_refl _,fun _ _ _=>rfl⟩,rfl⟩
 | v :: r,o,w,C,h,hl=>by
  simp only [List.length_cons] at hl
  have h1:=h.set_ o v
  obtain ⟨C',hb,hC,hg,hz⟩:=setCells_bk r (o+1) _ _ h1 (by simp;omega)
  have hg0:=Xq w g o v
  have hz0:(w.setCell ⟨g,o,none⟩ v).heap.size = w.heap.size:=by simp [World.setCell]
  refine ⟨C',hb,?_,?_,hz.trans hz0⟩
  ·rw [hC]
   have e:(C.setIfInBounds o v).toList = C.toList.take o++v :: C.toList.drop (o+1):=by
    rw [Array.toList_setIfInBounds,List.set_eq_take_append_cons_drop,if_pos (by simp;omega)]
   rw [e]
   have key:∀ A B:List Value,A.length = o→(A++v :: B).take (o+1)++r++(A++v :: B).drop (o+1+r.length) = A++(v :: r)++B.drop r.length:=by
    intro A B hA
    subst hA
    rw [List.take_length_add_append,show A.length+1+r.length = A.length+(1+r.length) from by omega,List.drop_length_add_append]
    simp [Nat.add_comm 1 r.length]
   rw [key _ _ (by simp;omega),List.drop_drop]
   congr 2
   simp;omega
  ·exact ⟨hg.os.trans hg0.os,hg.tape.trans hg0.tape,hg.output.trans hg0.output,Nat.le_trans hg0.size hg.size,fun k hk hne=>(hg.block k (by omega) hne).trans (hg0.block k hk hne)⟩
structure Stored (w:World) (g:Nat) (t:TypeId) (cs:Array Value) (w':World):Prop where
 bk:Bk w' g t cs
 grown:w.grownBy w' (some g)
 size:w'.heap.size = w.heap.size
section
variable {w w':World} {g:Nat} {t:TypeId} {cs:Array Value}
theorem Stored.below (h:Stored w g t cs w') {B:Nat} {w0:World} (hb:Below B w0 w) (hB:B≤g):Below B w0 w':=hb.grown h.grown (by have:=h.bk.lt;have:=h.size;omega) (fun b e=>by cases e;exact hB)
theorem Stored.far (h:Stored w g t cs w') {k:Nat} {u:TypeId} {ds:Array Value} (hk:Bk w k u ds) (hne:k≠g):Bk w' k u ds:=hk.grown h.grown (by simpa using hne)
end
section
variable {P:Program}
theorem wpList_store_bk {ops:Array Oper} {rest:List Oper} {op:Oper} {a:Act} {w:World} {Q:Exit→Act→World→Prop} (hgd:op.guard = none) (ty:TypeId) (x y:Operand) (ho:op.op = .store ty x y)
  (g:Nat) (cells:Array Value) (hx:a.eval x = .pointer (some ⟨g,0,none⟩)) (hy:a.eval y = .agg cells) (t:TypeId) (cs:Array Value) (hB:Bk w g t cs) (hsz:cs.size = cells.size)
  (hi:(P.info? ty).map (·.size) = some cells.size) (h1:cells.toList.all (·.oneCell') = true)
  (h:∀ w',Stored w g t cells w'→wpList P ops Q rest (a.put op.dst undef) w'):wpList P ops Q (op :: rest) a w:=by
 obtain ⟨C',hb,hC,hg,hz⟩:=setCells_bk cells.toList 0 w cs hB (by simp [hsz])
 have e:C' = cells:=by
  apply Array.toList_inj.1
  rw [hC];simp [hsz]
 subst e
 refine wpList_store_mid hgd ty x y ho g 0 C' hx hy (fun j hj=>⟨?_,?_⟩) hi (by rw [← Array.all_toList];exact h1) (h _ ⟨hb,hg,hz⟩)
 ·rw [Nat.zero_add,hB.cell,Array.getElem?_eq_getElem (by omega)];rfl
 ·rw [Nat.zero_add];exact hB.free j
theorem vM {ops:Array Oper} {rest:List Oper} {op:Oper} {a:Act} {w:World} {Q:Exit→Act→World→Prop} {ty:TypeId} {x y:Operand} {g:Nat} {cells:Array Value} {t:TypeId} {cs:Array Value} (hB:Bk w g t cs) (h:∀ w',Stored w g t cells w'→wpList P ops Q rest (a.put op.dst undef) w') (hgd:op.guard = none:=by rfl) (ho:op.op = .store ty x y:=by rfl) (hx:a.eval x = .pointer (some ⟨g,0,none⟩):=by rfl) (hy:a.eval y = .agg cells:=by rfl) (hsz:cs.size = cells.size:=by rfl) (hi:(P.info? ty).map (·.size) = some cells.size:=by kernel_rfl) (h1:cells.toList.all (·.oneCell') = true:=by rfl):wpList P ops Q (op :: rest) a w:=wpList_store_bk hgd ty x y ho g cells hx hy t cs hB hsz hi h1 h
end
def Own (w:World) (e:TypeId) (sz:Nat) (v:Value) (n:Nat) (xs:List Value):Prop :=
 xs.length = n*sz∧((v = .slice none 0 0∧n = 0) ∨
  ∃ g off cap A R,v = .slice (some ⟨g,off,none⟩) n cap∧Bk w g e (A++(xs++R)).toArray∧A.length = off∧n≤cap∧cap≤maxLen∧cap*sz≤xs.length+R.length)
section
variable {w w':World} {e:TypeId} {sz n:Nat} {v:Value} {xs:List Value}
theorem Own.nil:Own w e sz (.slice none 0 0) 0 []:=⟨by simp,.inl ⟨rfl,rfl⟩⟩
theorem Own.lt (h:Own w e sz v n xs) {g:Nat} (hg:v.ownBlock = some g):g < w.heap.size:=by
 rcases h.2 with ⟨rfl,_⟩ | ⟨g',off,cap,A,R,rfl,hb,_⟩
 ·cases hg
 ·cases hg;exact hb.lt
theorem Own.kept (h:Own w e sz v n xs) (hb:∀ g,v.ownBlock = some g→w'.heap[g]? = w.heap[g]?):Own w' e sz v n xs:=by
 refine ⟨h.1,?_⟩
 rcases h.2 with h | ⟨g,off,cap,A,R,rfl,hk,r⟩
 ·exact .inl h
 ·exact .inr ⟨g,off,cap,A,R,rfl,hk.same (hb g rfl),r⟩
theorem Own.grown {row:Option Nat} (h:Own w e sz v n xs) (hg:w.grownBy w' row) (hne:v.ownBlock = none∨v.ownBlock≠row):Own w' e sz v n xs :=
 h.kept fun g hv=>hg.block g (h.lt hv) (fun e=>by
  rcases hne with h0 | h0
  ·rw [hv] at h0;cases h0
  ·exact h0 (hv.trans e))
theorem Own.below (h:Own w e sz v n xs) (hb:Below w.heap.size w w'):Own w' e sz v n xs:=h.kept fun g hv=>hb.block g (h.lt hv)
theorem Own.alloc (h:Own w e sz v n xs) (o:Obj):Own (w.alloc o) e sz v n xs:=h.below ((Below.refl _ _).alloc (Nat.le_refl _) _)
theorem Own.drew (h:Own w e sz v n xs):Own w.drew e sz v n xs:=h.kept fun _ _=>rfl
theorem Own.of_row {base:Nat} (h:w.ownsRow base e sz v n xs):Own w e sz v n xs:=by
 refine ⟨h.1,?_⟩
 rcases h.2 with h | ⟨g,cap,cur,hv,_,hg,hn,hc,hs,ht⟩
 ·exact .inl h
 ·refine .inr ⟨g,0,cap,[],cur.toList.drop (n*sz),hv,?_,rfl,hn,hc,?_⟩
  ·unfold Bk
   rw [hg,← ht]
   simp
  ·have h1:=h.1
   simp
   omega
theorem own_cells {g off cap:Nat} (h:Own w e sz (.slice (some ⟨g,off,none⟩) n cap) n xs):∀ j u,xs[j]? = some u→w.cell? ⟨g,off+j,none⟩ = some u:=by
 rcases h.2 with ⟨h,_⟩ | ⟨g',off',cap',A,R,hv,hk,rfl,_⟩
 ·cases h
 ·cases hv
  intro j u hu
  rw [hk.cell]
  have hj:j < xs.length:=by
   rcases Nat.lt_or_ge j xs.length with h' | h'
   ·exact h'
   ·rw [List.getElem?_eq_none h'] at hu;cases hu
  simp only [List.getElem?_toArray]
  rw [List.getElem?_append_right (by omega),List.getElem?_append_left (by omega)]
  simpa using hu
end
section
variable {P:Program}
theorem run_clear_blk (w:World) (t e ty:TypeId) (z:Value) (ht:P.underlying t = some (.slice e)) (hv:∀ w,(zeroValue e).run P w = .ok z w) (h1:∀ u∈(Builtin.zeroCells z.cells 1).toList,u.oneCell' = true)
  (g o c:Nat) (cur:Array Value) (tt:TypeId) (hg:w.heap[g]? = some (.cells cur tt (0,0))) (hfit:o+z.cells.size≤cur.size) :
  (Builtin.clear_ #[t] ty #[.slice (some ⟨g,o,none⟩) 1 c]).run P w = .ok (.tuple #[]) (w.setRow g (cur.toList.take o++(Builtin.zeroCells z.cells 1).toList++cur.toList.drop (o+z.cells.size)).toArray):=by
 have hz:(Builtin.zeroCells z.cells 1).toList.length = z.cells.size:=by rw [Array.length_toList,size_zeroCells];simp
 have hst:=run_storeCells_at P g o tt (Builtin.zeroCells z.cells 1).toList 0 cur w hg (by rw [hz];simpa using hfit) h1
 simp only [Nat.add_zero] at hst
 rw [hz] at hst
 simp [Builtin.clear_,run_underlying ht,hv,hst]
theorem run_append_room_blk (w:World) (t ty e:TypeId) (i:TypeInfo) (ht:P.underlying t = some (.slice e)) (hi:P.info? e = some i)
  (g off sLen sCap:Nat) (cur:Array Value) (tt:TypeId) (hg:w.heap[g]? = some (.cells cur tt (0,0)))
  (a:Addr) (m c:Nat) (news:List Value) (hl:news.length = m*i.size) (hnews:∀ j u,news[j]? = some u→w.cell? (a.add j) = some u) (h1:∀ u∈news,u.oneCell' = true)
  (hroom:sLen+m≤sCap) (hfit:off+sLen*i.size+news.length≤cur.size) :
  (Builtin.append_ #[t,t] ty #[.slice (some ⟨g,off,none⟩) sLen sCap,.slice (some a) m c]).run P w =
   .ok (.slice (some ⟨g,off,none⟩) (sLen+m) sCap) (w.setRow g (cur.toList.take (off+sLen*i.size)++news++cur.toList.drop (off+sLen*i.size+news.length)).toArray):=by
 have hf:=run_firstCells_some (P:=P) w i.size m a m c news hl hnews
 have hst:=run_storeCells_at P g (off+sLen*i.size) tt news 0 cur w hg (by simpa using hfit) h1
 simp only [Nat.add_zero] at hst
 simp [Builtin.append_,run_underlying ht,sizeOf,typeInfo,hi,Builtin.lenOf,hroom,hf,Addr.add_lit,hst]
def Fresh (w:World) (v v':Value):Prop:=∀ g,v'.ownBlock = some g→v.ownBlock = some g∨w.heap.size≤g
theorem take_add {α:Type} (A B:List α) (n:Nat):(A++B).take (A.length+n) = A++B.take n:=List.take_length_add_append n
theorem drop_add {α:Type} (A B:List α) (n:Nat):(A++B).drop (A.length+n) = B.drop n:=List.drop_length_add_append n
theorem grownBy_setRow (w:World) (g:Nat) (cs:Array Value):w.grownBy (w.setRow g cs) (some g) :=
 ⟨rfl,rfl,rfl,by simp,fun k _ hk=>setRow_other w g k _ (fun e=>hk (by simp [e]))⟩
theorem grownBy_refl (w:World) (row:Option Nat):w.grownBy w row:=⟨rfl,rfl,rfl,Nat.le_refl _,fun _ _ _=>rfl⟩
theorem grownBy_any {w w':World} (h:w.grownBy w' none) (row:Option Nat):w.grownBy w' row:=⟨h.os,h.tape,h.output,h.size,fun k hk _=>h.block k hk (by simp)⟩
theorem grownBy_trans {w w1 w2:World} {row:Option Nat} (h:w.grownBy w1 row) (h':w1.grownBy w2 row):w.grownBy w2 row :=
 ⟨h'.os.trans h.os,h'.tape.trans h.tape,h'.output.trans h.output,Nat.le_trans h.size h'.size,fun k hk hr=>(h'.block k (Nat.lt_of_lt_of_le hk h.size) hr).trans (h.block k hk hr)⟩
theorem grownBy_drew {w w1:World} {row:Option Nat} (h:w.drew.grownBy w1 row):w.grownBy w1 row:=⟨h.os,h.tape,h.output,h.size,h.block⟩
theorem Bk.row {w:World} {g:Nat} {t:TypeId} {cs cs':Array Value} (h:Bk w g t cs):Bk (w.setRow g cs') g t cs':=setRow_heap w g cs cs' t (0,0) h
theorem own_append (w:World) (t ty e:TypeId) (i:TypeInfo) (z:Value) (sz bytes:Nat) (ht:P.underlying t = some (.slice e)) (hi:P.info? e = some i) (hz:i.zero = some z)
  (hsize:i.size = sz) (hby:i.bytes = bytes) (hzs:z.cells.size = sz) (hsz:0 < sz) (v:Value) (n:Nat) (xs:List Value) (h:Own w e sz v n xs)
  (a:Addr) (m c:Nat) (news:List Value) (hl:news.length = m*sz) (hnews:∀ j u,news[j]? = some u→w.cell? (a.add j) = some u) (h1:∀ u∈news,u.oneCell' = true) (hm:0 < m)
  (b1:n+m≤maxLen) (b2:(n+m)*bytes≤140737488355328) :
  ∃ v' w',(Builtin.append_ #[t,t] ty #[v,.slice (some a) m c]).run P w = .ok v' w'∧Own w' e sz v' (n+m) (xs++news)∧w.grownBy w' v.ownBlock∧Fresh w v v':=by
 have fr:∀ {v':Value} {w':World} {k:Nat} {ys:List Value},w'.ownsRow w.heap.size e sz v' k ys→Fresh w v v':=fun {v' w' k ys} ho g hg=>by
  rcases ho.2 with ⟨rfl,_⟩ | ⟨g',cap,cur,rfl,hb,_⟩
  ·cases hg
  ·cases hg;exact Or.inr hb
 rcases h.2 with ⟨rfl,rfl⟩ | ⟨g,off,cap,A,R,rfl,hk,rfl,hn,hc,hs⟩
 ·obtain rfl:xs = []:=List.eq_nil_of_length_eq_zero (by simpa using h.1)
  obtain ⟨v',w',hr,ho,hg,_⟩:=run_append_own (P:=P) w w.heap.size t ty e i z sz bytes ht hi hz hsize hby hzs hsz (.slice none 0 0) 0 [] (World.ownsRow_nil w _ e sz) a m c news hl hnews h1 b1 b2 (Nat.le_refl _)
  exact ⟨v',w',hr,Own.of_row ho,hg,fr ho⟩
 ·by_cases hroom:n+m≤cap
  ·have hx:=h.1
   have hle:(n+m)*sz≤cap*sz:=Nat.mul_le_mul_right _ hroom
   rw [Nat.add_mul] at hle
   have hfit:A.length+n*sz+news.length≤(A++(xs++R)).toArray.size:=by simp;omega
   subst hsize
   have hr:=run_append_room_blk (P:=P) w t ty e i ht hi g A.length n cap _ e hk a m c news hl hnews h1 hroom hfit
   refine ⟨_,_,hr,⟨by rw [List.length_append,hx,hl,Nat.add_mul],.inr ⟨g,A.length,cap,A,R.drop (m*i.size),rfl,?_,rfl,hroom,hc,?_⟩⟩,grownBy_setRow _ _ _,fun g' hg'=>Or.inl hg'⟩
   ·have hk':=hk.row (cs':=(((A++(xs++R)).toArray.toList.take (A.length+n*i.size))++news++((A++(xs++R)).toArray.toList.drop (A.length+n*i.size+news.length))).toArray)
    have e1:((A++(xs++R)).toArray.toList.take (A.length+n*i.size))++news++((A++(xs++R)).toArray.toList.drop (A.length+n*i.size+news.length)) = A++(xs++news++R.drop (m*i.size)):=by
     rw [← hx,← hl]
     show (A++(xs++R)).take (A.length+xs.length)++news++(A++(xs++R)).drop (A.length+xs.length+news.length) = _
     rw [Nat.add_assoc,take_add,drop_add,drop_add,List.take_left']
     ·simp
     ·rfl
    rw [e1] at hk'
    rw [e1]
    exact hk'
   ·simp;omega
  ·obtain ⟨v',w',hr,ho,hg⟩:=run_append_arg_grows (P:=P) w t ty e i z sz bytes ht hi hz hsize hby hzs hsz ⟨g,A.length,none⟩ n cap xs h.1 (fun j u hj=>by rw [Addr.add_lit];exact own_cells h j u hj) a m c news hl hnews (by omega) b1 b2
   exact ⟨v',w',hr,Own.of_row ho,grownBy_any hg _,fr ho⟩
section
variable {w w':World} {ops:Array Oper} {rest:List Oper} {o:Oper} {a:Act} {Q:Exit→Act→World→Prop}
theorem Ya (hgd:o.guard = none) (s x:Operand) (t tx:TypeId) (vs vx v:Value) (hop:o.op = .call { callee:=.builtin .append,args:=#[s,x],argTypes:=#[t,tx] }) (hs:a.eval s = vs) (hx:a.eval x = vx)
  (hrun:(Builtin.append_ #[t,tx] o.type #[vs,vx]).run P w = .ok v w') (h:wpList P ops Q rest (a.put o.dst v) w'):wpList P ops Q (o :: rest) a w :=
 wpList_plain hgd fun K hK=>by
  unfold Oper.wp
  simp [execOp,hop,resolve,invoke,builtin,hs,hx,hrun,Result.andThen]
  exact hK _ _ h
theorem wpList_clear_run (hgd:o.guard = none) (s:Operand) (t:TypeId) (vs v:Value) (hop:o.op = .call { callee:=.builtin .clear,args:=#[s],argTypes:=#[t] }) (hs:a.eval s = vs)
  (hrun:(Builtin.clear_ #[t] o.type #[vs]).run P w = .ok v w') (h:wpList P ops Q rest (a.put o.dst v) w'):wpList P ops Q (o :: rest) a w :=
 wpList_plain hgd fun K hK=>by
  unfold Oper.wp
  simp [execOp,hop,resolve,invoke,builtin,hs,hrun,Result.andThen]
  exact hK _ _ h
end
end
section
variable {P:Program}
theorem Ym {ops:Array Oper} {rest:List Oper} {op:Oper} {a:Act} {w:World} {Q:Exit→Act→World→Prop} (hgd:op.guard = none) (ty:TypeId) (x y:Operand) (ho:op.op = .store ty x y)
  (g o:Nat) (cells:Array Value) (hx:a.eval x = .pointer (some ⟨g,o,none⟩)) (hy:a.eval y = .agg cells) (t:TypeId) (cs cs':Array Value) (hB:Bk w g t cs) (hsz:o+cells.size≤cs.size)
  (hi:(P.info? ty).map (·.size) = some cells.size) (h1:cells.toList.all (·.oneCell') = true) (hcs:cs'.toList = cs.toList.take o++cells.toList++cs.toList.drop (o+cells.size))
  (h:∀ w',Stored w g t cs' w'→wpList P ops Q rest (a.put op.dst undef) w'):wpList P ops Q (op :: rest) a w:=by
 obtain ⟨C',hb,hC,hg,hz⟩:=setCells_bk cells.toList o w cs hB (by simpa using hsz)
 have e:C' = cs':=by
  apply Array.toList_inj.1
  rw [hC,hcs];simp
 subst e
 refine wpList_store_mid hgd ty x y ho g o cells hx hy (fun j hj=>⟨?_,?_⟩) hi (by rw [← Array.all_toList];exact h1) (h _ ⟨hb,hg,hz⟩)
 ·rw [hB.cell,Array.getElem?_eq_getElem (by omega)];rfl
 ·exact hB.free _
end
end Go.Proofs.YtaipogljokblkaaGreatDoor
namespace Go.Proofs.YtaipogljokblkaaGreatDoor.Fn
open Go Go.RowKit
theorem w64_byte (b:UInt8):wrap64 (b.toNat:Int) = b.toNat:=by
 have:=UInt8.toNat_lt b
 exact IntWalk.wrap64_in _ (by omega)
theorem ret_bool {a b:Bool} (h:a = b):Ending.returned (.bool a) = .returned (.bool b):=by rw [h]
theorem ret_int {k:IntKind} {a b:Int} (h:a = b):Ending.returned (.int k a) = .returned (.int k b):=by rw [h]
theorem rest_empty (s:ByteArray) (k:Nat) (h:s.size≤k):rest s k = ⟨#[]⟩:=by
 apply ByteArray.ext
 simp [rest,ByteArray.data_extract]
 omega
theorem isEmpty_of_size {r:ByteArray} (h:0 < r.size):r.toList.isEmpty = false:=by
 rw [Go.ByteArray.toList_eq]
 cases hd:r.data.toList with
 | nil =>
  have:r.data.size = 0:=by rw [← Array.length_toList,hd];rfl
  rw [ByteArray.size_data] at this
  omega
 | cons a l=>rfl
def RetB (b:Bool) (w:World) (e:Ending) (w':World):Prop:=e = .returned (.bool b)∧Below w.heap.size w w'
structure POp where
 kind:Int
 key:Int
 val:Int
 tall:Int
 deriving DecidableEq
def POp.v (o:POp):Value:=.agg #[.int .i64 o.kind,.int .i64 o.key,.int .i64 o.val,.int .i64 o.tall]
def RetV (v:Value) (w:World) (e:Ending) (w':World):Prop:=e = .returned v∧Below w.heap.size w w'
end Go.Proofs.YtaipogljokblkaaGreatDoor.Fn
namespace Go.Proofs.YtaipogljokblkaaGreatDoor
open Go Go.RowKit
end Go.Proofs.YtaipogljokblkaaGreatDoor
