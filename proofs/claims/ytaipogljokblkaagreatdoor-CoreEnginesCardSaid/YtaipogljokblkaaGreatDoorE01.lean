/- Core: Via, Reg, Reg2, Base, Mem, Store, Sto, FnA, Qlr. -/
import Derived.Handy
import Derived.KernelRfl
import Derived.BigQuiet
import Derived.Calls
import Derived.Lib.Hide
import Derived.WalkKit
import Derived.OrdersHeld
import Derived.Deep.RegionHeld
import Derived.Outline
import Derived.WalkSpells
import Derived.WalkLawsBesides
import Derived.Deep.Draws
import Derived.Laws.OwnMore
import Derived.Deep.AppendLies
import Derived.Laws.Rows
import Derived.OwnWalk
import Derived.Deep.MidRow
import Derived.Test.YtaipogljokblkaaGreatDoorRows
import Derived.Deep.QuietTactic
import Derived.Deep.RegionHeld3
set_option linter.all false
set_option maxRecDepth 100000
set_option maxHeartbeats 8000000
namespace Go.Proofs.YtaipogljokblkaaGreatDoor
open Go Go.RowKit
set_option linter.unusedSimpArgs false
set_option linter.unusedVariables false
set_option linter.unusedSectionVars false
theorem vB{p:Prop}(h:p:=by repeat' (first|(with_reducible exact Below.refl _ _)|(with_reducible assumption)|(with_reducible refine Below.alloc ?_ ?_ _)|(with_reducible refine Below.drew ?_)|(with_reducible refine below_drewN ?_ _)|(with_reducible refine Below.setCell ?_ ?_ _)|go_size)):p:=h
theorem vS1{p:Prop}(h:p:=by repeat' (first|with_reducible (first|refine pN ?_|refine pA ?_|refine pO ?_|refine pB ?_|refine pF ?_|refine pT ?_|refine pU ?_|refine pV ?_|refine pC ?_ ?_)|refine GN ?_|refine GO ?_|refine Dr (Df _ _ _) ?_|exact l1)):p:=h
theorem vS2{p:Prop}(h:p:=by repeat' (first|with_reducible (first|refine Eg (QL _) ?_|refine pN ?_|refine pA ?_|refine pO ?_|refine pB ?_|refine Eg (YT _) ?_|refine Eg (SK _) ?_|refine Eg (YU _) ?_|refine Eg (YV _ _ _) ?_|refine pF ?_|refine pT ?_|refine pU ?_|refine pV ?_|refine pC ?_ ?_)|refine GN ?_|refine GO ?_|refine Dr (Df _ _ _) ?_|exact l1)):p:=h
theorem vS3{p:Prop}(h:p:=by repeat' (first|with_reducible (first|refine pN ?_|refine pA ?_|refine pO ?_|refine pB ?_|refine pF ?_|refine pT ?_|refine Jd (by first|exact Qy _|exact Q3 _|(show(Xc.pc _==_)=_;with_unfolding_all rfl)|(show(decide (_<=Xc.pc _))=_;with_unfolding_all rfl)|(show(A3.kind _==_)=_;with_unfolding_all rfl)) ?_|refine Jc (by first|exact Qy _|exact Q3 _|(show(Xc.pc _==_)=_;with_unfolding_all rfl)|(show(decide (_<=Xc.pc _))=_;with_unfolding_all rfl)|(show(A3.kind _==_)=_;with_unfolding_all rfl)) ?_|refine pC ?_ ?_)|unfold Xc.Jt|unfold Xc.Jb|unfold Xc.GH|unfold Xc.KM|unfold Xc.fin|refine GN ?_|refine GO ?_|refine Dr (Df _ _ _) ?_|exact l2)):p:=h
theorem vS4{p:Prop}(h:p:=by repeat' (first|with_reducible (first|refine Eg (QL _) ?_|refine pN ?_|refine pA ?_|refine pO ?_|refine pB ?_|refine Eg (YT _) ?_|refine Eg (SK _) ?_|refine Eg (YU _) ?_|refine Eg (YV _ _ _) ?_|refine pF ?_|refine pT ?_|refine pU ?_|refine pV ?_|refine pC ?_ ?_)|refine GN ?_|refine GO ?_|refine Dr (Df _ _ _) ?_|exact l0)):p:=h
theorem vS5{p:Prop}(h:p:=by repeat' (first|with_reducible (first|refine pN ?_|refine pA ?_|refine pO ?_|refine pB ?_|refine pF ?_|refine pT ?_|refine pU ?_|refine pV ?_|refine pC ?_ ?_)|refine GN ?_|refine GO ?_|refine Dr (Df _ _ _) ?_|exact lE)):p:=h
theorem vS6{p:Prop}(h:p:=by repeat' (first|with_reducible (first|refine pN ?_|refine pA ?_|refine pO ?_|refine pB ?_|refine pF ?_|refine pT ?_|refine Jd (by first|(show(Xa.pc _==_)=_;with_unfolding_all rfl)|(show(A3.kind _==_)=_;with_unfolding_all rfl)|(show(Xj.ok _)=_;with_unfolding_all rfl)|(show(Xe.nm _==_)=_;with_unfolding_all rfl)|(show(Xe.sl _==_)=_;with_unfolding_all rfl)) ?_|refine Jc (by first|(show(Xa.pc _==_)=_;with_unfolding_all rfl)|(show(A3.kind _==_)=_;with_unfolding_all rfl)|(show(Xj.ok _)=_;with_unfolding_all rfl)|(show(Xe.nm _==_)=_;with_unfolding_all rfl)|(show(Xe.sl _==_)=_;with_unfolding_all rfl)) ?_|refine pC ?_ ?_)|unfold Xa.Dn|refine GN ?_|refine GO ?_|refine Dr (Df _ _ _) ?_|exact l2)):p:=h
theorem vS7{p:Prop}(h:p:=by repeat' (first|with_reducible (first|refine pN ?_|refine pA ?_|refine pO ?_|refine pB ?_|refine Jd (by with_unfolding_all assumption) ?_|refine Jc (by with_unfolding_all assumption) ?_|refine pU ?_|refine pV ?_|refine pK (λh=>?_) (λh=>?_))|unfold Xa.Vg|with_reducible refine Dr (XF _ hway) ?_|refine GN ?_|refine GO ?_|refine Dr (Df _ _ _) ?_|exact R9 (by exact S0 hway (by assumption) (by assumption) (by assumption) (by assumption))|exact tS rfl (by kernel_rfl) (λk=>by kernel_rfl)|exact tT _ rfl (by kernel_rfl) (λk=>by kernel_rfl))):p:=h
theorem vS8{p:Prop}(h:p:=by repeat' (first|with_reducible (first|refine pN ?_|refine pA ?_|refine pO ?_|refine pB ?_|refine Jd (by with_unfolding_all assumption) ?_|refine Jc (by with_unfolding_all assumption) ?_|refine pU ?_|refine pV ?_|refine pK (λh=>?_) (λh=>?_))|refine GN ?_|refine GO ?_|refine Dr (Df _ _ _) ?_|exact l1)):p:=h
theorem vS9{p:Prop}(h:p:=by repeat' (first|with_reducible (first|refine Eg (QL _) ?_|refine pN ?_|refine pA ?_|refine pO ?_|refine pB ?_|refine Eg (YT _) ?_|refine Eg (SK _) ?_|refine Eg (YU _) ?_|refine Eg (YV _ _ _) ?_|refine Jd (by with_unfolding_all assumption) ?_|refine Jc (by with_unfolding_all assumption) ?_|refine pU ?_|refine pV ?_|refine pK (λh=>?_) (λh=>?_))|refine GN ?_|refine GO ?_|refine Dr (Df _ _ _) ?_|exact R9 (by simp only[decide_eq_false_iff_not,decide_eq_true_eq] at*;omega)|exact l1)):p:=h
theorem vS10{p:Prop}(h:p:=by repeat' (first|with_reducible (first|refine pN ?_|refine pA ?_|refine pO ?_|refine pB ?_|refine pF ?_|refine pT ?_|refine Jd (by first|exact S5 _|exact S6|exact S7 _|(show(Xh.pc _==_)=_;with_unfolding_all rfl)|(show(A3.kind _==_)=_;with_unfolding_all rfl)) ?_|refine Jc (by first|exact S5 _|exact S6|exact S7 _|(show(Xh.pc _==_)=_;with_unfolding_all rfl)|(show(A3.kind _==_)=_;with_unfolding_all rfl)) ?_|refine pC ?_ ?_)|unfold Xh.Cr|unfold Xh.BB|unfold Xh.CQ|refine GN ?_|refine GO ?_|refine Dr (Df _ _ _) ?_|exact l2)):p:=h
theorem Zo{p:Prop}(h:p:=by omega):p:=h
theorem Zk{p:Prop}(h:p:=by kernel_rfl):p:=h
theorem Zr{p:Prop}(h:p:=by rfl):p:=h
theorem Zd{p:Prop}(h:p:=by decide):p:=h
theorem Zs{p:Prop}(h:p:=by simp):p:=h
theorem Zh{p:Prop}(h:p):Hid p:=Lib.hid h
theorem ZL:(∀(a:Act) (d:Tmp) (v:Value),a.put (some d) v={a with tmps:=a.tmps.setIfInBounds d v})/\(∀(a:Act) (v:Value),a.put none v=a)/\(∀(l:List Value) (i:Nat) (a:Value),l.toArray.setIfInBounds i a=(l.set i a).toArray)/\(∀(l:List Value) (x y:Value) (i:Nat),(x::l).set (i+1) y=x::l.set i y)/\(∀(l:List Value) (x y:Value),(x::l).set 0 y=y::l):=⟨λ_ _ _=>rfl,λ_ _=>rfl,λ_ _ _=>by simp,λ_ _ _ _=>rfl,λ_ _ _=>rfl⟩
section
variable{P:Program}{ops:Array Oper}{Q:Exit->Act->World->Prop}{md:Region.Mode}{S:World->Prop}{n:Nat}
def MB(P:Program)(md:Region.Mode)(ops:Array Oper)(Q:Exit->Act->World->Prop)(S:World->Prop)(n:Nat):Nat->Array Bool->Act->World->Prop
 |0,listed,a,w=>Region.ready md ops listed=[]/\Q .normal a w
 |fuel+1,listed,a,w=>(Region.ready md ops listed=[]->Q .normal a w)/\
   ∀i∈Region.ready md ops listed,wpOp P ops Q i (λa' w'=>(i<n->S w')/\MB P md ops Q S n fuel (listed.setIfInBounds i true) a' w') a w
theorem Nf:∀(fuel:Nat) (listed:Array Bool) (a:Act) (w:World),MB P md ops Q S n fuel listed a w->wpAny P md ops Q fuel listed a w
 |0,_,_,_,h=>h
 |fuel+1,_,_,_,h=>⟨h.1,λi hi=>wpOp_mono (λa' w' h'=>Nf fuel _ a' w' h'.2) (h.2 i hi)⟩
def Ht(md:Region.Mode)(ops:Array Oper)(n:Nat):Bool:=
 (List.range ops.size).all λj=>decide (j<n)||(List.range n).all λi=>((ops[j]?).map λo=>o.after.any λe=>Region.binds md e&&e.on==i).getD false
theorem cS(h:Ht md ops n=true){j i:Nat}{oj:Oper}(hj:ops[j]?=some oj)(hjn:n<=j)(hi:i<n):∃e∈oj.after,Region.binds md e=true/\e.on=i:=by
 have hlt:j<ops.size:=by
  rcases Nat.lt_or_ge j ops.size with h'|h'
  ·exact h'
  ·rw[Array.getElem?_eq_none h'] at hj;cases hj
 have h1:=List.all_eq_true.1 h j (List.mem_range.2 hlt);rw[Bool.or_eq_true] at h1;rcases h1 with h1|h1
 ·have:=of_decide_eq_true h1;omega
 ·have h2:=List.all_eq_true.1 h1 i (List.mem_range.2 hi);rw[hj] at h2;simp only[Option.map_some,Option.getD_some] at h2;rw[Array.any_eq_true'] at h2;obtain⟨e,he,hb⟩:=h2;rw[Bool.and_eq_true] at hb;exact⟨e,he,hb.1,by simpa using hb.2⟩
theorem KA{i:Nat}{listed:Array Bool}(hr:i∈Region.ready md ops listed):listed.getD i false=false:=by
 have h0:=(mem_ready.1 hr).1;rcases Nat.lt_or_ge i listed.size with h'|h'
 ·simp[h'] at h0 ⊢;exact h0
 ·simp[Array.getElem?_eq_none h']
theorem aF{i:Nat}{oi:Oper}{v:Value}(hs:Ht md ops n=true)(hin:i<n)(hi:ops[i]?=some oi)
  (hsel:∀(j:Nat) (o:Oper) cs b,ops[j]?=some o->o.op≠.select cs b)(hQ:∀c a w,Q (.panic c) (a.put oi.dst v) w->Q (.panic c) a w):
  ∀(fuel:Nat) (listed:Array Bool) (a:Act) (w:World),
   (∀j oj,ops[j]?=some oj->j≠i->listed.getD j true=false->(∀e∈oj.after,Region.binds md e=true->e.on≠i)->oi.apart ops oj=true)->
   i∈Region.ready md ops listed->YieldsIf P ops S oi v a->S w->
   MB P md ops Q S n fuel (listed.setIfInBounds i true) (a.put oi.dst v) w->MB P md ops Q S n (fuel+1) listed a w:=by
 intro fuel
 induction fuel with
 |zero=>
  intro listed a w _ hr hy hS H
  refine⟨λh=>(by rw[h] at hr;cases hr),λj hj=>?_⟩
  by_cases hji:j=i
  ·subst hji;exact hy.wpOp hi hS ⟨λ_=>hS,H⟩
  ·have:=ready_mono hj hji;rw[H.1] at this;cases this
 |succ fuel ih=>
  intro listed a w hfree hr hy hS H
  refine⟨λh=>(by rw[h] at hr;cases hr),λj hj=>?_⟩
  by_cases hji:j=i
  ·subst hji;exact hy.wpOp hi hS ⟨λ_=>hS,H⟩
  ·have h1:=H.2 j (ready_mono hj hji);obtain⟨hjun,oj,hoj,hall⟩:=mem_ready.1 hj;have hun:=KA hr;have hnot:∀e∈oj.after,Region.binds md e=true->e.on≠i:=λe he hb heq=>by
    have h2:=hall e he hb;rw[heq,hun] at h2;cases h2
   have hjn:j<n:=by
    rcases Nat.lt_or_ge j n with h'|h'
    ·exact h'
    ·obtain⟨e,he,hb,heq⟩:=cS hs hoj h' hin;exact absurd heq (hnot e he hb)
   have h2:=wpOp_putIf hoj (hfree j oj hoj hji hjun hnot) (λcs b=>hsel i oi cs b hi) (λcs b=>hsel j oj cs b hoj) hQ hy h1;have hfree':∀k ok,ops[k]?=some ok->k≠i->(listed.setIfInBounds j true).getD k true=false->
     (∀e∈ok.after,Region.binds md e=true->e.on≠i)->oi.apart ops ok=true:=λk ok hk hki hun' hno=>by
    refine hfree k ok hk hki ?_ hno
    by_cases hjk:j=k
    ·subst hjk;exact hjun
    ·rwa [getD_set_ne true hjk] at hun'
   refine wpOp_mono (λa' w' h3=>⟨λ_=>h3.2.1 hjn,ih (listed.setIfInBounds j true) a' w' hfree' (ready_mono hr (Ne.symm hji)) h3.1 (h3.2.1 hjn) ?_⟩) h2;rw[Array.setIfInBounds_comm _ _ hji];exact h3.2.2
theorem Nd{i:Nat}{oi:Oper}{v:Value}{fuel:Nat}{listed:Array Bool}{a:Act}{w:World}(hs:Ht md ops n=true)(hin:i<n)(hi:ops[i]?=some oi)
  (hsel:Region.noSelect ops=true)(hf:Region.free md ops listed i=true)(hr:(Region.ready md ops listed).contains i=true)
  (hQ:∀c a w,Q (.panic c) (a.put oi.dst v) w->Q (.panic c) a w)(hy:YieldsIf P ops S oi v a)(hS:S w)
  (h:MB P md ops Q S n fuel (listed.setIfInBounds i true) (a.put oi.dst v) w):MB P md ops Q S n (fuel+1) listed a w:=
 aF hs hin hi (Region.noSelect_spec hsel) hQ fuel listed a w (Region.free_spec hi hf) (by simpa using hr) hy hS h
theorem Ba{i:Nat}{oi:Oper}{fuel:Nat}{listed:Array Bool}{a:Act}{w:World}(hs:Ht md ops n=true)(hin:i<n)(hi:ops[i]?=some oi)
  (hsel:Region.noSelect ops=true)(hf:Region.free md ops listed i=true)(hr:(Region.ready md ops listed).contains i=true)
  (hQ:∀v c a w,Q (.panic c) (a.put oi.dst v) w->Q (.panic c) a w)(hS:S w)
  (h:∃v,YieldsIf P ops S oi v a/\MB P md ops Q S n fuel (listed.setIfInBounds i true) (a.put oi.dst v) w):MB P md ops Q S n (fuel+1) listed a w:=by
 obtain⟨v,hy,h⟩:=h
 exact Nd hs hin hi hsel hf hr (hQ v) hy hS h
theorem rG{i:Nat}{fuel:Nat}{listed:Array Bool}{a:Act}{w:World}(hr:Region.ready md ops listed=[i])
  (h:wpOp P ops Q i (λa' w'=>(i<n->S w')/\MB P md ops Q S n fuel (listed.setIfInBounds i true) a' w') a w):MB P md ops Q S n (fuel+1) listed a w:=
 ⟨λh0=>(by rw[hr] at h0;cases h0),λj hj=>(by rw[hr] at hj;rw[List.mem_singleton.1 hj];exact h)⟩
theorem Ye{listed:Array Bool}{a:Act}{w:World}(hr:Region.ready md ops listed=[])(h:Q .normal a w):∀fuel,MB P md ops Q S n fuel listed a w
 |0=>⟨hr,h⟩
 |_+1=>⟨λ_=>h,by rw[hr];simp⟩
theorem X8{id:Nat}{a:Act}{w:World}(S:World->Prop)(n:Nat)(hm:P.follows .mixedOrders=true)(hS:S w.drew)
  (h:S w.drew->MB P .any ops Q S n ops.size (Array.replicate ops.size false) a w.drew):(Code.region id ops true).wp P Q a w:=
 wp_region_any hm (Nf _ _ _ _ (h hS))
def OR(K:Act->World->Prop)(Q:Exit->Act->World->Prop):Exit->Act->World->Prop
 |.normal,a,w=>K a w
 |e,a,w=>Q e a w
theorem Kd{K:Act->World->Prop}(h:LetsOut (OR K Q)):LetsOut Q:=h
theorem Sz{o:Oper}{a:Act}{w:World}{K K':Act->World->Prop}(h:o.wp P a w K' (OR K Q)):o.wp P a w K' Q:=by
 unfold Oper.wp at*;generalize(execOp a.eval o).run P w=r at*;cases r with
 |ok nx w'=>
  cases nx<;>simp only[Oper.upon] at h ⊢<;>first|exact h|(refine Calls.mono h (λe w'' he=>?_);cases e<;>exact he)
 |halt x w'=>cases x<;>simp only[Oper.upon] at h ⊢<;>exact h
theorem Ps{i:Nat}{o:Oper}{K':Act->World->Prop}{a:Act}{w:World}(hi:ops[i]?=some o)
  (h:∀K:Act->World->Prop,Shut (∀a' w',K' a' w'->K a' w')->wpList P ops (OR K Q) [o] a w):wpOp P ops Q i K' a w:=by
 have h1:=h K' (λa' w' h1=>h1)
 unfold wpOp
 simp only[hi]
 unfold wpList at h1
 split
 ·rename_i hw;simp only[hw,if_true] at h1;rcases h1 with h1|h1
  ·exact .inl (Sz h1)
  ·exact .inr ⟨h1.1,Kd h1.2⟩
 ·rename_i hw;simp only[hw] at h1;exact h1
theorem GK{i j:Nat}{oi oj:Oper}{fuel:Nat}{listed:Array Bool}{a:Act}{w:World}(hi:ops[i]?=some oi)(hj:ops[j]?=some oj)(hr:Region.ready md ops listed=[i,j])
  (h1:∀K:Act->World->Prop,Shut (∀a' w',((i<n->S w')/\MB P md ops Q S n fuel (listed.setIfInBounds i true) a' w')->K a' w')->wpList P ops (OR K Q) [oi] a w)
  (h2:∀K:Act->World->Prop,Shut (∀a' w',((j<n->S w')/\MB P md ops Q S n fuel (listed.setIfInBounds j true) a' w')->K a' w')->wpList P ops (OR K Q) [oj] a w):
  MB P md ops Q S n (fuel+1) listed a w:=by
 refine⟨λh0=>(by rw[hr] at h0;cases h0),λk hk=>?_⟩
 rw[hr] at hk
 rcases List.mem_cons.1 hk with rfl|hk
 ·exact Ps hi h1
 ·rw[List.mem_singleton.1 hk];exact Ps hj h2
theorem Et{i:Nat}{o:Oper}{fuel:Nat}{listed:Array Bool}{a:Act}{w:World}(hi:ops[i]?=some o)(hr:Region.ready md ops listed=[i])
  (h:∀K:Act->World->Prop,Shut (∀a' w',(i<n->S w')->MB P md ops Q S n fuel (listed.setIfInBounds i true) a' w'->K a' w')->wpList P ops (OR K Q) [o] a w):
  MB P md ops Q S n (fuel+1) listed a w:=by
 refine rG hr ?_
 have h1:=h _ (λa' w' h1 h2=>(⟨h1,h2⟩:(i<n->S w')/\MB P md ops Q S n fuel (listed.setIfInBounds i true) a' w'))
 unfold wpOp
 simp only[hi]
 unfold wpList at h1
 split
 ·rename_i hw;simp only[hw,if_true] at h1;rcases h1 with h1|h1
  ·exact .inl (Sz h1)
  ·exact .inr ⟨h1.1,Kd h1.2⟩
 ·rename_i hw;simp only[hw] at h1;exact h1
end
def MO(o:Oper):Bool:=
 match o.op with
 |.move _|.assign _|.pick _ _ _|.load _ _|.binOp _ _ _ _ _|.unOp _ _ _|.fieldAddr _ _ _|.field _ _ _|.indexAddr _ _ _|.index _ _ _|.extract _ _|.slice _ _ _ _ _|.convert _ _ _|.nilCheck _|.build _ _=>true
 |.call c=>match c.callee with
  |.builtin .len=>true
  |.builtin .cap=>true
  |_=>false
 |_=>false
theorem Rs{P:Program}{s:Sem Value}{nx:Next}{w w':World}(h:((do pure (.value (←s))):Sem Next).run P w=.ok nx w'):∃v,nx=.value v:=by
 rw[Sem.run_bind] at h;cases hs:s.run P w with
 |ok v w1=>rw[hs] at h;simp[Result.andThen] at h;exact⟨v,h.1.symm⟩
 |halt x w1=>rw[hs] at h;simp[Result.andThen] at h
theorem lD{P:Program}{s:Sem Bool}{f:Bool->Value}{nx:Next}{w w':World}(h:((do let b ←s;pure (.value (f b))):Sem Next).run P w=.ok nx w'):∃v,nx=.value v:=by
 rw[Sem.run_bind] at h;cases hs:s.run P w with
 |ok v w1=>rw[hs] at h;simp[Result.andThen] at h;exact⟨_,h.1.symm⟩
 |halt x w1=>rw[hs] at h;simp[Result.andThen] at h
theorem TV{P:Program}{o:Oper}{ρ:Operand->Value}{nx:Next}{w w':World}(h:MO o=true)(hr:(execOp ρ o).run P w=.ok nx w'):∃v,nx=.value v:=by
 unfold MO at h;unfold execOp at hr;cases ho:o.op<;>rw[ho] at h hr<;>simp only[] at h hr<;>first
  |(cases h;done)
  |exact Rs hr
  |(simp at hr;exact⟨_,hr.1.symm⟩)
  |exact lD (f:=λb=>if b=true then _ else _) hr
  |skip
 ·split at hr
  ·simp[runtimePanic] at hr
  ·simp[runtimePanic] at hr
  ·simp[runtimePanic] at hr
  ·split at hr
   ·simp[runtimePanic] at hr
   ·rw[Sem.run_bind,run_program] at hr;simp only[Result.andThen_ok] at hr;rw[Sem.run_bind] at hr;rename_i t u _;cases hs:(nilAhead (P.types.size+Made.depth) t u _).run P w with
    |ok v w1=>rw[hs] at hr;simp only[Result.andThen_ok] at hr;split at hr<;>simp[unsupported] at hr;exact⟨_,hr.1.symm⟩
    |halt x w1=>rw[hs] at hr;simp[Result.andThen] at hr
   ·simp at hr;exact⟨_,hr.1.symm⟩
  ·simp at hr;exact⟨_,hr.1.symm⟩
 rename_i c;cases hc:c.callee with
 |builtin b=>
  rw[hc] at h;unfold resolve at hr;rw[hc] at hr;cases b<;>simp only[] at h hr<;>first
   |(cases h;done)
   |exact Rs (s:=Builtin.len_ _ _ _) hr
   |exact Rs (s:=Builtin.cap_ _ _ _) hr
 |invoke _ _=>rw[hc] at h;cases h
 |value _=>rw[hc] at h;cases h
section
variable{P:Program}{ops:Array Oper}{Q:Exit->Act->World->Prop}{md:Region.Mode}{S:World->Prop}{n:Nat}
theorem K6{o:Oper}{a:Act}{v:Value}(hp:MO o=true)(hw:Region.wanted o (yielded ops a.tmps)=true)(h:∀w,S w->o.quietAt P a S w v):YieldsIf P ops S o v a:=by
 refine Or.inl ⟨hw,λw hS=>?_⟩;have h1:=h w hS;unfold Oper.quietAt at h1;cases hr:(execOp a.eval o).run P w with
 |halt x w1=>rw[hr] at h1;exact h1.elim
 |ok nx w1=>
  obtain⟨u,rfl⟩:=TV hp hr;rw[hr] at h1;obtain⟨e1,e2⟩:=h1;rw[e1,e2]
def Xr:List Oper->Nat->Oper
 |[],_=>default
 |o::_,0=>o
 |_::l,i+1=>Xr l i
def Xy(l:List Oper):List Nat->List Oper
 |[]=>[]
 |i::is=>Xr l i::Xy l is
def RN:List Nat->Array Bool->Array Bool
 |[],listed=>listed
 |i::is,listed=>RN is (listed.setIfInBounds i true)
def RA(md:Region.Mode)(ops:Array Oper)(n:Nat):List Nat->Array Bool->Bool
 |[],_=>true
 |i::is,listed=>decide (i<n)&&(Region.ready md ops listed).contains i&&Region.free md ops listed i&&MO (Xr ops.toList i)&&RA md ops n is (listed.setIfInBounds i true)
theorem Kr:∀(l:List Oper) (i:Nat),i<l.length->l[i]?=some (Xr l i)
 |[],_,h=>by simp at h
 |_::_,0,_=>rfl
 |_::l,i+1,h=>by simpa [Xr] using Kr l i (by simpa using h)
theorem TL{i:Nat}{listed:Array Bool}(h:(Region.ready md ops listed).contains i=true):i<ops.size:=by
 have h1:i∈Region.ready md ops listed:=by simpa using h
 obtain⟨_,o,ho,_⟩:=mem_ready.1 h1;rcases Nat.lt_or_ge i ops.size with h'|h'
 ·exact h'
 ·rw[Array.getElem?_eq_none h'] at ho;cases ho
theorem Ly(hs:Ht md ops n=true)(hsel:Region.noSelect ops=true)(hQ:∀d v c a w,Q (.panic c) (a.put d v) w->Q (.panic c) a w){fuel:Nat}{w:World}(hS:S w):
  ∀(is:List Nat) (listed:Array Bool) (a:Act),RA md ops n is listed=true->
   wpQuiet P ops S (λa'=>MB P md ops Q S n fuel (RN is listed) a' w) (Xy ops.toList is) a->MB P md ops Q S n (fuel+is.length) listed a w
 |[],_,_,_,h=>h
 |i::is,listed,a,hp,h=>by
  unfold RA at hp;simp only[Bool.and_eq_true] at hp;obtain⟨⟨⟨⟨h1,h2⟩,h3⟩,h4⟩,h5⟩:=hp;have h1:=of_decide_eq_true h1;have hi:ops[i]?=some (Xr ops.toList i):=by
   have:=Kr ops.toList i (by simpa using TL h2);rwa [Array.getElem?_toList] at this
  show MB P md ops Q S n (fuel+is.length+1) listed a w;unfold Xy wpQuiet at h;split at h
  ·rename_i hw;obtain⟨v,hv,hk⟩:=h;exact Nd hs h1 hi hsel h3 h2 (λc a w=>hQ _ _ c a w) (K6 h4 hw hv) hS (Ly hs hsel hQ hS is _ _ h5 hk)
  ·rename_i hw;exact Nd hs h1 hi hsel h3 h2 (λc a w=>hQ _ _ c a w) (Or.inr ⟨by simpa using hw,rfl⟩) hS (Ly hs hsel hQ hS is _ _ h5 h)
theorem vT{fuel:Nat}{w:World}(hS:S w)(is:List Nat){listed:Array Bool}{a:Act}(h:wpQuiet P ops S (λa'=>MB P md ops Q S n fuel (RN is listed) a' w) (Xy ops.toList is) a)(hs:Ht md ops n=true:=by kernel_rfl)(hsel:Region.noSelect ops=true:=by kernel_rfl)(hQ:∀d v c a w,Q (.panic c) (a.put d v) w->Q (.panic c) a w:=by intro d;cases d<;>exact λ_ _ _ _ h=>h)(hp:RA md ops n is listed=true:=by kernel_rfl):MB P md ops Q S n (fuel+is.length) listed a w:=Ly hs hsel hQ hS is listed a hp h
theorem Xi{fuel:Nat}{w:World}{listed:Array Bool}{a:Act}(i:Nat)(hr:Region.ready md ops listed=[i])
  (h:∀K:Act->World->Prop,Shut (∀a' w',(i<n->S w')->MB P md ops Q S n fuel (listed.setIfInBounds i true) a' w'->K a' w')->wpList P ops (OR K Q) [Xr ops.toList i] a w):
  MB P md ops Q S n (fuel+1) listed a w:=by
 have hi:ops[i]?=some (Xr ops.toList i):=by
  have:=Kr ops.toList i (by simpa using TL (md:=md) (listed:=listed) (by rw[hr];simp));rwa [Array.getElem?_toList] at this
 exact Et hi hr h
theorem FI{id:Nat}{a:Act}{w:World}{l:List Oper}(C:World->Prop)(hm:P.follows .mixedOrders=true)(hB:Region.lexB .any l.toArray=true)(hC:C w.drew)
  (h:wpQuiet P l.toArray C (λa'=>∀w',C w'->Q .normal a' w') l a):(Code.region id l.toArray true).wp P Q a w:=
 wp_region_quiet (C:=C) hm hB hC (by simpa using h)
end
def JS(s:ByteArray)(n:Nat):Nat:=if h:n<s.size then s[n].toNat else 0
theorem IB(s:ByteArray)(n:Nat):JS s n<256:=by
 unfold JS;split
 ·exact UInt8.toNat_lt _
 ·omega
def rest(s:ByteArray)(k:Nat):ByteArray:=s.extract k s.size
theorem L7(s:ByteArray)(k:Nat):(rest s k).size=s.size-k:=by
 simp[rest]
theorem below_drewN{B:Nat}{a w:World}(h:Below B a w)(n:Nat):Below B a (w.drewN n):=⟨h.os,h.tape,h.output,h.size,h.block⟩
theorem M7{W w1:World}(hb:Below W.heap.size W w1):(∀b o,b<W.heap.size->w1.cell? ⟨b,o,none⟩=W.cell? ⟨b,o,none⟩)/\(∀b o,b<W.heap.size->w1.frozen? ⟨b,o,none⟩=W.frozen? ⟨b,o,none⟩):=
 ⟨λb o h=>hb.cell (p:=⟨b,o,none⟩) h,λb o h=>hb.frozen (p:=⟨b,o,none⟩) h⟩
theorem Rr{w:World}{p:Addr}{v:Value}(h:w.cell? p=some v):w.setCell p v=w:=by
 have hh:(w.setCell p v).heap=w.heap:=by
  apply Array.ext_getElem?;intro i;simp only[World.setCell,Array.getElem?_modify];by_cases hi:p.block=i
  ·subst hi;unfold World.cell? at h;cases hb:w.heap[p.block]? with
   |none=>simp[hb] at h
   |some o=>
    cases o<;>simp[hb] at h;rename_i c e f;obtain⟨h1,h2⟩:=h;simp[h1];apply Array.ext_getElem?;intro j;rw[Array.getElem?_setIfInBounds];split
    ·rename_i hj;subst hj;split
     ·exact h2.symm
     ·rename_i hlt;rw[Array.getElem?_eq_none Zo] at h2;cases h2
    ·rfl
  ·simp[hi]
 cases w;simp only[World.setCell] at hh ⊢;rw[hh]
theorem dS(s:ByteArray):rest s 0=s:=by
 simp[rest]
theorem dT(s:ByteArray)(k:Nat):(rest s k).extract 1 (rest s k).size=rest s (k+1):=by
 apply ByteArray.ext;simp[rest,ByteArray.data_extract,Array.extract_extract];congr 1;omega
theorem dU(s:ByteArray)(k:Nat)(h:k<s.size)(h':0<(rest s k).size):(rest s k)[0].toNat=JS s k:=by
 unfold JS;rw[dif_pos h];simp[rest,ByteArray.getElem_extract]
def Bk(w:World)(g:Nat)(t:TypeId)(cs:Array Value):Prop:=w.heap[g]?=some (.cells cs t (0,0))
section
variable{w w':World}{g:Nat}{t:TypeId}{cs:Array Value}
theorem Bk.lt(h:Bk w g t cs):g<w.heap.size:=by
 unfold Bk at h;rcases Nat.lt_or_ge g w.heap.size with hl|hl
 ·exact hl
 ·rw[Array.getElem?_eq_none hl] at h;cases h
theorem Bk.cell(h:Bk w g t cs)(i:Nat):w.cell? ⟨g,i,none⟩=cs[i]?:=by
 unfold Bk at h;simp[World.cell?,h]
theorem Bk.free(h:Bk w g t cs)(i:Nat):w.frozen? ⟨g,i,none⟩=false:=by
 unfold Bk at h;simp[World.frozen?,h]
theorem Bk.same(h:Bk w g t cs)(hh:w'.heap[g]?=w.heap[g]?):Bk w' g t cs:=by unfold Bk at*;rw[hh];exact h
theorem Bk.new(w:World)(t:TypeId)(cs:Array Value):Bk (w.alloc (.cells cs t)) w.heap.size t cs:=by
 show(w.heap.push _)[w.heap.size]?=_;simp
theorem Bk.at_{w:World}{t:TypeId}{cs:Array Value}{g:Nat}(h:g=w.heap.size):Bk (w.alloc (.cells cs t)) g t cs:=by subst h;exact Bk.new w t cs
theorem Bk.drew(h:Bk w g t cs):Bk w.drew g t cs:=h
theorem Bk.drewN(h:Bk w g t cs)(n:Nat):Bk (w.drewN n) g t cs:=h
theorem Bk.alloc(h:Bk w g t cs)(o:Obj):Bk (w.alloc o) g t cs:=h.same (Below.heap_alloc w o g h.lt)
theorem Bk.Eo(h:Bk w g t cs)(i:Nat)(u:Value):Bk (w.setCell ⟨g,i,none⟩ u) g t (cs.setIfInBounds i u):=by
 unfold Bk at*;simp[World.setCell,Array.getElem?_modify,h]
theorem Bk.Ax(h:Bk w g t cs){p:Addr}(hp:g≠p.block)(u:Value):Bk (w.setCell p u) g t cs:=h.same (Below.heap_setCell w p u g hp)
theorem Bk.below{B:Nat}(h:Bk w g t cs)(hb:Below B w w')(hg:g<B):Bk w' g t cs:=h.same (hb.block g hg)
theorem Bk.Ac(h:Bk w g t cs)(hb:Below w.heap.size w w'):Bk w' g t cs:=h.below hb h.lt
theorem Bk.grown{row:Option Nat}(h:Bk w g t cs)(hb:w.grownBy w' row)(hg:some g≠row):Bk w' g t cs:=h.same (hb.block g h.lt hg)
end
theorem Xs(w:World)(b i:Nat)(u:Value):w.grownBy (w.setCell ⟨b,i,none⟩ u) (some b):=
 ⟨rfl,rfl,rfl,by simp[World.setCell],λk _ hne=>Below.heap_setCell w ⟨b,i,none⟩ u k (λe=>hne (by simp[e]))⟩
theorem Oa{w w':World}(h:Below w.heap.size w w')(row:Option Nat):w.grownBy w' row:=⟨h.os,h.tape,h.output,h.size,λk hk _=>h.block k hk⟩
theorem O6{w w':World}{row:Option Nat}(h:w.grownBy w' row){B:Nat}(hB:B<=w.heap.size)(hr:∀b,row=some b->B<=b):Below B w w':=
 (Below.refl B w).grown h hB hr
theorem eW{w w':World}{base:Nat}{e:TypeId}{sz n:Nat}{v:Value}{xs:List Value}(h:w.ownsRow base e sz v n xs)(hb:Below w.heap.size w w'):w'.ownsRow base e sz v n xs:=
 h.kept (Oa hb none) (by cases hv:v.ownBlock<;>simp)
theorem Y2{w:World}{base:Nat}{e:TypeId}{sz n:Nat}{v:Value}{xs:List Value}(h:w.ownsRow base e sz v n xs){a:Addr}(ha:a.block<base)(u:Value):(w.setCell a u).ownsRow base e sz v n xs:=
 ownsRow_setCell_below h ha u
theorem IW{g:Nat}{t:TypeId}:∀(vs:List Value) (o:Nat) (w:World) (C:Array Value),Bk w g t C->o+vs.length<=C.size->
  ∃C',Bk (w.setCells g o vs) g t C'/\C'.toList=C.toList.take o++vs++C.toList.drop (o+vs.length)/\w.grownBy (w.setCells g o vs) (some g)/\(w.setCells g o vs).heap.size=w.heap.size
 |[],o,w,C,h,_=>⟨C,h,by simp,⟨rfl,rfl,rfl,Nat.le_refl _,λ_ _ _=>rfl⟩,rfl⟩
 |v::r,o,w,C,h,hl=>by
  simp only[List.length_cons] at hl;have h1:=h.Eo o v;obtain⟨C',hb,hC,hg,hz⟩:=IW r (o+1) _ _ h1 (by simp;omega);have hg0:=Xs w g o v;have hz0:(w.setCell ⟨g,o,none⟩ v).heap.size=w.heap.size:=by simp[World.setCell]
  refine⟨C',hb,?_,?_,hz.trans hz0⟩
  ·rw[hC];have e:(C.setIfInBounds o v).toList=C.toList.take o++v::C.toList.drop (o+1):=by
    rw[Array.toList_setIfInBounds,List.set_eq_take_append_cons_drop,if_pos (by simp;omega)]
   rw[e];have key:∀A B:List Value,A.length=o->(A++v::B).take (o+1)++r++(A++v::B).drop (o+1+r.length)=A++(v::r)++B.drop r.length:=by
    intro A B hA;subst hA;rw[List.take_length_add_append,show A.length+1+r.length=A.length+(1+r.length) from by omega,List.drop_length_add_append];simp[Nat.add_comm 1 r.length]
   rw[key _ _ (by simp;omega),List.drop_drop];congr 2;simp;omega
  ·exact⟨hg.os.trans hg0.os,hg.tape.trans hg0.tape,hg.output.trans hg0.output,Nat.le_trans hg0.size hg.size,λk hk hne=>(hg.block k Zo hne).trans (hg0.block k hk hne)⟩
structure FR(w:World)(g:Nat)(t:TypeId)(cs:Array Value)(w':World):Prop where
 bk:Bk w' g t cs
 grown:w.grownBy w' (some g)
 size:w'.heap.size=w.heap.size
section
variable{w w':World}{g:Nat}{t:TypeId}{cs:Array Value}
theorem FR.below(h:FR w g t cs w'){B:Nat}{w0:World}(hb:Below B w0 w)(hB:B<=g):Below B w0 w':=hb.grown h.grown (by have:=h.bk.lt;have:=h.size;omega) (λb e=>by cases e;exact hB)
theorem FR.Ax(h:FR w g t cs w'){k:Nat}{u:TypeId}{ds:Array Value}(hk:Bk w k u ds)(hne:k≠g):Bk w' k u ds:=hk.grown h.grown (by simpa using hne)
end
section
variable{P:Program}
theorem IF{ops:Array Oper}{rest:List Oper}{op:Oper}{a:Act}{w:World}{Q:Exit->Act->World->Prop}(hgd:op.guard=none)(ty:TypeId)(x y:Operand)(ho:op.op=.store ty x y)
  (g:Nat)(cells:Array Value)(hx:a.eval x=.pointer (some ⟨g,0,none⟩))(hy:a.eval y=.agg cells)(t:TypeId)(cs:Array Value)(hB:Bk w g t cs)(hsz:cs.size=cells.size)
  (hi:(P.info? ty).map (·.size)=some cells.size)(h1:cells.toList.all (·.oneCell')=true)
  (h:∀w',FR w g t cells w'->wpList P ops Q rest (a.put op.dst undef) w'):wpList P ops Q (op::rest) a w:=by
 obtain⟨C',hb,hC,hg,hz⟩:=IW cells.toList 0 w cs hB (by simp[hsz])
 have e:C'=cells:=by
  apply Array.toList_inj.1;rw[hC];simp[hsz]
 subst e
 refine wpList_store_mid hgd ty x y ho g 0 C' hx hy (λj hj=>⟨?_,?_⟩) hi (by rw[←Array.all_toList];exact h1) (h _ ⟨hb,hg,hz⟩)
 ·rw[Nat.zero_add,hB.cell,Array.getElem?_eq_getElem Zo];rfl
 ·rw[Nat.zero_add];exact hB.free j
theorem vM{ops:Array Oper}{rest:List Oper}{op:Oper}{a:Act}{w:World}{Q:Exit->Act->World->Prop}{ty:TypeId}{x y:Operand}{g:Nat}{cells:Array Value}{t:TypeId}{cs:Array Value}(hB:Bk w g t cs)(h:∀w',FR w g t cells w'->wpList P ops Q rest (a.put op.dst undef) w')(hgd:op.guard=none:=by rfl)(ho:op.op=.store ty x y:=by rfl)(hx:a.eval x=.pointer (some ⟨g,0,none⟩):=by rfl)(hy:a.eval y=.agg cells:=by rfl)(hsz:cs.size=cells.size:=by rfl)(hi:(P.info? ty).map (·.size)=some cells.size:=by kernel_rfl)(h1:cells.toList.all (·.oneCell')=true:=by rfl):wpList P ops Q (op::rest) a w:=IF hgd ty x y ho g cells hx hy t cs hB hsz hi h1 h
end
section
variable{P:Program}
theorem Za{ops:Array Oper}{rest:List Oper}{op:Oper}{a:Act}{w:World}{Q:Exit->Act->World->Prop}(hgd:op.guard=none)(ty:TypeId)(x y:Operand)(ho:op.op=.store ty x y)
  (g o:Nat)(cells:Array Value)(hx:a.eval x=.pointer (some ⟨g,o,none⟩))(hy:a.eval y=.agg cells)(t:TypeId)(cs cs':Array Value)(hB:Bk w g t cs)(hsz:o+cells.size<=cs.size)
  (hi:(P.info? ty).map (·.size)=some cells.size)(h1:cells.toList.all (·.oneCell')=true)(hcs:cs'.toList=cs.toList.take o++cells.toList++cs.toList.drop (o+cells.size))
  (h:∀w',FR w g t cs' w'->wpList P ops Q rest (a.put op.dst undef) w'):wpList P ops Q (op::rest) a w:=by
 obtain⟨C',hb,hC,hg,hz⟩:=IW cells.toList o w cs hB (by simpa using hsz)
 have e:C'=cs':=by
  apply Array.toList_inj.1;rw[hC,hcs];simp
 subst e
 refine wpList_store_mid hgd ty x y ho g o cells hx hy (λj hj=>⟨?_,?_⟩) hi (by rw[←Array.all_toList];exact h1) (h _ ⟨hb,hg,hz⟩)
 ·rw[hB.cell,Array.getElem?_eq_getElem Zo];rfl
 ·exact hB.free _
end
end Go.Proofs.YtaipogljokblkaaGreatDoor
namespace Go.Proofs.YtaipogljokblkaaGreatDoor.Fn
open Go Go.RowKit
theorem iP(b:UInt8):wrap64 (b.toNat:Int)=b.toNat:=by
 have:=UInt8.toNat_lt b;exact IntWalk.wrap64_in _ Zo
theorem CO{a b:Bool}(h:a=b):Ending.returned (.bool a)=.returned (.bool b):=by rw[h]
theorem tE{k:IntKind}{a b:Int}(h:a=b):Ending.returned (.int k a)=.returned (.int k b):=by rw[h]
theorem It(s:ByteArray)(k:Nat)(h:s.size<=k):rest s k=⟨#[]⟩:=by
 apply ByteArray.ext;simp[rest,ByteArray.data_extract];omega
theorem IH{r:ByteArray}(h:0<r.size):r.toList.isEmpty=false:=by
 rw[Go.ByteArray.toList_eq];cases hd:r.data.toList with
 |nil=>
  have:r.data.size=0:=by rw[←Array.length_toList,hd];rfl
  rw[ByteArray.size_data] at this;omega
 |cons a l=>rfl
def MH(b:Bool)(w:World)(e:Ending)(w':World):Prop:=e=.returned (.bool b)/\Below w.heap.size w w'
structure K5 where
 kind:Int
 key:Int
 val:Int
 Ah:Int
 deriving DecidableEq
def K5.v(o:K5):Value:=.agg #[.int .i64 o.kind,.int .i64 o.key,.int .i64 o.val,.int .i64 o.Ah]
def RetV(v:Value)(w:World)(e:Ending)(w':World):Prop:=e=.returned v/\Below w.heap.size w w'
end Go.Proofs.YtaipogljokblkaaGreatDoor.Fn
namespace Go.Proofs.YtaipogljokblkaaGreatDoor
open Go Go.RowKit
end Go.Proofs.YtaipogljokblkaaGreatDoor
