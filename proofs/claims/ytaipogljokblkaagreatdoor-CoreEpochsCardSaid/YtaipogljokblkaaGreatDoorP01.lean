/- Core: Via, Reg, Reg2. -/
import Derived.Handy
import Derived.KernelRfl
import Derived.BigQuiet
import Derived.Test.YtaipogljokblkaaGreatDoorProg
import Derived.Calls
import Derived.Lib.SliceRun
import Derived.Lib.Hide
import Derived.WalkKit
import Derived.OrdersHeld
import Derived.Deep.RegionHeld
import Derived.Outline
set_option linter.all false
set_option maxRecDepth 100000
set_option maxHeartbeats 8000000
namespace Go.Proofs.YtaipogljokblkaaGreatDoor
open Go Go.RowKit
def vB{p:Prop}(h:p:=by repeat' (first|(with_reducible exact Below.refl _ _)|(with_reducible assumption)|(with_reducible refine Below.alloc ?_ ?_ _)|(with_reducible refine Below.drew ?_)|(with_reducible refine below_drewN ?_ _)|(with_reducible refine Below.setCell ?_ ?_ _)|go_size)):p:=h
def vS1{p:Prop}(h:p:=by repeat' (first|with_reducible (first|refine pN ?_|refine pA ?_|refine pO ?_|refine pB ?_|refine pF ?_|refine pT ?_|refine pU ?_|refine pV ?_|refine pC ?_ ?_)|refine Hl ?_|refine Hm ?_|refine Ed (DB _ _ _) ?_|exact l1)):p:=h
def vS2{p:Prop}(h:p:=by repeat' (first|with_reducible (first|refine EA (Sn _) ?_|refine pN ?_|refine pA ?_|refine pO ?_|refine pB ?_|refine EA (cG _) ?_|refine EA (Uw _) ?_|refine EA (cH _) ?_|refine EA (cI _ _ _) ?_|refine pF ?_|refine pT ?_|refine pU ?_|refine pV ?_|refine pC ?_ ?_)|refine Hl ?_|refine Hm ?_|refine Ed (DB _ _ _) ?_|exact l1)):p:=h
def vS3{p:Prop}(h:p:=by repeat' (first|with_reducible (first|refine pN ?_|refine pA ?_|refine pO ?_|refine pB ?_|refine pF ?_|refine pT ?_|refine Jz (by first|exact RQ _|exact RT _|(show(Xa.pc _==_)=_;with_unfolding_all rfl)|(show(decide (_<=Xa.pc _))=_;with_unfolding_all rfl)|(show(AV.kind _==_)=_;with_unfolding_all rfl)) ?_|refine Jy (by first|exact RQ _|exact RT _|(show(Xa.pc _==_)=_;with_unfolding_all rfl)|(show(decide (_<=Xa.pc _))=_;with_unfolding_all rfl)|(show(AV.kind _==_)=_;with_unfolding_all rfl)) ?_|refine pC ?_ ?_)|unfold Xa.BP|unfold Xa.AK|unfold Xa.Bt|unfold Xa.Ca|unfold Xa.fin|refine Hl ?_|refine Hm ?_|refine Ed (DB _ _ _) ?_|exact l2)):p:=h
def vS4{p:Prop}(h:p:=by repeat' (first|with_reducible (first|refine EA (Sn _) ?_|refine pN ?_|refine pA ?_|refine pO ?_|refine pB ?_|refine EA (cG _) ?_|refine EA (Uw _) ?_|refine EA (cH _) ?_|refine EA (cI _ _ _) ?_|refine pF ?_|refine pT ?_|refine pU ?_|refine pV ?_|refine pC ?_ ?_)|refine Hl ?_|refine Hm ?_|refine Ed (DB _ _ _) ?_|exact l0)):p:=h
def vS5{p:Prop}(h:p:=by repeat' (first|with_reducible (first|refine pN ?_|refine pA ?_|refine pO ?_|refine pB ?_|refine pF ?_|refine pT ?_|refine pU ?_|refine pV ?_|refine pC ?_ ?_)|refine Hl ?_|refine Hm ?_|refine Ed (DB _ _ _) ?_|exact lE)):p:=h
def vS6{p:Prop}(h:p:=by repeat' (first|with_reducible (first|refine pN ?_|refine pA ?_|refine pO ?_|refine pB ?_|refine pF ?_|refine pT ?_|refine Jz (by first|(show(Xc.pc _==_)=_;with_unfolding_all rfl)|(show(AV.kind _==_)=_;with_unfolding_all rfl)|(show(Xr.ok _)=_;with_unfolding_all rfl)|(show(Xe.nm _==_)=_;with_unfolding_all rfl)|(show(Xe.sl _==_)=_;with_unfolding_all rfl)) ?_|refine Jy (by first|(show(Xc.pc _==_)=_;with_unfolding_all rfl)|(show(AV.kind _==_)=_;with_unfolding_all rfl)|(show(Xr.ok _)=_;with_unfolding_all rfl)|(show(Xe.nm _==_)=_;with_unfolding_all rfl)|(show(Xe.sl _==_)=_;with_unfolding_all rfl)) ?_|refine pC ?_ ?_)|unfold Xc.D8|refine Hl ?_|refine Hm ?_|refine Ed (DB _ _ _) ?_|exact l2)):p:=h
def vS7{p:Prop}(h:p:=by repeat' (first|with_reducible (first|refine pN ?_|refine pA ?_|refine pO ?_|refine pB ?_|refine Jz (by with_unfolding_all assumption) ?_|refine Jy (by with_unfolding_all assumption) ?_|refine pU ?_|refine pV ?_|refine pK (λh=>?_) (λh=>?_))|unfold Xc.DJ|with_reducible refine Ed (aV _ hway) ?_|refine Hl ?_|refine Hm ?_|refine Ed (DB _ _ _) ?_|exact Ta (by exact Uf hway (by assumption) (by assumption) (by assumption) (by assumption))|exact yV rfl (by kernel_rfl) (λk=>by kernel_rfl)|exact yW _ rfl (by kernel_rfl) (λk=>by kernel_rfl))):p:=h
def vS8{p:Prop}(h:p:=by repeat' (first|with_reducible (first|refine pN ?_|refine pA ?_|refine pO ?_|refine pB ?_|refine Jz (by with_unfolding_all assumption) ?_|refine Jy (by with_unfolding_all assumption) ?_|refine pU ?_|refine pV ?_|refine pK (λh=>?_) (λh=>?_))|refine Hl ?_|refine Hm ?_|refine Ed (DB _ _ _) ?_|exact l1)):p:=h
def vS9{p:Prop}(h:p:=by repeat' (first|with_reducible (first|refine EA (Sn _) ?_|refine pN ?_|refine pA ?_|refine pO ?_|refine pB ?_|refine EA (cG _) ?_|refine EA (Uw _) ?_|refine EA (cH _) ?_|refine EA (cI _ _ _) ?_|refine Jz (by with_unfolding_all assumption) ?_|refine Jy (by with_unfolding_all assumption) ?_|refine pU ?_|refine pV ?_|refine pK (λh=>?_) (λh=>?_))|refine Hl ?_|refine Hm ?_|refine Ed (DB _ _ _) ?_|exact Ta (by simp only[decide_eq_false_iff_not,decide_eq_true_eq] at*;omega)|exact l1)):p:=h
def vS10{p:Prop}(h:p:=by repeat' (first|with_reducible (first|refine pN ?_|refine pA ?_|refine pO ?_|refine pB ?_|refine pF ?_|refine pT ?_|refine Jz (by first|exact Uh _|exact Uj|exact Uk _|(show(Xf.pc _==_)=_;with_unfolding_all rfl)|(show(AV.kind _==_)=_;with_unfolding_all rfl)) ?_|refine Jy (by first|exact Uh _|exact Uj|exact Uk _|(show(Xf.pc _==_)=_;with_unfolding_all rfl)|(show(AV.kind _==_)=_;with_unfolding_all rfl)) ?_|refine pC ?_ ?_)|unfold Xf.AE|unfold Xf.Ay|unfold Xf.A6|refine Hl ?_|refine Hm ?_|refine Ed (DB _ _ _) ?_|exact l2)):p:=h
abbrev Kp(f:FuncId)(a:Array Value)(w:World)(p:Ending->World->Prop):Prop:=Calls Tryz.prog f a w p
abbrev db:=@Or.inr
abbrev eR:=@Lib.hid
abbrev fq:=@Or.inl
abbrev fs:=@List.toList_toArray
abbrev ft:=@List.mem_singleton
abbrev fw:=@if_neg
abbrev fx:=@Below.refl
abbrev fy:=@And.intro
abbrev ga:=@if_pos
abbrev gb:=@Nat.le_trans
abbrev gf:=@List.mem_cons
abbrev gl:=@List.getElem?_eq_getElem
abbrev gm:=@Bool.and_eq_true
abbrev gq:=@List.mem_cons_of_mem
abbrev gu:=@Option.some.injEq
abbrev gw:=@wpQuiet_nil
abbrev gx:=@cond_false
abbrev gy:=@List.mem_append
abbrev gz:=@decide_eq_false
abbrev g5:=@decide_eq_true
abbrev g6:=@List.mem_cons_self
abbrev g7:=@Exists.intro
abbrev g8:=@List.mem_append_left
abbrev g9:=@List.all_eq_true
abbrev hJ:=@Int.le_refl
abbrev h9:=@List.nodup_append
abbrev ia:=@Result.andThen_ok
abbrev ib:=@Nat.lt_of_lt_of_le
abbrev ic:=@List.not_mem_nil
abbrev ie:=@Nat.zero_le
abbrev ig:=@Sem.run_bind
abbrev ij:=@List.getElem?_set_self
abbrev ik:=@List.getElem?_eq_none
abbrev im:=@Bool.false_eq_true
abbrev io:=@Option.bind_eq_some_iff
abbrev iq:=@Nat.add_le_add_right
abbrev iu:=@List.length_append
abbrev iv:=@Bool.not_true
abbrev iw:=@Nat.lt_or_ge
abbrev iy:=@congrArg
abbrev iz:=@of_decide_eq_true
abbrev i9:=@cond_true
abbrev ja:=@List.nodup_cons
abbrev jb:=@List.length_cons
abbrev jc:=@List.length_set
abbrev jd:=@Prod.mk.injEq
abbrev je:=@List.getElem?_append_right
abbrev jh:=@decide_eq_true_eq
abbrev ji:=@Sem.run_pure
abbrev jj:=@List.map_cons
abbrev jk:=@Classical.byContradiction
abbrev jl:=@List.map_congr_left
abbrev jm:=@Int.toNat_of_nonneg
abbrev jn:=@beq_iff_eq
abbrev jo:=@List.getElem?_set_ne
abbrev jp:=@Bool.not_eq_true'
abbrev jq:=@List.mem_append_right
abbrev jr:=@List.eq_nil_of_length_eq_zero
abbrev js:=@bodyPost_ret
abbrev jt:=@List.mem_range
abbrev ju:=@Int.not_lt
abbrev jx:=@if_false
abbrev jy:=@List.length_filter_le
abbrev jz:=@List.append_assoc
abbrev j3:=@Iff.rfl
abbrev j5:=@Option.map_some
abbrev j6:=@Nat.le_of_ble_eq_true
abbrev j7:=@List.mem_map
abbrev j8:=@Int.le_of_lt_add_one
abbrev ka:=@Bool.or_eq_true
abbrev ke:=@List.getElem?_append_left
abbrev kf:=@List.getElem?_map
abbrev kg:=@World.cell?_alloc_lt
abbrev ki:=@World.block_lt_of_cell?
abbrev kj:=@List.pairwise_append
abbrev km:=@List.filter_cons_of_pos
abbrev kn:=@Array.getD_eq_getD_getElem?
abbrev ko:=@if_true
abbrev kq:=@Int.toNat_natCast
abbrev kt:=@Bool.eq_false_iff
abbrev ku:=@Array.getElem?_toList
abbrev kx:=@Array.toList_inj
abbrev kz:=@run_underlying
abbrev k9:=@Bool.not_false
abbrev lj:=@Int.eq_ofNat_of_zero_le
abbrev lm:=@beq_eq_false_iff_ne
abbrev ln:=@Array.getElem?_eq_none
abbrev lp:=@Below.heap_alloc
abbrev lr:=@Option.ne_none_iff_exists'
abbrev lu:=@List.getElem?_toArray
abbrev lw:=@Nat.le_succ
abbrev lx:=@Nat.add_mul
abbrev ly:=@List.sum_cons
abbrev lz:=@World.cell?_setCell_far
abbrev l5:=@Nat.le_add_right
abbrev l6:=@List.filter_cons_of_neg
abbrev l9:=@Nat.add_zero
abbrev ma:=@Int.natCast_nonneg
abbrev mb:=@Int.le_trans
abbrev mc:=@Option.some.inj
abbrev mf:=@Nat.add_assoc
abbrev mh:=@List.Pairwise.imp
abbrev mi:=@Array.toList_setIfInBounds
abbrev mj:=@Array.getElem?_eq_some_iff
abbrev ml:=@Nat.zero_add
abbrev mm:=@List.filter_cons
abbrev mn:=@Array.getElem?_eq_getElem
abbrev mo:=@Array.length_toList
abbrev mr:=@List.length_nil
abbrev mu:=@of_decide_eq_false
abbrev mv:=@Nat.eq_zero_or_pos
abbrev mw:=@List.pairwise_cons
abbrev my:=@Option.map_eq_some_iff
abbrev mz:=@Nat.one_shiftLeft
abbrev m8:=@List.take_add_one
abbrev m9:=@List.length_range
abbrev nf:=@List.getElem_cons_zero
abbrev nh:=@List.filter_congr
abbrev ni:=@List.ext_getElem?
abbrev nj:=@Addr.add_lit
abbrev nn:=@Lib.run_eql_slice_nil
abbrev np:=@List.take_length
abbrev nr:=@List.length_drop
abbrev nu:=@List.getElem_mem
abbrev nv:=@Nat.mul_le_mul_right
abbrev nw:=@Bool.or_eq_false_iff
abbrev ny:=@wpList_load_mid
abbrev nz:=@List.take_left'
abbrev nV:=@List.nil_append
abbrev n4:=@Array.getElem?_setIfInBounds
abbrev n5:=@Nat.testBit_two_pow
abbrev n9:=@List.mem_map_of_mem
abbrev oa:=@List.take_length_add_append
abbrev ob:=@List.set_set
abbrev oe:=@List.drop_length_add_append
abbrev og:=@info_parts
abbrev oh:=@List.filter_append
abbrev oi:=@Int.tmod_lt_of_pos
abbrev ol:=@Exists.imp
abbrev om:=@Option.isNone_iff_eq_none
abbrev oo:=@List.Sublist.append_left
abbrev oq:=@List.nil_sublist
abbrev ot:=@List.cons_append
abbrev ou:=@Array.toList_map
abbrev ov:=@Nat.zero_mul
abbrev ox:=@Nat.sub_zero
abbrev oy:=@Nat.mod_lt
abbrev oz:=@List.sublist_cons_self
abbrev pd:=@List.map_map
abbrev pf:=@Nat.testBit_and
abbrev pg:=@List.range_succ
abbrev pj:=@Int.tmod_nonneg
abbrev pk:=@Array.getElem?_modify
abbrev pm:=@run_program
abbrev pn:=@Prod.ext
abbrev pq:=@Nat.testBit_or
abbrev pu:=@List.erase_cons_head
abbrev px:=@Bool.false_and
abbrev py:=@Array.mem_toList_iff
abbrev pz:=@List.getElem_range
abbrev p5:=@Array.ext_getElem?
abbrev p7:=@List.set_eq_take_append_cons_drop
abbrev p8:=@run_storeCells_at
abbrev p9:=@Nat.sub_self
abbrev qa:=@List.getElem?_set
abbrev qb:=@List.any_eq_false
abbrev qd:=@List.Sublist.refl
abbrev sv:=@Option.bind_some
abbrev sx:=@List.mem_flatMap
abbrev sy:=@List.length_take
abbrev s6:=@List.eq_nil_iff_forall_not_mem
abbrev s7:=@Bool.not_eq_true
abbrev s8:=@Array.eq_empty_of_size_eq_zero
abbrev uh:=@List.getLast?_eq_some_getLast
def d2{a b c:Prop}(h:c):a\/b\/c:=.inr (.inr h)
def d4{a b c d e:Prop}(h:e):a\/b\/c\/d\/e:=d2 (d2 h)
def d8{a b c d e f g i j:Prop}(h:j):a\/b\/c\/d\/e\/f\/g\/i\/j:=d4 (d4 h)
theorem Zq{p:Prop}(h:p:=by(repeat' split)<;>omega):p:=h
theorem Zo{p:Prop}(h:p:=by omega):p:=h
theorem Zk{p:Prop}(h:p:=by kernel_rfl):p:=h
theorem Zr{p:Prop}(h:p:=by rfl):p:=h
theorem Zd{p:Prop}(h:p:=by decide):p:=h
theorem Zs{p:Prop}(h:p:=by simp):p:=h
theorem Zh{p:Prop}(h:p):Hid p:=Lib.hid h
theorem ZL:(∀(a:Act) (d:Tmp) (v:Value),a.put (some d) v={a with tmps:=a.tmps.setIfInBounds d v})/\(∀(a:Act) (v:Value),a.put none v=a)/\(∀(l:List Value) (i:Nat) (a:Value),l.toArray.setIfInBounds i a=(l.set i a).toArray)/\(∀(l:List Value) (x y:Value) (i:Nat),(x::l).set (i+1) y=x::l.set i y)/\(∀(l:List Value) (x y:Value),(x::l).set 0 y=y::l):=⟨λ_ _ _=>rfl,λ_ _=>rfl,λ_ _ _=>by simp,λ_ _ _ _=>rfl,λ_ _ _=>rfl⟩
section
variable{P:Program}{ops:Array Oper}{Q:Exit->Act->World->Prop}{md:Region.Mode}{S:World->Prop}{n:Nat}
def N5(P:Program)(md:Region.Mode)(ops:Array Oper)(Q:Exit->Act->World->Prop)(S:World->Prop)(n:Nat):Nat->Array Bool->Act->World->Prop
 |0,b,a,w=>Region.ready md ops b=[]/\Q .normal a w
 |c+1,b,a,w=>(Region.ready md ops b=[]->Q .normal a w)/\
   ∀i∈Region.ready md ops b,wpOp P ops Q i (λe d=>(i<n->S d)/\N5 P md ops Q S n c (b.setIfInBounds i true) e d) a w
def Od:∀(fuel:Nat) (listed:Array Bool) (a:Act) (w:World),N5 P md ops Q S n fuel listed a w->wpAny P md ops Q fuel listed a w
 |0,_,_,_,h=>h
 |fuel+1,_,_,_,h=>⟨h.1,λi b=>wpOp_mono (λc d e=>Od fuel _ c d e.2) (h.2 i b)⟩
def Ip(md:Region.Mode)(ops:Array Oper)(n:Nat):Bool:=
 (List.range ops.size).all λj=>decide (j<n)||(List.range n).all λi=>((ops[j]?).map λo=>o.after.any λe=>Region.binds md e&&e.on==i).getD false
def iB(h:Ip md ops n=true){j i:Nat}{g:Oper}(b:ops[j]?=some g)(k:n<=j)(l:i<n):∃e∈g.after,Region.binds md e=true/\e.on=i:=by
 have c:j<ops.size:=by
  rcases iw j ops.size with d|d
  ·exact d
  ·rw[ln d] at b;cases b
 have h1:=g9.1 h j (jt.2 c);rw[ka] at h1;rcases h1 with h1|h1
 ·have:=iz h1;omega
 ·have a:=g9.1 h1 i (jt.2 l);rw[b] at a;simp only[j5,Option.getD_some] at a;rw[Array.any_eq_true'] at a;obtain⟨e,m,f⟩:=a;rw[gm] at f;exact⟨e,m,f.1,by simpa using f.2⟩
def Lo{i:Nat}{listed:Array Bool}(c:i∈Region.ready md ops listed):listed.getD i false=false:=by
 have b:=(mem_ready.1 c).1;rcases iw i listed.size with a|a
 ·simp[a] at b ⊢;exact b
 ·simp[ln a]
def eT{i:Nat}{r:Oper}{v:Value}(R:Ip md ops n=true)(G:i<n)(I:ops[i]?=some r)
  (m:∀(j:Nat) (o:Oper) cs b,ops[j]?=some o->o.op≠.select cs b)(T:∀c a w,Q (.panic c) (a.put r.dst v) w->Q (.panic c) a w):
  ∀(fuel:Nat) (listed:Array Bool) (a:Act) (w:World),
   (∀j s,ops[j]?=some s->j≠i->listed.getD j true=false->(∀e∈s.after,Region.binds md e=true->e.on≠i)->r.apart ops s=true)->
   i∈Region.ready md ops listed->YieldsIf P ops S r v a->S w->
   N5 P md ops Q S n fuel (listed.setIfInBounds i true) (a.put r.dst v) w->N5 P md ops Q S n (fuel+1) listed a w:=by
 intro fuel
 induction fuel with
 |zero=>
  intro listed a w _ t C x H
  refine⟨λh=>(by rw[h] at t;cases t),λj D=>?_⟩
  by_cases d:j=i
  ·subst d;exact C.wpOp I x ⟨λ_=>x,H⟩
  ·have:=ready_mono D d;rw[H.1] at this;cases this
 |succ fuel U=>
  intro listed a w f t C x H
  refine⟨λh=>(by rw[h] at t;cases t),λj D=>?_⟩
  by_cases d:j=i
  ·subst d;exact C.wpOp I x ⟨λ_=>x,H⟩
  ·have V:=H.2 j (ready_mono D d);obtain⟨p,s,g,y⟩:=mem_ready.1 D;have J:=Lo t;have q:∀e∈s.after,Region.binds md e=true->e.on≠i:=λe K L u=>by
    have E:=y e K L;rw[u,J] at E;cases E
   have z:j<n:=by
    rcases iw j n with M|M
    ·exact M
    ·obtain⟨e,K,L,u⟩:=iB R g M G;exact absurd u (q e K L)
   have E:=wpOp_putIf g (f j s g d p q) (λcs b=>m i r cs b I) (λcs b=>m j s cs b g) T C V;have l:∀k ok,ops[k]?=some ok->k≠i->(listed.setIfInBounds j true).getD k true=false->
     (∀e∈ok.after,Region.binds md e=true->e.on≠i)->r.apart ops ok=true:=λk ok W N A O=>by
    refine f k ok W N ?_ O
    by_cases B:j=k
    ·subst B;exact p
    ·rwa [getD_set_ne true B] at A
   refine wpOp_mono (λX Y F=>⟨λ_=>F.2.1 z,U (listed.setIfInBounds j true) X Y l (ready_mono t (Ne.symm d)) F.1 (F.2.1 z) ?_⟩) E;rw[Array.setIfInBounds_comm _ _ d];exact F.2.2
def Oc{i:Nat}{d:Oper}{v:Value}{fuel:Nat}{listed:Array Bool}{a:Act}{w:World}(g:Ip md ops n=true)(e:i<n)(f:ops[i]?=some d)
  (b:Region.noSelect ops=true)(j:Region.free md ops listed i=true)(k:(Region.ready md ops listed).contains i=true)
  (l:∀c a w,Q (.panic c) (a.put d.dst v) w->Q (.panic c) a w)(m:YieldsIf P ops S d v a)(o:S w)
  (h:N5 P md ops Q S n fuel (listed.setIfInBounds i true) (a.put d.dst v) w):N5 P md ops Q S n (fuel+1) listed a w:=
 eT g e f (Region.noSelect_spec b) l fuel listed a w (Region.free_spec f j) (by simpa using k) m o h
def Bm{i:Nat}{d:Oper}{fuel:Nat}{listed:Array Bool}{a:Act}{w:World}(f:Ip md ops n=true)(e:i<n)(g:ops[i]?=some d)
  (b:Region.noSelect ops=true)(j:Region.free md ops listed i=true)(k:(Region.ready md ops listed).contains i=true)
  (l:∀v c a w,Q (.panic c) (a.put d.dst v) w->Q (.panic c) a w)(m:S w)
  (h:∃v,YieldsIf P ops S d v a/\N5 P md ops Q S n fuel (listed.setIfInBounds i true) (a.put d.dst v) w):N5 P md ops Q S n (fuel+1) listed a w:=by
 obtain⟨v,o,h⟩:=h
 exact Oc f e g b j k (l v) o m h
def wD{i:Nat}{fuel:Nat}{listed:Array Bool}{a:Act}{w:World}(b:Region.ready md ops listed=[i])
  (h:wpOp P ops Q i (λe w'=>(i<n->S w')/\N5 P md ops Q S n fuel (listed.setIfInBounds i true) e w') a w):N5 P md ops Q S n (fuel+1) listed a w:=
 ⟨λc=>(by rw[b] at c;cases c),λj d=>(by rw[b] at d;rw[ft.1 d];exact h)⟩
def Yk{listed:Array Bool}{a:Act}{w:World}(b:Region.ready md ops listed=[])(h:Q .normal a w):∀fuel,N5 P md ops Q S n fuel listed a w
 |0=>⟨b,h⟩
 |_+1=>⟨λ_=>h,by rw[b];simp⟩
def Yh{id:Nat}{a:Act}{w:World}(S:World->Prop)(n:Nat)(b:P.follows .mixedOrders=true)(c:S w.drew)
  (h:S w.drew->N5 P .any ops Q S n ops.size (Array.replicate ops.size false) a w.drew):(Code.region id ops true).wp P Q a w:=
 wp_region_any b (Od _ _ _ _ (h c))
def Qm(K:Act->World->Prop)(Q:Exit->Act->World->Prop):Exit->Act->World->Prop
 |.normal,a,w=>K a w
 |e,a,w=>Q e a w
def KA{K:Act->World->Prop}(h:LetsOut (Qm K Q)):LetsOut Q:=h
def Ue{o:Oper}{a:Act}{w:World}{K b:Act->World->Prop}(h:o.wp P a w b (Qm K Q)):o.wp P a w b Q:=by
 unfold Oper.wp at*;generalize(execOp a.eval o).run P w=r at*;cases r with
 |ok c d=>
  cases c<;>simp only[Oper.upon] at h ⊢<;>first|exact h|(refine Calls.mono h (λe f g=>?_);cases e<;>exact g)
 |halt x d=>cases x<;>simp only[Oper.upon] at h ⊢<;>exact h
def QM{i:Nat}{o:Oper}{b:Act->World->Prop}{a:Act}{w:World}(e:ops[i]?=some o)
  (h:∀K:Act->World->Prop,Shut (∀c w',b c w'->K c w')->wpList P ops (Qm K Q) [o] a w):wpOp P ops Q i b a w:=by
 have h1:=h b (λc w' h1=>h1)
 unfold wpOp
 simp only[e]
 unfold wpList at h1
 split
 ·rename_i d;simp only[d,ko] at h1;rcases h1 with h1|h1
  ·exact .inl (Ue h1)
  ·exact .inr ⟨h1.1,KA h1.2⟩
 ·rename_i d;simp only[d] at h1;exact h1
def Gz{i j:Nat}{d e:Oper}{fuel:Nat}{listed:Array Bool}{a:Act}{w:World}(h:ops[i]?=some d)(l:ops[j]?=some e)(f:Region.ready md ops listed=[i,j])
  (m:∀K:Act->World->Prop,Shut (∀b w',((i<n->S w')/\N5 P md ops Q S n fuel (listed.setIfInBounds i true) b w')->K b w')->wpList P ops (Qm K Q) [d] a w)
  (o:∀K:Act->World->Prop,Shut (∀b w',((j<n->S w')/\N5 P md ops Q S n fuel (listed.setIfInBounds j true) b w')->K b w')->wpList P ops (Qm K Q) [e] a w):
  N5 P md ops Q S n (fuel+1) listed a w:=by
 refine⟨λg=>(by rw[f] at g;cases g),λk c=>?_⟩
 rw[f] at c
 rcases gf.1 c with rfl|c
 ·exact QM h m
 ·rw[ft.1 c];exact QM l o
def ES{i:Nat}{o:Oper}{fuel:Nat}{listed:Array Bool}{a:Act}{w:World}(d:ops[i]?=some o)(e:Region.ready md ops listed=[i])
  (h:∀K:Act->World->Prop,Shut (∀b w',(i<n->S w')->N5 P md ops Q S n fuel (listed.setIfInBounds i true) b w'->K b w')->wpList P ops (Qm K Q) [o] a w):
  N5 P md ops Q S n (fuel+1) listed a w:=by
 refine wD e ?_
 have h1:=h _ (λb w' h1 f=>(⟨h1,f⟩:(i<n->S w')/\N5 P md ops Q S n fuel (listed.setIfInBounds i true) b w'))
 unfold wpOp
 simp only[d]
 unfold wpList at h1
 split
 ·rename_i c;simp only[c,ko] at h1;rcases h1 with h1|h1
  ·exact .inl (Ue h1)
  ·exact .inr ⟨h1.1,KA h1.2⟩
 ·rename_i c;simp only[c] at h1;exact h1
end
def NM(o:Oper):Bool:=
 match o.op with
 |.move _|.assign _|.pick _ _ _|.load _ _|.binOp _ _ _ _ _|.unOp _ _ _|.fieldAddr _ _ _|.field _ _ _|.indexAddr _ _ _|.index _ _ _|.extract _ _|.slice _ _ _ _ _|.convert _ _ _|.nilCheck _|.build _ _=>true
 |.call c=>match c.callee with
  |.builtin .len=>true
  |.builtin .cap=>true
  |_=>false
 |_=>false
def SK{P:Program}{s:Sem Value}{a:Next}{w w':World}(h:((do pure (.value (←s))):Sem Next).run P w=.ok a w'):∃v,a=.value v:=by
 rw[ig] at h;cases b:s.run P w with
 |ok v c=>rw[b] at h;simp[Result.andThen] at h;exact⟨v,h.1.symm⟩
 |halt x c=>rw[b] at h;simp[Result.andThen] at h
def qE{P:Program}{s:Sem Bool}{f:Bool->Value}{a:Next}{w w':World}(h:((do let b ←s;pure (.value (f b))):Sem Next).run P w=.ok a w'):∃v,a=.value v:=by
 rw[ig] at h;cases c:s.run P w with
 |ok v d=>rw[c] at h;simp[Result.andThen] at h;exact⟨_,h.1.symm⟩
 |halt x d=>rw[c] at h;simp[Result.andThen] at h
def Vy{P:Program}{o:Oper}{i:Operand->Value}{e:Next}{w w':World}(h:NM o=true)(a:(execOp i o).run P w=.ok e w'):∃v,e=.value v:=by
 unfold NM at h;unfold execOp at a;cases j:o.op<;>rw[j] at h a<;>simp only[] at h a<;>first
  |(cases h;done)
  |exact SK a
  |(simp at a;exact⟨_,a.1.symm⟩)
  |exact qE (f:=λb=>if b=true then _ else _) a
  |skip
 ·split at a
  ·simp[runtimePanic] at a
  ·simp[runtimePanic] at a
  ·simp[runtimePanic] at a
  ·split at a
   ·simp[runtimePanic] at a
   ·rw[ig,pm] at a;simp only[ia] at a;rw[ig] at a;rename_i t u _;cases g:(nilAhead (P.types.size+Made.depth) t u _).run P w with
    |ok v k=>rw[g] at a;simp only[ia] at a;split at a<;>simp[unsupported] at a;exact⟨_,a.1.symm⟩
    |halt x k=>rw[g] at a;simp[Result.andThen] at a
   ·simp at a;exact⟨_,a.1.symm⟩
  ·simp at a;exact⟨_,a.1.symm⟩
 rename_i c;cases d:c.callee with
 |builtin b=>
  rw[d] at h;unfold resolve at a;rw[d] at a;cases b<;>simp only[] at h a<;>first
   |(cases h;done)
   |exact SK (s:=Builtin.len_ _ _ _) a
   |exact SK (s:=Builtin.cap_ _ _ _) a
 |invoke _ _=>rw[d] at h;cases h
 |value _=>rw[d] at h;cases h
section
variable{P:Program}{ops:Array Oper}{Q:Exit->Act->World->Prop}{md:Region.Mode}{S:World->Prop}{n:Nat}
def Lg{o:Oper}{a:Act}{v:Value}(d:NM o=true)(e:Region.wanted o (yielded ops a.tmps)=true)(h:∀w,S w->o.quietAt P a S w v):YieldsIf P ops S o v a:=by
 refine fq ⟨e,λw f=>?_⟩;have b:=h w f;unfold Oper.quietAt at b;cases c:(execOp a.eval o).run P w with
 |halt x g=>rw[c] at b;exact b.elim
 |ok k g=>
  obtain⟨u,rfl⟩:=Vy d c;rw[c] at b;obtain⟨i,j⟩:=b;rw[i,j]
def Xv:List Oper->Nat->Oper
 |[],_=>default
 |o::_,0=>o
 |_::l,i+1=>Xv l i
def Yb(l:List Oper):List Nat->List Oper
 |[]=>[]
 |i::is=>Xv l i::Yb l is
def Tr:List Nat->Array Bool->Array Bool
 |[],a=>a
 |i::is,a=>Tr is (a.setIfInBounds i true)
def Tb(md:Region.Mode)(ops:Array Oper)(n:Nat):List Nat->Array Bool->Bool
 |[],_=>true
 |i::is,a=>decide (i<n)&&(Region.ready md ops a).contains i&&Region.free md ops a i&&NM (Xv ops.toList i)&&Tb md ops n is (a.setIfInBounds i true)
def KQ:∀(l:List Oper) (i:Nat),i<l.length->l[i]?=some (Xv l i)
 |[],_,h=>by simp at h
 |_::_,0,_=>rfl
 |_::l,i+1,h=>by simpa [Xv] using KQ l i (by simpa using h)
def Vq{i:Nat}{listed:Array Bool}(h:(Region.ready md ops listed).contains i=true):i<ops.size:=by
 have c:i∈Region.ready md ops listed:=by simpa using h
 obtain⟨_,o,b,_⟩:=mem_ready.1 c;rcases iw i ops.size with a|a
 ·exact a
 ·rw[ln a] at b;cases b
def My(e:Ip md ops n=true)(b:Region.noSelect ops=true)(f:∀d v c a w,Q (.panic c) (a.put d v) w->Q (.panic c) a w){fuel:Nat}{w:World}(g:S w):
  ∀(is:List Nat) (listed:Array Bool) (a:Act),Tb md ops n is listed=true->
   wpQuiet P ops S (λr=>N5 P md ops Q S n fuel (Tr is listed) r w) (Yb ops.toList is) a->N5 P md ops Q S n (fuel+is.length) listed a w
 |[],_,_,_,h=>h
 |i::is,listed,a,k,h=>by
  unfold Tb at k;simp only[gm] at k;obtain⟨⟨⟨⟨j,l⟩,o⟩,s⟩,p⟩:=k;have j:=iz j;have q:ops[i]?=some (Xv ops.toList i):=by
   have:=KQ ops.toList i (by simpa using Vq l);rwa [ku] at this
  show N5 P md ops Q S n (fuel+is.length+1) listed a w;unfold Yb wpQuiet at h;split at h
  ·rename_i m;obtain⟨v,t,u⟩:=h;exact Oc e j q b o l (λc a w=>f _ _ c a w) (Lg s m t) g (My e b f g is _ _ p u)
  ·rename_i m;exact Oc e j q b o l (λc a w=>f _ _ c a w) (db ⟨by simpa using m,rfl⟩) g (My e b f g is _ _ p h)
def vT{fuel:Nat}{w:World}(e:S w)(is:List Nat){listed:Array Bool}{a:Act}(h:wpQuiet P ops S (λf=>N5 P md ops Q S n fuel (Tr is listed) f w) (Yb ops.toList is) a)(g:Ip md ops n=true:=by kernel_rfl)(b:Region.noSelect ops=true:=by kernel_rfl)(i:∀d v c a w,Q (.panic c) (a.put d v) w->Q (.panic c) a w:=by intro d;cases d<;>exact λ_ _ _ _ h=>h)(j:Tb md ops n is listed=true:=by kernel_rfl):N5 P md ops Q S n (fuel+is.length) listed a w:=My g b i e is listed a j h
def Xn{fuel:Nat}{w:World}{listed:Array Bool}{a:Act}(i:Nat)(b:Region.ready md ops listed=[i])
  (h:∀K:Act->World->Prop,Shut (∀c w',(i<n->S w')->N5 P md ops Q S n fuel (listed.setIfInBounds i true) c w'->K c w')->wpList P ops (Qm K Q) [Xv ops.toList i] a w):
  N5 P md ops Q S n (fuel+1) listed a w:=by
 have d:ops[i]?=some (Xv ops.toList i):=by
  have:=KQ ops.toList i (by simpa using Vq (md:=md) (listed:=listed) (by rw[b];simp));rwa [ku] at this
 exact ES d b h
def Jc{id:Nat}{a:Act}{w:World}{l:List Oper}(C:World->Prop)(b:P.follows .mixedOrders=true)(c:Region.lexB .any l.toArray=true)(d:C w.drew)
  (h:wpQuiet P l.toArray C (λe=>∀w',C w'->Q .normal e w') l a):(Code.region id l.toArray true).wp P Q a w:=
 wp_region_quiet (C:=C) b c d (by simpa using h)
end
