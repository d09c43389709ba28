/- Core: SymI, SymJ, SymK. -/
import Derived.Test.YtaipogljokblkaaGreatDoorZ04
set_option linter.all false
set_option maxRecDepth 100000
set_option maxHeartbeats 8000000
namespace Go.Proofs.YtaipogljokblkaaGreatDoor
open Go Go.RowKit
set_option linter.unusedSimpArgs false
set_option linter.unusedVariables false
set_option linter.unusedSectionVars false
section
variable {P:Program} {e:Env} {B:Base} {k:Nat→Nat} {st st':St} {a:Act} {w:World} {callf:Nat→List SV→St→Xy (SV × St)} {K:Act→World→Prop} {Q:Exit→Act→World→Prop}
theorem Inv.asm_add (I:Inv e B k st a w) {b:BT} {v:Bool} (h:b.den e = v):Inv e B k { st with asm:=addA b v st.asm } a w :=
 ⟨I.h,⟨I.f.defers,I.f.sz,I.f.tmps⟩,addA_ok I.asm h⟩
theorem inPh_ph (j n:Nat):inPh j n / phM = j:=by
 unfold inPh phM
 omega
theorem Inv.bump (I:Inv e B k st a w):Inv e B k (bump st) a w:=⟨by
 have h:=I.h
 have e1:(_root_.Go.Proofs.YtaipogljokblkaaGreatDoor.bump st).ph = st.ph:=inPh_ph _ _
 rw [e1]
 exact h,⟨I.f.defers,I.f.sz,I.f.tmps⟩,I.asm⟩
theorem Inv.drew (I:Inv e B k st a w):Inv e B k st a w.drew:=⟨I.h.drew,I.f,I.asm⟩
theorem stepS_sound (hc:CallOk P e B.Φ callf) {ops:Array Oper} {lab:Nat} {o:Oper} (h:(stepS P callf ops lab o st).sel e = some st') (hlab:lab % 2 = 1) (I:Inv e B k st a w)
  (hK:∀ k' a' w',Inv e B k' st' a' w'→K a' w'):if Region.wanted o (yielded ops a.tmps) = true then o.wp P a w K Q else K (a.put o.dst undef) w:=by
 unfold stepS at h
 split at h
 ·simp [Xy.sel] at h
 ·rename_i hd
  have hd:okD o st = true:=by simpa using hd
  split at h
  ·simp [Xy.sel] at h
  ·rename_i hg
   rw [guard_den I hg]
   simp only [BT.den,if_true]
   exact runS_sound hc h hlab hd I hK
  ·rename_i hg
   rw [guard_den I hg]
   simp only [Xy.sel,Option.some.injEq] at h
   subst h
   simp only [BT.den,Bool.false_eq_true,if_false]
   exact hK k _ _ (I.put I.h I.asm (fun β h=>h) (okD_spec hd) (fun β _=>rfl))
  ·rename_i g _ _ hg
   rw [guard_den I hg]
   simp only [Xy.sel] at h
   cases hb:g.den e with
   | true =>
    rw [hb] at h
    simp only [if_true]
    exact runS_sound hc h hlab hd (I.asm_add hb) hK
   | false =>
    rw [hb] at h
    simp only [Option.some.injEq] at h
    subst h
    simp only [Bool.false_eq_true,if_false]
    have I':=I.asm_add hb
    exact hK k _ _ (I'.put I'.h I'.asm (fun β h=>h) (okD_spec hd) (fun β _=>rfl))
theorem seqS_sound (hc:CallOk P e B.Φ callf) {ops:Array Oper} (hQ:∀ k' a' w',Inv e B k' st' a' w'→Q .normal a' w'):∀ (rest:List Oper) (j:Nat) (st:St) (k:Nat→Nat) (a:Act) (w:World),
  (seqS P callf ops rest j st).sel e = some st'→Inv e B k st a w→wpList P ops Q rest a w
 | [],j,st,k,a,w,h,I=>by
  simp only [seqS,Xy.sel,Option.some.injEq] at h
  subst h
  exact hQ k a w I
 | o :: rest,j,st,k,a,w,h,I=>by
  simp only [seqS] at h
  rw [sel_bind] at h
  obtain ⟨s1,h1,h2⟩:=Option.bind_eq_some_iff.1 h
  have:=stepS_sound (Q:=Q) (K:=wpList P ops Q rest) hc h1 (by omega) I (fun k' a' w' I'=>seqS_sound hc hQ rest (j+1) s1 k' a' w' h2 I')
  unfold wpList
  split
  ·rename_i hw;rw [if_pos hw] at this;exact Or.inl this
  ·rename_i hw;rw [if_neg hw] at this;exact this
end
theorem litEq_eq {a b:Value} (h:litEq a b = true):a = b:=by
 unfold litEq at h
 split at h <;> first
  | rfl
  | (simp at h;done)
  | (simp only [Bool.and_eq_true,decide_eq_true_eq] at h;rw [h.1,h.2];done)
  | (simp only [beq_iff_eq] at h;rw [h];done)
  | (simp only [decide_eq_true_eq] at h;rw [h];done)
  | (simp only [Bool.and_eq_true,beq_iff_eq] at h;rw [Array.eq_empty_of_size_eq_zero h.1,Array.eq_empty_of_size_eq_zero h.2];done)
theorem SC.same_eq {x y:SC} (h:x.same y = true):x = y:=by
 unfold SC.same at h
 split at h <;> first
  | (rw [litEq_eq h];done)
  | (simp only [decide_eq_true_eq] at h;rw [h];done)
  | (simp only [Bool.and_eq_true,decide_eq_true_eq] at h;rw [h.1,h.2];done)
  | (simp only [Bool.and_eq_true,decide_eq_true_eq] at h;rw [h.1.1,h.1.2,h.2];done)
  | (simp at h;done)
theorem sameL_eq {α:Type} {f:α→α→Bool} (hf:∀ x y,f x y = true→x = y):∀ {l m:List α},sameL f l m = true→l = m
 | [],[],_=>rfl
 | x :: r,y :: s,h=>by
  simp only [sameL,Bool.and_eq_true] at h
  rw [hf x y h.1,sameL_eq hf h.2]
 | [],_ :: _,h=>by simp [sameL] at h
 | _ :: _,[],h=>by simp [sameL] at h
theorem SV.same_eq {x y:SV} (h:x.same y = true):x = y:=by
 unfold SV.same at h
 split at h
 ·rw [SC.same_eq h]
 ·rw [sameL_eq (fun _ _=>SC.same_eq) h]
 ·rw [sameL_eq (fun p q hpq=>by
   simp only [Bool.and_eq_true,beq_iff_eq] at hpq
   exact Prod.ext hpq.1 (sameL_eq (fun _ _=>SC.same_eq) hpq.2)) h]
 ·simp at h
theorem St.same_eq {s t:St} (h:s.same t = true):s = t:=by
 obtain ⟨a1,a2,a3,a4,a5⟩:=s
 obtain ⟨b1,b2,b3,b4,b5⟩:=t
 simp only [St.same,Bool.and_eq_true,decide_eq_true_eq] at h
 obtain ⟨⟨⟨⟨h1,h2⟩,h3⟩,h4⟩,h5⟩:=h
 rw [sameL_eq (fun p q hpq=>by
   simp only [Bool.and_eq_true,decide_eq_true_eq] at hpq
   exact Prod.ext hpq.1 (SV.same_eq hpq.2)) h1,
  sameL_eq (fun p q hpq=>by
   simp only [Bool.and_eq_true,decide_eq_true_eq] at hpq
   exact Prod.ext hpq.1.1 (Prod.ext hpq.1.2 (sameL_eq (fun _ _=>SC.same_eq) hpq.2))) h2,
  sameL_eq (fun p q hpq=>by simpa using hpq) h3,h4,h5]
theorem Xy.same_eq:∀ {x y:Xy St},x.same y = true→x = y
 | .leaf s,.leaf t,h=>by rw [St.same_eq h]
 | .br b x y,.br c u v,h=>by
  simp only [Xy.same,Bool.and_eq_true,decide_eq_true_eq] at h
  rw [h.1.1,Xy.same_eq h.1.2,Xy.same_eq h.2]
 | .leaf _,.br _ _ _,h=>by simp [Xy.same] at h
 | .leaf _,.fail _,h=>by simp [Xy.same] at h
 | .br _ _ _,.leaf _,h=>by simp [Xy.same] at h
 | .br _ _ _,.fail _,h=>by simp [Xy.same] at h
 | .fail _,.leaf _,h=>by simp [Xy.same] at h
 | .fail _,.br _ _ _,h=>by simp [Xy.same] at h
 | .fail _,.fail _,h=>by simp [Xy.same] at h
def arrB (n L:Nat):Array Bool:=((List.range n).map fun i=>L.testBit i).toArray
theorem arrB_zero (n:Nat):arrB n 0 = Array.replicate n false:=by
 unfold arrB
 rw [show (fun i=>Nat.testBit 0 i) = Function.const Nat false from funext fun i=>by simp,List.map_const]
 simp
theorem arrB_get (n L i:Nat) (d:Bool):(arrB n L).getD i d = if i < n then L.testBit i else d:=by
 unfold arrB
 by_cases h:i < n
 ·simp [h,Array.getD_eq_getD_getElem?]
 ·simp [h,Array.getD_eq_getD_getElem?]
theorem testBit_bit (L i j:Nat):(L ||| (1 <<< i)).testBit j = (L.testBit j || decide (i = j)):=by
 rw [Nat.testBit_or,Nat.one_shiftLeft,Nat.testBit_two_pow]
theorem arrB_set (n L i:Nat):(arrB n L).setIfInBounds i true = arrB n (L ||| (1 <<< i)):=by
 unfold arrB
 apply Array.ext_getElem?
 intro j
 rw [Array.getElem?_setIfInBounds]
 simp only [List.getElem?_toArray,List.getElem?_map,List.size_toArray,List.length_map,List.length_range]
 by_cases h:i = j
 ·subst h
  by_cases hn:i < n
  ·simp [hn,testBit_bit]
  ·simp [hn]
 ·simp only [h,if_false]
  by_cases hn:j < n
  ·rw [List.getElem?_range hn]
   simp only [Option.map_some,testBit_bit]
   simp [h]
  ·simp [hn]
theorem bit_lt {n L i:Nat} (hL:L < 2 ^ n) (hi:i < n):L ||| (1 <<< i) < 2 ^ n:=by
 rw [Nat.one_shiftLeft]
 exact Nat.or_lt_two_pow hL (Nat.pow_lt_pow_right (by omega) hi)
theorem sub_iff (m L:Nat):((m &&& L)==m) = true↔∀ k,m.testBit k = true→L.testBit k = true:=by
 rw [beq_iff_eq]
 constructor
 ·intro h k hk
  rw [← h,Nat.testBit_and,Bool.and_eq_true] at hk
  exact hk.2
 ·intro h
  apply Nat.eq_of_testBit_eq
  intro k
  rw [Nat.testBit_and]
  cases hm:m.testBit k with
  | false=>simp
  | true=>simp [h k hm]
theorem zero_iff (m L:Nat):((m &&& L)==0) = true↔∀ k,m.testBit k = true→L.testBit k = false:=by
 rw [beq_iff_eq]
 constructor
 ·intro h k hk
  have:=congrArg (fun x=>x.testBit k) h
  simpa [Nat.testBit_and,hk] using this
 ·intro h
  apply Nat.eq_of_testBit_eq
  intro k
  rw [Nat.testBit_and]
  cases hm:m.testBit k with
  | false=>simp
  | true=>simp [h k hm]
theorem testBit_predM:∀ (l:List Edge) (k:Nat),(predM l).testBit k = true↔∃ e∈l,Region.binds .any e = true∧e.on = k
 | [],k=>by simp [predM]
 | e :: r,k=>by
  have ih:=testBit_predM r k
  unfold predM
  split
  ·rename_i hb
   rw [Nat.testBit_or,Bool.or_eq_true,ih,Nat.one_shiftLeft,Nat.testBit_two_pow]
   simp only [decide_eq_true_eq,List.mem_cons]
   constructor
   ·rintro (rfl | ⟨x,hx,h⟩)
    ·exact ⟨e,Or.inl rfl,hb,rfl⟩
    ·exact ⟨x,Or.inr hx,h⟩
   ·rintro ⟨x,rfl | hx,h⟩
    ·exact Or.inl h.2
    ·exact Or.inr ⟨x,hx,h⟩
  ·rename_i hb
   rw [ih]
   simp only [List.mem_cons]
   constructor
   ·rintro ⟨x,hx,h⟩;exact ⟨x,Or.inr hx,h⟩
   ·rintro ⟨x,rfl | hx,h⟩
    ·exact absurd h.1 hb
    ·exact ⟨x,hx,h⟩
theorem testBit_lookM:∀ (l:List Nat) (k:Nat),(lookM l).testBit k = true↔k∈l
 | [],k=>by simp [lookM]
 | t :: r,k=>by
  unfold lookM
  rw [Nat.testBit_or,Bool.or_eq_true,testBit_lookM r k,Nat.one_shiftLeft,Nat.testBit_two_pow]
  simp [eq_comm]
section
variable {ops:Array Oper}
theorem infoS_get:∀ (l:List Oper) (i:Nat),(infoS ops l)[i]? = (l[i]?).map fun o=>⟨predM o.after.toList,lookM (o.looksAt ops),dstM o.dst,pureKind o.op && o.guard.isNone⟩
 | [],i=>by simp [infoS]
 | o :: r,0=>by simp [infoS]
 | o :: r,i+1=>by simp [infoS,infoS_get r i]
theorem mem_readyM (L:Nat):∀ (inf:List OpI) (i j:Nat),j∈readyM L inf i↔∃ x,i≤j∧inf[j - i]? = some x∧L.testBit j = false∧((x.pred &&& L)==x.pred) = true
 | [],i,j=>by simp [readyM]
 | x :: r,i,j=>by
  have ih:=mem_readyM L r (i+1) j
  have step:(∃ y,i+1≤j∧r[j - (i+1)]? = some y∧L.testBit j = false∧((y.pred &&& L)==y.pred) = true)↔(∃ y,i≤j∧j≠i∧(x :: r)[j - i]? = some y∧L.testBit j = false∧((y.pred &&& L)==y.pred) = true):=by
   constructor
   ·rintro ⟨y,h1,h2,h3⟩
    refine ⟨y,by omega,by omega,?_,h3⟩
    rw [show j - i = (j - (i+1))+1 by omega]
    simpa using h2
   ·rintro ⟨y,h1,h0,h2,h3⟩
    refine ⟨y,by omega,?_,h3⟩
    rw [show j - i = (j - (i+1))+1 by omega] at h2
    simpa using h2
  unfold readyM
  split
  ·rename_i hc
   simp only [Bool.and_eq_true,Bool.not_eq_true'] at hc
   rw [List.mem_cons,ih,step]
   constructor
   ·rintro (rfl | ⟨y,h1,_,h2⟩)
    ·exact ⟨x,Nat.le_refl _,by simp,hc.1,hc.2⟩
    ·exact ⟨y,h1,h2⟩
   ·rintro ⟨y,h1,h2⟩
    by_cases hji:j = i
    ·exact Or.inl hji
    ·exact Or.inr ⟨y,h1,hji,h2⟩
  ·rename_i hc
   rw [ih,step]
   constructor
   ·rintro ⟨y,h1,_,h2⟩;exact ⟨y,h1,h2⟩
   ·rintro ⟨y,h1,h2,h3,h4⟩
    by_cases hji:j = i
    ·subst hji
     simp only [Nat.sub_self,List.getElem?_cons_zero,Option.some.injEq] at h2
     subst h2
     exact absurd (by simp only [Bool.and_eq_true,Bool.not_eq_true'];exact ⟨h3,h4⟩) hc
    ·exact ⟨y,h1,hji,h2,h3,h4⟩
theorem ready_iff {L:Nat} (hL:L < 2 ^ ops.size) (j:Nat):j∈Region.ready .any ops (arrB ops.size L)↔j∈readyM L (infoS ops ops.toList) 0:=by
 rw [mem_ready,mem_readyM]
 simp only [Nat.zero_le,Nat.sub_zero,true_and,infoS_get,Array.getElem?_toList]
 have hbit:∀ i,ops.size≤i→L.testBit i = false:=fun i hi=>Nat.testBit_lt_two_pow (Nat.lt_of_lt_of_le hL (Nat.pow_le_pow_right (by omega) hi))
 constructor
 ·rintro ⟨h1,o,ho,h2⟩
  have hlt:j < ops.size:=(Array.getElem?_eq_some_iff.1 ho).1
  rw [arrB_get,if_pos hlt] at h1
  refine ⟨_,by rw [ho];rfl,h1,(sub_iff _ _).2 fun k hk=>?_⟩
  obtain ⟨e,he,hb,rfl⟩:=(testBit_predM _ _).1 hk
  have h3:=h2 e (Array.mem_toList_iff.1 he) hb
  rw [arrB_get] at h3
  split at h3
  ·exact h3
  ·cases h3
 ·rintro ⟨x,hx,h1,h2⟩
  cases ho:ops[j]? with
  | none=>rw [ho] at hx;cases hx
  | some o =>
   have hlt:j < ops.size:=(Array.getElem?_eq_some_iff.1 ho).1
   rw [ho] at hx
   cases hx
   refine ⟨by rw [arrB_get,if_pos hlt];exact h1,o,rfl,fun e he hb=>?_⟩
   have h3:=(sub_iff _ _).1 h2 e.on ((testBit_predM _ _).2 ⟨e,Array.mem_toList_iff.2 he,hb,rfl⟩)
   rw [arrB_get]
   split
   ·exact h3
   ·rename_i hn;rw [hbit e.on (by omega)] at h3;cases h3
theorem freeM_spec {L i:Nat} {xi:OpI}:∀ (inf:List OpI) (j0:Nat),freeM L i xi inf j0 = true→∀ j y,j0≤j→inf[j - j0]? = some y →
  j = i∨L.testBit j = true∨y.pred.testBit i = true∨(((xi.dst &&& (y.look ||| y.dst))==0) = true∧((y.dst &&& xi.look)==0) = true)
 | [],j0,_,j,y,_,h=>by simp at h
 | z :: r,j0,h,j,y,hj,hy=>by
  simp only [freeM,Bool.and_eq_true] at h
  by_cases h0:j = j0
  ·subst h0
   simp only [Nat.sub_self,List.getElem?_cons_zero,Option.some.injEq] at hy
   subst hy
   have h1:=h.1
   simp only [Bool.or_eq_true,Bool.and_eq_true,beq_iff_eq] at h1
   rcases h1 with ((h1 | h1) | h1) | h1
   ·exact Or.inl h1
   ·exact Or.inr (Or.inl h1)
   ·exact Or.inr (Or.inr (Or.inl h1))
   ·exact Or.inr (Or.inr (Or.inr (by simpa using h1)))
  ·refine freeM_spec r (j0+1) h.2 j y (by omega) ?_
   rw [show j - j0 = (j - (j0+1))+1 by omega] at hy
   simpa using hy
theorem dstM_bit {d:Option Nat} {k:Nat}:(dstM d).testBit k = true↔d = some k:=by
 cases d with
 | none=>simp [dstM]
 | some d=>simp only [dstM,Nat.one_shiftLeft,Nat.testBit_two_pow];simp
theorem apart_of {x y:Oper} (h1:((dstM x.dst &&& (lookM (y.looksAt ops) ||| dstM y.dst))==0) = true) (h2:((dstM y.dst &&& lookM (x.looksAt ops))==0) = true):x.apart ops y = true:=by
 unfold Oper.apart
 rw [Bool.and_eq_true]
 constructor
 ·cases hx:x.dst with
  | none=>rfl
  | some d =>
   rw [hx] at h1
   have h3:=(zero_iff _ _).1 h1 d (dstM_bit.2 rfl)
   rw [Nat.testBit_or,Bool.or_eq_false_iff] at h3
   simp only [Bool.and_eq_true,Bool.not_eq_true',bne_iff_ne,ne_eq]
   constructor
   ·cases hc:(y.looksAt ops).contains d with
    | false=>rfl
    | true =>
     have:=(testBit_lookM (y.looksAt ops) d).2 (by simpa using hc)
     rw [this] at h3;cases h3.1
   ·intro hy
    have:=dstM_bit.2 hy
    rw [this] at h3;cases h3.2
 ·cases hy:y.dst with
  | none=>rfl
  | some d =>
   rw [hy] at h2
   have h3:=(zero_iff _ _).1 h2 d (dstM_bit.2 rfl)
   simp only [Bool.not_eq_true']
   cases hc:(x.looksAt ops).contains d with
   | false=>rfl
   | true =>
    have:=(testBit_lookM (x.looksAt ops) d).2 (by simpa using hc)
    rw [this] at h3;cases h3
theorem plainM_spec {L:Nat} {inf:List OpI}:∀ (r:List OpI) (i0 i:Nat),plainM L inf r i0 = some i→∃ x,i0≤i∧r[i - i0]? = some x∧x.plain = true∧L.testBit i = false∧((x.pred &&& L)==x.pred) = true∧freeM L i x inf 0 = true
 | [],i0,i,h=>by cases h
 | x :: r,i0,i,h=>by
  unfold plainM at h
  split at h
  ·rename_i hc
   cases h
   simp only [Bool.and_eq_true,Bool.not_eq_true'] at hc
   exact ⟨x,Nat.le_refl _,by simp,hc.1.1.1,hc.1.1.2,hc.1.2,hc.2⟩
  ·obtain ⟨y,h1,h2,h3⟩:=plainM_spec r (i0+1) i h
   refine ⟨y,by omega,?_,h3⟩
   rw [show i - i0 = (i - (i0+1))+1 by omega]
   simpa using h2
end
def EndsIn (e:Env) (B:Base) (st:St):Exit→Act→World→Prop:=fun x a w=>x = .normal∧∃ k,Inv e B k st a w
section
variable {P:Program} {e:Env} {B:Base} {callf:Nat→List SV→St→Xy (SV × St)} {ops:Array Oper}
theorem expandS_spec {inf:List OpI}:∀ {nds ss:List Node},expandS P callf ops inf nds = some ss →
  (∀ nd∈nds,picksM inf nd.1≠[]∧∀ i∈picksM inf nd.1,afterS P callf ops nd i∈ss)∧∀ s∈ss,∃ nd∈nds,∃ i∈picksM inf nd.1,s = afterS P callf ops nd i
 | [],ss,h=>by cases h;exact ⟨fun _ h=>absurd h (by simp),fun _ h=>absurd h (by simp)⟩
 | nd :: r,ss,h=>by
  unfold expandS at h
  split at h
  ·cases h
  ·rename_i p ps hp
   split at h
   ·rename_i l hl
    cases h
    obtain ⟨ih1,ih2⟩:=expandS_spec hl
    refine ⟨fun x hx=>?_,fun s hs=>?_⟩
    ·rcases List.mem_cons.1 hx with rfl | hx
     ·rw [hp]
      exact ⟨by simp,fun i hi=>List.mem_append.2 (Or.inl (List.mem_map.2 ⟨i,hi,rfl⟩))⟩
     ·exact ⟨(ih1 x hx).1,fun i hi=>List.mem_append.2 (Or.inr ((ih1 x hx).2 i hi))⟩
    ·rcases List.mem_append.1 hs with hs | hs
     ·obtain ⟨i,hi,rfl⟩:=List.mem_map.1 hs
      exact ⟨nd,by simp,i,by rw [hp];exact hi,rfl⟩
     ·obtain ⟨x,hx,i,hi,e1⟩:=ih2 s hs
      exact ⟨x,by simp [hx],i,hi,e1⟩
   ·cases h
theorem findN_mem {L:Nat} {T:Xy St}:∀ {acc:List Node},findN L acc = some T→(L,T)∈acc
 | [],h=>by cases h
 | n :: r,h=>by
  unfold findN at h
  split at h
  ·rename_i hn
   cases h
   simp only [beq_iff_eq] at hn
   subst hn
   simp
  ·exact List.mem_cons_of_mem _ (findN_mem h)
theorem mergeN_spec:∀ {ss acc ns:List Node},mergeN ss acc = some ns→(∀ s∈ss,s∈ns)∧(∀ s∈acc,s∈ns)∧∀ n∈ns,n∈ss∨n∈acc
 | [],acc,ns,h=>by cases h;exact ⟨fun _ h=>absurd h (by simp),fun s h=>h,fun n h=>Or.inr h⟩
 | s :: r,acc,ns,h=>by
  unfold mergeN at h
  split at h
  ·rename_i T hT
   split at h
   ·rename_i hsame
    obtain ⟨h1,h2,h3⟩:=mergeN_spec h
    have hs:s∈acc:=by
     have:=findN_mem hT
     rw [← Xy.same_eq hsame] at this
     exact this
    refine ⟨fun x hx=>?_,h2,fun n hn=>?_⟩
    ·rcases List.mem_cons.1 hx with rfl | hx
     ·exact h2 _ hs
     ·exact h1 x hx
    ·rcases h3 n hn with h | h
     ·exact Or.inl (List.mem_cons_of_mem _ h)
     ·exact Or.inr h
   ·cases h
  ·obtain ⟨h1,h2,h3⟩:=mergeN_spec h
   refine ⟨fun x hx=>?_,fun x hx=>h2 x (List.mem_cons_of_mem _ hx),fun n hn=>?_⟩
   ·rcases List.mem_cons.1 hx with rfl | hx
    ·exact h2 _ (by simp)
    ·exact h1 x hx
   ·rcases h3 n hn with h | h
    ·exact Or.inl (List.mem_cons_of_mem _ h)
    ·rcases List.mem_cons.1 h with rfl | h
     ·exact Or.inl (by simp)
     ·exact Or.inr h
theorem picks_lt {L i:Nat} (h:i∈picksM (infoS ops ops.toList) L):i < ops.size:=by
 have key:∀ x,(infoS ops ops.toList)[i]? = some x→i < ops.size:=fun x hx=>by
  rw [infoS_get,Array.getElem?_toList] at hx
  cases ho:ops[i]? with
  | none=>rw [ho] at hx;cases hx
  | some o=>exact (Array.getElem?_eq_some_iff.1 ho).1
 unfold picksM at h
 split at h
 ·rename_i j hj
  rw [List.mem_singleton] at h
  subst h
  obtain ⟨x,_,hx,_⟩:=plainM_spec _ _ _ hj
  exact key x (by simpa using hx)
 ·obtain ⟨x,_,hx,_⟩:=(mem_readyM _ _ _ _).1 h
  exact key x (by simpa using hx)
theorem not_pure {fr:Frm} {s:Asm} {op:Op} (h:pureKind op = true) (hn:pureS P fr s op = none) {lab:Nat} {o:Oper} (ho:o.op = op) {st:St} (hf:st.fr = fr) (hs:st.asm = s):∃ why,runS P callf lab o st = .fail why:=by
 unfold runS
 rw [ho,hf,hs,hn]
 cases op <;> first | (cases h;done) | exact ⟨_,rfl⟩
theorem pure_step {st st':St} {lab:Nat} {o:Oper} (h:(stepS P callf ops lab o st).sel e = some st') (hp:pureKind o.op = true) (hg:o.guard = none) :
  okD o st = true∧∃ v,pureS P st.fr st.asm o.op = some v∧st' = putS o.dst v st:=by
 unfold stepS at h
 split at h
 ·simp [Xy.sel] at h
 ·rename_i hd
  have hg':guardS ops o st = some (.lit true):=by unfold guardS;rw [hg]
  rw [hg'] at h
  simp only at h
  refine ⟨by simpa using hd,?_⟩
  cases hv:pureS P st.fr st.asm o.op with
  | none =>
   obtain ⟨why,hw⟩:=not_pure (callf:=callf) hp hv (lab:=lab) (o:=o) rfl (st:=st) rfl rfl
   rw [hw] at h
   simp [Xy.sel] at h
  | some v =>
   unfold runS at h
   rw [hv] at h
   simp only [Xy.sel,Option.some.injEq] at h
   exact ⟨v,rfl,h.symm⟩
theorem bfs_sound (hc:CallOk P e B.Φ callf) (hsel:Region.noSelect ops = true):∀ (m:Nat) (nds:List Node) (T:Xy St) (stF:St),bfsS P callf ops (infoS ops ops.toList) m nds = some T→T.sel e = some stF →
  (∀ nd∈nds,nd.1 < 2 ^ ops.size)→∀ nd∈nds,∃ st,nd.2.sel e = some st∧∀ k a w,Inv e B k st a w→wpAny P .any ops (EndsIn e B stF) m (arrB ops.size nd.1) a w
 | 0,nds,T,stF,h,hT,hb,nd,hnd=>by
  unfold bfsS at h
  split at h
  ·rename_i L T'
   split at h
   ·rename_i hr
    cases h
    rw [List.mem_singleton] at hnd
    subst hnd
    refine ⟨stF,hT,fun k a w I=>⟨?_,rfl,k,I⟩⟩
    apply List.eq_nil_iff_forall_not_mem.2
    intro j hj
    have:=(ready_iff (hb _ (by simp)) j).1 hj
    rw [hr] at this
    cases this
   ·cases h
  ·cases h
 | m+1,nds,T,stF,h,hT,hb,nd,hnd=>by
  unfold bfsS at h
  split at h
  ·rename_i ss hss
   split at h
   ·rename_i ns hns
    obtain ⟨e1,e2⟩:=expandS_spec hss
    obtain ⟨m1,_,m3⟩:=mergeN_spec hns
    have hbn:∀ n∈ns,n.1 < 2 ^ ops.size:=fun n hn=>by
     rcases m3 n hn with h1 | h1
     ·obtain ⟨x,hx,i,hi,rfl⟩:=e2 n h1
      exact bit_lt (hb x hx) (picks_lt hi)
     ·cases h1
    have ih:=bfs_sound hc hsel m ns T stF h hT hbn
    obtain ⟨hne,hpk⟩:=e1 nd hnd
    have each:∀ i∈picksM (infoS ops ops.toList) nd.1,∃ st o st',nd.2.sel e = some st∧ops[i]? = some o∧(stepS P callf ops (2*(st.nx % phM+i)+1) o st).sel e = some st' ∧
      ∀ k a w,Inv e B k st' a w→wpAny P .any ops (EndsIn e B stF) m (arrB ops.size (nd.1 ||| (1 <<< i))) a w:=fun i hi=>by
     obtain ⟨st',hs',hw⟩:=ih _ (m1 _ (hpk i hi))
     simp only [afterS] at hs' hw
     rw [sel_bind] at hs'
     obtain ⟨st,h1,h2⟩:=Option.bind_eq_some_iff.1 hs'
     have hlt:=picks_lt hi
     have ho:ops[i]? = some ops[i]:=Array.getElem?_eq_getElem hlt
     rw [ho] at h2
     exact ⟨st,ops[i],st',h1,ho,h2,hw⟩
    obtain ⟨p,hp⟩:∃ p,p∈picksM (infoS ops ops.toList) nd.1:=by
     cases hq:picksM (infoS ops ops.toList) nd.1 with
     | nil=>exact absurd hq hne
     | cons p ps=>exact ⟨p,by simp⟩
    obtain ⟨st,o,st',hst,ho,hstep,hnext⟩:=each p hp
    refine ⟨st,hst,fun k a w I=>?_⟩
    cases hpl:plainM nd.1 (infoS ops ops.toList) (infoS ops ops.toList) 0 with
    | some i =>
     have hpi:p = i:=by
      unfold picksM at hp
      rw [hpl] at hp
      simpa using hp
     subst hpi
     obtain ⟨x,_,hx,hplain,hbit,hpred,hfree⟩:=plainM_spec _ _ _ hpl
     simp only [Nat.sub_zero,infoS_get,Array.getElem?_toList,ho,Option.map_some,Option.some.injEq] at hx
     subst hx
     simp only [Bool.and_eq_true,Option.isNone_iff_eq_none] at hplain
     obtain ⟨hd,v,hv,rfl⟩:=pure_step hstep hplain.1 hplain.2
     have hrun:∀ w',(execOp a.eval o).run P w' = .ok (.value (v.den e k)) w':=fun w'=>pure_run hv I.asm (I.evs I.agr) rfl
     have hreadyM:p∈readyM nd.1 (infoS ops ops.toList) 0:=(mem_readyM _ _ _ _).2 ⟨_,Nat.zero_le _,by simp only [Nat.sub_zero,infoS_get,Array.getElem?_toList,ho,Option.map_some],hbit,hpred⟩
     have hw:Region.wanted o (yielded ops a.tmps) = true:=by unfold Region.wanted;rw [hplain.2]
     refine wpAny_first (v:=v.den e k) ho (Region.noSelect_spec hsel) (fun c a w hq=>by cases hq.1) m _ a w (fun j oj hoj hji hun hno=>?_) ((ready_iff (hb nd hnd) p).2 hreadyM) (Or.inl ⟨hw,fun w'=>hrun w'⟩) ?_
     ·have hlt:j < ops.size:=(Array.getElem?_eq_some_iff.1 hoj).1
      rw [arrB_get,if_pos hlt] at hun
      rcases freeM_spec _ _ hfree j _ (Nat.zero_le _) (by simp only [Nat.sub_zero,infoS_get,Array.getElem?_toList,hoj,Option.map_some];rfl) with h1 | h1 | h1 | h1
      ·exact absurd h1 hji
      ·rw [hun] at h1;cases h1
      ·obtain ⟨ed,he,hbd,hon⟩:=(testBit_predM _ _).1 h1
       exact absurd hon (hno ed (Array.mem_toList_iff.1 he) hbd)
      ·exact apart_of h1.1 h1.2
     ·rw [arrB_set]
      refine hnext k _ _ (I.put I.h I.asm (fun β h=>h) (okD_spec hd) (fun β hβ=>?_))
      have h2:=pure_run (P:=P) (w:=w) hv I.asm (I.evs hβ) rfl
      exact ok_inj ((hrun w).symm.trans h2)
    | none =>
     have hpm:picksM (infoS ops ops.toList) nd.1 = readyM nd.1 (infoS ops ops.toList) 0:=by unfold picksM;rw [hpl]
     refine ⟨fun h0=>?_,fun i hi=>?_⟩
     ·rw [hpm] at hp
      have:=(ready_iff (hb nd hnd) p).2 hp
      rw [h0] at this
      cases this
     ·have hi':=(ready_iff (hb nd hnd) i).1 hi
      rw [← hpm] at hi'
      obtain ⟨s1,o1,s2,hs1,ho1,hstep1,hnext1⟩:=each i hi'
      rw [hst] at hs1
      cases hs1
      rw [arrB_set]
      have:=stepS_sound (Q:=EndsIn e B stF) (K:=wpAny P .any ops (EndsIn e B stF) m (arrB ops.size (nd.1 ||| (1 <<< i)))) hc hstep1 (by omega) I hnext1
      unfold wpOp
      rw [ho1]
      simp only
      split
      ·rename_i hw;rw [if_pos hw] at this;exact Or.inl this
      ·rename_i hw;rw [if_neg hw] at this;exact this
   ·cases h
  ·cases h
theorem regS_sound (hm:P.follows .mixedOrders = true) (hc:CallOk P e B.Φ callf) {st st':St} (h:(regS P callf ops st).sel e = some st') {k:Nat→Nat} {a:Act} {w:World} (I:Inv e B k st a w) (id:Nat) :
  (Code.region id ops true).wp P (EndsIn e B st') a w:=by
 unfold regS at h
 split at h
 ·rename_i hsel
  split at h
  ·rename_i T hT
   rw [sel_bind] at h
   obtain ⟨s1,h1,h2⟩:=Option.bind_eq_some_iff.1 h
   simp only [Xy.sel,Option.some.injEq] at h2
   subst h2
   obtain ⟨st0,h0,hw⟩:=bfs_sound (B:=B) hc hsel _ _ _ _ hT h1 (fun nd hnd=>by have h9:=List.mem_singleton.1 hnd;rw [h9];exact Nat.two_pow_pos _) (0,.leaf st) (by simp)
   simp only [Xy.sel,Option.some.injEq] at h0
   subst h0
   have h3:=hw k a w.drew I.drew
   rw [arrB_zero] at h3
   exact wp_mono (wp_region_any hm h3) fun x a w hx=>⟨hx.1,by obtain ⟨k,I⟩:=hx.2;exact ⟨k,I.bump⟩⟩
  ·simp [Xy.sel] at h
 ·simp [Xy.sel] at h
end
end Go.Proofs.YtaipogljokblkaaGreatDoor
