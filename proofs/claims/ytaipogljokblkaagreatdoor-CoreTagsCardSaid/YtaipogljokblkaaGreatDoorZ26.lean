/- Core: Rfv, Rfw, CVk6, CVk8. -/
import Derived.Test.YtaipogljokblkaaGreatDoorZ14
import Derived.Test.YtaipogljokblkaaGreatDoorZ08
import Derived.Test.YtaipogljokblkaaGreatDoorZ09
set_option linter.all false
set_option maxRecDepth 100000
set_option maxHeartbeats 8000000
namespace Go.Proofs.YtaipogljokblkaaGreatDoor
open Go Go.RowKit
set_option linter.unusedSimpArgs false
set_option linter.unusedVariables false
set_option linter.unusedSectionVars false
def nilC:SC:=.lit (.pointer none)
def inV (h:Heap):Option Nat:=subL 43 h
def outV (e:Env) (k:Nat→Nat) (a:SV × Heap):Value × Array Value × Option (Array Value × Option (Array Value)) :=
 (a.1.den e k,Ye e k ((cellAt 1 a.2).set 43 nilC),(inV a.2).map fun l=>(Ye e k ((cellAt l a.2).set 27 nilC),((cellAt l a.2)[27]?.bind subP).map fun m=>Ye e k (cellAt m a.2)))
def rawP (i:Nat):SC→Bool
 | .raw j=>j==i
 | _=>false
theorem rawP_eq {i:Nat} {c:SC} (h:rawP i c = true):c = .raw i:=by
 unfold rawP at h
 split at h
 ·simp at h;subst h;rfl
 ·cases h
def okW (hp:Heap) (h:Heap) (l:Nat):SC→Bool:=fun c=>nilP c || (match subP c with | some m=>!(l==m) && isT 261 m h && !hasL m (Yf hp) | none=>false)
def okV1 (hp:Heap) (h:Heap):SC→Bool:=fun c=>rawP 1 c || (match subP c with
 | some l=>isT 206 l h && !hasL l (Yf hp) && (match (cellAt l h)[27]? with | some d=>okW hp h l d | none=>false)
 | none=>false)
def okVa (hp:Heap) (a:SV × Heap):Bool :=
 isT 186 1 a.2 && (match (cellAt 1 a.2)[43]? with | some c=>okV1 hp a.2 c | none=>false) && (chgL a.2 hp).all (·==1)
def QV (e:Env) (hp:Heap) (pw:Option Go.Addr) (I0:Option Xn) (a:SV × Heap) (r:Xb × Value):Prop:=okVa hp a = true ∧
 ((r.1.inner = I0∧∀ k,outV e k a = (r.2,(r.1.l (.pointer pw) (.pointer none)).toArray,none)) ∨
  ∃ I,r.1.inner = some I∧∀ k,outV e k a = (r.2,(r.1.l (.pointer pw) (.pointer none)).toArray,some ((I.l (.pointer none)).toArray,I.walk.map fun W=>W.l.toArray)))
section
variable {t:Xy (SV × Heap)} {e:Env} {hp:Heap} {s:Asm} {a:Xb × Xg} {pw:Option Go.Addr} {I0:Option Xn} {V:Xb × Xg→Value}
theorem poV_old (hi:a.1.inner = I0) (h1:(t.lv s).all (okO (okVa hp)) = true) (h2:∀ k,(t.lv s).map (fun o=>o.map (outV e k)) = (t.lv s).map fun _=>some (V a,(a.1.l (.pointer pw) (.pointer none)).toArray,none)):PO t e (fun x r=>QV e hp pw I0 x (r.1,V r)) s a :=
 po_leaf (outV e) (fun r=>(V r,(r.1.l (.pointer pw) (.pointer none)).toArray,none)) (okVa hp) h1 h2 fun _ h h'=>⟨h,Or.inl ⟨hi,h'⟩⟩
theorem poV_new (I:Xn) (hi:a.1.inner = some I) (h1:(t.lv s).all (okO (okVa hp)) = true) (h2:∀ k,(t.lv s).map (fun o=>o.map (outV e k)) = (t.lv s).map fun _=>some (V a,(a.1.l (.pointer pw) (.pointer none)).toArray,some ((I.l (.pointer none)).toArray,I.walk.map fun W=>W.l.toArray))):PO t e (fun x r=>QV e hp pw I0 x (r.1,V r)) s a :=
 po_leaf (outV e) (fun r=>(V r,(r.1.l (.pointer pw) (.pointer none)).toArray,some ((I.l (.pointer none)).toArray,I.walk.map fun W=>W.l.toArray))) (okVa hp) h1 h2 fun _ h h'=>⟨h,Or.inr ⟨I,hi,h'⟩⟩
end
theorem set_back {α:Type} {l:List α} {i:Nat} {c:α} (hc:l[i]? = some c):l.set i c = l:=by
 apply List.ext_getElem?
 intro j
 rw [List.getElem?_set]
 split
 ·rename_i hij
  subst hij
  split
  ·exact hc.symm
  ·rename_i hlt
   rw [List.getElem?_eq_none (by omega)] at hc
   cases hc
 ·rfl
theorem row_back {e:Env} {k:Nat→Nat} {cs:List SC} {i:Nat} {c:SC} {L:Value→List Value} (hc:cs[i]? = some c) (hL:∀ q,L q = (L (.pointer none)).set i q) (h:Ye e k (cs.set i nilC) = (L (.pointer none)).toArray):Ye e k cs = (L (c.den e k)).toArray:=by
 have e3:=congrArg Array.toList h
 rw [hL (c.den e k)]
 unfold Ye at e3 ⊢
 simp only [List.map_set] at e3
 rw [← e3,List.set_set,← List.map_set,set_back hc]
theorem poV {P:Program} {e:Env} {S:List Xs} {n f:Nat} {args:List SV} {st:St} {g:Nat} {cs:List SC} {w:World} {args':Array Value} {r:Xb × Xg} {V:Xb × Xg→Value} {pw pi:Option Go.Addr} {I0:Option Xn} (hm:P.follows .mixedOrders = true) (hS:SumsOk P e S) (hp:st.hp = [(1,186,cs)]) (hasm:AsmOk e st.asm)
  (hb:Bk w g 186 (Ye e (kof [g]) cs)) (hpi:e.val 1 = .pointer pi)
  (h:PO (packT (exec P S n (.call f args) st)) e (fun x r=>QV e st.hp pw I0 x (r.1,V r)) st.asm r) (closed:okH (Yf st.hp) st.hp = true:=by kernel_rfl) (cargs:args.all (okV (Yf st.hp)) = true:=by kernel_rfl) (ha:args' = (args.map (SV.den e (kof [g]))).toArray:=by kernel_rfl) (hpl:plainS S = true:=by kernel_rfl) (hnf:¬ f = invF:=by decide) :
  Calls P f args' w fun en w'=>VPost pw pi r.1 (V r) I0 g w en w':=by
 obtain ⟨⟨v,h'⟩,hsel,hok,hout⟩:=h hasm
 refine (sym_packA hm hS hsel hasm (kof_even [g]) (fun z hz=>?_) closed cargs (fun z hz y hy _=>?_) ha hpl hnf).mono fun en w' hx=>?_
 ·rw [hp] at hz
  rw [List.mem_singleton.1 hz]
  exact Yb (show Bk w (kof [g] 1) _ _ from hb) rfl
 ·rw [hp] at hz hy
  rw [List.mem_singleton.1 hz,List.mem_singleton.1 hy]
 obtain ⟨k',q⟩:=hx
 unfold okVa at hok
 simp only [Bool.and_eq_true] at hok
 obtain ⟨⟨o1,o2⟩,o3⟩:=hok
 have m1:=isT_mem o1
 have l1:hasL 1 (Yf st.hp) = true:=hasL_mem.2 (by rw [hp];exact List.mem_singleton.2 rfl)
 have hls:∀ l∈chgL h' st.hp,kof [g] l∈[g]:=fun l hl=>by
  have:=List.all_eq_true.1 o3 l hl
  obtain rfl:l = 1:=by simpa using this
  exact List.mem_singleton.2 rfl
 have hJL:∀ (J:Xb) (q:Value),J.l (.pointer pw) q = (J.l (.pointer pw) (.pointer none)).set 43 q:=fun J q=>by kernel_rfl
 have hIL:∀ (I:Xn) (q:Value),I.l q = (I.l (.pointer none)).set 27 q:=fun I q=>by kernel_rfl
 (try simp only at m1 o2)
 cases hc:(cellAt 1 h')[43]? with
 | none=>rw [hc] at o2;cases o2
 | some c =>
  rw [hc] at o2
  have o2:okV1 st.hp h' c = true:=o2
  unfold okV1 at o2
  rw [Bool.or_eq_true] at o2
  rcases hout with ⟨hi,hout⟩ | ⟨I,hi,hout⟩
  ·have e1:=hout k'
   unfold outV inV subL at e1
   simp only [hc,Option.bind_some] at e1
   injection e1 with e2 e3
   injection e3 with e3 e4
   (try simp only at e2 e3)
   have hcn:subP c = none:=by
    cases hs:subP c with
    | none=>rfl
    | some l=>rw [hs] at e4;cases e4
   rw [hcn] at o2
   simp only [Bool.false_eq_true,or_false] at o2
   have hc0:=rawP_eq o2
   subst hc0
   have ec:=row_back hc (hJL _) e3
   have e5:(SC.raw 1).den e k' = .pointer pi:=hpi
   rw [e5] at ec
   exact vp_old q l1 rfl m1 ec e2 rfl hls hi
  ·have e1:=hout k'
   unfold outV inV subL at e1
   simp only [hc,Option.bind_some] at e1
   injection e1 with e2 e3
   injection e3 with e3 e4
   (try simp only at e2 e3)
   cases hs:subP c with
   | none=>rw [hs] at e4;cases e4
   | some l =>
    rw [hs] at e4 o2
    have hc0:=subP_eq hs
    subst hc0
    simp only [Option.map_some,Option.some.injEq,Prod.mk.injEq] at e4
    obtain ⟨e5,e6⟩:=e4
    simp only [show rawP 1 (SC.ptr l 0) = false from rfl,Bool.false_eq_true,false_or,Bool.and_eq_true,Bool.not_eq_true'] at o2
    obtain ⟨⟨o4,o5⟩,o6⟩:=o2
    have m2:=isT_mem o4
    have ec:=row_back hc (hJL _) e3
    cases hd:(cellAt l h')[27]? with
    | none=>rw [hd] at o6;cases o6
    | some d =>
     rw [hd] at o6 e6
     have o6:okW st.hp h' l d = true:=o6
     unfold okW at o6
     have e2':=row_back hd (hIL I) e5
     simp only [Option.bind_some] at e6
     cases hn:nilP d with
     | true =>
      have hd0:=nilP_eq hn
      subst hd0
      have hw:I.walk = none:=by
       cases hw:I.walk with
       | none=>rfl
       | some W=>rw [hw] at e6;cases e6
      exact vp_new q l1 rfl m1 m2 o5 ec e2 rfl hls hi e2' hw
     | false =>
      rw [hn,Bool.false_or] at o6
      cases hm2:subP d with
      | none=>rw [hm2] at o6;cases o6
      | some m =>
       rw [hm2] at o6 e6
       have hd0:=subP_eq hm2
       subst hd0
       have o6:(!(l==m) && isT 261 m h' && !hasL m (Yf st.hp)) = true:=o6
       simp only [Bool.and_eq_true,Bool.not_eq_true'] at o6
       obtain ⟨⟨o7,o8⟩,o9⟩:=o6
       cases hw:I.walk with
       | none=>rw [hw] at e6;cases e6
       | some W =>
        rw [hw] at e6
        simp only [Option.map_some,Option.some.injEq] at e6
        exact vp_new2 q l1 rfl m1 m2 o5 (isT_mem o8) o9 o7 ec e2 rfl hls hi e2' hw e6
theorem descend_eq (J:Xb) (h:OnWay J.wanted J.bucket):J.descend = bif J.bucket==J.wanted then J.perform else bif par J.wanted==J.bucket then ({ J with child:=J.wanted,pc:=3 },calloc) else
  bif par (par J.wanted)==J.bucket then ({ J with child:=par J.wanted,pc:=3 },calloc) else bif par (par (par J.wanted))==J.bucket then ({ J with child:=par (par J.wanted),pc:=3 },calloc) else (J,Xg.zero):=by
 unfold Xb.descend childOf
 cases c0:J.bucket==J.wanted with
 | true=>rfl
 | false =>
  cases c1:par J.wanted==J.bucket with
  | true=>rfl
  | false =>
   cases c2:par (par J.wanted)==J.bucket with
   | true=>rfl
   | false =>
    cases c3:par (par (par J.wanted))==J.bucket with
    | true=>rfl
    | false=>exact (way_fail h c0 c1 c2 c3).elim
def vd2_6_env (J:Xb) (pw:Option Go.Addr) (pi:Option Go.Addr) (x:Xi):Env:=mkV [J.last.ii,[J.op.key,J.op.val,J.op.tall,J.size,J.wanted,J.bucket,J.child],J.base.ii,J.node.ii,J.sentinel.ii,J.answer.ii,J.count.ii,x.ii,[ordr J.op.key,par J.wanted,par (par J.wanted),par (par (par J.wanted))]] [J.bb,x.bb] [.pointer pw,.pointer pi] (Yk rfl)
def vd2_6_st:St:=⟨[],[(1,186,(ct [[.int (.lit 2)],vs 0 8,[.bool (.var 0)],vs 8 4,[.bool (.var 1)],vs 12 4,[.int (.lit 6)],vs 16 11,[.bool (.var 2)],vs 27 4,[.bool (.var 3)],vs 31 4,[.bool (.var 4),.raw 0,.raw 1],vs 35 6,[.bool (.var 5)]]))],[(.eq (.var 41) (.lit 0),false)],10,0⟩
def vd2_6_args:List SV:=[.c (.ptr 1 0),.agg ((ct [vs 41 4,[.bool (.var 6),.bool (.var 7)]]))]
def vd2_6_S:List Xs:=[⟨false,190,0,[],[.c (.int (.var 16))],.c (.int (.var 45)),[]⟩,⟨false,182,0,[],[.c (.int (.var 20))],.c (.int (.var 46)),[]⟩,⟨false,182,0,[],[.c (.int (.var 46))],.c (.int (.var 47)),[]⟩,⟨false,182,0,[],[.c (.int (.var 47))],.c (.int (.var 48)),[]⟩]
theorem vd2_6_any (J:Xb) (pw:Option Go.Addr) (pi:Option Go.Addr) (x:Xi) (g1:Nat) (w:World) (h1:Bk w g1 186 (({ J with pc:=2,op:={ J.op with kind:=6 } }:Xb).l (.pointer pw) (.pointer pi)).toArray) (hw0:0≤J.wanted) (hw1:J.wanted < 8) (hk0:0≤J.op.key) (hk1:J.op.key < 256) (hway:OnWay J.wanted J.bucket) (hsl:(x.word.sl==0) = false):Calls Tryz.prog 176 #[.pointer (some ⟨g1,0,none⟩),.agg x.l.toArray] w fun en w'=>VPost pw pi (Xb.based ({ J with pc:=2,op:={ J.op with kind:=6 } }:Xb) x).1 (X8 (Xb.based ({ J with pc:=2,op:={ J.op with kind:=6 } }:Xb) x).2) (J.inner) g1 w en w':=by
 refine poV (e:=(vd2_6_env J pw pi x)) (S:=vd2_6_S) (n:=120) (st:=vd2_6_st) (args:=vd2_6_args) (r:=(Xb.based ({ J with pc:=2,op:={ J.op with kind:=6 } }:Xb) x)) (V:=fun r=>X8 r.2) (pw:=pw) (pi:=pi) (I0:=J.inner) mixed (Xr (Yd Tryz.func190 fun w=>order_any _ w hk0 hk1) (Xr (Yd Tryz.func182 fun w=>par_any _ w hw0 hw1) (Xr (Yd Tryz.func182 fun w=>par_any _ w (Xz hw0 hw1).1 (Xz hw0 hw1).2) (Xr (Yd Tryz.func182 fun w=>par_any _ w (Xz ((Xz hw0 hw1).1) ((Xz hw0 hw1).2)).1 (Xz ((Xz hw0 hw1).1) ((Xz hw0 hw1).2)).2) Xd)))) rfl (asC hsl asN) (Yb h1 (by kernel_rfl)) rfl ?_
 exact vS3
def vd3_6_env (J:Xb) (pw:Option Go.Addr) (pi:Option Go.Addr) (x:Xi):Env:=mkV [J.last.ii,[J.op.key,J.op.val,J.op.tall,J.size,J.wanted,J.bucket,J.child],J.base.ii,J.node.ii,J.sentinel.ii,J.answer.ii,J.count.ii,x.ii,[ordr J.op.key]] [J.bb,[x.word.mark]] [.pointer pw,.pointer pi] (Yk rfl)
def vd3_6_st:St:=⟨[],[(1,186,(ct [[.int (.lit 3)],vs 0 8,[.bool (.var 0)],vs 8 4,[.bool (.var 1)],vs 12 4,[.int (.lit 6)],vs 16 11,[.bool (.var 2)],vs 27 4,[.bool (.var 3)],vs 31 4,[.bool (.var 4),.raw 0,.raw 1],vs 35 6,[.bool (.var 5)]]))],[],10,0⟩
def vd3_6_args:List SV:=[.c (.ptr 1 0),.agg ((ct [vs 41 4,[.bool (.var 6),.bool (.lit false)]]))]
def vd3_6_S:List Xs:=[⟨false,190,0,[],[.c (.int (.var 16))],.c (.int (.var 45)),[]⟩]
theorem vd3_6_any (J:Xb) (pw:Option Go.Addr) (pi:Option Go.Addr) (x:Xi) (g1:Nat) (w:World) (h1:Bk w g1 186 (({ J with pc:=3,op:={ J.op with kind:=6 } }:Xb).l (.pointer pw) (.pointer pi)).toArray) (hw0:0≤J.wanted) (hw1:J.wanted < 8) (hk0:0≤J.op.key) (hk1:J.op.key < 256):Calls Tryz.prog 176 #[.pointer (some ⟨g1,0,none⟩),.agg ({ x with ok:=false }:Xi).l.toArray] w fun en w'=>VPost pw pi (Xb.create ({ J with pc:=3,op:={ J.op with kind:=6 } }:Xb) ({ x with ok:=false }:Xi)).1 (X8 (Xb.create ({ J with pc:=3,op:={ J.op with kind:=6 } }:Xb) ({ x with ok:=false }:Xi)).2) (J.inner) g1 w en w':=by
 refine poV (e:=(vd3_6_env J pw pi x)) (S:=vd3_6_S) (n:=120) (st:=vd3_6_st) (args:=vd3_6_args) (r:=(Xb.create ({ J with pc:=3,op:={ J.op with kind:=6 } }:Xb) ({ x with ok:=false }:Xi))) (V:=fun r=>X8 r.2) (pw:=pw) (pi:=pi) (I0:=J.inner) mixed (Xr (Yd Tryz.func190 fun w=>order_any _ w hk0 hk1) Xd) rfl asN (Yb h1 (by kernel_rfl)) rfl ?_
 exact vS3
def vd9_6_env (J:Xb) (pw:Option Go.Addr) (pi:Option Go.Addr) (x:Xi):Env:=mkV [J.last.ii,[J.op.key,J.op.val,J.op.tall,J.size,J.wanted,J.bucket,J.child],J.base.ii,J.node.ii,J.sentinel.ii,J.answer.ii,J.count.ii,x.ii,[ordr J.op.key,par J.wanted,par (par J.wanted),par (par (par J.wanted))]] [J.bb,x.bb] [.pointer pw,.pointer pi] (Yk rfl)
def vd9_6_st:St:=⟨[],[(1,186,(ct [[.int (.lit 9)],vs 0 8,[.bool (.var 0)],vs 8 4,[.bool (.var 1)],vs 12 4,[.int (.lit 6)],vs 16 11,[.bool (.var 2)],vs 27 4,[.bool (.var 3)],vs 31 4,[.bool (.var 4),.raw 0,.raw 1],vs 35 6,[.bool (.var 5)]]))],[(.eq (.var 41) (.lit 0),false)],10,0⟩
def vd9_6_args:List SV:=[.c (.ptr 1 0),.agg ((ct [vs 41 4,[.bool (.var 6),.bool (.var 7)]]))]
def vd9_6_S:List Xs:=[⟨false,190,0,[],[.c (.int (.var 16))],.c (.int (.var 45)),[]⟩,⟨false,182,0,[],[.c (.int (.var 20))],.c (.int (.var 46)),[]⟩,⟨false,182,0,[],[.c (.int (.var 46))],.c (.int (.var 47)),[]⟩,⟨false,182,0,[],[.c (.int (.var 47))],.c (.int (.var 48)),[]⟩]
theorem vd9_6_any (J:Xb) (pw:Option Go.Addr) (pi:Option Go.Addr) (x:Xi) (g1:Nat) (w:World) (h1:Bk w g1 186 (({ J with pc:=9,op:={ J.op with kind:=6 } }:Xb).l (.pointer pw) (.pointer pi)).toArray) (hw0:0≤J.wanted) (hw1:J.wanted < 8) (hk0:0≤J.op.key) (hk1:J.op.key < 256) (hway:OnWay J.wanted J.child) (hsl:(x.word.sl==0) = false):Calls Tryz.prog 176 #[.pointer (some ⟨g1,0,none⟩),.agg x.l.toArray] w fun en w'=>VPost pw pi (Xb.create ({ J with pc:=9,op:={ J.op with kind:=6 } }:Xb) x).1 (X8 (Xb.create ({ J with pc:=9,op:={ J.op with kind:=6 } }:Xb) x).2) (J.inner) g1 w en w':=by
 refine poV (e:=(vd9_6_env J pw pi x)) (S:=vd9_6_S) (n:=120) (st:=vd9_6_st) (args:=vd9_6_args) (r:=(Xb.create ({ J with pc:=9,op:={ J.op with kind:=6 } }:Xb) x)) (V:=fun r=>X8 r.2) (pw:=pw) (pi:=pi) (I0:=J.inner) mixed (Xr (Yd Tryz.func190 fun w=>order_any _ w hk0 hk1) (Xr (Yd Tryz.func182 fun w=>par_any _ w hw0 hw1) (Xr (Yd Tryz.func182 fun w=>par_any _ w (Xz hw0 hw1).1 (Xz hw0 hw1).2) (Xr (Yd Tryz.func182 fun w=>par_any _ w (Xz ((Xz hw0 hw1).1) ((Xz hw0 hw1).2)).1 (Xz ((Xz hw0 hw1).1) ((Xz hw0 hw1).2)).2) Xd)))) rfl (asC hsl asN) (Yb h1 (by kernel_rfl)) rfl ?_
 exact vS3
def vd10_6_env (J:Xb) (pw:Option Go.Addr) (pi:Option Go.Addr) (x:Xi):Env:=mkV [J.last.ii,[J.op.key,J.op.val,J.op.tall,J.size,J.wanted,J.bucket,J.child],J.base.ii,J.node.ii,J.sentinel.ii,J.answer.ii,J.count.ii,x.ii,[ordr J.op.key,par J.wanted,par (par J.wanted),par (par (par J.wanted))]] [J.bb,x.bb] [.pointer pw,.pointer pi] (Yk rfl)
def vd10_6_st:St:=⟨[],[(1,186,(ct [[.int (.lit 10)],vs 0 8,[.bool (.var 0)],vs 8 4,[.bool (.var 1)],vs 12 4,[.int (.lit 6)],vs 16 11,[.bool (.var 2)],vs 27 4,[.bool (.var 3)],vs 31 4,[.bool (.var 4),.raw 0,.raw 1],vs 35 6,[.bool (.var 5)]]))],[],10,0⟩
def vd10_6_args:List SV:=[.c (.ptr 1 0),.agg ((ct [vs 41 4,[.bool (.var 6),.bool (.var 7)]]))]
def vd10_6_S:List Xs:=[⟨false,190,0,[],[.c (.int (.var 16))],.c (.int (.var 45)),[]⟩,⟨false,182,0,[],[.c (.int (.var 20))],.c (.int (.var 46)),[]⟩,⟨false,182,0,[],[.c (.int (.var 46))],.c (.int (.var 47)),[]⟩,⟨false,182,0,[],[.c (.int (.var 47))],.c (.int (.var 48)),[]⟩]
theorem vd10_6_any (J:Xb) (pw:Option Go.Addr) (pi:Option Go.Addr) (x:Xi) (g1:Nat) (w:World) (h1:Bk w g1 186 (({ J with pc:=10,op:={ J.op with kind:=6 } }:Xb).l (.pointer pw) (.pointer pi)).toArray) (hw0:0≤J.wanted) (hw1:J.wanted < 8) (hk0:0≤J.op.key) (hk1:J.op.key < 256) (hway:OnWay J.wanted J.child):Calls Tryz.prog 176 #[.pointer (some ⟨g1,0,none⟩),.agg x.l.toArray] w fun en w'=>VPost pw pi (Xb.create ({ J with pc:=10,op:={ J.op with kind:=6 } }:Xb) x).1 (X8 (Xb.create ({ J with pc:=10,op:={ J.op with kind:=6 } }:Xb) x).2) (J.inner) g1 w en w':=by
 refine poV (e:=(vd10_6_env J pw pi x)) (S:=vd10_6_S) (n:=120) (st:=vd10_6_st) (args:=vd10_6_args) (r:=(Xb.create ({ J with pc:=10,op:={ J.op with kind:=6 } }:Xb) x)) (V:=fun r=>X8 r.2) (pw:=pw) (pi:=pi) (I0:=J.inner) mixed (Xr (Yd Tryz.func190 fun w=>order_any _ w hk0 hk1) (Xr (Yd Tryz.func182 fun w=>par_any _ w hw0 hw1) (Xr (Yd Tryz.func182 fun w=>par_any _ w (Xz hw0 hw1).1 (Xz hw0 hw1).2) (Xr (Yd Tryz.func182 fun w=>par_any _ w (Xz ((Xz hw0 hw1).1) ((Xz hw0 hw1).2)).1 (Xz ((Xz hw0 hw1).1) ((Xz hw0 hw1).2)).2) Xd)))) rfl asN (Yb h1 (by kernel_rfl)) rfl ?_
 exact vS3
def vd2_8_env (J:Xb) (pw:Option Go.Addr) (pi:Option Go.Addr) (x:Xi):Env:=mkV [J.last.ii,[J.op.key,J.op.val,J.op.tall,J.size,J.wanted,J.bucket,J.child],J.base.ii,J.node.ii,J.sentinel.ii,J.answer.ii,J.count.ii,x.ii,[ordr J.op.key,par J.wanted,par (par J.wanted),par (par (par J.wanted))]] [J.bb,x.bb] [.pointer pw,.pointer pi] (Yk rfl)
def vd2_8_st:St:=⟨[],[(1,186,(ct [[.int (.lit 2)],vs 0 8,[.bool (.var 0)],vs 8 4,[.bool (.var 1)],vs 12 4,[.int (.lit 8)],vs 16 11,[.bool (.var 2)],vs 27 4,[.bool (.var 3)],vs 31 4,[.bool (.var 4),.raw 0,.raw 1],vs 35 6,[.bool (.var 5)]]))],[(.eq (.var 41) (.lit 0),false)],10,0⟩
def vd2_8_args:List SV:=[.c (.ptr 1 0),.agg ((ct [vs 41 4,[.bool (.var 6),.bool (.var 7)]]))]
def vd2_8_S:List Xs:=[⟨false,190,0,[],[.c (.int (.var 16))],.c (.int (.var 45)),[]⟩,⟨false,182,0,[],[.c (.int (.var 20))],.c (.int (.var 46)),[]⟩,⟨false,182,0,[],[.c (.int (.var 46))],.c (.int (.var 47)),[]⟩,⟨false,182,0,[],[.c (.int (.var 47))],.c (.int (.var 48)),[]⟩]
theorem vd2_8_any (J:Xb) (pw:Option Go.Addr) (pi:Option Go.Addr) (x:Xi) (g1:Nat) (w:World) (h1:Bk w g1 186 (({ J with pc:=2,op:={ J.op with kind:=8 } }:Xb).l (.pointer pw) (.pointer pi)).toArray) (hw0:0≤J.wanted) (hw1:J.wanted < 8) (hk0:0≤J.op.key) (hk1:J.op.key < 256) (hway:OnWay J.wanted J.bucket) (hsl:(x.word.sl==0) = false):Calls Tryz.prog 176 #[.pointer (some ⟨g1,0,none⟩),.agg x.l.toArray] w fun en w'=>VPost pw pi (Xb.based ({ J with pc:=2,op:={ J.op with kind:=8 } }:Xb) x).1 (X8 (Xb.based ({ J with pc:=2,op:={ J.op with kind:=8 } }:Xb) x).2) (J.inner) g1 w en w':=by
 refine poV (e:=(vd2_8_env J pw pi x)) (S:=vd2_8_S) (n:=120) (st:=vd2_8_st) (args:=vd2_8_args) (r:=(Xb.based ({ J with pc:=2,op:={ J.op with kind:=8 } }:Xb) x)) (V:=fun r=>X8 r.2) (pw:=pw) (pi:=pi) (I0:=J.inner) mixed (Xr (Yd Tryz.func190 fun w=>order_any _ w hk0 hk1) (Xr (Yd Tryz.func182 fun w=>par_any _ w hw0 hw1) (Xr (Yd Tryz.func182 fun w=>par_any _ w (Xz hw0 hw1).1 (Xz hw0 hw1).2) (Xr (Yd Tryz.func182 fun w=>par_any _ w (Xz ((Xz hw0 hw1).1) ((Xz hw0 hw1).2)).1 (Xz ((Xz hw0 hw1).1) ((Xz hw0 hw1).2)).2) Xd)))) rfl (asC hsl asN) (Yb h1 (by kernel_rfl)) rfl ?_
 exact vS3
def vd3_8_env (J:Xb) (pw:Option Go.Addr) (pi:Option Go.Addr) (x:Xi):Env:=mkV [J.last.ii,[J.op.key,J.op.val,J.op.tall,J.size,J.wanted,J.bucket,J.child],J.base.ii,J.node.ii,J.sentinel.ii,J.answer.ii,J.count.ii,x.ii,[ordr J.op.key]] [J.bb,[x.word.mark]] [.pointer pw,.pointer pi] (Yk rfl)
def vd3_8_st:St:=⟨[],[(1,186,(ct [[.int (.lit 3)],vs 0 8,[.bool (.var 0)],vs 8 4,[.bool (.var 1)],vs 12 4,[.int (.lit 8)],vs 16 11,[.bool (.var 2)],vs 27 4,[.bool (.var 3)],vs 31 4,[.bool (.var 4),.raw 0,.raw 1],vs 35 6,[.bool (.var 5)]]))],[],10,0⟩
def vd3_8_args:List SV:=[.c (.ptr 1 0),.agg ((ct [vs 41 4,[.bool (.var 6),.bool (.lit false)]]))]
def vd3_8_S:List Xs:=[⟨false,190,0,[],[.c (.int (.var 16))],.c (.int (.var 45)),[]⟩]
theorem vd3_8_any (J:Xb) (pw:Option Go.Addr) (pi:Option Go.Addr) (x:Xi) (g1:Nat) (w:World) (h1:Bk w g1 186 (({ J with pc:=3,op:={ J.op with kind:=8 } }:Xb).l (.pointer pw) (.pointer pi)).toArray) (hw0:0≤J.wanted) (hw1:J.wanted < 8) (hk0:0≤J.op.key) (hk1:J.op.key < 256):Calls Tryz.prog 176 #[.pointer (some ⟨g1,0,none⟩),.agg ({ x with ok:=false }:Xi).l.toArray] w fun en w'=>VPost pw pi (Xb.create ({ J with pc:=3,op:={ J.op with kind:=8 } }:Xb) ({ x with ok:=false }:Xi)).1 (X8 (Xb.create ({ J with pc:=3,op:={ J.op with kind:=8 } }:Xb) ({ x with ok:=false }:Xi)).2) (J.inner) g1 w en w':=by
 refine poV (e:=(vd3_8_env J pw pi x)) (S:=vd3_8_S) (n:=120) (st:=vd3_8_st) (args:=vd3_8_args) (r:=(Xb.create ({ J with pc:=3,op:={ J.op with kind:=8 } }:Xb) ({ x with ok:=false }:Xi))) (V:=fun r=>X8 r.2) (pw:=pw) (pi:=pi) (I0:=J.inner) mixed (Xr (Yd Tryz.func190 fun w=>order_any _ w hk0 hk1) Xd) rfl asN (Yb h1 (by kernel_rfl)) rfl ?_
 exact vS3
def vd9_8_env (J:Xb) (pw:Option Go.Addr) (pi:Option Go.Addr) (x:Xi):Env:=mkV [J.last.ii,[J.op.key,J.op.val,J.op.tall,J.size,J.wanted,J.bucket,J.child],J.base.ii,J.node.ii,J.sentinel.ii,J.answer.ii,J.count.ii,x.ii,[ordr J.op.key,par J.wanted,par (par J.wanted),par (par (par J.wanted))]] [J.bb,x.bb] [.pointer pw,.pointer pi] (Yk rfl)
def vd9_8_st:St:=⟨[],[(1,186,(ct [[.int (.lit 9)],vs 0 8,[.bool (.var 0)],vs 8 4,[.bool (.var 1)],vs 12 4,[.int (.lit 8)],vs 16 11,[.bool (.var 2)],vs 27 4,[.bool (.var 3)],vs 31 4,[.bool (.var 4),.raw 0,.raw 1],vs 35 6,[.bool (.var 5)]]))],[(.eq (.var 41) (.lit 0),false)],10,0⟩
def vd9_8_args:List SV:=[.c (.ptr 1 0),.agg ((ct [vs 41 4,[.bool (.var 6),.bool (.var 7)]]))]
def vd9_8_S:List Xs:=[⟨false,190,0,[],[.c (.int (.var 16))],.c (.int (.var 45)),[]⟩,⟨false,182,0,[],[.c (.int (.var 20))],.c (.int (.var 46)),[]⟩,⟨false,182,0,[],[.c (.int (.var 46))],.c (.int (.var 47)),[]⟩,⟨false,182,0,[],[.c (.int (.var 47))],.c (.int (.var 48)),[]⟩]
theorem vd9_8_any (J:Xb) (pw:Option Go.Addr) (pi:Option Go.Addr) (x:Xi) (g1:Nat) (w:World) (h1:Bk w g1 186 (({ J with pc:=9,op:={ J.op with kind:=8 } }:Xb).l (.pointer pw) (.pointer pi)).toArray) (hw0:0≤J.wanted) (hw1:J.wanted < 8) (hk0:0≤J.op.key) (hk1:J.op.key < 256) (hway:OnWay J.wanted J.child) (hsl:(x.word.sl==0) = false):Calls Tryz.prog 176 #[.pointer (some ⟨g1,0,none⟩),.agg x.l.toArray] w fun en w'=>VPost pw pi (Xb.create ({ J with pc:=9,op:={ J.op with kind:=8 } }:Xb) x).1 (X8 (Xb.create ({ J with pc:=9,op:={ J.op with kind:=8 } }:Xb) x).2) (J.inner) g1 w en w':=by
 refine poV (e:=(vd9_8_env J pw pi x)) (S:=vd9_8_S) (n:=120) (st:=vd9_8_st) (args:=vd9_8_args) (r:=(Xb.create ({ J with pc:=9,op:={ J.op with kind:=8 } }:Xb) x)) (V:=fun r=>X8 r.2) (pw:=pw) (pi:=pi) (I0:=J.inner) mixed (Xr (Yd Tryz.func190 fun w=>order_any _ w hk0 hk1) (Xr (Yd Tryz.func182 fun w=>par_any _ w hw0 hw1) (Xr (Yd Tryz.func182 fun w=>par_any _ w (Xz hw0 hw1).1 (Xz hw0 hw1).2) (Xr (Yd Tryz.func182 fun w=>par_any _ w (Xz ((Xz hw0 hw1).1) ((Xz hw0 hw1).2)).1 (Xz ((Xz hw0 hw1).1) ((Xz hw0 hw1).2)).2) Xd)))) rfl (asC hsl asN) (Yb h1 (by kernel_rfl)) rfl ?_
 exact vS3
def vd10_8_env (J:Xb) (pw:Option Go.Addr) (pi:Option Go.Addr) (x:Xi):Env:=mkV [J.last.ii,[J.op.key,J.op.val,J.op.tall,J.size,J.wanted,J.bucket,J.child],J.base.ii,J.node.ii,J.sentinel.ii,J.answer.ii,J.count.ii,x.ii,[ordr J.op.key,par J.wanted,par (par J.wanted),par (par (par J.wanted))]] [J.bb,x.bb] [.pointer pw,.pointer pi] (Yk rfl)
def vd10_8_st:St:=⟨[],[(1,186,(ct [[.int (.lit 10)],vs 0 8,[.bool (.var 0)],vs 8 4,[.bool (.var 1)],vs 12 4,[.int (.lit 8)],vs 16 11,[.bool (.var 2)],vs 27 4,[.bool (.var 3)],vs 31 4,[.bool (.var 4),.raw 0,.raw 1],vs 35 6,[.bool (.var 5)]]))],[],10,0⟩
def vd10_8_args:List SV:=[.c (.ptr 1 0),.agg ((ct [vs 41 4,[.bool (.var 6),.bool (.var 7)]]))]
def vd10_8_S:List Xs:=[⟨false,190,0,[],[.c (.int (.var 16))],.c (.int (.var 45)),[]⟩,⟨false,182,0,[],[.c (.int (.var 20))],.c (.int (.var 46)),[]⟩,⟨false,182,0,[],[.c (.int (.var 46))],.c (.int (.var 47)),[]⟩,⟨false,182,0,[],[.c (.int (.var 47))],.c (.int (.var 48)),[]⟩]
theorem vd10_8_any (J:Xb) (pw:Option Go.Addr) (pi:Option Go.Addr) (x:Xi) (g1:Nat) (w:World) (h1:Bk w g1 186 (({ J with pc:=10,op:={ J.op with kind:=8 } }:Xb).l (.pointer pw) (.pointer pi)).toArray) (hw0:0≤J.wanted) (hw1:J.wanted < 8) (hk0:0≤J.op.key) (hk1:J.op.key < 256) (hway:OnWay J.wanted J.child):Calls Tryz.prog 176 #[.pointer (some ⟨g1,0,none⟩),.agg x.l.toArray] w fun en w'=>VPost pw pi (Xb.create ({ J with pc:=10,op:={ J.op with kind:=8 } }:Xb) x).1 (X8 (Xb.create ({ J with pc:=10,op:={ J.op with kind:=8 } }:Xb) x).2) (J.inner) g1 w en w':=by
 refine poV (e:=(vd10_8_env J pw pi x)) (S:=vd10_8_S) (n:=120) (st:=vd10_8_st) (args:=vd10_8_args) (r:=(Xb.create ({ J with pc:=10,op:={ J.op with kind:=8 } }:Xb) x)) (V:=fun r=>X8 r.2) (pw:=pw) (pi:=pi) (I0:=J.inner) mixed (Xr (Yd Tryz.func190 fun w=>order_any _ w hk0 hk1) (Xr (Yd Tryz.func182 fun w=>par_any _ w hw0 hw1) (Xr (Yd Tryz.func182 fun w=>par_any _ w (Xz hw0 hw1).1 (Xz hw0 hw1).2) (Xr (Yd Tryz.func182 fun w=>par_any _ w (Xz ((Xz hw0 hw1).1) ((Xz hw0 hw1).2)).1 (Xz ((Xz hw0 hw1).1) ((Xz hw0 hw1).2)).2) Xd)))) rfl asN (Yb h1 (by kernel_rfl)) rfl ?_
 exact vS3
end Go.Proofs.YtaipogljokblkaaGreatDoor
