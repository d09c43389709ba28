/- Core: SymQ, Rfm, SymR. -/
import Derived.Test.YtaipogljokblkaaGreatDoorW06
import Derived.Test.YtaipogljokblkaaGreatDoorW01
set_option linter.all false
set_option maxRecDepth 100000
set_option maxHeartbeats 8000000
namespace Go.Proofs.YtaipogljokblkaaGreatDoor
open Go Go.RowKit
set_option linter.unusedSimpArgs false
set_option linter.unusedVariables false
set_option linter.unusedSectionVars false
def Ky(Φ:GL)(ph:Nat)(F:Nat->Prop)(g:Nat)(T:TypeId)(row:Array Value)(V:Value)(w:World)(en:Ending)(w':World):Prop:=
 en=.returned V/\Bk w' g T row/\CG (λb=>b=g\/F b) w w'/\∃F':Nat->Prop,Φ.P ph w' F'/\¬F' g/\(∀b,F' b->b<w'.heap.size)/\∀b,F' b->F b\/w.heap.size<=b
theorem fin_E{e:Env}{Φ:GL}{F:Nat->Prop}{gs:List Nat}{hp hp':Yk}{w w':World}{v:SV}{ph:Nat}{en:Ending}{k':Nat->Nat}{T:TypeId}{V:Value}{g:Nat}{c1:List SC}{ls:List Nat}{row:Array Value}
  (h:LV e Φ F (Dw gs) hp w v ph hp' en w' k')(l1:Fs 1 (Yi hp)=true)(hg:Dw gs 1=g)(m1:(1,T,c1)∈hp')(ec:Ym e k' c1=row)(hv:v.den e k'=V)
  (hch:Io hp' hp=ls)(hF:∀l∈ls,Dw gs l=g):Ky Φ ph F g T row V w en w':=by
 have e1:k' 1=g:=(h.ext 1 (B5.1 l1)).trans hg
 obtain⟨F',p1,p2,p3,p4⟩:=h.fin
 refine⟨h.ret.trans (by rw[hv]),?_,⟨h.Cf.os,h.Cf.tape,h.Cf.output,h.Cf.size,λb hb hf=>h.Cf.Av b hb λhx=>hf ?_⟩,F',p1,?_,p3,p4⟩
 ·have:=h.blk _ m1;simp only at this;rw[e1,ec] at this;exact this
 ·rcases hx with hx|hx
  ·obtain⟨l,hl,rfl⟩:=List.mem_map.1 hx;rw[hch] at hl;exact Or.inl (hF l hl)
  ·exact Or.inr hx
 ·have:=p2 _ m1;simp only at this;rwa [e1] at this
theorem Xm{b:Bool}(h:(!b)=true):b=false:=by cases b<;>simp_all
theorem noF{g:Nat}{F:Nat->Prop}(hf:¬F g){l:Nat}{t:TypeId}{cs:List SC}(hl:Dw [g] l=g):∀x∈([(l,t,cs)]:Yk),¬F (Dw [g] x.1):=λx hx=>by
 rw[List.mem_singleton.1 hx];show ¬F (Dw [g] l);rw[hl];exact hf
def gH:SC->Bool
 |.lit (.pointer none)=>true
 |_=>false
def Ns:SC->Option Nat
 |.ptr l 0=>some l
 |_=>none
def dH(i:Nat)(h:Yk):Option Nat:=(cellAt 1 h)[i]?.bind Ns
def oA(i:Nat)(e:Env)(k:Nat->Nat)(a:SV × Yk):Value × Array Value × Option (Array Value):=
 (a.1.den e k,Ym e k ((cellAt 1 a.2).set i (.lit (.pointer none))),(dH i a.2).map λl=>Ym e k (cellAt l a.2))
def pD(T:TypeId)(l:Nat)(h:Yk):Bool:=match DS l h with|some x=>x.1==T|none=>false
def ok2(i:Nat)(T T2:TypeId)(hp:Yk)(a:SV × Yk):Bool:=
 pD T 1 a.2 && (match (cellAt 1 a.2)[i]? with
  |some c=>gH c||(match Ns c with|some l=>!(l==1)&&pD T2 l a.2|none=>false)
  |none=>false)&&(Io a.2 hp).all λl=>Fs l (Yi hp)
theorem IB{T:TypeId}{l:Nat}{h:Yk}(ht:pD T l h=true):(l,T,cellAt l h)∈h:=by
 unfold pD at ht;unfold cellAt;cases hl:DS l h with
 |none=>rw[hl] at ht;cases ht
 |some x=>
  obtain⟨T',c⟩:=x;rw[hl] at ht;obtain rfl:T'=T:=by simpa using ht
  exact B9 hl
theorem aI{c:SC}(h:gH c=true):c=.lit (.pointer none):=by
 unfold gH at h;split at h
 ·rfl
 ·cases h
theorem RL{c:SC}{l:Nat}(h:Ns c=some l):c=.ptr l 0:=by
 unfold Ns at h;split at h
 ·cases h;rfl
 ·cases h
def Q2(i:Nat)(e:Env)(T T2:TypeId)(hp:Yk)(a:SV × Yk)(r:Value × Array Value × Option (Array Value)):Prop:=ok2 i T T2 hp a=true/\∀k,oA i e k a=r
theorem nJ{i:Nat}{t:Xz (SV × Yk)}{e:Env}{T T2:TypeId}{hp:Yk}{s:FV}{R:Type}{a:R}{g:R->Value × Array Value × Option (Array Value)}(h1:(t.lv s).all (jI (ok2 i T T2 hp))=true)(h2:∀k,(t.lv s).map (λo=>o.map (oA i e k))=(t.lv s).map λ_=>some (g a)):PO t e (λx r=>Q2 i e T T2 hp x (g r)) s a:=
 JW (oA i e) g (ok2 i T T2 hp) h1 h2 λ_ h h'=>⟨h,h'⟩
theorem po2{P:Program}{e:Env}{S:List Xu}{n f:Nat}{args:List SV}{st:St}{gs:List Nat}{w:World}{args':Array Value}{R:Type}{r:R}(i:Nat)(T T2:TypeId)(g:Nat)(V:R->Value)(JL:R->Value->List Value)(sub:R->Option (Array Value))(Sub:R->World->Value->List Nat->Prop)
  (hm:P.follows .mixedOrders=true)(hS:El P e S)(hasm:AV e st.BY)
  (blocks:∀x∈st.hp,Bk w (Dw gs x.1) x.2.1 (Ym e (Dw gs) x.2.2))(closed:QO (Yi st.hp) st.hp=true)(cargs:args.all (Jc (Yi st.hp))=true)
  (inj:(st.hp.map λx=>Dw gs x.1).Nodup)(ha:args'=(args.map (SV.den e (Dw gs))).toArray)(hF:∀l∈Yi st.hp,Dw gs l∈gs)(l1:Fs 1 (Yi st.hp)=true)(hg:Dw gs 1=g)
  (hJL:∀q,JL r q=(JL r (.pointer none)).set i q)(hs0:∀w,sub r=none->Sub r w (.pointer none) [])(hs1:∀w g cs,sub r=some cs->Bk w g T2 cs->Sub r w (.pointer (some ⟨g,0,none⟩)) [g])
  (h:PO (CY (exec P S n (.call f args) st)) e (λx r=>Q2 i e T T2 st.hp x (V r,(JL r (.pointer none)).toArray,sub r)) st.BY r)(hpl:Hk S=true:=by kernel_rfl)(hnf:¬f=Dy:=by decide):
  Calls P f args' w λen w'=>FU (Sub r) T (JL r) (V r) g gs w en w':=by
 obtain⟨⟨v,h'⟩,hsel,hok,hout⟩:=h hasm
 refine(Cy hm hS hsel hasm (CE gs) blocks closed cargs (λx hx y hy hxy=>zY gs inj x y hx hy hxy) ha hpl hnf).mono λen w' hx=>?_
 obtain⟨k',q⟩:=hx
 have e1:=hout k'
 unfold ok2 at hok
 simp only[Bool.and_eq_true] at hok
 obtain⟨⟨o1,o2⟩,o3⟩:=hok
 have m1:=IB o1
 unfold oA at e1
 injection e1 with e2 e3
 injection e3 with e3 e4
 simp only at e2 e3 e4 m1 o2 o3
 have hls:∀l∈Io h' st.hp,Dw gs l∈gs:=λl hl=>hF l (B5.1 (List.all_eq_true.1 o3 l hl))
 have gF:g∈gs:=by rw[←hg];exact hF 1 (B5.1 l1)
 cases hc:(cellAt 1 h')[i]? with
 |none=>rw[hc] at o2;cases o2
 |some c=>
  rw[hc] at o2
  simp only[Bool.or_eq_true] at o2
  have e5:(cellAt 1 h').set i c=cellAt 1 h':=by
   apply List.ext_getElem?;intro j;rw[List.getElem?_set];split
   ·rename_i hij;subst hij;split
    ·exact hc.symm
    ·rename_i hlt;rw[List.getElem?_eq_none Zo] at hc;cases hc
   ·rfl
  have e6:∀q,Ym e k' ((cellAt 1 h').set i q)=(JL r (q.den e k')).toArray:=λq=>by
   rw[hJL (q.den e k')];have e3:=congrArg Array.toList e3;unfold Ym at e3 ⊢;simp only[List.map_set] at e3 ⊢;rw[←e3,List.set_set]
  cases hn:gH c with
  |true=>
   have hc0:=aI hn
   subst hc0
   have e7:sub r=none:=by
    rw[←e4];unfold dH;rw[hc];rfl
   have e8:=e6 (.lit (.pointer none))
   rw[e5] at e8
   exact vK q l1 hg m1 e8 e2 rfl hls gF (hs0 w' e7)
  |false=>
   rw[hn] at o2
   simp only[Bool.false_eq_true,false_or] at o2
   cases hl:Ns c with
   |none=>rw[hl] at o2;cases o2
   |some l=>
    rw[hl] at o2
    simp only[Bool.and_eq_true,Bool.not_eq_true'] at o2
    have hc0:=RL hl
    subst hc0
    have e7:sub r=some (Ym e k' (cellAt l h')):=by
     rw[←e4];unfold dH;rw[hc];rfl
    have e8:=e6 (.ptr l 0)
    rw[e5] at e8
    exact vJ q l1 hg m1 l (IB o2.2) o2.1 e8 e2 rfl hls gF (λhh=>hF l (B5.1 hh)) λhb=>hs1 w' _ _ e7 hb
theorem Yr{P:Program}{e:Env}{s:Xu}{S:List Xu}(h:LW P e s)(hS:El P e S):El P e (s::S):=λz hz=>by
 rcases List.mem_cons.1 hz with rfl|hz
 ·exact h
 ·exact hS z hz
theorem Ch{P:Program}{e:Env}{s:Xu}{fn:Func}{az:List Value}{row row':Array Value}{V:Value}(hf:P.funcs[s.f]?=some fn)
  (h:∀g w,Bk w g s.ty row->Calls P s.f (Value.pointer (some ⟨g,0,none⟩)::az).toArray w λen w'=>en=.returned V/\Bk w' g s.ty row'/\Al [g] w w')
  (hs:s.self=true:=by kernel_rfl)(hn:(fn.name== "runtime.NumGoroutine")=false:=by kernel_rfl)(hb:fn.body.isNone=false:=by kernel_rfl)(e1:Ym e half s.cells=row:=by kernel_rfl)(e2:s.rest.map (SV.den e half)=az:=by kernel_rfl)(e3:s.out.den e half=V:=by kernel_rfl)(e4:Ym e half s.Ej=row':=by kernel_rfl):LW P e s:=by
 unfold LW
 rw[if_pos hs]
 intro g w hB args' ha
 rw[e2] at ha
 subst ha
 rw[e1] at hB
 rw[e3,e4]
 exact⟨CJ hf hn hb _ _,(h g w hB).mono λen w' h=>⟨h.1,h.2.1,h.2.2.grown⟩⟩
theorem Gk{P:Program}{e:Env}{s:Xu}{fn:Func}{az:List Value}{V:Value}(hf:P.funcs[s.f]?=some fn)
  (h:∀w,Calls P s.f az.toArray w λen w'=>en=.returned V/\Below w.heap.size w w')
  (hs:s.self=false:=by kernel_rfl)(hn:(fn.name== "runtime.NumGoroutine")=false:=by kernel_rfl)(hb:fn.body.isNone=false:=by kernel_rfl)(e2:s.rest.map (SV.den e half)=az:=by kernel_rfl)(e3:s.out.den e half=V:=by kernel_rfl):LW P e s:=by
 unfold LW
 rw[if_neg (by rw[hs];decide)]
 intro w args' ha
 rw[e2] at ha
 subst ha
 rw[e3]
 exact⟨CJ hf hn hb _ _,h w⟩
theorem Yc{P:Program}{e:Env}{Φ:GL}{s:Xu}{S:List Xu}(h:EQ P e Φ s)(hS:Dv P e Φ S):Dv P e Φ (s::S):=λz hz=>by
 rcases List.mem_cons.1 hz with rfl|hz
 ·exact h
 ·exact hS z hz
theorem Gr{P:Program}{e:Env}{Φ:GL}:Dv P e Φ []:=λ_ h=>by cases h
theorem AP{P:Program}{e:Env}{Φ:GL}{s:Xu}{az:List Value}{V:Value}(i j:Nat)
  (h:(∀q,SC.bool q∈s.cells->q.den e=true)->∀w F,Φ.P i w F->(∀b,F b->b<w.heap.size)->AL P s.f az.toArray w λen w'=>en=.returned V/\ES Φ j F none w w')
  (ht:Gx s=none:=by kernel_rfl)(h0:(!s.self&&!(s.ty==0))=true:=by kernel_rfl)(e2:s.rest.map (SV.den e half)=az:=by kernel_rfl)(e3:s.out.den e half=V:=by kernel_rfl)(hi:(s.ty-1)%100=i:=by kernel_rfl)(hj:(s.ty-1)/100=j:=by kernel_rfl):EQ P e Φ s:=by
 unfold EQ
 rw[ht]
 simp only
 rw[if_pos h0]
 intro hq w F hP hb args' ha
 rw[e2] at ha
 subst ha
 rw[e3,hj]
 rw[hi] at hP
 exact h hq w F hP hb
theorem Yw{P:Program}{f:Nat}{fn:Func}{az:Array Value}{w:World}{R:Ending->World->Prop}(hf:P.funcs[f]?=some fn)(h:Calls P f az w R)(hi:¬f=Dy:=by decide)(hn:(fn.name== "runtime.NumGoroutine")=false:=by kernel_rfl)(hb:fn.body.isNone=false:=by kernel_rfl):AL P f az w R:=
 AL.fn hi ⟨CJ hf hn hb _ _,h⟩
theorem tM{P:Program}{e:Env}{Φ:GL}{s:Xu}{fn:Func}{az:List Value}{row row':Array Value}{V:Value}(n:Nat)(i j o:Nat)(hf:P.funcs[s.f]?=some fn)
  (h:∀g w F,Bk w g s.ty row->Φ.P i w F->¬F g->(∀b,F b->b<w.heap.size)->Calls P s.f (Value.pointer (some ⟨g,o,none⟩)::az).toArray w λen w'=>en=.returned V/\Bk w' g s.ty row'/\ES Φ j F (some g) w w')
  (ht:Gx s=some n:=by kernel_rfl)(hn:(fn.name== "runtime.NumGoroutine")=false:=by kernel_rfl)(hb:fn.body.isNone=false:=by kernel_rfl)(e1:Ym e half s.cells=row:=by kernel_rfl)(e2:s.rest.map (SV.den e half)=az:=by kernel_rfl)(e3:s.out.den e half=V:=by kernel_rfl)(e4:Ym e half s.Ej.dropLast=row':=by kernel_rfl)
  (hi:(n-1)%100=i:=by kernel_rfl)(hj:(n-1)%10000/100=j:=by kernel_rfl)(ho:n/10000=o:=by kernel_rfl):EQ P e Φ s:=by
 unfold EQ
 rw[ht]
 simp only
 intro g w F hB hP hg hbb args' ha
 rw[e2,ho] at ha
 subst ha
 rw[e1] at hB
 rw[hi] at hP
 rw[e3,e4,hj]
 exact⟨CJ hf hn hb _ _,h g w F hB hP hg hbb⟩
def nZ(e:Env)(k:Nat->Nat)(a:SV × Nat × Yk):Value × Nat × Array Value:=(a.1.den e k,a.2.1,Ym e k (cellAt 1 a.2.2))
def okE(T:TypeId)(hp:Yk)(a:SV × Nat × Yk):Bool:=pD T 1 a.2.2&&(Io a.2.2 hp).all (·==1)
def QE(e:Env)(T:TypeId)(hp:Yk)(a:SV × Nat × Yk)(r:Value × Nat × Array Value):Prop:=okE T hp a=true/\∀k,nZ e k a=r
theorem nI{t:Xz (SV × Nat × Yk)}{e:Env}{T:TypeId}{hp:Yk}{s:FV}{R:Type}{a:R}{g:R->Value × Nat × Array Value}(h1:(t.lv s).all (jI (okE T hp))=true)(h2:∀k,(t.lv s).map (λo=>o.map (nZ e k))=(t.lv s).map λ_=>some (g a)):PO t e (λx r=>QE e T hp x (g r)) s a:=
 JW (nZ e) g (okE T hp) h1 h2 λ_ h h'=>⟨h,h'⟩
theorem poE{P:Program}{e:Env}{Φ:GL}{S:List Xu}{n f:Nat}{args:List SV}{st:St}{T:TypeId}{g:Nat}{cs:List SC}{w:World}{args':Array Value}{R:Type}{r:R}{G:R->Value × Nat × Array Value}{F:Nat->Prop}(hm:P.follows .mixedOrders=true)(hS:Dv P e Φ S)(hp:st.hp=[(1,T,cs)])(hasm:AV e st.BY)
  (hb:Bk w g T (Ym e (Dw [g]) cs))(f1:Φ.P st.ph w F)(f2:¬F g)(f3:∀b,F b->b<w.heap.size)
  (h:PO (QK (exec P S n (.call f args) st)) e (λx r=>QE e T st.hp x (G r)) st.BY r)(closed:QO (Yi st.hp) st.hp=true:=by kernel_rfl)(cargs:args.all (Jc (Yi st.hp))=true:=by kernel_rfl)(ha:args'=(args.map (SV.den e (Dw [g]))).toArray:=by kernel_rfl)(hnf:¬f=Dy:=by decide):
  Calls P f args' w λen w'=>Ky Φ (G r).2.1 F g T (G r).2.2 (G r).1 w en w':=by
 obtain⟨⟨v,p,h'⟩,hsel,hok,hout⟩:=h hasm
 refine(Q8 hm hS hsel hasm (CE [g]) (λz hz=>?_) closed cargs (λz hz y hy _=>?_) ha f1 (by rw[hp];exact noF f2 rfl) f3 hnf).mono λen w' hx=>?_
 ·rw[hp] at hz;rw[List.mem_singleton.1 hz];exact Yu (show Bk w (Dw [g] 1) T _ from hb) rfl
 ·rw[hp] at hz hy;rw[List.mem_singleton.1 hz,List.mem_singleton.1 hy]
 ·obtain⟨k',q⟩:=hx;have e1:=hout k';unfold okE at hok;rw[Bool.and_eq_true] at hok;obtain⟨o1,o2⟩:=hok;unfold nZ at e1;rw[←e1];refine fin_E q (B5.2 (by rw[hp];exact List.mem_singleton.2 rfl)) rfl (IB o1) rfl rfl rfl λl hl=>?_;have:=List.all_eq_true.1 o2 l hl;obtain rfl:l=1:=by simpa using this
  rfl
def uJ(e:Env)(k:Nat->Nat)(a:SV × Yk):Value:=a.1.den e k
def Q0(e:Env)(a:SV × Yk)(r:Value):Prop:=∀k,uJ e k a=r
theorem nL{t:Xz (SV × Yk)}{e:Env}{s:FV}{R:Type}{a:R}{g:R->Value}(h1:(t.lv s).all (jI λ_=>true)=true)(h2:∀k,(t.lv s).map (λo=>o.map (uJ e k))=(t.lv s).map λ_=>some (g a)):PO t e (λx r=>Q0 e x (g r)) s a:=
 JW (uJ e) g (λ_=>true) h1 h2 λ_ _ h'=>h'
theorem po0{P:Program}{e:Env}{S:List Xu}{n f:Nat}{args:List SV}{st:St}{w:World}{args':Array Value}{R:Type}{r:R}{G:R->Value}(hm:P.follows .mixedOrders=true)(hS:El P e S)(hp:st.hp=[])(hasm:AV e st.BY)
  (h:PO (CY (exec P S n (.call f args) st)) e (λx r=>Q0 e x (G r)) st.BY r)(cargs:args.all (Jc [])=true:=by kernel_rfl)(ha:args'=(args.map (SV.den e (Dw []))).toArray:=by kernel_rfl)(hpl:Hk S=true:=by kernel_rfl)(hnf:¬f=Dy:=by decide):
  Calls P f args' w λen w'=>en=.returned (G r)/\Al [] w w':=by
 obtain⟨⟨v,h'⟩,hsel,hout⟩:=h hasm
 refine(Cy hm hS hsel hasm (CE []) (λz hz=>by rw[hp] at hz;cases hz) (by rw[hp];rfl) (by rw[hp];exact cargs) (λz hz=>by rw[hp] at hz;cases hz) ha hpl hnf).mono λen w' hx=>?_
 obtain⟨k',q⟩:=hx
 have e1:v.den e k'=G r:=hout k'
 have hc:=q.Cf
 rw[hp] at hc
 exact⟨q.ret.trans (by rw[e1]),hc⟩
theorem Er{α R:Type}{t:Xz α}{e:Env}{Q:α->R->Prop}{s:FV}{a b:R}{c d:Bool}(hc:c=d)(h:PO t e Q s (bif d then a else b)):PO t e Q s (bif c then a else b):=by subst hc;exact h
theorem Dp{α β:Type}(c:Bool)(a b:α × β):(bif c then a else b).1=bif c then a.1 else b.1:=by cases c<;>rfl
theorem wC{α β:Type}(c:Bool)(f:α->β){a b:α}:f (bif c then a else b)=bif c then f a else f b:=by cases c<;>rfl
theorem po_bb{α R:Type}{t:Xz α}{e:Env}{Q:α->R->Prop}{s:FV}{x y:R}{a b c:Bool}(h:PO t e Q s (bif a then(bif b then x else y) else(bif c then x else y))):PO t e Q s (bif (bif a then b else c) then x else y):=by cases a<;>exact h
theorem D9{α R:Type}{t:Xz α}{e:Env}{Q:α->R->Prop}{s:FV}{r r':R}(h:r=r')(H:PO t e Q s r'):PO t e Q s r:=by subst h;exact H
theorem S0{α R:Type}{t:Xz α}{e:Env}{Q:α->R->Prop}{s:FV}{r:R}(h:False):PO t e Q s r:=h.elim
theorem zF{α R:Type}{t:Xz α}{e:Env}{Q:α->R->Prop}{s:FV}{a b:R}{c:Bool}(hc:(t.nx s).den e=c)(h1:c=true->PO t e Q (IM (t.nx s) true s) a)(h2:c=false->PO t e Q (IM (t.nx s) false s) b):PO t e Q s (bif c then a else b):=λhs=>by
 cases c with
 |true=>exact h1 rfl (Gq hs hc)
 |false=>exact h2 rfl (Gq hs hc)
def Tc(Φ:GL)(ph:Nat)(F:Nat->Prop)(V:Value)(w:World)(en:Ending)(w':World):Prop:=
 en=.returned V/\CG F w w'/\∃F':Nat->Prop,Φ.P ph w' F'/\(∀b,F' b->b<w'.heap.size)/\∀b,F' b->F b\/w.heap.size<=b
theorem fin_E0{e:Env}{Φ:GL}{F:Nat->Prop}{gs:List Nat}{hp':Yk}{w w':World}{v:SV}{ph:Nat}{en:Ending}{k':Nat->Nat}{V:Value}
  (h:LV e Φ F (Dw gs) [] w v ph hp' en w' k')(hv:v.den e k'=V)(hch:Io hp' []=[]):Tc Φ ph F V w en w':=by
 obtain⟨F',p1,p2,p3,p4⟩:=h.fin
 refine⟨h.ret.trans (by rw[hv]),⟨h.Cf.os,h.Cf.tape,h.Cf.output,h.Cf.size,λb hb hf=>h.Cf.Av b hb λhx=>hf ?_⟩,F',p1,p3,p4⟩
 rcases hx with hx|hx
 ·obtain⟨l,hl,rfl⟩:=List.mem_map.1 hx;rw[hch] at hl;cases hl
 ·exact hx
end Go.Proofs.YtaipogljokblkaaGreatDoor
