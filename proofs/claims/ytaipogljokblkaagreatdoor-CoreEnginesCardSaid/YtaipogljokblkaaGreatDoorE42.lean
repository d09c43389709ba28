/- Core: EaM, EaV. -/
import Derived.Test.YtaipogljokblkaaGreatDoorE40
import Derived.Test.YtaipogljokblkaaGreatDoorE01
import Derived.Test.YtaipogljokblkaaGreatDoorE41
set_option linter.all false
set_option maxRecDepth 100000
set_option maxHeartbeats 8000000
namespace Go.Proofs.YtaipogljokblkaaGreatDoor
open Go Go.RowKit
set_option linter.unusedSimpArgs false
set_option linter.unusedVariables false
set_option linter.unusedSectionVars false
structure IL(v:Vw)(d:Int)(kp:Int->Int)(l:Int->List Int):Prop where
 ch:∀k,0<=k->k<3->CU v (2+k) (v.root k) (l k)
 m0:∀k,0<=k->k<3->(v.root k).mark=false
 WL:∀k,0<=k->k<3->∀s∈l k,((v.cell s (2+k)).mark=true↔s=d)
 sub:∀k,0<=k->k<2->∀s∈l (k+1),s∈l k
 key:∀k,0<=k->k<3->∀s∈l k,(v.cell s 0).nm=kp s
 OT:∀k,0<=k->k<3->(l k).Pairwise λs t=>kp s<kp t
structure Sk(v v':Vw)(d:Int):Prop where
 held:v'.held=v.held
 As:v'.As=v.As
 cell:∀s f,¬(2<=f/\f<5)->v'.cell s f=v.cell s f
 same:d=0->v'=v
section
variable{v v' v2:Vw}{d k j s:Int}{kp:Int->Int}{l:Int->List Int}{pre post r:List Int}{x w:Xe}{a:X9}
theorem Sk.refl:Sk v v d:=⟨rfl,rfl,λ_ _ _=>rfl,λ_=>rfl⟩
theorem Sk.trans(h1:Sk v v' d)(h2:Sk v' v2 d):Sk v v2 d:=⟨h2.held.trans h1.held,h2.As.trans h1.As,λs f h=>(h2.cell s f h).trans (h1.cell s f h),λh=>(h2.same h).trans (h1.same h)⟩
theorem yJ(h:r.Pairwise λs t=>kp s<kp t):r.Nodup:=h.imp λh e=>by rw[e] at h;exact absurd h (Int.lt_irrefl _)
def HJ(v:Vw)(k:Int)(pre:List Int):X9:=EZ (2+k) v.As (root k) pre
theorem CJ:HJ v k pre=root k/\pre=[]\/(HJ v k pre).sl∈pre/\(HJ v k pre).fd=2+k/\(HJ v k pre).gn=v.As (HJ v k pre).sl:=Cq
theorem RI(t:Int):HJ v k (pre++[t])=⟨t,v.As t,2+k⟩:=GP t
theorem RH(h:v'.As=v.As):HJ v' k pre=HJ v k pre:=by unfold HJ;rw[h]
theorem IL.at_(h:IL v d kp l)(h0:0<=k)(h3:k<3)(hl:l k=pre++post):CU v (2+k) (v.get (HJ v k pre)) post:=CU.at_ (a:=root k) (by rw[←hl];exact h.ch k h0 h3)
theorem IL.ad(h:IL v d kp l)(h0:0<=k)(h3:k<3)(hl:l k=pre++post):v.Ad (HJ v k pre):=Jk Zo (AY h0 Zo) (show CU v (2+k) (v.get (root k)) (pre++post) by rw[←hl];exact h.ch k h0 h3)
theorem IL.nd(h:IL v d kp l)(h0:0<=k)(h3:k<3):(l k).Nodup:=yJ (h.OT k h0 h3)
theorem IL.held(h:IL v d kp l)(h0:0<=k)(h3:k<3)(hs:s∈l k):s≠0/\v.held s:=(h.ch k h0 h3).held s hs
theorem IL.mark(h:IL v d kp l)(h0:0<=k)(h3:k<3)(hl:l k=pre++post)(hd:d∉pre):(v.get (HJ v k pre)).mark=false:=by
 rcases @CJ v k pre with⟨e,_⟩|e
 ·rw[e];exact h.m0 k h0 h3
 ·have hm:(HJ v k pre).sl∈l k:=by rw[hl];exact List.mem_append_left _ e.1
  unfold Vw.get;rw[if_neg (h.held h0 h3 hm).1,e.2.1];cases hc:(v.cell (HJ v k pre).sl (2+k)).mark with
  |false=>rfl
  |true=>exact absurd ((h.WL k h0 h3 _ hm).1 hc▸e.1) hd
theorem zJ(h0:0<=k)(h3:k<3)(j0:0<=j)(j3:j<3)(hj:j≠k)(pre':List Int)(hz:(0:Int)∉pre)(hz':(0:Int)∉pre'):¬((HJ v j pre').sl=(HJ v k pre).sl/\(HJ v j pre').fd=(HJ v k pre).fd):=by
 rintro⟨e1,e2⟩;rcases @CJ v k pre with⟨e,_⟩|e
 ·rw[e] at e1 e2;rcases @CJ v j pre' with⟨e',_⟩|e'
  ·rw[e'] at e2;exact hj e2
  ·exact hz' ((show(HJ v j pre').sl=0 from e1)▸e'.1)
 ·rcases @CJ v j pre' with⟨e',_⟩|e'
  ·rw[e'] at e1;exact hz ((show(HJ v k pre).sl=0 from e1.symm)▸e.1)
  ·rw[e.2.1,e'.2.1] at e2;omega
theorem wY(h0:0<=k)(h3:k<3)(hz:(0:Int)∉pre){t f:Int}(hf:¬(2<=f/\f<5))(ht:f=2+k\/True):(v.put (HJ v k pre) x).cell t f=v.cell t f:=by
 rcases @CJ v k pre with⟨e,_⟩|e
 ·rw[e];rfl
 ·exact Yb t f λe'=>hf (by have:=e.2.1;omega)
theorem Mq(hz:(0:Int)∉pre)(hj:j≠k):(v.put (HJ v k pre) x).root j=v.root j:=by
 rcases @CJ v k pre with⟨e,_⟩|e
 ·rw[e];show Ap v.root k x j=_;rw[X2,if_neg hj]
 ·unfold Vw.put;rw[if_neg λe0:(HJ v k pre).sl=0=>hz (e0▸e.1)]
theorem IL.zero(h:IL v d kp l)(h0:0<=k)(h3:k<3):(0:Int)∉l k:=λhm=>(h.held h0 h3 hm).1 rfl
theorem IL.splice(h:IL v d kp l)(h0:0<=k)(h3:k<3)(hl:l k=pre++post)(hd:d∉pre)(hx:CU (v.put (HJ v k pre) x) (2+k) x r)(hm:x.mark=false)
  (hr:∀s∈r,((v.cell s (2+k)).mark=true↔s=d)/\s∉pre/\(0<k->s∈l (k-1))/\(v.cell s 0).nm=kp s)(hs:(pre++r).Pairwise λs t=>kp s<kp t)(hu:k<2->∀s∈l (k+1),s∈pre++r):
  IL (v.put (HJ v k pre) x) d kp (Ap l k (pre++r)):=by
 have hz:(0:Int)∉pre:=λhm=>h.zero h0 h3 (by rw[hl];exact List.mem_append_left _ hm)
 have e1:∀j,j≠k->Ap l k (pre++r) j=l j:=λj hj=>by rw[X2,if_neg hj]
 have e2:Ap l k (pre++r) k=pre++r:=by rw[X2,if_pos rfl]
 have hc:=I7 (a:=root k) (show CU v (2+k) (v.get (root k)) (pre++post) by rw[←hl];exact h.ch k h0 h3) (by rw[←hl];exact h.nd h0 h3) (λh=>absurd rfl h) hx
 have hcell:∀t f,f≠2+k->(v.put (HJ v k pre) x).cell t f=v.cell t f:=λt f hf=>by
  rcases @CJ v k pre with⟨e,_⟩|e
  ·rw[e];rfl
  ·exact Yb t f λe'=>hf (by have:=e.2.1;omega)
 refine⟨λj j0 j3=>?_,λj j0 j3=>?_,λj j0 j3 s hs'=>?_,λj j0 j3 s hs'=>?_,λj j0 j3 s hs'=>?_,λj j0 j3=>?_⟩
 ·by_cases hj:j=k
  ·subst hj;rw[e2];exact hc
  ·rw[e1 j hj,Mq hz hj];refine(h.ch j j0 j3).put ?_;rcases @CJ v k pre with⟨e,_⟩|e
   ·exact Or.inr λhm=>h.zero j0 j3 (by rw[e] at hm;exact hm)
   ·exact Or.inl (by rw[e.2.1];omega)
 ·by_cases hj:j=k
  ·subst hj;have:=CH (v:=v) (root j) (HJ v j pre) x;show((v.put (HJ v j pre) x).get (root j)).mark=false;rw[this];split
   ·exact hm
   ·exact h.m0 j j0 j3
  ·rw[Mq hz hj];exact h.m0 j j0 j3
 ·by_cases hj:j=k
  ·subst hj;rw[e2] at hs';have hs0:s≠0:=(hc.held s hs').1;have e4:=CH (v:=v) ⟨s,0,2+j⟩ (HJ v j pre) x;rw[Cx hs0,Cx hs0] at e4;rw[e4];rcases List.mem_append.1 hs' with hp|hp
   ·have hsd:s≠d:=λe=>hd (e▸hp);split
    ·rw[hm];exact⟨λh=>(by cases h),λh=>absurd h hsd⟩
    ·exact h.WL j j0 j3 s (by rw[hl];exact List.mem_append_left _ hp)
   ·rw[if_neg λe=>?_]
    ·exact(hr s hp).1
    ·have e1:s=(HJ v j pre).sl:=e.1;rcases @CJ v j pre with⟨e',_⟩|e'
     ·rw[e'] at e1;exact hs0 e1
     ·exact(hr s hp).2.1 (e1▸e'.1)
  ·rw[e1 j hj] at hs';rw[hcell s (2+j) Zo];exact h.WL j j0 j3 s hs'
 ·by_cases hj:j=k
  ·subst hj;rw[e2];rw[e1 (j+1) Zo] at hs';exact hu Zo s hs'
  ·by_cases hj1:j+1=k
   ·rw[e1 j hj];rw[hj1,e2] at hs';rcases List.mem_append.1 hs' with hp|hp
    ·exact h.sub j j0 j3 s (by rw[hj1,hl];exact List.mem_append_left _ hp)
    ·have:=(hr s hp).2.2.1 Zo;rwa [show k-1=j by omega] at this
   ·rw[e1 j hj];rw[e1 (j+1) hj1] at hs';exact h.sub j j0 j3 s hs'
 ·rw[hcell s 0 Zo];by_cases hj:j=k
  ·subst hj;rw[e2] at hs';rcases List.mem_append.1 hs' with hp|hp
   ·exact h.key j j0 j3 s (by rw[hl];exact List.mem_append_left _ hp)
   ·exact(hr s hp).2.2.2
  ·rw[e1 j hj] at hs';exact h.key j j0 j3 s hs'
 ·by_cases hj:j=k
  ·subst hj;rw[e2];exact hs
  ·rw[e1 j hj];exact h.OT j j0 j3
theorem Wq (hd:d≠0) (h0:0≤k) (h3:k < 3):Sk v (v.put (HJ v k pre) x) d:=⟨B9,AD,fun s f hf=>by
  rcases @CJ v k pre with⟨e,_⟩|e
  ·rw[e];rfl
  ·exact Yb s f λe'=>hf (by have:=e.2.1;omega),λh=>absurd h hd⟩
def rF(v:Vw)(kp:Int->Int)(l:List Int)(s:Bq)(b k:Int):Prop:=∃pre post,l=pre++post/\s.prev=HJ v k pre/\s.cur=v.get s.prev/\(∀t∈pre,kp t<b)/\∀t∈post,b<=kp t
theorem rF.put{s:Bq}{b:Int}(h:rF v kp (l j) s b j)(ht:IL v d kp l)(h0:0<=k)(h3:k<3)(j0:0<=j)(j3:j<3)(hj:j≠k)(hz:(0:Int)∉pre){L:Int->List Int}(hL:L j=l j):rF (v.put (HJ v k pre) x) kp (L j) s b j:=by
 obtain⟨p,q,e1,e2,e3,e4,e5⟩:=h;refine⟨p,q,hL.trans e1,by rw[RH AD];exact e2,?_,e4,e5⟩;rw[CH,if_neg,e3];rw[e2];exact zJ h0 h3 j0 j3 hj p hz λhm=>ht.zero j0 j3 (by rw[e1];exact List.mem_append_left _ hm)
def I9(kp:Int->Int)(Z pre:List Int):Nat:=(Z.filter λt=>pre.all λu=>decide (kp u<kp t)).length
theorem filter_le{α:Type}{p q:α->Bool}(h:∀x,q x=true->p x=true):∀l:List α,(l.filter q).length<=(l.filter p).length
 |[]=>Nat.le_refl _
 |a::l=>by
  have ih:=filter_le h l;cases hq:q a with
  |true=>rw[List.filter_cons_of_pos hq,List.filter_cons_of_pos (h a hq)];simpa using ih
  |false=>
   rw[List.filter_cons_of_neg (by rw[hq];decide)];cases hp:p a with
   |true=>rw[List.filter_cons_of_pos hp];simp;omega
   |false=>rw[List.filter_cons_of_neg (by rw[hp];decide)];exact ih
theorem filter_lt{α:Type}{p q:α->Bool}(h:∀x,q x=true->p x=true){s:α}(hp:p s=true)(hq:q s=false):∀l:List α,s∈l->(l.filter q).length+1<=(l.filter p).length
 |a::l,hs=>by
  rcases List.mem_cons.1 hs with rfl|hs
  ·rw[List.filter_cons_of_neg (by rw[hq];decide),List.filter_cons_of_pos hp];have:=filter_le h l;simp;omega
  ·have ih:=filter_lt h hp hq l hs;cases hqa:q a with
   |true=>rw[List.filter_cons_of_pos hqa,List.filter_cons_of_pos (h a hqa)];simpa using ih
   |false=>
    rw[List.filter_cons_of_neg (by rw[hqa];decide)];cases hpa:p a with
    |true=>rw[List.filter_cons_of_pos hpa];simp;omega
    |false=>rw[List.filter_cons_of_neg (by rw[hpa];decide)];exact ih
theorem Q9{Z:List Int}(hs:s∈Z)(hp:∀u∈pre,kp u<kp s):I9 kp Z (pre++[s])+1<=I9 kp Z pre:=by
 refine filter_lt (s:=s) (λt h=>?_) ?_ ?_ Z hs
 ·rw[List.all_append] at h;exact(Bool.and_eq_true _ _▸h).1
 ·exact List.all_eq_true.2 λu hu=>decide_eq_true (hp u hu)
 ·rw[List.all_append];simp
theorem vO{Z:List Int}(h:∀u∈pre,∃t∈post,kp u<=kp t):I9 kp Z post<=I9 kp Z pre:=by
 refine filter_le (λt ht=>List.all_eq_true.2 λu hu=>decide_eq_true ?_) Z;obtain⟨y,hy,h1⟩:=h u hu;have:=of_decide_eq_true (List.all_eq_true.1 ht y hy);omega
theorem qB{Z:List Int}:I9 kp Z pre<=Z.length:=List.length_filter_le ..
end
def BZ(w:Int):Nat->Int
 |0=>w
 |i+1=>Eh (BZ w i)
def IT(C:VC)(w:Int):Nat->VC
 |0=>C
 |i+1=>IT (C.add (BZ w i)) w i
def vI(C:VC)(w:Int):Nat->Nat->Nat
 |0,i=>i
 |d+1,i=>bif BZ w i==0||C.B (BZ w i) then i else vI C w d (i+1)
def Vt(C:VC)(op:A3):Yu × VC:=
 bW (IT C (Int.tmod op.key (Cf C.z)) (vI C (Int.tmod op.key (Cf C.z)) 3 0)) op (Cf C.z)
def IG(B:Int->Bool):Nat:=((List.range 7).filter λb:Nat=>!B ((b:Int)+1)).length
theorem bX{B:Int->Bool}{b:Int}(h1:1<=b)(h8:b<8)(hb:B b=false):IG (Ap B b true)+1<=IG B:=by
 refine filter_lt (s:=(b-1).toNat) (λx hx=>?_) ?_ ?_ _ (List.mem_range.2 Zo)
 ·rw[X2] at hx;by_cases e:(x:Int)+1=b
  ·rw[if_pos e] at hx;cases hx
  ·rw[if_neg e] at hx;exact hx
 ·rw[show(((b-1).toNat:Nat):Int)+1=b by omega,hb];rfl
 ·rw[show(((b-1).toNat:Nat):Int)+1=b by omega,X2,if_pos rfl];rfl
theorem Jl{L:List (Int × Int)}{key:Int}{op:A3}:(Ca L key op).2.length<=L.length+1:=by
 have h:=List.takeWhile_append_dropWhile (p:=λe:Int × Int=>decide (e.1<key)) (l:=L);have h1:=congrArg List.length h;rw[List.length_append] at h1;unfold Ca;simp only;split
 ·split
  ·simp;omega
  ·exact Nat.le_succ _
 ·rename_i e;rw[e] at h1;simp only[List.length_cons] at h1;split
  ·split
   ·exact Nat.le_succ _
   ·split
    ·simp;omega
    ·exact Nat.le_succ _
  ·split
   ·simp;omega
   ·exact Nat.le_succ _
theorem anct:((List.range 8).all λw=>(List.range 3).all λi=>decide (BZ (w:Int) i=0\/(Yn (BZ (w:Int) (i+1))<Yn (BZ (w:Int) i)/\0<=BZ (w:Int) (i+1)/\BZ (w:Int) (i+1)<BZ (w:Int) i/\BZ (w:Int) i<8/\GX (w:Int) (BZ (w:Int) (i+1))=BZ (w:Int) i)))=true:=Zk
theorem Nc{w:Int}{i:Nat}(w0:0<=w)(w8:w<8)(hi:i<3)(h:BZ w i≠0):Yn (BZ w (i+1))<Yn (BZ w i)/\0<=BZ w (i+1)/\BZ w (i+1)<BZ w i/\BZ w i<8/\GX w (BZ w (i+1))=BZ w i:=by
 have e:=List.all_eq_true.1 anct w.toNat (List.mem_range.2 Zo);have e:=List.all_eq_true.1 e i (List.mem_range.2 hi);rw[Int.toNat_of_nonneg w0] at e;exact(of_decide_eq_true e).elim (λe=>absurd e h) id
theorem anc3{w:Int}(w0:0<=w)(w8:w<8):BZ w 3=0:=by
 have:w=0\/w=1\/w=2\/w=3\/w=4\/w=5\/w=6\/w=7:=Zo;rcases this with rfl|rfl|rfl|rfl|rfl|rfl|rfl|rfl<;>rfl
theorem Se{w:Int}(w0:0<=w)(w8:w<8):∀{i:Nat},i<=3->(∀j,j<i->1<=BZ w j)->0<=BZ w i/\BZ w i<8/\(0<i->BZ w i<w)
 |0,_,_=>⟨w0,w8,λh=>absurd h Zd⟩
 |i+1,h3,h=>by
  have h1:=h i Zo;obtain ⟨a1,a2,a3⟩:=Se w0 w8 (i:=i) Zo fun j hj=>h j Zo;obtain ⟨b1,b2,b3,b4,b5⟩:=Nc (i:=i) w0 w8 Zo Zo;exact ⟨b2,by omega,fun _=>by
   by_cases e:i=0
   ·subst e;exact b3
   ·have:=a3 Zo;omega⟩
theorem Sf{w:Int}(w0:0<=w)(w8:w<8){j:Nat}:∀{i:Nat},i<=3->j<i->(∀k,k<i->1<=BZ w k)->BZ w i<BZ w j
 |i+1,h3,hj,h=>by
  obtain⟨b1,b2,b3,b4,b5⟩:=Nc (i:=i) w0 w8 Zo (by have:=h i Zo;omega);by_cases e:j=i
  ·subst e;exact b3
  ·have:=Sf w0 w8 (i:=i) (j:=j) Zo Zo λk hk=>h k Zo;omega
section
variable{Q:Yu->Vw->Prop}{al n:Nat}{last:Xf}{op:A3}{z w:Int}{Su:Option Xh}{A5:Yu}{cw:Xe}
theorem SF(hk:op.kind=6\/op.kind=7\/op.kind=8)(hky:0<=op.key/\op.key<256)(hz:z=1\/z=2\/z=4\/z=8)(hb:w=Int.tmod op.key z)(w0:0<=w)(w8:w<8):∀(i:Nat),i<=3->∀(v:Vw) (C:VC) (pc ch:Int) (ba no se:Xe) (wk:Option Xm),Ea v C->(∀j,j<i->1<=BZ w j/\C.B (BZ w j)=false)->(BZ w i=0\/(1<=BZ w i/\BZ w i<8/\C.B (BZ w i)=true))->Xg ba 2=Xg (v.root (8+BZ w i)) 2->
  (∀v',Ea v' (bW (IT C w i) op z).2->Q (bW (IT C w i) op z).1 v')->
  Yc Q (al+1+i) (n+9*(C.L.length+i)+64+i*(9*(C.L.length+i)+14)) v (.K2 (Xa.Ch ⟨pc,last,op,z,w,BZ w i,ch,ba,no,se,wk,Su,A5,cw⟩).1) (Xa.Ch ⟨pc,last,op,z,w,BZ w i,ch,ba,no,se,wk,Su,A5,cw⟩).2
 |0,_,v,C,pc,ch,ba,no,se,wk,h,hj,hB,hba,fin=>by
  unfold Xa.Ch;simp only[BZ,show(w==w)=true by simp,cond_true];refine Yc.more (n:=n+9*C.L.length+64) (a:=al+1) ?_ (Nat.le_refl _) Zo;exact iZ h hk hky hz hb hB hba fin
 |i+1,h3,v,C,pc,ch,ba,no,se,wk,h,hj,hB,hba,fin=>by
  obtain⟨j1,j2⟩:=hj i Zo;obtain⟨b1,b2,b3,b4,b5⟩:=Nc (i:=i) w0 w8 Zo Zo;have hl:=(Se (i:=i+1) w0 w8 h3 λj h=>(hj j h).1).2.2 Zo;unfold Xa.Ch;simp only[show(BZ w (i+1)==w)=false by simp;omega,cond_false,b5];have hlen:(C.add (BZ w i)).L.length<=C.L.length+1:=Jl;refine .more (n:=n+9*((C.add (BZ w i)).L.length+i)+64+i*(9*((C.add (BZ w i)).L.length+i)+14)+9*C.L.length+14) (a:=al+1+i+1) (Vs h hB hba j1 b4 j2 b1 λv' ba' no' se' wk' h' hba'=>?_) Zo ?_
  ·refine SF hk hky hz hb w0 w8 i Zo v' (C.add (BZ w i)) 10 (BZ w i) ba' no' se' wk' h' (λj hji=>⟨(hj j Zo).1,?_⟩) (Or.inr ⟨j1,b4,by show Ap C.B (BZ w i) true (BZ w i)=true;rw[X2,if_pos rfl]⟩) hba' fin;show Ap C.B (BZ w i) true (BZ w j)=false;have:=Sf w0 w8 (i:=i) (j:=j) Zo hji λk hk=>(hj k Zo).1;rw[X2,if_neg Zo];exact(hj j Zo).2
  ·have e1:i*(9*((C.add (BZ w i)).L.length+i)+14)<=i*(9*(C.L.length+(i+1))+14):=Nat.mul_le_mul_left i Zo;have e2:(i+1)*(9*(C.L.length+(i+1))+14)=i*(9*(C.L.length+(i+1))+14)+(9*(C.L.length+(i+1))+14):=Nat.succ_mul ..;rw[e2];generalize i*(9*((C.add (BZ w i)).L.length+i)+14)=x1 at*;generalize i*(9*(C.L.length+(i+1))+14)=x2 at*;omega
theorem YR(hk:op.kind=6\/op.kind=7\/op.kind=8)(hky:0<=op.key/\op.key<256)(hz:z=1\/z=2\/z=4\/z=8)(hb:w=Int.tmod op.key z)(w0:0<=w)(w8:w<8){v:Vw}{C:VC}{ch:Int}{ba no se:Xe}{wk:Option Xm}(h:Ea v C):∀(d i:Nat),i+d=3->(∀j,j<i->1<=BZ w j/\C.B (BZ w j)=false)->
  (∀v',Ea v' (bW (IT C w (vI C w d i)) op z).2->Q (bW (IT C w (vI C w d i)) op z).1 v')->
  Yc Q (al+4) (n+36*C.L.length+217+d) v (.K2 ⟨2,last,op,z,w,BZ w i,ch,ba,no,se,wk,Su,A5,cw⟩) (Yv (FW (BZ w i)))
 |d,i,hd,hj,fin=>by
  obtain⟨l0,l8,_⟩:=Se (i:=i) w0 w8 Zo λj h=>(hj j h).1;rw[O5 l0 l8];by_cases hnil:(v.root (8+BZ w i)).sl=0
  ·have hn0:BZ w i≠0:=λe=>by rw[e] at hnil;exact h.r0.1 hnil
   cases d with
   |zero=>exact absurd (by rw[show i=3 by omega];exact anc3 w0 w8) hn0
   |succ d=>
    have hBf:C.B (BZ w i)=false:=by
     cases hc:C.B (BZ w i) with
     |false=>rfl
     |true=>
      obtain⟨l,_,_,h4⟩:=h.ex;exact absurd hnil (h4 _ Zo l8 hc).1.1
    have e1:vI C w (d+1) i=vI C w d (i+1):=by
     show(bif BZ w i==0||C.B (BZ w i) then i else vI C w d (i+1))=_;rw[hBf,show(BZ w i==0)=false by simp[hn0]];rfl
    rw [e1] at fin;refine .more (n:=n+36*C.L.length+217+d+1) (a:=al+4) (.ld (AY Zo Zo) rfl ?_) (Nat.le_refl _) Zo;simp only [Xx.next,Xa.next,Xa.EF,BU,hnil,show ((0:Int)==0) = true from rfl,show ((2:Int)==0) = false from rfl,show ((2:Int)==1) = false from rfl,show ((2:Int)==2) = true from rfl,cond_true,cond_false,Bool.not_true,show (BZ w i==0) = false by simp [hn0]];exact YR hk hky hz hb w0 w8 h d (i+1) Zo (fun j hji=>by
     by_cases e:j=i
     ·subst e;exact⟨by omega,hBf⟩
     ·exact hj j Zo) fin
  ·have hB:BZ w i=0\/(1<=BZ w i/\BZ w i<8/\C.B (BZ w i)=true):=by
    by_cases e:BZ w i=0
    ·exact Or.inl e
    ·refine Or.inr ⟨by omega,l8,?_⟩;cases hc:C.B (BZ w i) with
     |true=>rfl
     |false=>exact absurd (h.nil _ Zo l8 hc).1 hnil
   have e1:vI C w d i=i:=by
    cases d with
    |zero=>rfl
    |succ d=>
     show(bif BZ w i==0||C.B (BZ w i) then i else vI C w d (i+1))=_;rcases hB with e|⟨_,_,e⟩
     ·rw[e];rfl
     ·rw[e,Bool.or_true];rfl
   rw[e1] at fin;have hi:i<=3:=Zo;have hm:i*(9*(C.L.length+i)+14)<=3*(9*(C.L.length+3)+14):=Nat.mul_le_mul hi Zo;refine .more (n:=n+9*(C.L.length+i)+64+i*(9*(C.L.length+i)+14)+1) (a:=al+1+i) (.ld (AY Zo Zo) rfl ?_) Zo Zo;simp only[Xx.next,Xa.next,Xa.EF,BU,show((v.root (8+BZ w i)).sl==0)=false by simp[hnil],show((2:Int)==0)=false from rfl,show((2:Int)==1)=false from rfl,show((2:Int)==2)=true from rfl,cond_true,cond_false,Bool.not_false];exact SF hk hky hz hb w0 w8 i hi v C 2 ch _ no se wk h hj hB rfl fin
end
theorem Zg(n:Int):Cf n=1\/Cf n=2\/Cf n=4\/Cf n=8:=by
 unfold Cf;cases n==2<;>cases n==4<;>cases n==8<;>simp
theorem iY{v:Vw}{C:VC}(op:A3)(x:Xj)(hk:op.kind=6\/op.kind=7\/op.kind=8)(hky:0<=op.key/\op.key<256)(h:Ea v C):
  Yc (λa v'=>a=(Vt C op).1/\Ea v' (Vt C op).2) 4 (36*C.L.length+221) v (.K2 ((Xa.new op).next x).1) ((Xa.new op).next x).2:=by
 have hz:=Zg C.z
 have hw:0<=Int.tmod op.key (Cf C.z)/\Int.tmod op.key (Cf C.z)<8:=by
  have h1:=Int.tmod_nonneg (Cf C.z) hky.1;have h2:=Int.tmod_lt_of_pos op.key (show 0<Cf C.z by omega);omega
 refine .more (n:=0+36*C.L.length+217+3+1) (a:=0+4) ?_ (Nat.le_refl _) Zo
 simp only[Xa.new,Xa.zero,Xa.next,show((0:Int)==0)=true from rfl,cond_true]
 refine .ld (AY Zd Zd) rfl ?_
 simp only[Xx.next,Xa.next,Xa.sized,Xa.Ck,BU,h.z,show((1:Int)==0)=false from rfl,show((1:Int)==1)=true from rfl,cond_true,cond_false]
 exact YR (i:=0) (w:=Int.tmod op.key (Cf C.z)) hk hky hz rfl hw.1 hw.2 h 3 Zd (λj hj=>absurd hj Zo) λv' hv=>⟨rfl,hv⟩
theorem Pz{w:Int}(w0:0<=w)(w8:w<8):∀(i:Nat),i<=3->∀{C:VC},(∀j,j<i->1<=BZ w j/\C.B (BZ w j)=false)->(IT C w i).L.length+IG (IT C w i).B<=C.L.length+IG C.B
 |0,_,C,_=>Nat.le_refl _
 |i+1,h3,C,hj=>by
  obtain ⟨j1,j2⟩:=hj i Zo;obtain ⟨b1,b2,b3,b4,b5⟩:=Nc (i:=i) w0 w8 Zo Zo;have h1:(C.add (BZ w i)).L.length≤C.L.length+1:=Jl;have h2:IG (C.add (BZ w i)).B+1≤IG C.B:=bX j1 b4 j2;have:=Pz w0 w8 i Zo (C:=C.add (BZ w i)) fun j hji=>⟨(hj j Zo).1,by
   show Ap C.B (BZ w i) true (BZ w j)=false;have:=Sf w0 w8 (i:=i) (j:=j) Zo hji λk hk=>(hj k Zo).1;rw[X2,if_neg Zo];exact(hj j Zo).2⟩
  show(IT (C.add (BZ w i)) w i).L.length+IG (IT (C.add (BZ w i)) w i).B<=_;omega
theorem wS{C:VC}{w:Int}(w0:0<=w)(w8:w<8):∀(d i:Nat),i+d=3->(∀j,j<i->1<=BZ w j/\C.B (BZ w j)=false)->vI C w d i<=3/\∀j,j<vI C w d i->1<=BZ w j/\C.B (BZ w j)=false
 |0,i,hi,hj=>⟨by show i<=3;omega,hj⟩
 |d+1,i,hi,hj=>by
  show(bif BZ w i==0||C.B (BZ w i) then i else vI C w d (i+1))<=3/\∀j,j<(bif BZ w i==0||C.B (BZ w i) then i else vI C w d (i+1))->_;cases hc:BZ w i==0||C.B (BZ w i) with
  |true=>exact⟨by show i<=3;omega,hj⟩
  |false=>
   obtain⟨l0,l8,_⟩:=Se (i:=i) w0 w8 Zo λj h=>(hj j h).1;have h1:=Bool.or_eq_false_iff.1 hc;exact wS w0 w8 d (i+1) Zo λj hji=>by
    by_cases e:j=i
    ·subst e;exact⟨by have:=h1.1;simp at this;omega,h1.2⟩
    ·exact hj j Zo
theorem sG{C:VC}{op:A3}{z:Int}:(bW C op z).2.L.length+IG (bW C op z).2.B<=C.L.length+1+IG C.B:=by
 have h:(Ca C.L (Gy op.key) op).2.length<=C.L.length+1:=Jl;have e:(bW C op z).2.L=(Ca C.L (Gy op.key) op).2/\(bW C op z).2.B=C.B:=by
  unfold bW;simp only;cases !((Ca C.L (Gy op.key) op).1.code==1)||op.kind==8 with
  |true=>exact⟨rfl,rfl⟩
  |false=>
   unfold sH;simp only[cond_false];cases op.kind==7<;>cases z==8<;>simp only[cond_true,cond_false]<;>first|exact⟨rfl,rfl⟩|exact⟨trivial,trivial⟩|skip
   cases decide (C.c<wr (2*z))<;>cases C.z==z<;>exact⟨rfl,rfl⟩
 rw[e.1,e.2];omega
theorem jC{C:VC}{op:A3}(hky:0<=op.key/\op.key<256):(Vt C op).2.L.length+IG (Vt C op).2.B<=C.L.length+1+IG C.B:=by
 have hz:=Zg C.z;have hw:0<=Int.tmod op.key (Cf C.z)/\Int.tmod op.key (Cf C.z)<8:=by
  have h1:=Int.tmod_nonneg (Cf C.z) hky.1;have h2:=Int.tmod_lt_of_pos op.key (show 0<Cf C.z by omega);omega
 obtain⟨i1,i2⟩:=wS (C:=C) hw.1 hw.2 3 0 Zd λj hj=>absurd hj Zo;have:=Pz hw.1 hw.2 _ i1 i2;have:=sG (C:=IT C (Int.tmod op.key (Cf C.z)) (vI C (Int.tmod op.key (Cf C.z)) 3 0)) (op:=op) (z:=Cf C.z);unfold Vt;omega
end Go.Proofs.YtaipogljokblkaaGreatDoor
