/- Core: QB, QC, QD, QN. -/
import Derived.Test.YtaipogljokblkaaGreatDoorE33
import Derived.Test.YtaipogljokblkaaGreatDoorE01
import Derived.Lib.SliceRun
set_option linter.all false
set_option maxRecDepth 100000
set_option maxHeartbeats 8000000
namespace Go.Proofs.YtaipogljokblkaaGreatDoor
open Go Go.RowKit
set_option linter.unusedSimpArgs false
set_option linter.unusedVariables false
set_option linter.unusedSectionVars false
def MT.fresh(st eng me Np most:Int):MT:=⟨MV.fresh st eng me Np most,[],0,-1⟩
def Ai.fresh(st eng most:Int)(n ns k:Nat):Ai:=⟨st,Pl.laid st ns,(List.range k).map λ(i:Nat)=>MT.fresh st eng (i:Int) (n:Int) most,[]⟩
theorem Ai.LS(st eng most:Int)(n ns k:Nat):(Ai.fresh st eng most n ns k).A8.length=k:=by simp[Ai.fresh]
theorem Ai.WV(st eng most:Int)(n ns k:Nat):Ai.fresh st eng most n ns (k+1)={Ai.fresh st eng most n ns k with A8:=(Ai.fresh st eng most n ns k).A8++[MT.fresh st eng (k:Int) (n:Int) most]}:=by
 simp[Ai.fresh,List.range_succ]
theorem Er.cut{w:World}{gp gh:Nat}{P:Ai}{tv bv:BA}{ro:List FG}{Fh:List Nat}{Ft:Nat->Nat->Prop}{lab:Nat->Nat}(h:Er w gp gh P tv bv ro Fh Ft lab):Er w gp gh P tv bv ro Fh Ft (λb=>if b<w.heap.size then lab b else 1000):=by
 have e:∀b,b<w.heap.size->(if b<w.heap.size then lab b else 1000)=lab b:=λb hb=>if_pos hb;refine⟨h.bk,h.KB,h.K4,h.hp,h.len,h.th,(e _ h.bk.lt).trans h.l0,λb hb=>(e _ (h.KB.lt hb)).trans (h.l1 b hb),λb hb=>(e _ (h.K4.lt hb)).trans (h.l2 b hb),λb hb=>(e _ (h.hp.lt b hb)).trans (h.l3 b hb),λi b hi hb=>(e _ (h.fG hi b hb)).trans (h.l4 i b hi hb),λb hb=>?_,h.Oo⟩;show 1000<=(if _ then _ else _);split
 ·exact h.low b hb
 ·exact Nat.le_refl _
theorem sM{w:World}{gv gr:Nat}{st eng k n most:Int}(hb:Bk w gv 126 ((Gn (MV.fresh st eng k n most)).l (.pointer (some ⟨gr,0,none⟩)) .nilIface).toArray)(hr:MA gr .nilIface (MR.fresh eng k n most) none w (λb=>b=gr))(h:gr≠gv):
  iI w ⟨gv,⟨none,0,0⟩,0,-1⟩ (MT.fresh st eng k n most) (λb=>b=gv\/b=gr):=
 ⟨rfl,rfl,λb=>b=gv\/b=gr,⟨gr,.nilIface,λb=>b=gr,hb,hr,λe=>h e.symm,λ_=>Iff.rfl⟩,Own.nil,λ_ _ e=>(by cases e),λ_=>⟨Or.inl,λh=>h.elim id λe=>(by cases e)⟩⟩
theorem Ud{w:World}{st eng most:Int}{n ns gh:Nat}{Fh:List Nat}(h:OL w gh (Pl.laid st ns) Fh)(h40:∀b∈Fh,7<=b)(hz:7<=w.heap.size)(c:Nat)(hc:c<w.heap.size)(hcF:∀b∈Fh,b≠c):
  ∃lab:Nat->Nat,Er (w.alloc (.cells #[.int .i64 st,.pointer (some ⟨gh,0,none⟩),.slice none 0 0,.slice none 0 0] 74)) w.heap.size gh (Ai.fresh st eng most n ns 0) ⟨none,0,0⟩ ⟨none,0,0⟩ [] Fh (λ_ _=>False) lab/\1000<=lab c/\∀b,lab b<1000->b=w.heap.size\/b∈Fh:=by
 have lt:=h.lt
 refine⟨λb=>if b=w.heap.size then 0 else if b∈Fh then 3 else 1000,⟨Bk.at_ rfl,Own.nil,Own.nil,h.same λb hb=>Below.heap_alloc w _ b (lt b hb),rfl,(λi r T h1 _=>by simp at h1),if_pos rfl,(λb hb=>by cases hb),(λb hb=>by cases hb),λb hb=>?_,(λi b hi _=>by simp[Ai.fresh] at hi),λb hb=>?_,(by simp[Ai.fresh])⟩,?_,λb hb=>?_⟩
 ·show(if _ then _ else _)=3;rw[if_neg (by have:=lt b hb;omega),if_pos hb]
 ·show 1000<=(if _ then _ else _);rw[if_neg Zo,if_neg (λhx=>by have:=h40 b hx;omega)];exact Nat.le_refl _
 ·show 1000<=(if _ then _ else _);rw[if_neg Zo,if_neg (λhx=>hcF c hx rfl)];exact Nat.le_refl _
 ·simp only at hb;split at hb
  ·exact Or.inl (by assumption)
  ·split at hb
   ·exact Or.inr (by assumption)
   ·omega
structure PRo(w wr:World)(st eng most:Int)(n ns gp gh:Nat)(Fh:List Nat)(k:Nat)(tv:BA)(ro:List FG)(Ft:Nat->Nat->Prop)(lab:Nat->Nat):Prop where
 p:Er wr gp gh (Ai.fresh st eng most n ns k) tv ⟨none,0,0⟩ ro Fh Ft lab
 c:Bk wr w.heap.size 32 #[.int .i64 st,.int .i64 eng,.int .i64 (n:Int),.int .i64 (ns:Int),.int .i64 most]
 b:Below w.heap.size w wr
 lc:1000<=lab w.heap.size
 l:∀b,lab b<1000->w.heap.size<=b
theorem NI(st eng most:Int)(n ns:Nat)(w:World)(he:AQ w)(a0:1<=st)(b0:st<=5)(a1:1<=eng)(b1:eng<=5)(a2:1<=n)(b2:n<=6)(b3:ns<=1024)(a4:1<=most)(b4:most<=64)(hs:st=2\/st=4->1<=ns):
  Calls Tryz.prog 8 #[.agg #[.int .i64 st,.int .i64 eng,.int .i64 (n:Int),.int .i64 (ns:Int),.int .i64 most]] w λen w'=>∃gp gh tv bv ro Fh Ft lab,en=.returned (.tuple #[.pointer (some ⟨gp,0,none⟩),.nilIface])/\Er w' gp gh (Ai.fresh st eng most n ns n) tv bv ro Fh Ft lab/\Below w.heap.size w w'/\∀b,lab b<1000->w.heap.size<=b:=by
 have HX:=Zh (Bk.at_ (w:=w) (cs:=#[.int .i64 st,.int .i64 eng,.int .i64 (n:Int),.int .i64 (ns:Int),.int .i64 most]) (t:=32) rfl)
 have HC:=Zh ((Below.refl w.heap.size w).alloc (Nat.le_refl _) (.cells #[.int .i64 st,.int .i64 eng,.int .i64 (n:Int),.int .i64 (ns:Int),.int .i64 most] 32))
 have HE:=Zh (he.below HC.out)
 have HE0:=Zh he.lt
 clear he
 go_enter Tryz.func8,Tryz.ntmps8
 go_wp2_with fail
 refine(eQ st eng n ns most _ a0 b0 a1 b1 Zo Zo Zo Zo a4 b4).mono ?_
 rintro e w1 ⟨rfl,hc⟩
 have HX1:=Zh (HX.out.Ac hc.below)
 have HE1:=Zh (HE.out.below hc.below)
 have HC1:=Zh (HC.out.trans (hc.below.mono HC.out.size))
 clear HX HE HC hc
 have y0:=HX1.out.cell 0;have y3:=HX1.out.cell 3
 simp at y0 y3
 go_wp2_with fail
 refine(WC st ns _ HE1.out b3 hs).mono ?_
 rintro e w2 ⟨gh,Fh,rfl,hp,hF,hb⟩
 have HX2:=Zh (HX1.out.Ac hb)
 have HC2:=Zh (HC1.out.trans (hb.mono HC1.out.size))
 have HP2:=Zh (And.intro hp hF)
 have hz1:w.heap.size<w1.heap.size:=HX1.out.lt
 have HL2:=Zh hb.size
 clear HX1 HE1 HC1 hp hF hb y0 y3
 have y0:=HX2.out.cell 0;have y2:=HX2.out.cell 2
 simp at y0 y2
 go_upto_region 7 with(fail)
 have HX3:=Zh (HX2.out.alloc (.cells #[.int .i64 st,.pointer (some ⟨gh,0,none⟩),.slice none 0 0,.slice none 0 0] 74))
 have hz2:w.heap.size<w2.heap.size:=HX2.out.lt
 have h40:7<=w.heap.size:=HE0.out
 have hzw1:w1.heap.size<=w2.heap.size:=HL2.out
 have HK:=Zh (Ud (w:=w2) (st:=st) (eng:=eng) (most:=most) (n:=n) (ns:=ns) (gh:=gh) (Fh:=Fh) HP2.out.1 (λb hb=>by have:=HP2.out.2 b hb;omega) Zo w.heap.size Zo (λb hb=>by have:=HP2.out.2 b hb;omega))
 have HC3:=Zh (HC2.out.trans (((Below.refl w2.heap.size w2).alloc (Nat.le_refl _) (.cells #[.int .i64 st,.pointer (some ⟨gh,0,none⟩),.slice none 0 0,.slice none 0 0] 74)).mono HC2.out.size))
 have HF2:=Zh (λb (hb:b∈Fh)=>(by have:=HP2.out.2 b hb;omega:w.heap.size<=b))
 clear y0 y2 HX2 HC2 HP2
 have y2:=HX3.out.cell 2
 simp at y2
 generalize hgp:w2.heap.size=gp at*
 generalize w2.alloc (.cells #[.int .i64 st,.pointer (some ⟨gh,0,none⟩),.slice none 0 0,.slice none 0 0] 74)=w3 at*
 go_wp2_with fail
 go_loopw [32] (λi wr=>∃(k:Nat) (tv:BA) (ro:List FG) (Ft:Nat->Nat->Prop) (lab:Nat->Nat),k<=n/\i=.int .i64 k/\PRo w wr st eng most n ns gp gh Fh k tv ro Ft lab) (λi _=>n-(intOf i).toNat)
 case atStart=>
  obtain⟨lab,k1,k2,k3⟩:=HK.out
  exact⟨0,⟨none,0,0⟩,[],λ_ _=>False,lab,Nat.zero_le _,rfl,k1,HX3.out,HC3.out,k2,λb hb=>(k3 b hb).elim (λh=>by omega) λh=>HF2.out b h⟩
 case round=>
  obtain⟨k,tv,ro,Ft,lab,hk,rfl,L⟩:=hrel
  have HL:=Zh L
  clear L
  by_cases hlt:k<n
  ·have hlt':(k:Int) < (n:Int):=Zo;have x0:=HL.out.c.cell 0;have x1:=HL.out.c.cell 1;have x2:=HL.out.c.cell 2;have x4:=HL.out.c.cell 4;simp at x0 x1 x2 x4;go_wp2_with (first
    |(go_at_call 23;refine(iR st eng (k:Int) (n:Int) most wr a0 b0 a1 b1 Zo Zo Zo Zo a4 b4).mono ?_;rintro e w4 ⟨gv,gr,rfl,hbk,hrj,q1,q2,q3,hbe⟩;have HQ:=Zh (And.intro hbk (And.intro hrj (And.intro q1 (And.intro q2 (And.intro q3 hbe)))));clear hbk hrj q1 q2 q3 hbe x0 x1 x2 x4;have HA:=Zh (((Below.refl w4.heap.size w4).alloc (Nat.le_refl _) (.cells (FG.l ⟨gv,⟨none,0,0⟩,0,-1⟩).toArray 79)));have P5:=Zh ((HL.out.p.cut.below HQ.out.2.2.2.2.2).below HA.out);have c2:=(HL.out.p.below HQ.out.2.2.2.2.2).bk.cell 2;simp at c2;obtain⟨v',w7,hrun,ho,hg,hfr⟩:=NJ _ tv.v ro P5.out.KB (by have:=P5.out.len;have:=P5.out.Oo;omega) ⟨gv,⟨none,0,0⟩,0,-1⟩ w4.heap.size (Bk.at_ rfl) 72;obtain⟨va,vc,rfl,_⟩:=Yq ho;have b7:=P5.out.bk.grown hg (λe=>by have:=P5.out.l1 gp e.symm;rw[P5.out.l0] at this;omega);have f2:=b7.free 2;have c7:=b7.cell 2;simp at c7;have HO:=Zh (And.intro ho (And.intro hg hfr));clear ho hg hfr b7;generalize hfl:(ro++[(⟨gv,⟨none,0,0⟩,0,-1⟩:FG)]).length=fl at*)
    |(at_builtin;refine Ya Zr _ _ _ _ _ _ _ Zr Zr Zr hrun ?_))
   have hz7:w4.heap.size+1<=w7.heap.size:=by have:=HO.out.2.1.size;simpa using this
   have hz4:wr.heap.size<=w4.heap.size:=HQ.out.2.2.2.2.2.size;have ho:=HO.out.1;rw[←hfl] at ho;have hth:=(sM HQ.out.1 HQ.out.2.1 HQ.out.2.2.2.1).AG (λb (hb:b=gv\/b=gr)=>Below.heap_alloc w4 (.cells (FG.l ⟨gv,⟨none,0,0⟩,0,-1⟩).toArray 79) b (by rcases hb with rfl|rfl;exact HQ.out.1.lt;exact HQ.out.2.1.lt _ rfl));have hg1:=HQ.out.2.2.1;have hg2:=HQ.out.2.2.2.2.1;have hzr:w.heap.size<=wr.heap.size:=HL.out.b.size;obtain⟨Ft',lab',p1,p2,p3⟩:=P5.out.add (u:=⟨va,_,vc⟩) ho HO.out.2.1 (by have:=HO.out.2.2;rw[←hfl] at this;exact this) hth (λb hb=>by rw[if_neg (by rcases hb with rfl|rfl<;>omega)];exact Nat.le_refl _) (λb hb=>by rcases hb with rfl|rfl<;>omega) (by simp;omega) (by rw[Ai.LS];omega);have hcl:=HL.out.c.lt;have hB7:Below w.heap.size w w7:=((HL.out.b.trans (HQ.out.2.2.2.2.2.mono hzr)).trans (HA.out.mono Zo)).grown HO.out.2.1 (by simp;omega) λb hb=>HL.out.l b (by have:=HL.out.p.l1 b hb;omega);refine⟨⟨k+1,⟨va,fl,vc⟩,ro++[⟨gv,⟨none,0,0⟩,0,-1⟩],Ft',lab',by omega,by go_num,⟨?_,?_,hB7.grown (Xs w7 gp 2 _) hB7.size (λb e=>by cases e;omega),p3 _ (by rw[if_pos hcl];exact HL.out.lc) (by simp;omega) (λh=>by rcases h with h|h<;>omega),λb hb=>?_⟩⟩,by simp[intOf];omega⟩
   ·rw[Ai.WV];rw[hfl] at p1;exact p1
   ·have:=((HL.out.c.Ac HQ.out.2.2.2.2.2).Ac HA.out).grown HO.out.2.1 (λe=>by have:=HL.out.p.l1 _ e.symm;have:=HL.out.lc;omega);exact this.Ax (by simp;omega) _
   ·rcases p2 b hb with h|h|h
    ·by_cases hx:b<wr.heap.size
     ·rw[if_pos hx] at h;exact HL.out.l b h
     ·omega
    ·rcases h with rfl|rfl<;>omega
    ·simp at h;omega
  ·have hke:k=n:=Zo;subst hke;have hlt':¬(k:Int)<(k:Int):=Zo;go_wp2_with fail;go_ret2;exact⟨gp,rfl,gh,tv,⟨none,0,0⟩,ro,Fh,Ft,lab,HL.out.p,HL.out.b,HL.out.l⟩
section
variable{w w':World}{gp gh:Nat}{P:Ai}{tv bv:BA}{ro:List FG}{Fh:List Nat}{Ft:Nat->Nat->Prop}{lab:Nat->Nat}
theorem Er.tvn(h:Er w gp gh P tv bv ro Fh Ft lab):tv.n=P.A8.length:=by
 rw[←h.len];obtain⟨A,c,hv,_⟩:=Yq h.KB;unfold BA.v at hv;injection hv with h1 h2 h3
theorem Er.dG(h:Er w gp gh P tv bv ro Fh Ft lab){i:Nat}(hi:i<P.A8.length):∃g off c,tv=⟨some ⟨g,off,none⟩,P.A8.length,c⟩/\∃hr:i<ro.length,w.rangeAt g (off+i*4) ro[i].l:=by
 have hr:i<ro.length:=by rw[h.len];exact hi
 obtain⟨g,off,cap,hv,h1⟩:=Ds h.KB Zo;have ho:=h.KB;rw[hv] at ho;refine⟨g,off,cap,?_,hr,λj u hu=>?_⟩
 ·rw[←h.len];cases tv;unfold BA.v at hv;injection hv with h1 h2 h3;subst h1;subst h2;subst h3;rfl
 ·rw[Nat.add_assoc];exact Cc ho _ _ (Ez TD ro i hr j u hu)
theorem MX(h:Er w gp gh P tv bv ro Fh Ft lab)(k:Int):Calls Tryz.prog 24 #[.pointer (some ⟨gp,0,none⟩),.int .i64 k] w λen w'=>en=.returned (.bool (P.has k))/\w=w':=by
 have c2:=h.bk.cell 2;simp at c2;have hn:=h.tvn;obtain⟨a,n,c⟩:=tv;simp only at hn;subst hn;simp only[BA.v] at c2;unfold Ai.has;clear h;by_cases h0:0<=k
 ·go_enter Tryz.func24,Tryz.ntmps24;go_wp2;go_ret;simp[h0]
 ·go_enter Tryz.func24,Tryz.ntmps24;go_wp2;go_ret;simp;omega
theorem YN{w:World}{gv:Nat}{V:MV}{F:Nat->Prop}(h:VB w gv V F):Calls Tryz.prog 35 #[.pointer (some ⟨gv,0,none⟩)] w λen w'=>en=.returned (.bool V.busy)/\Below w.heap.size w w':=by
 obtain⟨gr,jv,F1,h1,h2,h3,h4⟩:=h;refine(aS (Φ:=GF.no) (F:=λ_=>False) (Gn V) ⟨gr,0,none⟩ jv gv w h1 h2.one (λ_ h=>h) (λh=>h) (λ_ h=>h.elim)).mono λen w' hp=>?_;obtain⟨p1,p2,p3,_⟩:=hp;refine⟨p1,p3.os,p3.tape,p3.output,p3.size,λb hb=>?_⟩;by_cases e:b=gv
 ·subst e;unfold Bk at h1 p2;rw[h1,p2]
 ·exact p3.Ax b hb λh=>h.elim e id
theorem Us(h:Er w gp gh P tv bv ro Fh Ft lab){k:Nat}{T:MT}(hT:P.A8[k]?=some T):Calls Tryz.prog 26 #[.pointer (some ⟨gp,0,none⟩),.int .i64 (k:Int)] w λen w'=>en=.returned (.bool (Ai.Co T))/\Below w.heap.size w w':=by
 have hk:k<P.A8.length:=by
  rcases Nat.lt_or_ge k P.A8.length with h|h
  ·exact h
  ·rw[List.getElem?_eq_none h] at hT;cases hT
 have hhas:P.has (k:Int)=true:=by unfold Ai.has;simp;omega
 have h1:=MX h (k:Int);rw[hhas] at h1;obtain⟨g,off,c,rfl,hr,hc⟩:=h.dG hk;have hth:=h.th k ro[k] T (List.getElem?_eq_getElem hr) hT;obtain⟨t1,t2,Fv,hv,hq,_⟩:=hth;obtain⟨qa,qc,hqv,_⟩:=Yq hq;have c2:=h.bk.cell 2;simp[BA.v] at c2;have r0:=hc 0 _ rfl;have r1:=hc 1 _ rfl;simp[FG.l,hqv] at r0 r1;have hb:=YN hv;have HH:=Zh h;have hce:((T.queue.length:Int)==0)=T.queue.isEmpty:=by cases T.queue<;>simp<;>omega
 unfold Ai.Co;clear h hc hv hq hqv t1 t2;generalize T.V.busy=b at*;generalize hgk:ro[k]=rk at*;go_enter Tryz.func26,Tryz.ntmps26;cases b with
 |true=>
  go_wp2_with (first|(go_at_call 24;refine h1.mono ?_;rintro e w1 ⟨rfl,rfl⟩)|(go_at_call 35;refine hb.mono ?_;rintro e w2 ⟨rfl,hb2⟩));go_ret;exact⟨rfl,hb2⟩
 |false=>
  go_wp2_with (first|(go_at_call 24;refine h1.mono ?_;rintro e w1 ⟨rfl,rfl⟩)|(go_at_call 35;refine hb.mono ?_;rintro e w2 ⟨rfl,hb2⟩;have d2:=(hb2.cell (p:=⟨gp,2,none⟩) HH.out.bk.lt).trans c2;have d1:=(hb2.cell (p:=⟨g,off+k*4+1,none⟩) (HH.out.KB.lt rfl)).trans r1));go_ret;exact⟨rfl,hb2⟩
end
theorem PD{α:Type}{f:α->List Value}{sz:Nat}(hf:∀x,(f x).length=sz):∀(l:List α) (k:Nat) (hk:k<l.length) (j:Nat) (u:Value) (x:α),f x=(f l[k]).set j u->j<sz->rows f (l.set k x)=(rows f l).set (k*sz+j) u
 |[],k,hk,_,_,_,_,_=>by simp at hk
 |p::l,0,_,j,u,x,hx,hj=>by
  simp only[List.set_cons_zero,DC,Nat.zero_mul,Nat.zero_add];rw[List.set_append_left _ _ (by rw[hf];exact hj),hx];rfl
 |p::l,k+1,hk,j,u,x,hx,hj=>by
  simp only[List.set_cons_succ,DC];rw[PD hf l k (by simpa using hk) j u x (by simpa using hx) hj,List.set_append_right _ _ (by rw[hf,Nat.add_mul];omega)];congr 2;rw[hf,Nat.add_mul];omega
theorem MQ{α:Type}{f:α->List Value}{sz:Nat}{E:TypeId}(hf:∀x,(f x).length=sz){w:World}{g off cap:Nat}{l:List α}(h:Own w E sz (.slice (some ⟨g,off,none⟩) l.length cap) l.length (rows f l))(k:Nat)(hk:k<l.length)(j:Nat)(u:Value)(x:α)(hx:f x=(f l[k]).set j u)(hj:j<sz):
  Own (w.setCell ⟨g,off+k*sz+j,none⟩ u) E sz (.slice (some ⟨g,off,none⟩) (l.set k x).length cap) (l.set k x).length (rows f (l.set k x)):=by
 have hlen:(l.set k x).length=l.length:=List.length_set
 have hr:=PD hf l k hk j u x hx hj
 refine⟨by rw[Y0 hf],.inr ?_⟩
 rcases h.2 with⟨h0,_⟩|⟨g',off',cap',A,R,hv,hb,ho,hc,hm,hs⟩
 ·cases h0
 ·cases hv;subst ho;refine⟨g,A.length,cap,A,R,by rw[hlen],?_,rfl,by rw[hlen];exact hc,hm,by rw[hr,List.length_set];exact hs⟩;refine Yw (hb.Eo _ u) ?_;rw[hr];have hkl:k*sz+j<(rows f l).length:=by
   rw[Y0 hf];have:(k+1)*sz<=l.length*sz:=Nat.mul_le_mul_right _ hk;rw[Nat.add_mul] at this;omega
  simp only[List.setIfInBounds_toArray];rw[List.set_append_right _ _ Zo,show A.length+k*sz+j-A.length=k*sz+j from by omega,List.set_append_left _ _ hkl]
section
variable{w w2:World}{gp gh:Nat}{P P':Ai}{tv bv bv':BA}{ro ro':List FG}{Fh Fh':List Nat}{Ft:Nat->Nat->Prop}{lab:Nat->Nat}{k:Nat}{T':MT}{r':FG}{F':Nat->Prop}
open Classical in
theorem Er.Ap(h:Er w gp gh P tv bv ro Fh Ft lab)(hk:k<P.A8.length)(hths:P'.A8=P.A8.set k T')(hro:ro'=ro.set k r')(hst:P'.st=P.st)
  (bk:Bk w2 gp 74 #[.int .i64 P.st,.pointer (some ⟨gh,0,none⟩),tv.v,bv'.v])(KB:Own w2 79 4 tv.v ro'.length (rows FG.l ro'))(K4:Own w2 42 10 bv'.v P'.Ao.length (rows Ym.l P'.Ao))(hp:OL w2 gh P'.heap Fh')(th:iI w2 r' T' F')
  (Ax:∀i b,i≠k->i<P.A8.length->Ft i b->w2.heap[b]?=w.heap[b]?)(hsz:w.heap.size<=w2.heap.size)(h40:7<=w.heap.size)
  (n2:∀b,bv'.v.ownBlock=some b->lab b=2\/w.heap.size<=b)(n3:∀b∈Fh',lab b=3\/lab b=4+k\/w.heap.size<=b)(n4:∀b,F' b->lab b=3\/lab b=4+k\/w.heap.size<=b)
  (d23:∀b,bv'.v.ownBlock=some b->b∉Fh')(d24:∀b,bv'.v.ownBlock=some b->¬F' b)(d34:∀b∈Fh',¬F' b):
  ∃Ft' lab',Er w2 gp gh P' tv bv' ro' Fh' Ft' lab'/\∀b,lab' b<1000->lab b<1000\/w.heap.size<=b:=by
 have lgp:=h.bk.lt
 have l0:=h.l0
 have Oo:=h.Oo
 have ltv:∀b,tv.v.ownBlock=some b->b<w.heap.size:=λb hb=>h.KB.lt hb
 have hl:∀i r T,ro'[i]?=some r->P'.A8[i]?=some T->i=k/\r=r'/\T=T'\/i≠k/\ro[i]?=some r/\P.A8[i]?=some T:=λi r T h1 h2=>by
  rw[hro] at h1;rw[hths] at h2;by_cases e:i=k
  ·subst e;left;have hr:i<ro.length:=by rw[h.len];exact hk
   rw[List.getElem?_set_self hr] at h1;rw[List.getElem?_set_self hk] at h2;cases h1;cases h2;exact⟨rfl,rfl,rfl⟩
  ·right;rw[List.getElem?_set_ne (λh=>e h.symm)] at h1;rw[List.getElem?_set_ne (λh=>e h.symm)] at h2;exact⟨e,h1,h2⟩
 have hlenP:P'.A8.length=P.A8.length:=by rw[hths,List.length_set]
 let lab':Nat->Nat:=λb=>if b=gp then 0 else if tv.v.ownBlock=some b then 1 else if bv'.v.ownBlock=some b then 2 else if b∈Fh' then 3 else if F' b then 4+k else if b<w.heap.size/\∃i,i≠k/\i<P.A8.length/\Ft i b then lab b else 1000
 have no:∀b c,lab b=c->b<w.heap.size->c≠0->c≠1->c≠2->c≠3->c≠4+k->b≠gp/\¬tv.v.ownBlock=some b/\¬bv'.v.ownBlock=some b/\b∉Fh'/\¬F' b:=λb c e hb c0 c1 c2 c3 c4=>
  ⟨λe'=>c0 (by rw[←e,e',l0]),λe'=>c1 (by rw[←e,h.l1 b e']),λe'=>(n2 b e').elim (λe'=>c2 (by rw[←e,e'])) (λ_=>by omega),λe'=>(n3 b e').elim (λe'=>c3 (by rw[←e,e'])) (λh=>h.elim (λe'=>c4 (by rw[←e,e'])) (λ_=>by omega)),λe'=>(n4 b e').elim (λe'=>c3 (by rw[←e,e'])) (λh=>h.elim (λe'=>c4 (by rw[←e,e'])) (λ_=>by omega))⟩
 have gpn:∀b,(lab b=2\/lab b=3\/lab b=4+k\/w.heap.size<=b)->b≠gp:=λb hb e=>by
  rw[e,l0] at hb;omega
 have tvn:∀b,(lab b=2\/lab b=3\/lab b=4+k\/w.heap.size<=b)->¬tv.v.ownBlock=some b:=λb hb e=>by
  have:=ltv b e;rw[h.l1 b e] at hb;omega
 have m2:∀b,bv'.v.ownBlock=some b->(lab b=2\/lab b=3\/lab b=4+k\/w.heap.size<=b):=λb hb=>(n2 b hb).imp id λh=>Or.inr (Or.inr h)
 have m3:∀b,b∈Fh'->(lab b=2\/lab b=3\/lab b=4+k\/w.heap.size<=b):=λb hb=>Or.inr (n3 b hb)
 have m4:∀b,F' b->(lab b=2\/lab b=3\/lab b=4+k\/w.heap.size<=b):=λb hb=>Or.inr (n4 b hb)
 refine⟨λi=>if i=k then F' else Ft i,lab',⟨by rw[hst];exact bk,KB,K4,hp,?_,?_,?_,?_,?_,?_,?_,?_,by rw[hlenP];exact Oo⟩,?_⟩
 ·rw[hro,List.length_set,hlenP];exact h.len
 ·intro i r T h1 h2;rcases hl i r T h1 h2 with⟨e,rfl,rfl⟩|⟨e,h1,h2⟩
  ·show iI _ _ _ (if i=k then F' else Ft i);rw[if_pos e];exact th
  ·show iI _ _ _ (if i=k then F' else Ft i);rw[if_neg e];have hi:i<P.A8.length:=by
    rcases Nat.lt_or_ge i P.A8.length with h|h
    ·exact h
    ·rw[List.getElem?_eq_none h] at h2;cases h2
   exact(h.th i r T h1 h2).AG λb hb=>Ax i b e hi hb
 ·exact if_pos rfl
 ·intro b hb;have:b≠gp:=λe=>by have:=h.l1 b hb;rw[e,l0] at this;omega
  show(if _ then _ else _)=1;rw[if_neg this,if_pos hb]
 ·intro b hb;show(if _ then _ else _)=2;rw[if_neg (gpn b (m2 b hb)),if_neg (tvn b (m2 b hb)),if_pos hb]
 ·intro b hb;show(if _ then _ else _)=3;rw[if_neg (gpn b (m3 b hb)),if_neg (tvn b (m3 b hb)),if_neg (λe=>d23 b e hb),if_pos hb]
 ·intro i b hi hb;replace hb:(if i=k then F' else Ft i) b:=hb;rw[hlenP] at hi;by_cases e:i=k
  ·rw[if_pos e] at hb;show(if _ then _ else _)=4+i;rw[if_neg (gpn b (m4 b hb)),if_neg (tvn b (m4 b hb)),if_neg (λe=>d24 b e hb),if_neg (λe=>d34 b e hb),if_pos hb,e]
  ·rw[if_neg e] at hb;have hlb:=h.l4 i b hi hb;have hlt:=h.fG hi b hb;obtain⟨a1,a2,a3,a4,a5⟩:=no b (4+i) hlb hlt Zo Zo Zo Zo Zo;show(if _ then _ else _)=4+i;rw[if_neg a1,if_neg a2,if_neg a3,if_neg a4,if_neg a5,if_pos ⟨hlt,i,e,hi,hb⟩];exact hlb
 ·intro b hb;have hlw:=h.low b hb;have hlt:b<w.heap.size:=Zo;obtain⟨a1,a2,a3,a4,a5⟩:=no b (lab b) rfl hlt Zo Zo Zo Zo Zo;show 1000<=(if _ then _ else _);rw[if_neg a1,if_neg a2,if_neg a3,if_neg a4,if_neg a5];split
  ·exact hlw
  ·exact Nat.le_refl _
 ·intro b hb;replace hb:(if _ then _ else _)<1000:=hb;by_cases e0:b=gp
  ·left;rw[e0,l0];decide
  rw[if_neg e0] at hb;by_cases e1:tv.v.ownBlock=some b
  ·left;rw[h.l1 b e1];decide
  rw[if_neg e1] at hb;by_cases e2:bv'.v.ownBlock=some b
  ·exact(n2 b e2).imp (λe=>by rw[e];decide) id
  rw[if_neg e2] at hb;by_cases e3:b∈Fh'
  ·exact(n3 b e3).elim (λe=>Or.inl (by rw[e];decide)) λh=>h.imp (λe=>by rw[e];omega) id
  rw[if_neg e3] at hb;by_cases e4:F' b
  ·exact(n4 b e4).elim (λe=>Or.inl (by rw[e];decide)) λh=>h.imp (λe=>by rw[e];omega) id
  rw[if_neg e4] at hb;split at hb
  ·exact Or.inl hb
  ·omega
end
def qU(w:World)(e:TypeId)(sz n:Nat)(xs:List Value)(en:Ending)(w':World):Prop:=
 ∃v,en=.returned v/\Own w' e sz v n xs/\Below w.heap.size w w'/\(∀b,v.ownBlock=some b->w.heap.size<=b)
theorem YE(w:World)(t e:TypeId)(i:TypeInfo)(z:Value)(sz bytes:Nat)(ht:Tryz.prog.underlying t=some (.slice e))(hi:Tryz.prog.info? e=some i)(hz:i.zero=some z)
  (hsize:i.size=sz)(hby:i.bytes=bytes)(hzs:z.cells.size=sz)(hsz:0<sz)(g:Nat)(hg:Bk w g e #[])(a:Addr)(m c:Nat)(news:List Value)(hl:news.length=m*sz)(hnews:∀j u,news[j]?=some u->w.cell? (a.add j)=some u)(h1:∀u∈news,u.oneCell'=true)
  (b1:m<=maxLen)(b2:m*bytes<=140737488355328):
  ∃v' w',(Builtin.append_ #[t,t] t #[.slice (some ⟨g,0,none⟩) 0 0,.slice (some a) m c]).run Tryz.prog w=.ok v' w'/\Own w' e sz v' m news/\w.grownBy w' none/\Em w (.slice (some ⟨g,0,none⟩) 0 0) v':=by
 have ho:Own w e sz (.slice (some ⟨g,0,none⟩) 0 0) 0 []:=⟨by simp,.inr ⟨g,0,0,[],[],rfl,by simpa using hg,rfl,Nat.le_refl _,by decide,by simp⟩⟩
 by_cases hm:m=0
 ·subst hm;obtain rfl:news=[]:=List.eq_nil_of_length_eq_zero (by simpa using hl);refine⟨_,w,?_,ho,RV _ _,λ_ h=>Or.inl h⟩;simp[Builtin.append_,run_underlying ht,sizeOf,typeInfo,hi,Builtin.lenOf,Builtin.firstCells,loadCells,loadCellsFrom,storeCells]
 ·obtain⟨v',w',hr,hw⟩:=run_append_arg_grows (P:=Tryz.prog) w t t e i z sz bytes ht hi hz hsize hby hzs hsz ⟨g,0,none⟩ 0 0 [] Zs (λj u hj=>by simp at hj) a m c news hl hnews Zo Zo (by simpa using b2);simp only[Nat.zero_add,List.nil_append] at hw;refine⟨v',w',hr,Own.WG hw.1,hw.2,λk hk=>Or.inr ?_⟩;rcases hw.1.2 with⟨rfl,_⟩|⟨g',cap,cur,rfl,hb,_⟩
  ·cases hk
  ·cases hk;exact hb
theorem hO(l:List Ym):∀u∈rows Ym.l l,u.oneCell'=true:=by
 intro u hu;unfold rows at hu;obtain⟨x,_,hx⟩:=List.mem_flatMap.1 hu;exact xE x u hx
theorem O1(w:World)(A:Option Addr)(c:Nat)(l:List Ym)(h:Own w 42 10 (.slice A l.length c) l.length (rows Ym.l l))(hl:l.length<=100000):
  Calls Tryz.prog 27 #[.slice A l.length c] w (qU w 42 10 l.length (rows Ym.l l)):=by
 cases A with
 |none=>
  have hn:l.length=0/\c=0:=by
   rcases h.2 with⟨h',h0⟩|⟨g,off,cap,A,R,hv,_⟩
   ·injection h' with e1 e2 e3;exact⟨h0,e3⟩
   ·cases hv
  obtain⟨hn,rfl⟩:=hn
  have hnil:rows Ym.l l=[]:=List.eq_nil_of_length_eq_zero (by rw[Y0 Q8,hn])
  rw[hnil,hn]
  have hq:∀w,(binOp .eql 37 (.slice none 0 0) (.slice none 0 0)).run Tryz.prog w=.ok (.bool true) w:=λw=>Lib.run_eql_slice_nil (P:=Tryz.prog) w 37 42 none 0 0 0 0 Tryz.underlying37
  go_enter Tryz.func27,Tryz.ntmps27
  go_wp2_with fail
  go_ret
  exact⟨_,rfl,Own.nil,Below.refl _ _,λb e=>by cases e⟩
 |some a=>
  obtain⟨g,off,ha⟩:∃g off,a=⟨g,off,none⟩:=by
   rcases h.2 with⟨h',h0⟩|⟨g,off,cap,A,R,hv,_⟩
   ·cases h'
   ·cases hv;exact⟨_,_,rfl⟩
  subst ha
  have hq:∀w,(binOp .eql 37 (.slice (some ⟨g,off,none⟩) l.length c) (.slice none 0 0)).run Tryz.prog w=.ok (.bool false) w:=λw=>Lib.run_eql_slice_nil (P:=Tryz.prog) w 37 42 (some ⟨g,off,none⟩) l.length c 0 0 Tryz.underlying37
  obtain⟨inf,hi,hz,hz1,hz2⟩:=info_parts Ur
  obtain⟨v',w',hrun,ho,hgr,hf⟩:=YE (w.alloc (.cells #[] 42)) 37 42 inf _ 10 72 Tryz.underlying37 hi hz hz1 hz2 rfl Zo w.heap.size (Bk.at_ rfl) ⟨g,off,none⟩ l.length c (rows Ym.l l) (Y0 Q8 l)
   (λj u hu=>by rw[Addr.add_lit];exact Cc (h.alloc _) j u hu) (hO l) (by simp only[maxLen];omega) Zo
  have hB:Below w.heap.size w w':=((Below.refl _ _).alloc (Nat.le_refl _) _).trans (O6 hgr Zs (by intro b e;cases e))
  have hF:∀b,v'.ownBlock=some b->w.heap.size<=b:=λb e=>by
   rcases hf b e with h1|h1
   ·cases h1;exact Nat.le_refl _
   ·simp at h1;omega
  have HE:=Zh (And.intro ho (And.intro hB hF));clear ho hB hF hgr hf h
  go_enter Tryz.func27,Tryz.ntmps27
  go_wp2_with (at_builtin;refine Ya Zr _ _ _ _ _ _ _ Zr Zr Zr hrun ?_)
  go_ret
  exact⟨_,rfl,HE.out⟩
theorem QA{w:World}{gp gh:Nat}{P:Ai}{tv bv:BA}{ro:List FG}{Fh:List Nat}{Ft:Nat->Nat->Prop}{lab:Nat->Nat}(h:Er w gp gh P tv bv ro Fh Ft lab)(hl:P.Ao.length<=100000):
  Calls Tryz.prog 11 #[.pointer (some ⟨gp,0,none⟩)] w (qU w 42 10 P.Ao.length (rows Ym.l P.Ao)):=by
 obtain⟨A,c,hv,_⟩:=Yq h.K4
 have ho:=h.K4
 rw[hv] at ho
 have hq:=O1 w A c P.Ao ho hl
 have c3:=h.bk.cell 3
 simp[hv] at c3
 clear h ho hv
 go_enter Tryz.func11,Tryz.ntmps11
 go_wp2_with fail
 refine hq.mono ?_
 rintro e w1 ⟨v,rfl,h1,h2,h3⟩
 go_wp2_with fail
 go_ret
 exact⟨v,rfl,h1,h2,h3⟩
end Go.Proofs.YtaipogljokblkaaGreatDoor
