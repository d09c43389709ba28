/- Core: QB, QJ. -/
import Derived.Test.YtaipogljokblkaaGreatDoorW31
import Derived.Test.YtaipogljokblkaaGreatDoorW01
import Derived.Test.YtaipogljokblkaaGreatDoorW08
set_option linter.all false
set_option maxRecDepth 100000
set_option maxHeartbeats 8000000
namespace Go.Proofs.YtaipogljokblkaaGreatDoor
open Go Go.RowKit
set_option linter.unusedSimpArgs false
set_option linter.unusedVariables false
set_option linter.unusedSectionVars false
def MT.fresh(st eng me Od most:Int):MT:=⟨MV.fresh st eng me Od most,[],0,-1⟩
def Ar.fresh(st eng most:Int)(n ns k:Nat):Ar:=⟨st,Pl.laid st ns,(List.range k).map λ(i:Nat)=>MT.fresh st eng (i:Int) (n:Int) most,[]⟩
theorem Ar.MB(st eng most:Int)(n ns k:Nat):(Ar.fresh st eng most n ns k).AB.length=k:=by simp[Ar.fresh]
theorem Ar.YJ(st eng most:Int)(n ns k:Nat):Ar.fresh st eng most n ns (k+1)={Ar.fresh st eng most n ns k with AB:=(Ar.fresh st eng most n ns k).AB++[MT.fresh st eng (k:Int) (n:Int) most]}:=by
 simp[Ar.fresh,List.range_succ]
theorem Eh.cut{w:World}{gp gh:Nat}{P:Ar}{tv bv:BB}{ro:List Fy}{Fh:List Nat}{Ft:Nat->Nat->Prop}{lab:Nat->Nat}(h:Eh w gp gh P tv bv ro Fh Ft lab):Eh w gp gh P tv bv ro Fh Ft (λb=>if b<w.heap.size then lab b else 1000):=by
 have e:∀b,b<w.heap.size->(if b<w.heap.size then lab b else 1000)=lab b:=λb hb=>if_pos hb;refine⟨h.bk,h.K5,h.Kw,h.hp,h.len,h.th,(e _ h.bk.lt).trans h.l0,λb hb=>(e _ (h.K5.lt hb)).trans (h.l1 b hb),λb hb=>(e _ (h.Kw.lt hb)).trans (h.l2 b hb),λb hb=>(e _ (h.hp.lt b hb)).trans (h.l3 b hb),λi b hi hb=>(e _ (h.aP hi b hb)).trans (h.l4 i b hi hb),λb hb=>?_,h.Md⟩;show 1000<=(if _ then _ else _);split
 ·exact h.low b hb
 ·exact Nat.le_refl _
theorem tB{w:World}{gv gr:Nat}{st eng k n most:Int}(hb:Bk w gv 126 ((Gv (MV.fresh st eng k n most)).l (.pointer (some ⟨gr,0,none⟩)) .nilIface).toArray)(hr:Np gr .nilIface (MR.fresh eng k n most) none w (λb=>b=gr))(h:gr≠gv):
  jK w ⟨gv,⟨none,0,0⟩,0,-1⟩ (MT.fresh st eng k n most) (λb=>b=gv\/b=gr):=
 ⟨rfl,rfl,λb=>b=gv\/b=gr,⟨gr,.nilIface,λb=>b=gr,hb,hr,λe=>h e.symm,λ_=>Iff.rfl⟩,Own.nil,λ_ _ e=>(by cases e),λ_=>⟨Or.inl,λh=>h.elim id λe=>(by cases e)⟩⟩
theorem UG{w:World}{st eng most:Int}{n ns gh:Nat}{Fh:List Nat}(h:PQ w gh (Pl.laid st ns) Fh)(h40:∀b∈Fh,7<=b)(hz:7<=w.heap.size)(c:Nat)(hc:c<w.heap.size)(hcF:∀b∈Fh,b≠c):
  ∃lab:Nat->Nat,Eh (w.alloc (.cells #[.int .i64 st,.pointer (some ⟨gh,0,none⟩),.slice none 0 0,.slice none 0 0] 74)) w.heap.size gh (Ar.fresh st eng most n ns 0) ⟨none,0,0⟩ ⟨none,0,0⟩ [] Fh (λ_ _=>False) lab/\1000<=lab c/\∀b,lab b<1000->b=w.heap.size\/b∈Fh:=by
 have lt:=h.lt
 refine⟨λb=>if b=w.heap.size then 0 else if b∈Fh then 3 else 1000,⟨Bk.at_ rfl,Own.nil,Own.nil,h.same λb hb=>Below.heap_alloc w _ b (lt b hb),rfl,(λi r T h1 _=>by simp at h1),if_pos rfl,(λb hb=>by cases hb),(λb hb=>by cases hb),λb hb=>?_,(λi b hi _=>by simp[Ar.fresh] at hi),λb hb=>?_,(by simp[Ar.fresh])⟩,?_,λb hb=>?_⟩
 ·show(if _ then _ else _)=3;rw[if_neg (by have:=lt b hb;omega),if_pos hb]
 ·show 1000<=(if _ then _ else _);rw[if_neg Zo,if_neg (λhx=>by have:=h40 b hx;omega)];exact Nat.le_refl _
 ·show 1000<=(if _ then _ else _);rw[if_neg Zo,if_neg (λhx=>hcF c hx rfl)];exact Nat.le_refl _
 ·simp only at hb;split at hb
  ·exact Or.inl (by assumption)
  ·split at hb
   ·exact Or.inr (by assumption)
   ·omega
structure PRo(w wr:World)(st eng most:Int)(n ns gp gh:Nat)(Fh:List Nat)(k:Nat)(tv:BB)(ro:List Fy)(Ft:Nat->Nat->Prop)(lab:Nat->Nat):Prop where
 p:Eh wr gp gh (Ar.fresh st eng most n ns k) tv ⟨none,0,0⟩ ro Fh Ft lab
 c:Bk wr w.heap.size 32 #[.int .i64 st,.int .i64 eng,.int .i64 (n:Int),.int .i64 (ns:Int),.int .i64 most]
 b:Below w.heap.size w wr
 lc:1000<=lab w.heap.size
 l:∀b,lab b<1000->w.heap.size<=b
theorem XS(st eng most:Int)(n ns:Nat)(w:World)(he:AO w)(a0:1<=st)(b0:st<=5)(a1:1<=eng)(b1:eng<=5)(a2:1<=n)(b2:n<=6)(b3:ns<=1024)(a4:1<=most)(b4:most<=64)(hs:st=2\/st=4->1<=ns):
  Calls Tryz.prog 8 #[.agg #[.int .i64 st,.int .i64 eng,.int .i64 (n:Int),.int .i64 (ns:Int),.int .i64 most]] w λen w'=>∃gp gh tv bv ro Fh Ft lab,en=.returned (.tuple #[.pointer (some ⟨gp,0,none⟩),.nilIface])/\Eh w' gp gh (Ar.fresh st eng most n ns n) tv bv ro Fh Ft lab/\Below w.heap.size w w'/\∀b,lab b<1000->w.heap.size<=b:=by
 have HX:=Zh (Bk.at_ (w:=w) (cs:=#[.int .i64 st,.int .i64 eng,.int .i64 (n:Int),.int .i64 (ns:Int),.int .i64 most]) (t:=32) rfl)
 have HC:=Zh ((Below.refl w.heap.size w).alloc (Nat.le_refl _) (.cells #[.int .i64 st,.int .i64 eng,.int .i64 (n:Int),.int .i64 (ns:Int),.int .i64 most] 32))
 have HE:=Zh (he.below HC.out)
 have HE0:=Zh he.lt
 clear he
 go_enter Tryz.func8,Tryz.ntmps8
 go_wp2_with fail
 refine(QJ st eng n ns most _ a0 b0 a1 b1 Zo Zo Zo Zo a4 b4).mono ?_
 rintro e w1 ⟨rfl,hc⟩
 have HX1:=Zh (HX.out.Ad hc.below)
 have HE1:=Zh (HE.out.below hc.below)
 have HC1:=Zh (HC.out.trans (hc.below.mono HC.out.size))
 clear HX HE HC hc
 have y0:=HX1.out.cell 0;have y3:=HX1.out.cell 3
 simp at y0 y3
 go_wp2_with fail
 refine(XT st ns _ HE1.out b3 hs).mono ?_
 rintro e w2 ⟨gh,Fh,rfl,hp,hF,hb⟩
 have HX2:=Zh (HX1.out.Ad hb)
 have HC2:=Zh (HC1.out.trans (hb.mono HC1.out.size))
 have HP2:=Zh (And.intro hp hF)
 have hz1:w.heap.size<w1.heap.size:=HX1.out.lt
 have HL2:=Zh hb.size
 clear HX1 HE1 HC1 hp hF hb y0 y3
 have y0:=HX2.out.cell 0;have y2:=HX2.out.cell 2
 simp at y0 y2
 go_upto_region 7 with(fail)
 have HX3:=Zh (HX2.out.alloc (.cells #[.int .i64 st,.pointer (some ⟨gh,0,none⟩),.slice none 0 0,.slice none 0 0] 74))
 have hz2:w.heap.size<w2.heap.size:=HX2.out.lt
 have h40:7<=w.heap.size:=HE0.out
 have hzw1:w1.heap.size<=w2.heap.size:=HL2.out
 have HK:=Zh (UG (w:=w2) (st:=st) (eng:=eng) (most:=most) (n:=n) (ns:=ns) (gh:=gh) (Fh:=Fh) HP2.out.1 (λb hb=>by have:=HP2.out.2 b hb;omega) Zo w.heap.size Zo (λb hb=>by have:=HP2.out.2 b hb;omega))
 have HC3:=Zh (HC2.out.trans (((Below.refl w2.heap.size w2).alloc (Nat.le_refl _) (.cells #[.int .i64 st,.pointer (some ⟨gh,0,none⟩),.slice none 0 0,.slice none 0 0] 74)).mono HC2.out.size))
 have HF2:=Zh (λb (hb:b∈Fh)=>(by have:=HP2.out.2 b hb;omega:w.heap.size<=b))
 clear y0 y2 HX2 HC2 HP2
 have y2:=HX3.out.cell 2
 simp at y2
 generalize hgp:w2.heap.size=gp at*
 generalize w2.alloc (.cells #[.int .i64 st,.pointer (some ⟨gh,0,none⟩),.slice none 0 0,.slice none 0 0] 74)=w3 at*
 go_wp2_with fail
 go_loopw [32] (λi wr=>∃(k:Nat) (tv:BB) (ro:List Fy) (Ft:Nat->Nat->Prop) (lab:Nat->Nat),k<=n/\i=.int .i64 k/\PRo w wr st eng most n ns gp gh Fh k tv ro Ft lab) (λi _=>n-(intOf i).toNat)
 case atStart=>
  obtain⟨lab,k1,k2,k3⟩:=HK.out
  exact⟨0,⟨none,0,0⟩,[],λ_ _=>False,lab,Nat.zero_le _,rfl,k1,HX3.out,HC3.out,k2,λb hb=>(k3 b hb).elim (λh=>by omega) λh=>HF2.out b h⟩
 case round=>
  obtain⟨k,tv,ro,Ft,lab,hk,rfl,L⟩:=hrel
  have HL:=Zh L
  clear L
  by_cases hlt:k<n
  ·have hlt':(k:Int) < (n:Int):=Zo;have x0:=HL.out.c.cell 0;have x1:=HL.out.c.cell 1;have x2:=HL.out.c.cell 2;have x4:=HL.out.c.cell 4;simp at x0 x1 x2 x4;go_wp2_with (first
    |(go_at_call 23;refine(jT st eng (k:Int) (n:Int) most wr a0 b0 a1 b1 Zo Zo Zo Zo a4 b4).mono ?_;rintro e w4 ⟨gv,gr,rfl,hbk,hrj,q1,q2,q3,hbe⟩;have HQ:=Zh (And.intro hbk (And.intro hrj (And.intro q1 (And.intro q2 (And.intro q3 hbe)))));clear hbk hrj q1 q2 q3 hbe x0 x1 x2 x4;have HA:=Zh (((Below.refl w4.heap.size w4).alloc (Nat.le_refl _) (.cells (Fy.l ⟨gv,⟨none,0,0⟩,0,-1⟩).toArray 79)));have P5:=Zh ((HL.out.p.cut.below HQ.out.2.2.2.2.2).below HA.out);have c2:=(HL.out.p.below HQ.out.2.2.2.2.2).bk.cell 2;simp at c2;obtain⟨v',w7,hrun,ho,hg,hfr⟩:=O4 _ tv.v ro P5.out.K5 (by have:=P5.out.len;have:=P5.out.Md;omega) ⟨gv,⟨none,0,0⟩,0,-1⟩ w4.heap.size (Bk.at_ rfl) 72;obtain⟨va,vc,rfl,_⟩:=Ys ho;have b7:=P5.out.bk.grown hg (λe=>by have:=P5.out.l1 gp e.symm;rw[P5.out.l0] at this;omega);have f2:=b7.free 2;have c7:=b7.cell 2;simp at c7;have HO:=Zh (And.intro ho (And.intro hg hfr));clear ho hg hfr b7;generalize hfl:(ro++[(⟨gv,⟨none,0,0⟩,0,-1⟩:Fy)]).length=fl at*)
    |(at_builtin;refine Ye Zr _ _ _ _ _ _ _ Zr Zr Zr hrun ?_))
   have hz7:w4.heap.size+1<=w7.heap.size:=by have:=HO.out.2.1.size;simpa using this
   have hz4:wr.heap.size<=w4.heap.size:=HQ.out.2.2.2.2.2.size;have ho:=HO.out.1;rw[←hfl] at ho;have hth:=(tB HQ.out.1 HQ.out.2.1 HQ.out.2.2.2.1).A5 (λb (hb:b=gv\/b=gr)=>Below.heap_alloc w4 (.cells (Fy.l ⟨gv,⟨none,0,0⟩,0,-1⟩).toArray 79) b (by rcases hb with rfl|rfl;exact HQ.out.1.lt;exact HQ.out.2.1.lt _ rfl));have hg1:=HQ.out.2.2.1;have hg2:=HQ.out.2.2.2.2.1;have hzr:w.heap.size<=wr.heap.size:=HL.out.b.size;obtain⟨Ft',lab',p1,p2,p3⟩:=P5.out.add (u:=⟨va,_,vc⟩) ho HO.out.2.1 (by have:=HO.out.2.2;rw[←hfl] at this;exact this) hth (λb hb=>by rw[if_neg (by rcases hb with rfl|rfl<;>omega)];exact Nat.le_refl _) (λb hb=>by rcases hb with rfl|rfl<;>omega) (by simp;omega) (by rw[Ar.MB];omega);have hcl:=HL.out.c.lt;have hB7:Below w.heap.size w w7:=((HL.out.b.trans (HQ.out.2.2.2.2.2.mono hzr)).trans (HA.out.mono Zo)).grown HO.out.2.1 (by simp;omega) λb hb=>HL.out.l b (by have:=HL.out.p.l1 b hb;omega);refine⟨⟨k+1,⟨va,fl,vc⟩,ro++[⟨gv,⟨none,0,0⟩,0,-1⟩],Ft',lab',by omega,by go_num,⟨?_,?_,hB7.grown (Xr w7 gp 2 _) hB7.size (λb e=>by cases e;omega),p3 _ (by rw[if_pos hcl];exact HL.out.lc) (by simp;omega) (λh=>by rcases h with h|h<;>omega),λb hb=>?_⟩⟩,by simp[intOf];omega⟩
   ·rw[Ar.YJ];rw[hfl] at p1;exact p1
   ·have:=((HL.out.c.Ad HQ.out.2.2.2.2.2).Ad HA.out).grown HO.out.2.1 (λe=>by have:=HL.out.p.l1 _ e.symm;have:=HL.out.lc;omega);exact this.Av (by simp;omega) _
   ·rcases p2 b hb with h|h|h
    ·by_cases hx:b<wr.heap.size
     ·rw[if_pos hx] at h;exact HL.out.l b h
     ·omega
    ·rcases h with rfl|rfl<;>omega
    ·simp at h;omega
  ·have hke:k=n:=Zo;subst hke;have hlt':¬(k:Int)<(k:Int):=Zo;go_wp2_with fail;go_ret2;exact⟨gp,rfl,gh,tv,⟨none,0,0⟩,ro,Fh,Ft,lab,HL.out.p,HL.out.b,HL.out.l⟩
open Go.Proofs.YtaipogljokblkaaGreatDoor.Fn (De)
theorem V8{p:Pl}(h:p.free=[]):p.act Pl.A6=((p.act Pl.A6).1,⟨.zero,false⟩):=by
 refine Prod.ext rfl ?_;show(Pl.alloc _ _).2=_;unfold Pl.alloc;simp[h];rfl
theorem SR{wb:World}{gh:Nat}{p:Pl}{w:World}{F:Nat->Prop}(h:PH wb gh p w F)(ok:Kk p)(hf:p.free=[]):
  Calls Tryz.prog 45 #[.pointer (some ⟨gh,0,none⟩)] w λen w'=>(∃Ty q,en=.returned (.iface Ty (.pointer (some q))))/\CG F w w'/\∃F':Nat->Prop,PH wb gh (p.act Pl.A6).1 w' F'/\∀b,F' b->F b\/w.heap.size<=b:=by
 have hq:=S6 h ok Pl.A6 rfl (V8 hf)
 simp only[Xj.l,Xd.l,Xd.zero] at hq
 have hq:Calls Tryz.prog 42 #[.pointer (some ⟨gh,0,none⟩),.agg #[.int .i64 4,.int .i64 0,.int .i64 0,.int .i64 0,.int .i64 0,.int .i64 0,.int .i64 0,.int .i64 0,.bool false,.int .i64 0,.int .i64 0,.int .i64 0,.int .i64 0,.bool false]] w λen w'=>en=.returned (.tuple #[.agg #[.int .i64 0,.int .i64 0,.int .i64 0,.int .i64 0,.bool false,.bool false],.nilIface])/\CG F w w'/\∃F':Nat->Prop,PH wb gh (p.act Pl.A6).1 w' F'/\∀b,F' b->F b\/w.heap.size<=b:=hq
 go_enter Tryz.func45,Tryz.ntmps45
 go_wp2_with fail
 refine hq.mono ?_
 rintro e w1 ⟨rfl,c1,F1,P1,a1⟩
 have HP1:=Zh P1
 have HC1:=Zh (And.intro c1 a1)
 obtain⟨⟨hE,_⟩,_⟩:=P1
 have X1:Bk (w1.alloc (.cells #[.int .i64 0,.int .i64 0,.int .i64 0,.int .i64 0,.bool false,.bool false] 108)) w1.heap.size 108 #[.int .i64 0,.int .i64 0,.int .i64 0,.int .i64 0,.bool false,.bool false]:=Bk.at_ rfl
 have hB2:=(Below.refl w1.heap.size w1).alloc (Nat.le_refl _) (.cells #[.int .i64 0,.int .i64 0,.int .i64 0,.int .i64 0,.bool false,.bool false] 108)
 have HE:=Zh (hE.below hB2)
 have hlt:=hE.lt
 clear hq h hE c1 a1
 go_wp2_with (first|(refine vM X1 ?_;intro w2 hst;have r5:=hst.bk.cell 5;simp at r5;have HE2:=Zh (HE.out.low (λx hx=>hst.grown.block x (by simp;omega) (λe=>by injection e with e;omega)) (Nat.le_trans HE.out.lt hst.grown.size));have BN:=Zh (hst.below hB2 (Nat.le_refl _));clear hst;obtain⟨Ty,q,hfull⟩:=HE2.out.full)|(go_at_call 31;refine(De _ _ _ _).mono ?_;rintro e w' ⟨rfl,rfl⟩))
 go_ret
 exact⟨⟨_,_,rfl⟩,AH HC1.out.1 (Ce (F:=λ_=>False) (BN.out.alloc BN.out.size _)) (λ_ h=>h.elim),F1,HP1.out.A5 λb hb=>(BN.out.alloc BN.out.size _).block b (HP1.out.lt b hb),HC1.out.2⟩
theorem Qc{wb:World}{gh:Nat}{p:Pl}{w:World}{F:Nat->Prop}(h:PH wb gh p w F)(ok:Kk p)(hf:p.free=[]):
  Calls Tryz.prog 46 #[.pointer (some ⟨gh,0,none⟩)] w λen w'=>(∃Ty q,en=.returned (.iface Ty (.pointer (some q))))/\CG F w w'/\∃F':Nat->Prop,PH wb gh (p.act Pl.A6).1 w' F'/\∀b,F' b->F b\/w.heap.size<=b:=by
 have hq:=S6 h ok Pl.A6 rfl (V8 hf)
 simp only[Xj.l,Xd.l,Xd.zero] at hq
 have hq:Calls Tryz.prog 42 #[.pointer (some ⟨gh,0,none⟩),.agg #[.int .i64 4,.int .i64 0,.int .i64 0,.int .i64 0,.int .i64 0,.int .i64 0,.int .i64 0,.int .i64 0,.bool false,.int .i64 0,.int .i64 0,.int .i64 0,.int .i64 0,.bool false]] w λen w'=>en=.returned (.tuple #[.agg #[.int .i64 0,.int .i64 0,.int .i64 0,.int .i64 0,.bool false,.bool false],.nilIface])/\CG F w w'/\∃F':Nat->Prop,PH wb gh (p.act Pl.A6).1 w' F'/\∀b,F' b->F b\/w.heap.size<=b:=hq
 go_enter Tryz.func46,Tryz.ntmps46
 go_wp2_with fail
 refine hq.mono ?_
 rintro e w1 ⟨rfl,c1,F1,P1,a1⟩
 have HP1:=Zh P1
 have HC1:=Zh (And.intro c1 a1)
 obtain⟨⟨hE,_⟩,_⟩:=P1
 have X1:Bk (w1.alloc (.cells #[.int .i64 0,.int .i64 0,.int .i64 0,.int .i64 0,.bool false,.bool false] 108)) w1.heap.size 108 #[.int .i64 0,.int .i64 0,.int .i64 0,.int .i64 0,.bool false,.bool false]:=Bk.at_ rfl
 have hB2:=(Below.refl w1.heap.size w1).alloc (Nat.le_refl _) (.cells #[.int .i64 0,.int .i64 0,.int .i64 0,.int .i64 0,.bool false,.bool false] 108)
 have HE:=Zh (hE.below hB2)
 have hlt:=hE.lt
 clear hq h hE c1 a1
 go_wp2_with (first|(refine vM X1 ?_;intro w2 hst;have r5:=hst.bk.cell 5;simp at r5;have HE2:=Zh (HE.out.low (λx hx=>hst.grown.block x (by simp;omega) (λe=>by injection e with e;omega)) (Nat.le_trans HE.out.lt hst.grown.size));have BN:=Zh (hst.below hB2 (Nat.le_refl _));clear hst;obtain⟨Ty,q,hfull⟩:=HE2.out.full)|(go_at_call 31;refine(De _ _ _ _).mono ?_;rintro e w' ⟨rfl,rfl⟩))
 go_ret
 exact⟨⟨_,_,rfl⟩,AH HC1.out.1 (Ce (F:=λ_=>False) (BN.out.alloc BN.out.size _)) (λ_ h=>h.elim),F1,HP1.out.A5 λb hb=>(BN.out.alloc BN.out.size _).block b (HP1.out.lt b hb),HC1.out.2⟩
theorem UI(st:Int)(w:World)(he:AO w)(hs:st=2\/st=4):Calls Tryz.prog 22 #[.int .i64 st,.int .i64 0] w λen w'=>(∃Ty q,en=.returned (.tuple #[.pointer none,.iface Ty (.pointer (some q))]))/\Below w.heap.size w w':=by
 have h:0<=1024:=by decide
 have hz:=he.lt;go_enter Tryz.func22,Tryz.ntmps22;go_wp2_with fail;refine(Pt _).mono ?_;rintro e w1 ⟨rfl,hc⟩;have HB:=Zh hc.below;have HE:=Zh (he.below hc.below);clear hc he;go_wp2_with fail;refine(MY 85 0 Zd h _).mono ?_;rintro e w2 ⟨gh,Fh,rfl,hp,hF,hb⟩;replace HE:=Zh (HE.out.below hb);have hz1:w.heap.size<=w1.heap.size:=HB.out.size;replace HB:=Zh (HB.out.trans (hb.mono HB.out.size));have HP:=Zh (PH.start (wb:=w) HE.out (λb hx=>HB.out.block b Zo) hp λb hb=>by have:=hF b hb;omega);have HF:=Zh (λb (hx:b∈Fh)=>Nat.le_trans hz1 (hF b hx));clear hb hp HE hF hz1;go_wp2_with fail;refine(Vz _).mono ?_;rintro e w3 ⟨rfl,hc⟩;replace HB:=Zh (HB.out.trans (hc.below.mono HB.out.size));replace HP:=Zh (HP.out.A5 λb hx=>hc.below.block b (HP.out.lt b hx));clear hc;go_wp2_with fail;refine(Re _).mono ?_;rintro e w4 ⟨rfl,hc⟩;replace HB:=Zh (HB.out.trans (hc.below.mono HB.out.size));replace HP:=Zh (HP.out.A5 λb hx=>hc.below.block b (HP.out.lt b hx));clear hc;go_wp2_with fail;refine(F0 24 0 0 1 HP.out (OR 0 h) Zd (by show(24:Int)<((85:Nat):Int);decide)).mono ?_;rintro e w5 ⟨rfl,c5,F5,P5,a5⟩;have hz4:w.heap.size<=w4.heap.size:=HB.out.size;have HC:Hid (CG (λb=>b<7) w w5):=Zh (AH (Ce HB.out) c5 λb hx=>hx.elim (λh=>Or.inr (HF.out b h)) Or.inl);replace HF:Hid (∀b,F5 b->b<7\/w.heap.size<=b):=Zh λb hx=>(a5 b hx).elim (λh=>h.elim (λh=>Or.inr (HF.out b h)) Or.inl) λh=>Or.inr Zo;replace HP:Hid (PH w gh (Pl.begun 0) w5 F5):=Zh P5;have hz5:w.heap.size<=w5.heap.size:=HC.out.size;have X5:Bk (w5.alloc (.cells #[.int .i64 0,.int .i64 0,.int .i64 0,.int .i64 0,.bool false,.bool false] 108)) w5.heap.size 108 #[.int .i64 0,.int .i64 0,.int .i64 0,.int .i64 0,.bool false,.bool false]:=Bk.at_ rfl;have hB5:=(Below.refl w5.heap.size w5).alloc (Nat.le_refl _) (.cells #[.int .i64 0,.int .i64 0,.int .i64 0,.int .i64 0,.bool false,.bool false] 108);clear c5 P5 a5 HB hz4;rcases hs with s2|s4
 ·subst s2;go_wp2_with (refine vM X5 ?_;intro w6 hst;have HL6:=Zh (And.intro hst.grown hst.size);clear hst);have HP6:Hid (PH w gh (Pl.begun 0) w6 F5):=Zh (HP.out.A5 λb hb=>(HL6.out.1.block b (by have:=HP.out.lt b hb;have:=hB5.size;omega) (λe=>by cases e;have:=HP.out.lt _ hb;omega)).trans (hB5.block b (HP.out.lt b hb)));have HC6:Hid (CG (λb=>b<7) w w6):=Zh (AH (AH HC.out (Ce (F:=λ_=>False) hB5) (λ_ h=>h.elim)) (F1:=λb=>b=w5.heap.size) ⟨HL6.out.1.os,HL6.out.1.tape,HL6.out.1.output,HL6.out.1.size,λb hb hf=>HL6.out.1.block b hb (λe=>hf (by cases e;rfl))⟩ (λb e=>by rw[e];exact Or.inr hz5));refine(SR HP6.out (LO 0 h) rfl).mono ?_;rintro e w7 ⟨⟨Ty,q,rfl⟩,c7,F7,P7,a7⟩;have HP7:=Zh P7;have HC7:Hid (CG (λb=>b<7) w w7):=Zh (AH HC6.out c7 HF.out);have HF7:Hid (∀b,F7 b->b<7\/w.heap.size<=b):=Zh λb hx=>(a7 b hx).elim (HF.out b) λh=>Or.inr (by have:=HC6.out.size;omega);clear P7 c7 a7 HP6 HC6 HF HP HC;go_wp2_with fail;go_ret2;obtain⟨Fh',p1,p2,p3⟩:=Lw HP7.out HC7.out HF7.out;exact⟨⟨Ty,q,rfl⟩,p3⟩
 ·subst s4;go_wp2_with (refine vM X5 ?_;intro w6 hst;have HL6:=Zh (And.intro hst.grown hst.size);clear hst);have HP6:Hid (PH w gh (Pl.begun 0) w6 F5):=Zh (HP.out.A5 λb hb=>(HL6.out.1.block b (by have:=HP.out.lt b hb;have:=hB5.size;omega) (λe=>by cases e;have:=HP.out.lt _ hb;omega)).trans (hB5.block b (HP.out.lt b hb)));have HC6:Hid (CG (λb=>b<7) w w6):=Zh (AH (AH HC.out (Ce (F:=λ_=>False) hB5) (λ_ h=>h.elim)) (F1:=λb=>b=w5.heap.size) ⟨HL6.out.1.os,HL6.out.1.tape,HL6.out.1.output,HL6.out.1.size,λb hb hf=>HL6.out.1.block b hb (λe=>hf (by cases e;rfl))⟩ (λb e=>by rw[e];exact Or.inr hz5));refine(Qc HP6.out (LO 0 h) rfl).mono ?_;rintro e w7 ⟨⟨Ty,q,rfl⟩,c7,F7,P7,a7⟩;have HP7:=Zh P7;have HC7:Hid (CG (λb=>b<7) w w7):=Zh (AH HC6.out c7 HF.out);have HF7:Hid (∀b,F7 b->b<7\/w.heap.size<=b):=Zh λb hx=>(a7 b hx).elim (HF.out b) λh=>Or.inr (by have:=HC6.out.size;omega);clear P7 c7 a7 HP6 HC6 HF HP HC;go_wp2_with fail;go_ret2;obtain⟨Fh',p1,p2,p3⟩:=Lw HP7.out HC7.out HF7.out;exact⟨⟨Ty,q,rfl⟩,p3⟩
theorem UH(st eng most:Int)(n:Nat)(w:World)(he:AO w)(a0:1<=st)(b0:st<=5)(a1:1<=eng)(b1:eng<=5)(a2:1<=n)(b2:n<=6)(a4:1<=most)(b4:most<=64)(hs:st=2\/st=4):
  Calls Tryz.prog 8 #[.agg #[.int .i64 st,.int .i64 eng,.int .i64 (n:Int),.int .i64 0,.int .i64 most]] w λen w'=>(∃Ty q,en=.returned (.tuple #[.pointer none,.iface Ty (.pointer (some q))]))/\Below w.heap.size w w':=by
 have HX:=Zh (Bk.at_ (w:=w) (cs:=#[.int .i64 st,.int .i64 eng,.int .i64 (n:Int),.int .i64 0,.int .i64 most]) (t:=32) rfl)
 have HC:=Zh ((Below.refl w.heap.size w).alloc (Nat.le_refl _) (.cells #[.int .i64 st,.int .i64 eng,.int .i64 (n:Int),.int .i64 0,.int .i64 most] 32))
 have HE:=Zh (he.below HC.out)
 have HE0:=Zh he.lt
 clear he
 go_enter Tryz.func8,Tryz.ntmps8
 go_wp2_with fail
 refine(QJ st eng n 0 most _ a0 b0 a1 b1 Zo Zo Zo Zo a4 b4).mono ?_
 rintro e w1 ⟨rfl,hc⟩
 have HX1:=Zh (HX.out.Ad hc.below)
 have HE1:=Zh (HE.out.below hc.below)
 have HC1:=Zh (HC.out.trans (hc.below.mono HC.out.size))
 clear HX HE HC hc
 have y0:=HX1.out.cell 0;have y3:=HX1.out.cell 3
 simp at y0 y3
 go_wp2_with fail
 refine(UI st _ HE1.out hs).mono ?_
 rintro e w2 ⟨⟨Ty,q,rfl⟩,hb⟩
 have HZ:=Zh (HC1.out.trans (hb.mono HC1.out.size))
 clear HX1 HE1 HC1 hb
 go_wp2_with fail
 go_ret2
 exact⟨⟨Ty,q,rfl⟩,HZ.out⟩
end Go.Proofs.YtaipogljokblkaaGreatDoor
