/- Core: QB, QC, QD, QM, QN. -/
import Derived.Test.YtaipogljokblkaaGreatDoorZ39
import Derived.Lib.SliceRun
set_option linter.all false
set_option maxRecDepth 100000
set_option maxHeartbeats 8000000
namespace Go.Proofs.YtaipogljokblkaaGreatDoor
open Go Go.RowKit
set_option linter.unusedSimpArgs false
set_option linter.unusedVariables false
set_option linter.unusedSectionVars false
def MT.fresh (st eng me thr most:Int):MT:=⟨MV.fresh st eng me thr most,[],0,-1⟩
def MPa.fresh (st eng most:Int) (n ns k:Nat):MPa:=⟨st,Pl.laid st ns,(List.range k).map fun (i:Nat)=>MT.fresh st eng (i:Int) (n:Int) most,[]⟩
theorem MPa.fresh_len (st eng most:Int) (n ns k:Nat):(MPa.fresh st eng most n ns k).ths.length = k:=by simp [MPa.fresh]
theorem MPa.fresh_succ (st eng most:Int) (n ns k:Nat):MPa.fresh st eng most n ns (k+1) = { MPa.fresh st eng most n ns k with ths:=(MPa.fresh st eng most n ns k).ths++[MT.fresh st eng (k:Int) (n:Int) most] }:=by
 simp [MPa.fresh,List.range_succ]
theorem PaB.cut {w:World} {gp gh:Nat} {P:MPa} {tv bv:GSl} {ro:List GRo} {Fh:List Nat} {Ft:Nat→Nat→Prop} {lab:Nat→Nat} (h:PaB w gp gh P tv bv ro Fh Ft lab):PaB w gp gh P tv bv ro Fh Ft (fun b=>if b < w.heap.size then lab b else 1000):=by
 have e:∀ b,b < w.heap.size→(if b < w.heap.size then lab b else 1000) = lab b:=fun b hb=>if_pos hb
 refine ⟨h.bk,h.tho,h.beo,h.hp,h.len,h.th,(e _ h.bk.lt).trans h.l0,fun b hb=>(e _ (h.tho.lt hb)).trans (h.l1 b hb),fun b hb=>(e _ (h.beo.lt hb)).trans (h.l2 b hb),fun b hb=>(e _ (h.hp.lt b hb)).trans (h.l3 b hb),fun i b hi hb=>(e _ (h.ltF hi b hb)).trans (h.l4 i b hi hb),fun b hb=>?_,h.few⟩
 show 1000≤(if _ then _ else _)
 split
 ·exact h.low b hb
 ·exact Nat.le_refl _
theorem thb_new {w:World} {gv gr:Nat} {st eng k n most:Int} (hb:Bk w gv 126 ((ver (MV.fresh st eng k n most)).l (.pointer (some ⟨gr,0,none⟩)) .nilIface).toArray) (hr:RJo gr .nilIface (MR.fresh eng k n most) none w (fun b=>b = gr)) (h:gr≠gv) :
  ThB w ⟨gv,⟨none,0,0⟩,0,-1⟩ (MT.fresh st eng k n most) (fun b=>b = gv∨b = gr) :=
 ⟨rfl,rfl,fun b=>b = gv∨b = gr,⟨gr,.nilIface,fun b=>b = gr,hb,hr,fun e=>h e.symm,fun _=>Iff.rfl⟩,Own.nil,fun _ _ e=>(by cases e),fun _=>⟨Or.inl,fun h=>h.elim id fun e=>(by cases e)⟩⟩
theorem parish_none {w:World} {st eng most:Int} {n ns gh:Nat} {Fh:List Nat} (h:PBx w gh (Pl.laid st ns) Fh) (h40:∀ b∈Fh,7≤b) (hz:7≤w.heap.size) (c:Nat) (hc:c < w.heap.size) (hcF:∀ b∈Fh,b≠c) :
  ∃ lab:Nat→Nat,PaB (w.alloc (.cells #[.int .i64 st,.pointer (some ⟨gh,0,none⟩),.slice none 0 0,.slice none 0 0] 74)) w.heap.size gh (MPa.fresh st eng most n ns 0) ⟨none,0,0⟩ ⟨none,0,0⟩ [] Fh (fun _ _=>False) lab∧1000≤lab c∧∀ b,lab b < 1000→b = w.heap.size∨b∈Fh:=by
 have lt:=h.lt
 refine ⟨fun b=>if b = w.heap.size then 0 else if b∈Fh then 3 else 1000,⟨Bk.at_ rfl,Own.nil,Own.nil,h.same fun b hb=>Below.heap_alloc w _ b (lt b hb),rfl,(fun i r T h1 _=>by simp at h1),if_pos rfl,(fun b hb=>by cases hb),(fun b hb=>by cases hb),fun b hb=>?_,(fun i b hi _=>by simp [MPa.fresh] at hi),fun b hb=>?_,(by simp [MPa.fresh])⟩,?_,fun b hb=>?_⟩
 ·show (if _ then _ else _) = 3
  rw [if_neg (by have:=lt b hb;omega),if_pos hb]
 ·show 1000≤(if _ then _ else _)
  rw [if_neg (by omega),if_neg (fun hx=>by have:=h40 b hx;omega)]
  exact Nat.le_refl _
 ·show 1000≤(if _ then _ else _)
  rw [if_neg (by omega),if_neg (fun hx=>hcF c hx rfl)]
  exact Nat.le_refl _
 ·simp only at hb
  split at hb
  ·exact Or.inl (by assumption)
  ·split at hb
   ·exact Or.inr (by assumption)
   ·omega
structure PRo (w wr:World) (st eng most:Int) (n ns gp gh:Nat) (Fh:List Nat) (k:Nat) (tv:GSl) (ro:List GRo) (Ft:Nat→Nat→Prop) (lab:Nat→Nat):Prop where
 p:PaB wr gp gh (MPa.fresh st eng most n ns k) tv ⟨none,0,0⟩ ro Fh Ft lab
 c:Bk wr w.heap.size 32 #[.int .i64 st,.int .i64 eng,.int .i64 (n:Int),.int .i64 (ns:Int),.int .i64 most]
 b:Below w.heap.size w wr
 lc:1000≤lab w.heap.size
 l:∀ b,lab b < 1000→w.heap.size≤b
theorem parNew_any (st eng most:Int) (n ns:Nat) (w:World) (he:ErrOk w) (a0:1≤st) (b0:st≤5) (a1:1≤eng) (b1:eng≤5) (a2:1≤n) (b2:n≤6) (b3:ns≤1024) (a4:1≤most) (b4:most≤64) (hs:st = 2∨st = 4→1≤ns) :
  Calls Tryz.prog 8 #[.agg #[.int .i64 st,.int .i64 eng,.int .i64 (n:Int),.int .i64 (ns:Int),.int .i64 most]] w fun en w'=>∃ gp gh tv bv ro Fh Ft lab,en = .returned (.tuple #[.pointer (some ⟨gp,0,none⟩),.nilIface])∧PaB w' gp gh (MPa.fresh st eng most n ns n) tv bv ro Fh Ft lab∧Below w.heap.size w w'∧∀ b,lab b < 1000→w.heap.size≤b:=by
 have HX:=Lib.hid (Bk.at_ (w:=w) (cs:=#[.int .i64 st,.int .i64 eng,.int .i64 (n:Int),.int .i64 (ns:Int),.int .i64 most]) (t:=32) rfl)
 have HC:=Lib.hid ((Below.refl w.heap.size w).alloc (Nat.le_refl _) (.cells #[.int .i64 st,.int .i64 eng,.int .i64 (n:Int),.int .i64 (ns:Int),.int .i64 most] 32))
 have HE:=Lib.hid (he.below HC.out)
 have HE0:=Lib.hid he.lt
 clear he
 go_enter Tryz.func8,Tryz.ntmps8
 go_wp2_with fail
 refine (pgood_any st eng n ns most _ a0 b0 a1 b1 (by omega) (by omega) (by omega) (by omega) a4 b4).mono ?_
 rintro e w1 ⟨rfl,hc⟩
 have HX1:=Lib.hid (HX.out.belowAll hc.below)
 have HE1:=Lib.hid (HE.out.below hc.below)
 have HC1:=Lib.hid (HC.out.trans (hc.below.mono HC.out.size))
 clear HX HE HC hc
 have y0:=HX1.out.cell 0;have y3:=HX1.out.cell 3
 simp at y0 y3
 go_wp2_with fail
 refine (parLay_any st ns _ HE1.out b3 hs).mono ?_
 rintro e w2 ⟨gh,Fh,rfl,hp,hF,hb⟩
 have HX2:=Lib.hid (HX1.out.belowAll hb)
 have HC2:=Lib.hid (HC1.out.trans (hb.mono HC1.out.size))
 have HP2:=Lib.hid (And.intro hp hF)
 have hz1:w.heap.size < w1.heap.size:=HX1.out.lt
 have HL2:=Lib.hid hb.size
 clear HX1 HE1 HC1 hp hF hb y0 y3
 have y0:=HX2.out.cell 0;have y2:=HX2.out.cell 2
 simp at y0 y2
 go_upto_region 7 with (fail)
 have HX3:=Lib.hid (HX2.out.alloc (.cells #[.int .i64 st,.pointer (some ⟨gh,0,none⟩),.slice none 0 0,.slice none 0 0] 74))
 have hz2:w.heap.size < w2.heap.size:=HX2.out.lt
 have h40:7≤w.heap.size:=HE0.out
 have hzw1:w1.heap.size≤w2.heap.size:=HL2.out
 have HK:=Lib.hid (parish_none (w:=w2) (st:=st) (eng:=eng) (most:=most) (n:=n) (ns:=ns) (gh:=gh) (Fh:=Fh) HP2.out.1 (fun b hb=>by have:=HP2.out.2 b hb;omega) (by omega) w.heap.size (by omega) (fun b hb=>by have:=HP2.out.2 b hb;omega))
 have HC3:=Lib.hid (HC2.out.trans (((Below.refl w2.heap.size w2).alloc (Nat.le_refl _) (.cells #[.int .i64 st,.pointer (some ⟨gh,0,none⟩),.slice none 0 0,.slice none 0 0] 74)).mono HC2.out.size))
 have HF2:=Lib.hid (fun b (hb:b∈Fh)=>(by have:=HP2.out.2 b hb;omega:w.heap.size≤b))
 clear y0 y2 HX2 HC2 HP2
 have y2:=HX3.out.cell 2
 simp at y2
 generalize hgp:w2.heap.size = gp at *
 generalize w2.alloc (.cells #[.int .i64 st,.pointer (some ⟨gh,0,none⟩),.slice none 0 0,.slice none 0 0] 74) = w3 at *
 go_wp2_with fail
 go_loopw [32] (fun i wr=>∃ (k:Nat) (tv:GSl) (ro:List GRo) (Ft:Nat→Nat→Prop) (lab:Nat→Nat),k≤n∧i = .int .i64 k∧PRo w wr st eng most n ns gp gh Fh k tv ro Ft lab) (fun i _=>n - (intOf i).toNat)
 case atStart =>
  obtain ⟨lab,k1,k2,k3⟩:=HK.out
  exact ⟨0,⟨none,0,0⟩,[],fun _ _=>False,lab,Nat.zero_le _,rfl,k1,HX3.out,HC3.out,k2,fun b hb=>(k3 b hb).elim (fun h=>by omega) fun h=>HF2.out b h⟩
 case round =>
  obtain ⟨k,tv,ro,Ft,lab,hk,rfl,L⟩:=hrel
  have HL:=Lib.hid L
  clear L
  by_cases hlt:k < n
  ·have hlt':(k:Int) < (n:Int):=by omega
   have x0:=HL.out.c.cell 0;have x1:=HL.out.c.cell 1;have x2:=HL.out.c.cell 2;have x4:=HL.out.c.cell 4
   simp at x0 x1 x2 x4
   go_wp2_with (first
    | (go_at_call 23;refine (vnew_any st eng (k:Int) (n:Int) most wr a0 b0 a1 b1 (by omega) (by omega) (by omega) (by omega) a4 b4).mono ?_;rintro e w4 ⟨gv,gr,rfl,hbk,hrj,q1,q2,q3,hbe⟩;have HQ:=Lib.hid (And.intro hbk (And.intro hrj (And.intro q1 (And.intro q2 (And.intro q3 hbe)))));clear hbk hrj q1 q2 q3 hbe x0 x1 x2 x4;have HA:=Lib.hid (((Below.refl w4.heap.size w4).alloc (Nat.le_refl _) (.cells (GRo.l ⟨gv,⟨none,0,0⟩,0,-1⟩).toArray 79)));have P5:=Lib.hid ((HL.out.p.cut.below HQ.out.2.2.2.2.2).below HA.out);have c2:=(HL.out.p.below HQ.out.2.2.2.2.2).bk.cell 2;simp at c2;obtain ⟨v',w7,hrun,ho,hg,hfr⟩:=own_ros_append _ tv.v ro P5.out.tho (by have:=P5.out.len;have:=P5.out.few;omega) ⟨gv,⟨none,0,0⟩,0,-1⟩ w4.heap.size (Bk.at_ rfl) 72;obtain ⟨va,vc,rfl,_⟩:=Yq ho;have b7:=P5.out.bk.grown hg (fun e=>by have:=P5.out.l1 gp e.symm;rw [P5.out.l0] at this;omega);have f2:=b7.free 2;have c7:=b7.cell 2;simp at c7;have HO:=Lib.hid (And.intro ho (And.intro hg hfr));clear ho hg hfr b7;generalize hfl:(ro++[(⟨gv,⟨none,0,0⟩,0,-1⟩:GRo)]).length = fl at *)
    | (at_builtin;refine Ya (by rfl) _ _ _ _ _ _ _ (by rfl) (by rfl) (by rfl) hrun ?_))
   have hz7:w4.heap.size+1≤w7.heap.size:=by have:=HO.out.2.1.size;simpa using this
   have hz4:wr.heap.size≤w4.heap.size:=HQ.out.2.2.2.2.2.size
   have ho:=HO.out.1
   rw [← hfl] at ho
   have hth:=(thb_new HQ.out.1 HQ.out.2.1 HQ.out.2.2.2.1).keep (fun b (hb:b = gv∨b = gr)=>Below.heap_alloc w4 (.cells (GRo.l ⟨gv,⟨none,0,0⟩,0,-1⟩).toArray 79) b (by rcases hb with rfl | rfl;exact HQ.out.1.lt;exact HQ.out.2.1.lt _ rfl))
   have hg1:=HQ.out.2.2.1;have hg2:=HQ.out.2.2.2.2.1
   have hzr:w.heap.size≤wr.heap.size:=HL.out.b.size
   obtain ⟨Ft',lab',p1,p2,p3⟩:=P5.out.add (u:=⟨va,_,vc⟩) ho HO.out.2.1 (by have:=HO.out.2.2;rw [← hfl] at this;exact this) hth (fun b hb=>by rw [if_neg (by rcases hb with rfl | rfl <;> omega)];exact Nat.le_refl _) (fun b hb=>by rcases hb with rfl | rfl <;> omega) (by simp;omega) (by rw [MPa.fresh_len];omega)
   have hcl:=HL.out.c.lt
   have hB7:Below w.heap.size w w7:=((HL.out.b.trans (HQ.out.2.2.2.2.2.mono hzr)).trans (HA.out.mono (by omega))).grown HO.out.2.1 (by simp;omega) fun b hb=>HL.out.l b (by have:=HL.out.p.l1 b hb;omega)
   refine ⟨⟨k+1,⟨va,fl,vc⟩,ro++[⟨gv,⟨none,0,0⟩,0,-1⟩],Ft',lab',by omega,by go_num,⟨?_,?_,hB7.grown (Xq w7 gp 2 _) hB7.size (fun b e=>by cases e;omega),p3 _ (by rw [if_pos hcl];exact HL.out.lc) (by simp;omega) (fun h=>by rcases h with h | h <;> omega),fun b hb=>?_⟩⟩,by simp [intOf];omega⟩
   ·rw [MPa.fresh_succ]
    rw [hfl] at p1
    exact p1
   ·have:=((HL.out.c.belowAll HQ.out.2.2.2.2.2).belowAll HA.out).grown HO.out.2.1 (fun e=>by have:=HL.out.p.l1 _ e.symm;have:=HL.out.lc;omega)
    exact this.far (by simp;omega) _
   ·rcases p2 b hb with h | h | h
    ·by_cases hx:b < wr.heap.size
     ·rw [if_pos hx] at h;exact HL.out.l b h
     ·omega
    ·rcases h with rfl | rfl <;> omega
    ·simp at h;omega
  ·have hke:k = n:=by omega
   subst hke
   have hlt':¬ (k:Int) < (k:Int):=by omega
   go_wp2_with fail
   go_ret2
   exact ⟨gp,rfl,gh,tv,⟨none,0,0⟩,ro,Fh,Ft,lab,HL.out.p,HL.out.b,HL.out.l⟩
section
variable {w w':World} {gp gh:Nat} {P:MPa} {tv bv:GSl} {ro:List GRo} {Fh:List Nat} {Ft:Nat→Nat→Prop} {lab:Nat→Nat}
theorem PaB.tvn (h:PaB w gp gh P tv bv ro Fh Ft lab):tv.n = P.ths.length:=by
 rw [← h.len]
 obtain ⟨A,c,hv,_⟩:=Yq h.tho
 unfold GSl.v at hv
 injection hv with h1 h2 h3
theorem PaB.rowk (h:PaB w gp gh P tv bv ro Fh Ft lab) {i:Nat} (hi:i < P.ths.length):∃ g off c,tv = ⟨some ⟨g,off,none⟩,P.ths.length,c⟩∧∃ hr:i < ro.length,w.rangeAt g (off+i*4) ro[i].l:=by
 have hr:i < ro.length:=by rw [h.len];exact hi
 obtain ⟨g,off,cap,hv,h1⟩:=own_form h.tho (by omega)
 have ho:=h.tho
 rw [hv] at ho
 refine ⟨g,off,cap,?_,hr,fun j u hu=>?_⟩
 ·rw [← h.len]
  cases tv
  unfold GSl.v at hv
  injection hv with h1 h2 h3
  subst h1;subst h2;subst h3
  rfl
 ·rw [Nat.add_assoc]
  exact own_cells ho _ _ (rows_get rolen ro i hr j u hu)
theorem has_any (h:PaB w gp gh P tv bv ro Fh Ft lab) (k:Int):Calls Tryz.prog 24 #[.pointer (some ⟨gp,0,none⟩),.int .i64 k] w fun en w'=>en = .returned (.bool (P.has k))∧w = w':=by
 have c2:=h.bk.cell 2
 simp at c2
 have hn:=h.tvn
 obtain ⟨a,n,c⟩:=tv
 simp only at hn
 subst hn
 simp only [GSl.v] at c2
 unfold MPa.has
 clear h
 by_cases h0:0≤k
 ·go_enter Tryz.func24,Tryz.ntmps24
  go_wp2
  go_ret
  simp [h0]
 ·go_enter Tryz.func24,Tryz.ntmps24
  go_wp2
  go_ret
  simp
  omega
theorem vbusy_b {w:World} {gv:Nat} {V:MV} {F:Nat→Prop} (h:VB w gv V F):Calls Tryz.prog 35 #[.pointer (some ⟨gv,0,none⟩)] w fun en w'=>en = .returned (.bool V.busy)∧Below w.heap.size w w':=by
 obtain ⟨gr,jv,F1,h1,h2,h3,h4⟩:=h
 refine (vbusy_any (Φ:=Phi.no) (F:=fun _=>False) (ver V) ⟨gr,0,none⟩ jv gv w h1 h2.one (fun _ h=>h) (fun h=>h) (fun _ h=>h.elim)).mono fun en w' hp=>?_
 obtain ⟨p1,p2,p3,_⟩:=hp
 refine ⟨p1,p3.os,p3.tape,p3.output,p3.size,fun b hb=>?_⟩
 by_cases e:b = gv
 ·subst e
  unfold Bk at h1 p2
  rw [h1,p2]
 ·exact p3.far b hb fun h=>h.elim e id
theorem heap_any (h:PaB w gp gh P tv bv ro Fh Ft lab):Calls Tryz.prog 15 #[.pointer (some ⟨gp,0,none⟩)] w fun en w'=>en = .returned (.pointer (some ⟨gh,0,none⟩))∧w = w':=by
 have c1:=h.bk.cell 1
 simp at c1
 clear h
 go_enter Tryz.func15,Tryz.ntmps15
 go_wp2
 go_ret
 exact ⟨rfl,rfl⟩
theorem idle_any (h:PaB w gp gh P tv bv ro Fh Ft lab) {k:Nat} {T:MT} (hT:P.ths[k]? = some T):Calls Tryz.prog 26 #[.pointer (some ⟨gp,0,none⟩),.int .i64 (k:Int)] w fun en w'=>en = .returned (.bool (MPa.idleT T))∧Below w.heap.size w w':=by
 have hk:k < P.ths.length:=by
  rcases Nat.lt_or_ge k P.ths.length with h | h
  ·exact h
  ·rw [List.getElem?_eq_none h] at hT;cases hT
 have hhas:P.has (k:Int) = true:=by unfold MPa.has;simp;omega
 have h1:=has_any h (k:Int)
 rw [hhas] at h1
 obtain ⟨g,off,c,rfl,hr,hc⟩:=h.rowk hk
 have hth:=h.th k ro[k] T (List.getElem?_eq_getElem hr) hT
 obtain ⟨t1,t2,Fv,hv,hq,_⟩:=hth
 obtain ⟨qa,qc,hqv,_⟩:=Yq hq
 have c2:=h.bk.cell 2
 simp [GSl.v] at c2
 have r0:=hc 0 _ rfl;have r1:=hc 1 _ rfl
 simp [GRo.l,hqv] at r0 r1
 have hb:=vbusy_b hv
 have HH:=Lib.hid h
 have hce:((T.queue.length:Int)==0) = T.queue.isEmpty:=by cases T.queue <;> simp <;> omega
 unfold MPa.idleT
 clear h hc hv hq hqv t1 t2
 generalize T.V.busy = b at *
 generalize hgk:ro[k] = rk at *
 go_enter Tryz.func26,Tryz.ntmps26
 cases b with
 | true =>
  go_wp2_with (first | (go_at_call 24;refine h1.mono ?_;rintro e w1 ⟨rfl,rfl⟩) | (go_at_call 35;refine hb.mono ?_;rintro e w2 ⟨rfl,hb2⟩))
  go_ret
  exact ⟨rfl,hb2⟩
 | false =>
  go_wp2_with (first | (go_at_call 24;refine h1.mono ?_;rintro e w1 ⟨rfl,rfl⟩) | (go_at_call 35;refine hb.mono ?_;rintro e w2 ⟨rfl,hb2⟩;have d2:=(hb2.cell (p:=⟨gp,2,none⟩) HH.out.bk.lt).trans c2;have d1:=(hb2.cell (p:=⟨g,off+k*4+1,none⟩) (HH.out.tho.lt rfl)).trans r1))
  go_ret
  exact ⟨rfl,hb2⟩
end
theorem rows_setk {α:Type} {f:α→List Value} {sz:Nat} (hf:∀ x,(f x).length = sz):∀ (l:List α) (k:Nat) (hk:k < l.length) (j:Nat) (u:Value) (x:α),f x = (f l[k]).set j u→j < sz→rows f (l.set k x) = (rows f l).set (k*sz+j) u
 | [],k,hk,_,_,_,_,_=>by simp at hk
 | p :: l,0,_,j,u,x,hx,hj=>by
  simp only [List.set_cons_zero,rows_cons,Nat.zero_mul,Nat.zero_add]
  rw [List.set_append_left _ _ (by rw [hf];exact hj),hx]
  rfl
 | p :: l,k+1,hk,j,u,x,hx,hj=>by
  simp only [List.set_cons_succ,rows_cons]
  rw [rows_setk hf l k (by simpa using hk) j u x (by simpa using hx) hj,List.set_append_right _ _ (by rw [hf,Nat.add_mul];omega)]
  congr 2
  rw [hf,Nat.add_mul];omega
theorem own_set {α:Type} {f:α→List Value} {sz:Nat} {E:TypeId} (hf:∀ x,(f x).length = sz) {w:World} {g off cap:Nat} {l:List α} (h:Own w E sz (.slice (some ⟨g,off,none⟩) l.length cap) l.length (rows f l)) (k:Nat) (hk:k < l.length) (j:Nat) (u:Value) (x:α) (hx:f x = (f l[k]).set j u) (hj:j < sz) :
  Own (w.setCell ⟨g,off+k*sz+j,none⟩ u) E sz (.slice (some ⟨g,off,none⟩) (l.set k x).length cap) (l.set k x).length (rows f (l.set k x)):=by
 have hlen:(l.set k x).length = l.length:=List.length_set
 have hr:=rows_setk hf l k hk j u x hx hj
 refine ⟨by rw [Yt hf],.inr ?_⟩
 rcases h.2 with ⟨h0,_⟩ | ⟨g',off',cap',A,R,hv,hb,ho,hc,hm,hs⟩
 ·cases h0
 ·cases hv
  subst ho
  refine ⟨g,A.length,cap,A,R,by rw [hlen],?_,rfl,by rw [hlen];exact hc,hm,by rw [hr,List.length_set];exact hs⟩
  refine Yb (hb.set_ _ u) ?_
  rw [hr]
  have hkl:k*sz+j < (rows f l).length:=by
   rw [Yt hf]
   have:(k+1)*sz≤l.length*sz:=Nat.mul_le_mul_right _ hk
   rw [Nat.add_mul] at this
   omega
  simp only [List.setIfInBounds_toArray]
  rw [List.set_append_right _ _ (by omega),show A.length+k*sz+j - A.length = k*sz+j from by omega,List.set_append_left _ _ hkl]
section
variable {w w2:World} {gp gh:Nat} {P P':MPa} {tv bv bv':GSl} {ro ro':List GRo} {Fh Fh':List Nat} {Ft:Nat→Nat→Prop} {lab:Nat→Nat} {k:Nat} {T':MT} {r':GRo} {F':Nat→Prop}
open Classical in
theorem PaB.upd (h:PaB w gp gh P tv bv ro Fh Ft lab) (hk:k < P.ths.length) (hths:P'.ths = P.ths.set k T') (hro:ro' = ro.set k r') (hst:P'.st = P.st)
  (bk:Bk w2 gp 74 #[.int .i64 P.st,.pointer (some ⟨gh,0,none⟩),tv.v,bv'.v]) (tho:Own w2 79 4 tv.v ro'.length (rows GRo.l ro')) (beo:Own w2 42 10 bv'.v P'.beats.length (rows Yh.l P'.beats)) (hp:PBx w2 gh P'.heap Fh') (th:ThB w2 r' T' F')
  (far:∀ i b,i≠k→i < P.ths.length→Ft i b→w2.heap[b]? = w.heap[b]?) (hsz:w.heap.size≤w2.heap.size) (h40:7≤w.heap.size)
  (n2:∀ b,bv'.v.ownBlock = some b→lab b = 2∨w.heap.size≤b) (n3:∀ b∈Fh',lab b = 3∨lab b = 4+k∨w.heap.size≤b) (n4:∀ b,F' b→lab b = 3∨lab b = 4+k∨w.heap.size≤b)
  (d23:∀ b,bv'.v.ownBlock = some b→b ∉ Fh') (d24:∀ b,bv'.v.ownBlock = some b→¬ F' b) (d34:∀ b∈Fh',¬ F' b) :
  ∃ Ft' lab',PaB w2 gp gh P' tv bv' ro' Fh' Ft' lab'∧∀ b,lab' b < 1000→lab b < 1000∨w.heap.size≤b:=by
 have lgp:=h.bk.lt
 have l0:=h.l0
 have few:=h.few
 have ltv:∀ b,tv.v.ownBlock = some b→b < w.heap.size:=fun b hb=>h.tho.lt hb
 have hl:∀ i r T,ro'[i]? = some r→P'.ths[i]? = some T→i = k∧r = r'∧T = T'∨i≠k∧ro[i]? = some r∧P.ths[i]? = some T:=fun i r T h1 h2=>by
  rw [hro] at h1
  rw [hths] at h2
  by_cases e:i = k
  ·subst e
   left
   have hr:i < ro.length:=by rw [h.len];exact hk
   rw [List.getElem?_set_self hr] at h1
   rw [List.getElem?_set_self hk] at h2
   cases h1;cases h2
   exact ⟨rfl,rfl,rfl⟩
  ·right
   rw [List.getElem?_set_ne (fun h=>e h.symm)] at h1
   rw [List.getElem?_set_ne (fun h=>e h.symm)] at h2
   exact ⟨e,h1,h2⟩
 have hlenP:P'.ths.length = P.ths.length:=by rw [hths,List.length_set]
 let lab':Nat→Nat:=fun b=>if b = gp then 0 else if tv.v.ownBlock = some b then 1 else if bv'.v.ownBlock = some b then 2 else if b∈Fh' then 3 else if F' b then 4+k else if b < w.heap.size∧∃ i,i≠k∧i < P.ths.length∧Ft i b then lab b else 1000
 have no:∀ b c,lab b = c→b < w.heap.size→c≠0→c≠1→c≠2→c≠3→c≠4+k→b≠gp∧¬ tv.v.ownBlock = some b∧¬ bv'.v.ownBlock = some b∧b ∉ Fh'∧¬ F' b:=fun b c e hb c0 c1 c2 c3 c4 =>
  ⟨fun e'=>c0 (by rw [← e,e',l0]),fun e'=>c1 (by rw [← e,h.l1 b e']),fun e'=>(n2 b e').elim (fun e'=>c2 (by rw [← e,e'])) (fun _=>by omega),fun e'=>(n3 b e').elim (fun e'=>c3 (by rw [← e,e'])) (fun h=>h.elim (fun e'=>c4 (by rw [← e,e'])) (fun _=>by omega)),fun e'=>(n4 b e').elim (fun e'=>c3 (by rw [← e,e'])) (fun h=>h.elim (fun e'=>c4 (by rw [← e,e'])) (fun _=>by omega))⟩
 have gpn:∀ b,(lab b = 2∨lab b = 3∨lab b = 4+k∨w.heap.size≤b)→b≠gp:=fun b hb e=>by
  rw [e,l0] at hb
  omega
 have tvn:∀ b,(lab b = 2∨lab b = 3∨lab b = 4+k∨w.heap.size≤b)→¬ tv.v.ownBlock = some b:=fun b hb e=>by
  have:=ltv b e
  rw [h.l1 b e] at hb
  omega
 have m2:∀ b,bv'.v.ownBlock = some b→(lab b = 2∨lab b = 3∨lab b = 4+k∨w.heap.size≤b):=fun b hb=>(n2 b hb).imp id fun h=>Or.inr (Or.inr h)
 have m3:∀ b,b∈Fh'→(lab b = 2∨lab b = 3∨lab b = 4+k∨w.heap.size≤b):=fun b hb=>Or.inr (n3 b hb)
 have m4:∀ b,F' b→(lab b = 2∨lab b = 3∨lab b = 4+k∨w.heap.size≤b):=fun b hb=>Or.inr (n4 b hb)
 refine ⟨fun i=>if i = k then F' else Ft i,lab',⟨by rw [hst];exact bk,tho,beo,hp,?_,?_,?_,?_,?_,?_,?_,?_,by rw [hlenP];exact few⟩,?_⟩
 ·rw [hro,List.length_set,hlenP];exact h.len
 ·intro i r T h1 h2
  rcases hl i r T h1 h2 with ⟨e,rfl,rfl⟩ | ⟨e,h1,h2⟩
  ·show ThB _ _ _ (if i = k then F' else Ft i)
   rw [if_pos e];exact th
  ·show ThB _ _ _ (if i = k then F' else Ft i)
   rw [if_neg e]
   have hi:i < P.ths.length:=by
    rcases Nat.lt_or_ge i P.ths.length with h | h
    ·exact h
    ·rw [List.getElem?_eq_none h] at h2;cases h2
   exact (h.th i r T h1 h2).keep fun b hb=>far i b e hi hb
 ·exact if_pos rfl
 ·intro b hb
  have:b≠gp:=fun e=>by have:=h.l1 b hb;rw [e,l0] at this;omega
  show (if _ then _ else _) = 1
  rw [if_neg this,if_pos hb]
 ·intro b hb
  show (if _ then _ else _) = 2
  rw [if_neg (gpn b (m2 b hb)),if_neg (tvn b (m2 b hb)),if_pos hb]
 ·intro b hb
  show (if _ then _ else _) = 3
  rw [if_neg (gpn b (m3 b hb)),if_neg (tvn b (m3 b hb)),if_neg (fun e=>d23 b e hb),if_pos hb]
 ·intro i b hi hb
  replace hb:(if i = k then F' else Ft i) b:=hb
  rw [hlenP] at hi
  by_cases e:i = k
  ·rw [if_pos e] at hb
   show (if _ then _ else _) = 4+i
   rw [if_neg (gpn b (m4 b hb)),if_neg (tvn b (m4 b hb)),if_neg (fun e=>d24 b e hb),if_neg (fun e=>d34 b e hb),if_pos hb,e]
  ·rw [if_neg e] at hb
   have hlb:=h.l4 i b hi hb
   have hlt:=h.ltF hi b hb
   obtain ⟨a1,a2,a3,a4,a5⟩:=no b (4+i) hlb hlt (by omega) (by omega) (by omega) (by omega) (by omega)
   show (if _ then _ else _) = 4+i
   rw [if_neg a1,if_neg a2,if_neg a3,if_neg a4,if_neg a5,if_pos ⟨hlt,i,e,hi,hb⟩]
   exact hlb
 ·intro b hb
  have hlw:=h.low b hb
  have hlt:b < w.heap.size:=by omega
  obtain ⟨a1,a2,a3,a4,a5⟩:=no b (lab b) rfl hlt (by omega) (by omega) (by omega) (by omega) (by omega)
  show 1000≤(if _ then _ else _)
  rw [if_neg a1,if_neg a2,if_neg a3,if_neg a4,if_neg a5]
  split
  ·exact hlw
  ·exact Nat.le_refl _
 ·intro b hb
  replace hb:(if _ then _ else _) < 1000:=hb
  by_cases e0:b = gp
  ·left;rw [e0,l0];decide
  rw [if_neg e0] at hb
  by_cases e1:tv.v.ownBlock = some b
  ·left;rw [h.l1 b e1];decide
  rw [if_neg e1] at hb
  by_cases e2:bv'.v.ownBlock = some b
  ·exact (n2 b e2).imp (fun e=>by rw [e];decide) id
  rw [if_neg e2] at hb
  by_cases e3:b∈Fh'
  ·exact (n3 b e3).elim (fun e=>Or.inl (by rw [e];decide)) fun h=>h.imp (fun e=>by rw [e];omega) id
  rw [if_neg e3] at hb
  by_cases e4:F' b
  ·exact (n4 b e4).elim (fun e=>Or.inl (by rw [e];decide)) fun h=>h.imp (fun e=>by rw [e];omega) id
  rw [if_neg e4] at hb
  split at hb
  ·exact Or.inl hb
  ·omega
end
theorem broot_any (n:Nat) (hn:n < 24) (w:World):Calls Tryz.prog 14 #[.int .i64 (n:Int)] w fun en w'=>en = .returned (.tuple #[.agg (⟨0,0,(n:Int)⟩:Yj).l.toArray,.nilIface])∧Below w.heap.size w w':=by
 have h0:(0:Int)≤n:=by omega
 have h1:(n:Int) < 24:=by omega
 have e:wr (0+(n:Int)) = (n:Int):=by rw [Int.zero_add];exact wr_in (by omega) (by omega)
 have hA:=(Below.refl w.heap.size w).alloc (Nat.le_refl _) (.cells #[.int .i64 0,.int .i64 0,.int .i64 0] 54)
 have X:=Bk.at_ (w:=w) (g:=w.heap.size) (cs:=#[.int .i64 0,.int .i64 0,.int .i64 0]) (t:=54) rfl
 go_enter Tryz.func14,Tryz.ntmps14
 go_wp2_with (refine vM X ?_;intro w2 hst;have z0:=hst.bk.cell 0;have z1:=hst.bk.cell 1;have z2:=hst.bk.cell 2;simp at z0 z1 z2;have HB:=Lib.hid (hst.below hA (Nat.le_refl _));clear hst)
 refine bodyPost_ret (v:=.tuple #[.agg #[.int .i64 0,.int .i64 0,.int .i64 (n:Int)],.nilIface]) (by simp [results,Tryz.results14,go_sem,z0,z1,z2]) rfl ?_
 exact ⟨rfl,HB.out⟩
def NewOwn (w:World) (e:TypeId) (sz n:Nat) (xs:List Value) (en:Ending) (w':World):Prop :=
 ∃ v,en = .returned v∧Own w' e sz v n xs∧Below w.heap.size w w'∧(∀ b,v.ownBlock = some b→w.heap.size≤b)
theorem append_all (w:World) (t e:TypeId) (i:TypeInfo) (z:Value) (sz bytes:Nat) (ht:Tryz.prog.underlying t = some (.slice e)) (hi:Tryz.prog.info? e = some i) (hz:i.zero = some z)
  (hsize:i.size = sz) (hby:i.bytes = bytes) (hzs:z.cells.size = sz) (hsz:0 < sz) (g:Nat) (hg:Bk w g e #[]) (a:Addr) (m c:Nat) (news:List Value) (hl:news.length = m*sz) (hnews:∀ j u,news[j]? = some u→w.cell? (a.add j) = some u) (h1:∀ u∈news,u.oneCell' = true)
  (b1:m≤maxLen) (b2:m*bytes≤140737488355328) :
  ∃ v' w',(Builtin.append_ #[t,t] t #[.slice (some ⟨g,0,none⟩) 0 0,.slice (some a) m c]).run Tryz.prog w = .ok v' w'∧Own w' e sz v' m news∧w.grownBy w' none∧Fresh w (.slice (some ⟨g,0,none⟩) 0 0) v':=by
 have ho:Own w e sz (.slice (some ⟨g,0,none⟩) 0 0) 0 []:=⟨by simp,.inr ⟨g,0,0,[],[],rfl,by simpa using hg,rfl,Nat.le_refl _,by decide,by simp⟩⟩
 by_cases hm:m = 0
 ·subst hm
  obtain rfl:news = []:=List.eq_nil_of_length_eq_zero (by simpa using hl)
  refine ⟨_,w,?_,ho,grownBy_refl _ _,fun _ h=>Or.inl h⟩
  simp [Builtin.append_,run_underlying ht,sizeOf,typeInfo,hi,Builtin.lenOf,Builtin.firstCells,loadCells,loadCellsFrom,storeCells]
 ·obtain ⟨v',w',hr,hw⟩:=run_append_arg_grows (P:=Tryz.prog) w t t e i z sz bytes ht hi hz hsize hby hzs hsz ⟨g,0,none⟩ 0 0 [] (by simp) (fun j u hj=>by simp at hj) a m c news hl hnews (by omega) (by omega) (by simpa using b2)
  simp only [Nat.zero_add,List.nil_append] at hw
  refine ⟨v',w',hr,Own.of_row hw.1,hw.2,fun k hk=>Or.inr ?_⟩
  rcases hw.1.2 with ⟨rfl,_⟩ | ⟨g',cap,cur,rfl,hb,_⟩
  ·cases hk
  ·cases hk;exact hb
theorem beats_one (l:List Yh):∀ u∈rows Yh.l l,u.oneCell' = true:=by
 intro u hu
 unfold rows at hu
 obtain ⟨x,_,hx⟩:=List.mem_flatMap.1 hu
 exact beone x u hx
theorem cloneBeats_any (w:World) (A:Option Addr) (c:Nat) (l:List Yh) (h:Own w 42 10 (.slice A l.length c) l.length (rows Yh.l l)) (hl:l.length≤100000) :
  Calls Tryz.prog 27 #[.slice A l.length c] w (NewOwn w 42 10 l.length (rows Yh.l l)):=by
 cases A with
 | none =>
  have hn:l.length = 0∧c = 0:=by
   rcases h.2 with ⟨h',h0⟩ | ⟨g,off,cap,A,R,hv,_⟩
   ·injection h' with e1 e2 e3;exact ⟨h0,e3⟩
   ·cases hv
  obtain ⟨hn,rfl⟩:=hn
  have hnil:rows Yh.l l = []:=List.eq_nil_of_length_eq_zero (by rw [Yt belen,hn])
  rw [hnil,hn]
  have hq:∀ w,(binOp .eql 37 (.slice none 0 0) (.slice none 0 0)).run Tryz.prog w = .ok (.bool true) w:=fun w=>Lib.run_eql_slice_nil (P:=Tryz.prog) w 37 42 none 0 0 0 0 Tryz.underlying37
  go_enter Tryz.func27,Tryz.ntmps27
  go_wp2_with fail
  go_ret
  exact ⟨_,rfl,Own.nil,Below.refl _ _,fun b e=>by cases e⟩
 | some a =>
  obtain ⟨g,off,ha⟩:∃ g off,a = ⟨g,off,none⟩:=by
   rcases h.2 with ⟨h',h0⟩ | ⟨g,off,cap,A,R,hv,_⟩
   ·cases h'
   ·cases hv;exact ⟨_,_,rfl⟩
  subst ha
  have hq:∀ w,(binOp .eql 37 (.slice (some ⟨g,off,none⟩) l.length c) (.slice none 0 0)).run Tryz.prog w = .ok (.bool false) w:=fun w=>Lib.run_eql_slice_nil (P:=Tryz.prog) w 37 42 (some ⟨g,off,none⟩) l.length c 0 0 Tryz.underlying37
  obtain ⟨inf,hi,hz,hz1,hz2⟩:=info_parts infoBeat
  obtain ⟨v',w',hrun,ho,hgr,hf⟩:=append_all (w.alloc (.cells #[] 42)) 37 42 inf _ 10 72 Tryz.underlying37 hi hz hz1 hz2 rfl (by omega) w.heap.size (Bk.at_ rfl) ⟨g,off,none⟩ l.length c (rows Yh.l l) (Yt belen l)
   (fun j u hu=>by rw [Addr.add_lit];exact own_cells (h.alloc _) j u hu) (beats_one l) (by simp only [maxLen];omega) (by omega)
  have hB:Below w.heap.size w w':=((Below.refl _ _).alloc (Nat.le_refl _) _).trans (below_of_grown hgr (by simp) (by intro b e;cases e))
  have hF:∀ b,v'.ownBlock = some b→w.heap.size≤b:=fun b e=>by
   rcases hf b e with h1 | h1
   ·cases h1;exact Nat.le_refl _
   ·simp at h1;omega
  have HE:=Lib.hid (And.intro ho (And.intro hB hF));clear ho hB hF hgr hf h
  go_enter Tryz.func27,Tryz.ntmps27
  go_wp2_with (at_builtin;refine Ya (by rfl) _ _ _ _ _ _ _ (by rfl) (by rfl) (by rfl) hrun ?_)
  go_ret
  exact ⟨_,rfl,HE.out⟩
theorem beats_any {w:World} {gp gh:Nat} {P:MPa} {tv bv:GSl} {ro:List GRo} {Fh:List Nat} {Ft:Nat→Nat→Prop} {lab:Nat→Nat} (h:PaB w gp gh P tv bv ro Fh Ft lab) (hl:P.beats.length≤100000) :
  Calls Tryz.prog 11 #[.pointer (some ⟨gp,0,none⟩)] w (NewOwn w 42 10 P.beats.length (rows Yh.l P.beats)):=by
 obtain ⟨A,c,hv,_⟩:=Yq h.beo
 have ho:=h.beo
 rw [hv] at ho
 have hq:=cloneBeats_any w A c P.beats ho hl
 have c3:=h.bk.cell 3
 simp [hv] at c3
 clear h ho hv
 go_enter Tryz.func11,Tryz.ntmps11
 go_wp2_with fail
 refine hq.mono ?_
 rintro e w1 ⟨v,rfl,h1,h2,h3⟩
 go_wp2_with fail
 go_ret
 exact ⟨v,rfl,h1,h2,h3⟩
end Go.Proofs.YtaipogljokblkaaGreatDoor
