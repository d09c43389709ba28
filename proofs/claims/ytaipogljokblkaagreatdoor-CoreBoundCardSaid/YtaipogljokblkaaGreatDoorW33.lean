/- Core: QC, QD, QE, QN. -/
import Derived.Test.YtaipogljokblkaaGreatDoorW32
import Derived.Test.YtaipogljokblkaaGreatDoorW01
import Derived.Lib.SliceRun
set_option linter.all false
set_option maxRecDepth 100000
set_option maxHeartbeats 8000000
namespace Go.Proofs.YtaipogljokblkaaGreatDoor
open Go Go.RowKit
set_option linter.unusedSimpArgs false
set_option linter.unusedVariables false
set_option linter.unusedSectionVars false
section
variable{w w':World}{gp gh:Nat}{P:Ar}{tv bv:BB}{ro:List Fy}{Fh:List Nat}{Ft:Nat->Nat->Prop}{lab:Nat->Nat}
theorem Eh.tvn(h:Eh w gp gh P tv bv ro Fh Ft lab):tv.n=P.AB.length:=by
 rw[←h.len];obtain⟨A,c,hv,_⟩:=Ys h.K5;unfold BB.v at hv;injection hv with h1 h2 h3
theorem Eh.WR(h:Eh w gp gh P tv bv ro Fh Ft lab){i:Nat}(hi:i<P.AB.length):∃g off c,tv=⟨some ⟨g,off,none⟩,P.AB.length,c⟩/\∃hr:i<ro.length,w.rangeAt g (off+i*4) ro[i].l:=by
 have hr:i<ro.length:=by rw[h.len];exact hi
 obtain⟨g,off,cap,hv,h1⟩:=EC h.K5 Zo;have ho:=h.K5;rw[hv] at ho;refine⟨g,off,cap,?_,hr,λj u hu=>?_⟩
 ·rw[←h.len];cases tv;unfold BB.v at hv;injection hv with h1 h2 h3;subst h1;subst h2;subst h3;rfl
 ·rw[Nat.add_assoc];exact BW ho _ _ (Gz Us ro i hr j u hu)
theorem L4(h:Eh w gp gh P tv bv ro Fh Ft lab)(k:Int):Calls Tryz.prog 24 #[.pointer (some ⟨gp,0,none⟩),.int .i64 k] w λen w'=>en=.returned (.bool (P.has k))/\w=w':=by
 have c2:=h.bk.cell 2;simp at c2;have hn:=h.tvn;obtain⟨a,n,c⟩:=tv;simp only at hn;subst hn;simp only[BB.v] at c2;unfold Ar.has;clear h;by_cases h0:0<=k
 ·go_enter Tryz.func24,Tryz.ntmps24;go_wp2;go_ret;simp[h0]
 ·go_enter Tryz.func24,Tryz.ntmps24;go_wp2;go_ret;simp;omega
theorem ZE{w:World}{gv:Nat}{V:MV}{F:Nat->Prop}(h:VB w gv V F):Calls Tryz.prog 35 #[.pointer (some ⟨gv,0,none⟩)] w λen w'=>en=.returned (.bool V.busy)/\Below w.heap.size w w':=by
 obtain⟨gr,jv,F1,h1,h2,h3,h4⟩:=h;refine(bZ (Φ:=GL.no) (F:=λ_=>False) (Gv V) ⟨gr,0,none⟩ jv gv w h1 h2.one (λ_ h=>h) (λh=>h) (λ_ h=>h.elim)).mono λen w' hp=>?_;obtain⟨p1,p2,p3,_⟩:=hp;refine⟨p1,p3.os,p3.tape,p3.output,p3.size,λb hb=>?_⟩;by_cases e:b=gv
 ·subst e;unfold Bk at h1 p2;rw[h1,p2]
 ·exact p3.Av b hb λh=>h.elim e id
theorem OJ(h:Eh w gp gh P tv bv ro Fh Ft lab){k:Nat}{T:MT}(hT:P.AB[k]?=some T):Calls Tryz.prog 26 #[.pointer (some ⟨gp,0,none⟩),.int .i64 (k:Int)] w λen w'=>en=.returned (.bool (Ar.DT T))/\Below w.heap.size w w':=by
 have hk:k<P.AB.length:=by
  rcases Nat.lt_or_ge k P.AB.length with h|h
  ·exact h
  ·rw[List.getElem?_eq_none h] at hT;cases hT
 have hhas:P.has (k:Int)=true:=by unfold Ar.has;simp;omega
 have h1:=L4 h (k:Int);rw[hhas] at h1;obtain⟨g,off,c,rfl,hr,hc⟩:=h.WR hk;have hth:=h.th k ro[k] T (List.getElem?_eq_getElem hr) hT;obtain⟨t1,t2,Fv,hv,hq,_⟩:=hth;obtain⟨qa,qc,hqv,_⟩:=Ys hq;have c2:=h.bk.cell 2;simp[BB.v] at c2;have r0:=hc 0 _ rfl;have r1:=hc 1 _ rfl;simp[Fy.l,hqv] at r0 r1;have hb:=ZE hv;have HH:=Zh h;have hce:((T.queue.length:Int)==0)=T.queue.isEmpty:=by cases T.queue<;>simp<;>omega
 unfold Ar.DT;clear h hc hv hq hqv t1 t2;generalize T.V.busy=b at*;generalize hgk:ro[k]=rk at*;go_enter Tryz.func26,Tryz.ntmps26;cases b with
 |true=>
  go_wp2_with (first|(go_at_call 24;refine h1.mono ?_;rintro e w1 ⟨rfl,rfl⟩)|(go_at_call 35;refine hb.mono ?_;rintro e w2 ⟨rfl,hb2⟩));go_ret;exact⟨rfl,hb2⟩
 |false=>
  go_wp2_with (first|(go_at_call 24;refine h1.mono ?_;rintro e w1 ⟨rfl,rfl⟩)|(go_at_call 35;refine hb.mono ?_;rintro e w2 ⟨rfl,hb2⟩;have d2:=(hb2.cell (p:=⟨gp,2,none⟩) HH.out.bk.lt).trans c2;have d1:=(hb2.cell (p:=⟨g,off+k*4+1,none⟩) (HH.out.K5.lt rfl)).trans r1));go_ret;exact⟨rfl,hb2⟩
end
theorem QD{α:Type}{f:α->List Value}{sz:Nat}(hf:∀x,(f x).length=sz):∀(l:List α) (k:Nat) (hk:k<l.length) (j:Nat) (u:Value) (x:α),f x=(f l[k]).set j u->j<sz->rows f (l.set k x)=(rows f l).set (k*sz+j) u
 |[],k,hk,_,_,_,_,_=>by simp at hk
 |p::l,0,_,j,u,x,hx,hj=>by
  simp only[List.set_cons_zero,DN,Nat.zero_mul,Nat.zero_add];rw[List.set_append_left _ _ (by rw[hf];exact hj),hx];rfl
 |p::l,k+1,hk,j,u,x,hx,hj=>by
  simp only[List.set_cons_succ,DN];rw[QD hf l k (by simpa using hk) j u x (by simpa using hx) hj,List.set_append_right _ _ (by rw[hf,Nat.add_mul];omega)];congr 2;rw[hf,Nat.add_mul];omega
theorem NC{α:Type}{f:α->List Value}{sz:Nat}{E:TypeId}(hf:∀x,(f x).length=sz){w:World}{g off cap:Nat}{l:List α}(h:Own w E sz (.slice (some ⟨g,off,none⟩) l.length cap) l.length (rows f l))(k:Nat)(hk:k<l.length)(j:Nat)(u:Value)(x:α)(hx:f x=(f l[k]).set j u)(hj:j<sz):
  Own (w.setCell ⟨g,off+k*sz+j,none⟩ u) E sz (.slice (some ⟨g,off,none⟩) (l.set k x).length cap) (l.set k x).length (rows f (l.set k x)):=by
 have hlen:(l.set k x).length=l.length:=List.length_set
 have hr:=QD hf l k hk j u x hx hj
 refine⟨by rw[Yx hf],.inr ?_⟩
 rcases h.2 with⟨h0,_⟩|⟨g',off',cap',A,R,hv,hb,ho,hc,hm,hs⟩
 ·cases h0
 ·cases hv;subst ho;refine⟨g,A.length,cap,A,R,by rw[hlen],?_,rfl,by rw[hlen];exact hc,hm,by rw[hr,List.length_set];exact hs⟩;refine Yu (hb.E3 _ u) ?_;rw[hr];have hkl:k*sz+j<(rows f l).length:=by
   rw[Yx hf];have:(k+1)*sz<=l.length*sz:=Nat.mul_le_mul_right _ hk;rw[Nat.add_mul] at this;omega
  simp only[List.setIfInBounds_toArray];rw[List.set_append_right _ _ Zo,show A.length+k*sz+j-A.length=k*sz+j from by omega,List.set_append_left _ _ hkl]
section
variable{w w2:World}{gp gh:Nat}{P P':Ar}{tv bv bv':BB}{ro ro':List Fy}{Fh Fh':List Nat}{Ft:Nat->Nat->Prop}{lab:Nat->Nat}{k:Nat}{T':MT}{r':Fy}{F':Nat->Prop}
open Classical in
theorem Eh.Ah(h:Eh w gp gh P tv bv ro Fh Ft lab)(hk:k<P.AB.length)(hths:P'.AB=P.AB.set k T')(hro:ro'=ro.set k r')(hst:P'.st=P.st)
  (bk:Bk w2 gp 74 #[.int .i64 P.st,.pointer (some ⟨gh,0,none⟩),tv.v,bv'.v])(K5:Own w2 79 4 tv.v ro'.length (rows Fy.l ro'))(Kw:Own w2 42 10 bv'.v P'.A4.length (rows Yp.l P'.A4))(hp:PQ w2 gh P'.heap Fh')(th:jK w2 r' T' F')
  (Av:∀i b,i≠k->i<P.AB.length->Ft i b->w2.heap[b]?=w.heap[b]?)(hsz:w.heap.size<=w2.heap.size)(h40:7<=w.heap.size)
  (n2:∀b,bv'.v.ownBlock=some b->lab b=2\/w.heap.size<=b)(n3:∀b∈Fh',lab b=3\/lab b=4+k\/w.heap.size<=b)(n4:∀b,F' b->lab b=3\/lab b=4+k\/w.heap.size<=b)
  (d23:∀b,bv'.v.ownBlock=some b->b∉Fh')(d24:∀b,bv'.v.ownBlock=some b->¬F' b)(d34:∀b∈Fh',¬F' b):
  ∃Ft' lab',Eh w2 gp gh P' tv bv' ro' Fh' Ft' lab'/\∀b,lab' b<1000->lab b<1000\/w.heap.size<=b:=by
 have lgp:=h.bk.lt
 have l0:=h.l0
 have Md:=h.Md
 have ltv:∀b,tv.v.ownBlock=some b->b<w.heap.size:=λb hb=>h.K5.lt hb
 have hl:∀i r T,ro'[i]?=some r->P'.AB[i]?=some T->i=k/\r=r'/\T=T'\/i≠k/\ro[i]?=some r/\P.AB[i]?=some T:=λi r T h1 h2=>by
  rw[hro] at h1;rw[hths] at h2;by_cases e:i=k
  ·subst e;left;have hr:i<ro.length:=by rw[h.len];exact hk
   rw[List.getElem?_set_self hr] at h1;rw[List.getElem?_set_self hk] at h2;cases h1;cases h2;exact⟨rfl,rfl,rfl⟩
  ·right;rw[List.getElem?_set_ne (λh=>e h.symm)] at h1;rw[List.getElem?_set_ne (λh=>e h.symm)] at h2;exact⟨e,h1,h2⟩
 have hlenP:P'.AB.length=P.AB.length:=by rw[hths,List.length_set]
 let lab':Nat->Nat:=λb=>if b=gp then 0 else if tv.v.ownBlock=some b then 1 else if bv'.v.ownBlock=some b then 2 else if b∈Fh' then 3 else if F' b then 4+k else if b<w.heap.size/\∃i,i≠k/\i<P.AB.length/\Ft i b then lab b else 1000
 have no:∀b c,lab b=c->b<w.heap.size->c≠0->c≠1->c≠2->c≠3->c≠4+k->b≠gp/\¬tv.v.ownBlock=some b/\¬bv'.v.ownBlock=some b/\b∉Fh'/\¬F' b:=λb c e hb c0 c1 c2 c3 c4=>
  ⟨λe'=>c0 (by rw[←e,e',l0]),λe'=>c1 (by rw[←e,h.l1 b e']),λe'=>(n2 b e').elim (λe'=>c2 (by rw[←e,e'])) (λ_=>by omega),λe'=>(n3 b e').elim (λe'=>c3 (by rw[←e,e'])) (λh=>h.elim (λe'=>c4 (by rw[←e,e'])) (λ_=>by omega)),λe'=>(n4 b e').elim (λe'=>c3 (by rw[←e,e'])) (λh=>h.elim (λe'=>c4 (by rw[←e,e'])) (λ_=>by omega))⟩
 have gpn:∀b,(lab b=2\/lab b=3\/lab b=4+k\/w.heap.size<=b)->b≠gp:=λb hb e=>by
  rw[e,l0] at hb;omega
 have tvn:∀b,(lab b=2\/lab b=3\/lab b=4+k\/w.heap.size<=b)->¬tv.v.ownBlock=some b:=λb hb e=>by
  have:=ltv b e;rw[h.l1 b e] at hb;omega
 have m2:∀b,bv'.v.ownBlock=some b->(lab b=2\/lab b=3\/lab b=4+k\/w.heap.size<=b):=λb hb=>(n2 b hb).imp id λh=>Or.inr (Or.inr h)
 have m3:∀b,b∈Fh'->(lab b=2\/lab b=3\/lab b=4+k\/w.heap.size<=b):=λb hb=>Or.inr (n3 b hb)
 have m4:∀b,F' b->(lab b=2\/lab b=3\/lab b=4+k\/w.heap.size<=b):=λb hb=>Or.inr (n4 b hb)
 refine⟨λi=>if i=k then F' else Ft i,lab',⟨by rw[hst];exact bk,K5,Kw,hp,?_,?_,?_,?_,?_,?_,?_,?_,by rw[hlenP];exact Md⟩,?_⟩
 ·rw[hro,List.length_set,hlenP];exact h.len
 ·intro i r T h1 h2;rcases hl i r T h1 h2 with⟨e,rfl,rfl⟩|⟨e,h1,h2⟩
  ·show jK _ _ _ (if i=k then F' else Ft i);rw[if_pos e];exact th
  ·show jK _ _ _ (if i=k then F' else Ft i);rw[if_neg e];have hi:i<P.AB.length:=by
    rcases Nat.lt_or_ge i P.AB.length with h|h
    ·exact h
    ·rw[List.getElem?_eq_none h] at h2;cases h2
   exact(h.th i r T h1 h2).A5 λb hb=>Av i b e hi hb
 ·exact if_pos rfl
 ·intro b hb;have:b≠gp:=λe=>by have:=h.l1 b hb;rw[e,l0] at this;omega
  show(if _ then _ else _)=1;rw[if_neg this,if_pos hb]
 ·intro b hb;show(if _ then _ else _)=2;rw[if_neg (gpn b (m2 b hb)),if_neg (tvn b (m2 b hb)),if_pos hb]
 ·intro b hb;show(if _ then _ else _)=3;rw[if_neg (gpn b (m3 b hb)),if_neg (tvn b (m3 b hb)),if_neg (λe=>d23 b e hb),if_pos hb]
 ·intro i b hi hb;replace hb:(if i=k then F' else Ft i) b:=hb;rw[hlenP] at hi;by_cases e:i=k
  ·rw[if_pos e] at hb;show(if _ then _ else _)=4+i;rw[if_neg (gpn b (m4 b hb)),if_neg (tvn b (m4 b hb)),if_neg (λe=>d24 b e hb),if_neg (λe=>d34 b e hb),if_pos hb,e]
  ·rw[if_neg e] at hb;have hlb:=h.l4 i b hi hb;have hlt:=h.aP hi b hb;obtain⟨a1,a2,a3,a4,a5⟩:=no b (4+i) hlb hlt Zo Zo Zo Zo Zo;show(if _ then _ else _)=4+i;rw[if_neg a1,if_neg a2,if_neg a3,if_neg a4,if_neg a5,if_pos ⟨hlt,i,e,hi,hb⟩];exact hlb
 ·intro b hb;have hlw:=h.low b hb;have hlt:b<w.heap.size:=Zo;obtain⟨a1,a2,a3,a4,a5⟩:=no b (lab b) rfl hlt Zo Zo Zo Zo Zo;show 1000<=(if _ then _ else _);rw[if_neg a1,if_neg a2,if_neg a3,if_neg a4,if_neg a5];split
  ·exact hlw
  ·exact Nat.le_refl _
 ·intro b hb;replace hb:(if _ then _ else _)<1000:=hb;by_cases e0:b=gp
  ·left;rw[e0,l0];decide
  rw[if_neg e0] at hb;by_cases e1:tv.v.ownBlock=some b
  ·left;rw[h.l1 b e1];decide
  rw[if_neg e1] at hb;by_cases e2:bv'.v.ownBlock=some b
  ·exact(n2 b e2).imp (λe=>by rw[e];decide) id
  rw[if_neg e2] at hb;by_cases e3:b∈Fh'
  ·exact(n3 b e3).elim (λe=>Or.inl (by rw[e];decide)) λh=>h.imp (λe=>by rw[e];omega) id
  rw[if_neg e3] at hb;by_cases e4:F' b
  ·exact(n4 b e4).elim (λe=>Or.inl (by rw[e];decide)) λh=>h.imp (λe=>by rw[e];omega) id
  rw[if_neg e4] at hb;split at hb
  ·exact Or.inl hb
  ·omega
end
theorem FQ{w w':World}{b:Nat}(h:w'.heap[b]?=w.heap[b]?)(o:Nat):w'.cell? ⟨b,o,none⟩=w.cell? ⟨b,o,none⟩:=by
 unfold World.cell?;rw[h]
theorem O6{w:World}{E:TypeId}{sz n g off cap:Nat}{xs:List Value}(h:Own w E sz (.slice (some ⟨g,off,none⟩) n cap) n xs)(i:Nat):w.frozen? ⟨g,i,none⟩=false:=by
 rcases h.2 with⟨h0,_⟩|⟨g',off',cap',A,R,hv,hb,_⟩
 ·cases h0
 ·cases hv;exact hb.free i
def xS(w:World)(gp gh:Nat)(P:Ar)(lab:Nat->Nat)(w':World):Prop:=
 ∃tv bv ro Fh Ft lab',Eh w' gp gh P tv bv ro Fh Ft lab'/\CG (λb=>lab b<1000) w w'/\∀b,lab' b<1000->lab b<1000\/w.heap.size<=b
def Ar.queue(P:Ar)(k:Nat)(T:MT)(o:Bl):Ar:={P with AB:=P.AB.set k {T with queue:=T.queue++[o],Cs:=T.Cs+1}}
theorem fN{w:World}{gp gh:Nat}{P:Ar}{tv bv:BB}{ro:List Fy}{Fh:List Nat}{Ft:Nat->Nat->Prop}{lab:Nat->Nat}(h:Eh w gp gh P tv bv ro Fh Ft lab)(he:AO w){k:Nat}{T:MT}(hT:P.AB[k]?=some T)(o:Bl)(hf:GM P.st o)(g0:0<=T.Cs)(g64:T.Cs<64)(hql:T.queue.length<=100000):
  Calls Tryz.prog 9 #[.pointer (some ⟨gp,0,none⟩),.int .i64 (k:Int),.agg o.l.toArray] w λen w'=>en=.returned .nilIface/\xS w gp gh (P.queue k T o) lab w':=by
 have hk:k<P.AB.length:=by
  rcases Nat.lt_or_ge k P.AB.length with h|h
  ·exact h
  ·rw[List.getElem?_eq_none h] at hT;cases hT
 have hhas:P.has (k:Int)=true:=by unfold Ar.has;simp;omega
 obtain⟨kk,key,val,Aj⟩:=o
 show Calls Tryz.prog _ #[.pointer (some ⟨gp,0,none⟩),.int .i64 (k:Int),.agg #[.int .i64 kk,.int .i64 key,.int .i64 val,.int .i64 Aj]] w _
 obtain⟨g,off,c,rfl,hr,_⟩:=h.WR hk
 have hal:Below w.heap.size w (w.alloc (.cells #[.int .i64 kk,.int .i64 key,.int .i64 val,.int .i64 Aj] 35)):=(Below.refl _ _).alloc (Nat.le_refl _) _
 have HP:=Zh (h.cut.below hal)
 have HE:=Zh (he.below hal)
 have HX:=Zh (Bk.at_ (w:=w) (g:=w.heap.size) (cs:=#[.int .i64 kk,.int .i64 key,.int .i64 val,.int .i64 Aj]) (t:=35) rfl)
 have HC:=Zh hal
 have HF:=Zh hf
 have h40:=he.lt
 clear h he hal hf
 go_enter Tryz.func9,Tryz.ntmps9
 go_wp2
 generalize w.alloc (.cells #[.int .i64 kk,.int .i64 key,.int .i64 val,.int .i64 Aj] 35)=W at*
 have hh:∀w',Below W.heap.size W w'->Calls Tryz.prog 24 #[.pointer (some ⟨gp,0,none⟩),.int .i64 (k:Int)] w' (λen w''=>en=.returned (.bool true)/\w'=w''):=λw' hC=>by have:=L4 (HP.out.below hC) (k:Int);rwa [hhas] at this
 (refine IT ((λw':World=>Below W.heap.size W w')) Zk Zk ((Below.refl _ _).drew) ?_;(repeat (first|go_big_quiet_skip|(go_big_quiet_want;first|(go_big_quiet_op;go_big_quiet_on)|(apply Exists.intro;refine⟨λw' hC=>?_,?_⟩;(· ((have q0:=(HP.out.below hC).bk.cell 0;simp at q0;have y0:=(HX.out.Ad hC).cell 0;have y1:=(HX.out.Ad hC).cell 1;have y2:=(HX.out.Ad hC).cell 2;have y3:=(HX.out.Ad hC).cell 3;simp at y0 y1 y2 y3);go_simp;first|done|rfl|exact⟨rfl,rfl⟩|((first|(go_at_call 24;(refine(hh w' hC).mono ?_);rintro e w'' ⟨rfl,rfl⟩;exact⟨rfl,hC⟩)|(go_at_call 25;(with_reducible refine(qE HF.out (HE.out.below hC)).mono ?_);rintro e w'' ⟨rfl,hb⟩;exact⟨rfl,hC.trans (hb.mono hC.size)⟩)))));go_big_quiet_on;simp only[ZL]))));refine wpQuiet_nil ?_;intro w' hC)
 have HP1:=Zh (HP.out.below hC)
 have HX1:=Zh (HX.out.Ad hC)
 have HC1:=Zh (HC.out.trans (hC.mono HC.out.size))
 have hgx1:w.heap.size<w'.heap.size:=HX1.out.lt
 clear HP HE HX HC hC hh HF
 generalize w'=W1 at*
 clear W w'
 obtain⟨g',off',c',he',hr',hrow⟩:=HP1.out.WR hk
 cases he'
 have hth:=HP1.out.th k ro[k] T (List.getElem?_eq_getElem hr) hT
 obtain⟨t1,t2,Fv,hv,hq,hqF⟩:=hth
 have c2:=HP1.out.bk.cell 2
 simp[BB.v] at c2
 have r1:=hrow 1 _ rfl;have r2:=hrow 2 _ rfl
 simp[Fy.l,t1] at r1 r2
 have HT:=Zh (And.intro t1 (And.intro t2 (And.intro hv (And.intro hq hqF))))
 clear t1 t2 hv hq hqF hrow
 go_wp2
 have hqo:=HT.out.2.2.2.1
 obtain⟨u,w7,hrun,ho,hg,hfr⟩:=O5 (W1.drew.alloc (.cells #[.int .i64 kk,.int .i64 key,.int .i64 val,.int .i64 Aj] 35)) ro[k].q.v T.queue (hqo.drew.alloc _) hql ⟨kk,key,val,Aj⟩ W1.heap.size (Bk.at_ rfl) 22
 obtain⟨ua,uc,rfl,_⟩:=Ys ho
 have e1:=HP1.out.l0
 have Md:=HP1.out.Md
 have lq:∀b,ro[k].q.v.ownBlock=some b->(if b<w.heap.size then lab b else 1000)=4+k:=λb hb=>HP1.out.l4 k b hk ((HT.out.2.2.2.2.2 b).2 (Or.inr hb))
 have lg:(if g<w.heap.size then lab g else 1000)=1:=HP1.out.l1 g rfl
 have ngq:ro[k].q.v.ownBlock≠some g:=λe=>by have:=lq g e;omega
 have ngx:ro[k].q.v.ownBlock≠some w.heap.size:=λe=>by have:=lq _ e;rw[if_neg Zo] at this;omega
 have hgl:g<W1.heap.size:=HP1.out.K5.lt rfl
 have X7:Bk w7 w.heap.size 35 #[.int .i64 kk,.int .i64 key,.int .i64 val,.int .i64 Aj]:=(HX1.out.drew.alloc _).grown hg (λe=>ngx e.symm)
 have cg:∀i,w7.cell? ⟨g,i,none⟩=W1.cell? ⟨g,i,none⟩:=λi=>(FQ (hg.block g (by simp;omega) (λe=>ngq e.symm)) i).trans (World.cell?_alloc_lt W1.drew _ ⟨g,i,none⟩ (by simpa using hgl))
 have r1':=(cg (off+k*4+1)).trans r1
 have r2':=(cg (off+k*4+2)).trans r2
 have T7:=HP1.out.K5.drew.alloc (.cells #[.int .i64 kk,.int .i64 key,.int .i64 val,.int .i64 Aj] 35)
 replace T7:=T7.grown hg (Or.inr λe=>ngq (by rw[←e];rfl))
 have ef:ro.length=P.AB.length:=HP1.out.len
 rw[ef] at T7
 have f1:=O6 T7 (off+k*4+1)
 have HO:=Zh (And.intro ho (And.intro hg hfr))
 clear ho hg hfr hqo
 generalize hfl:(T.queue++[(⟨kk,key,val,Aj⟩:Bl)]).length=fl at*
 refine Yb (λw'=>Bk w' w.heap.size 35 #[.int .i64 kk,.int .i64 key,.int .i64 val,.int .i64 Aj]/\w'.cell? ⟨g,off+k*4+1,none⟩=some ro[k].q.v) 8 Zk ⟨HX1.out.drew,r1⟩ (λhS=>?_)
 ((try simp only[ZL]);refine vT (fuel:=5) hS [0,1,2,3,4,5] ?_;simp only[Xv,Xp,List.toList_toArray];(repeat (first|go_big_quiet_skip|(go_big_quiet_want;first|(go_big_quiet_op;go_big_quiet_on)|(apply Exists.intro;refine⟨λw' hS'=>?_,?_⟩;(· ((have q0:=hS'.2;have y0:=hS'.1.cell 0;have y1:=hS'.1.cell 1;have y2:=hS'.1.cell 2;have y3:=hS'.1.cell 3;simp at y0 y1 y2 y3);go_simp;first|done|rfl|exact⟨rfl,rfl⟩));go_big_quiet_on;simp only[ZL]))));refine wpQuiet_nil ?_;(try dsimp only))
 (refine Xh 6 Zk (λK hK=>?_);simp only[Xp,List.toList_toArray])
 go_wp2_with fail
 refine hK.out _ _ (λ_=>⟨HX1.out.drew.alloc _,(World.cell?_alloc_lt W1.drew _ ⟨g,off+k*4+1,none⟩ (by simpa using hgl)).trans r1⟩) ?_
 clear hK hS
 have hS:=And.intro (HX1.out.drew.alloc (.cells #[.int .i64 kk,.int .i64 key,.int .i64 val,.int .i64 Aj] 35)) ((World.cell?_alloc_lt W1.drew (.cells #[.int .i64 kk,.int .i64 key,.int .i64 val,.int .i64 Aj] 35) ⟨g,off+k*4+1,none⟩ (by simpa using hgl)).trans r1)
 (refine Xh 7 Zk (λK hK=>?_);simp only[Xp,List.toList_toArray])
 go_wp2_with (at_builtin;refine Ye Zr _ _ _ _ _ _ _ Zr Zr Zr hrun ?_)
 refine hK.out _ _ (λ_=>⟨X7,r1'⟩) ?_
 clear hK hS
 have hS:=And.intro X7 r1'
 ((refine Xh 8 Zk (λK hK=>?_);simp only[Xp,List.toList_toArray]);go_wp2_with fail;refine hK.out _ _ (λh=>absurd h Zo) ?_;clear hK)
 ((refine Xh 9 Zk (λK hK=>?_);simp only[Xp,List.toList_toArray]);go_wp2_with fail;refine hK.out _ _ (λh=>absurd h Zo) ?_;clear hK)
 (refine Xh 10 Zk (λK hK=>?_);simp only[Xp,List.toList_toArray])
 go_wp2
 refine hK.out _ _ (λh=>absurd h Zo) ?_
 clear hK hS
 refine Yg Zk ?_ _
 rw[←ef] at T7
 have T8:=NC Us T7 k hr 1 (.slice ua fl uc) {ro[k] with q:=⟨ua,fl,uc⟩} rfl Zd
 have T9:=NC Us T8 k (by rw[List.length_set];exact hr) 2 (.int .i64 (T.Cs+1)) {ro[k] with q:=⟨ua,fl,uc⟩,Cs:=T.Cs+1} (by rw[List.getElem_set_self];rfl) Zd
 have f2:=O6 T8 (off+k*4+2)
 have r2'':(w7.setCell ⟨g,off+k*4+1,none⟩ (.slice ua fl uc)).cell? ⟨g,off+k*4+2,none⟩=some (.int .i64 T.Cs):=(World.cell?_setCell_other (w:=w7) (a:=⟨g,off+k*4+1,none⟩) (b:=⟨g,off+k*4+2,none⟩) (v:=.slice ua fl uc) (λh=>by injection h with h1 h2 h3;omega)).trans r2'
 have HT9:=Zh T9
 clear T7 T8 T9 f1 r1' r2' cg X7
 generalize hW8:w7.setCell ⟨g,off+k*4+1,none⟩ (.slice ua fl uc)=W8 at*
 go_wp2
 go_ret
 generalize hW9:W8.setCell ⟨g,off+k*4+2,none⟩ (.int .i64 (T.Cs+1))=W9 at*
 have hz7:W1.heap.size+1<=w7.heap.size:=by have:=HO.out.2.1.size;simpa using this
 have hz9:W9.heap.size=w7.heap.size:=by rw[←hW9,←hW8];simp[World.setCell]
 have g78:=Xr w7 g (off+k*4+1) (.slice ua fl uc)
 rw[hW8] at g78
 have g89:=Xr W8 g (off+k*4+2) (.int .i64 (T.Cs+1))
 rw[hW9] at g89
 have hz8:w7.heap.size<=W8.heap.size:=g78.size
 have Av:∀b,b<W1.heap.size->b≠g->ro[k].q.v.ownBlock≠some b->W9.heap[b]?=W1.heap[b]?:=λb hb h1 h2=>
  (g89.block b Zo (λe=>h1 (by cases e;rfl))).trans ((g78.block b Zo (λe=>h1 (by cases e;rfl))).trans ((HO.out.2.1.block b (by simp;omega) (λe=>h2 e.symm)).trans (Below.heap_alloc W1.drew _ b hb)))
 have ub:∀b,(Value.slice ua fl uc).ownBlock=some b->ro[k].q.v.ownBlock=some b\/W1.heap.size<=b:=λb hb=>(HO.out.2.2 b hb).imp id λh=>by simp at h;omega
 have lbl:∀b c,(if b<w.heap.size then lab b else 1000)=c->c≠1->c≠4+k->b<W1.heap.size->W9.heap[b]?=W1.heap[b]?:=λb c e c1 c4 hb=>Av b hb (λe'=>c1 (by rw[←e,e',lg])) λe'=>c4 (by rw[←e,lq b e'])
 have hu:∀b,(Value.slice ua fl uc).ownBlock=some b->(if b<w.heap.size then lab b else 1000)=4+k\/W1.heap.size<=b:=λb hb=>(ub b hb).imp (lq b) id
 have hung:(Value.slice ua fl uc).ownBlock≠some g:=λe=>(ub g e).elim ngq λh=>by omega
 have hFv:∀b,Fv b->(if b<w.heap.size then lab b else 1000)=4+k:=λb hb=>HP1.out.l4 k b hk ((HT.out.2.2.2.2.2 b).2 (Or.inl hb))
 have hFlt:∀b,Fv b->b<W1.heap.size:=HT.out.2.2.1.lt
 have K5:=HT9.out
 rw[List.set_set,List.length_set,ef] at K5
 obtain⟨Ft',lab',p1,p2⟩:=HP1.out.Ah (w2:=W9) (P':=P.queue k T ⟨kk,key,val,Aj⟩) (bv':=bv) (Fh':=Fh) (ro':=ro.set k {ro[k] with q:=⟨ua,fl,uc⟩,Cs:=T.Cs+1}) (F':=λb=>Fv b\/(Value.slice ua fl uc).ownBlock=some b) (T':={T with queue:=T.queue++[⟨kk,key,val,Aj⟩],Cs:=T.Cs+1}) (r':={ro[k] with q:=⟨ua,fl,uc⟩,Cs:=T.Cs+1}) hk rfl rfl rfl
  (HP1.out.bk.same (lbl gp 0 HP1.out.l0 Zd Zo HP1.out.bk.lt)) (by rw[List.length_set,ef];exact K5) (HP1.out.Kw.kept λb hb=>lbl b 2 (HP1.out.l2 b hb) Zd Zo (HP1.out.Kw.lt hb))
  (HP1.out.hp.same λb hb=>lbl b 3 (HP1.out.l3 b hb) Zd Zo (HP1.out.hp.lt b hb))
  ⟨rfl,HT.out.2.1,Fv,HT.out.2.2.1.A5 fun b hb=>Av b (hFlt b hb) (fun e=>by have:=hFv b hb;rw [e,lg] at this;omega) (HT.out.2.2.2.2.1 b hb),by show Own W9 _ 4 _ (T.queue++[_]).length _;rw [hfl];exact (HO.out.1.grown g78 (Or.inr hung)).grown g89 (Or.inr hung),
   λb hb e=>(ub b e).elim (HT.out.2.2.2.2.1 b hb) λh=>by have:=hFlt b hb;omega,λ_=>Iff.rfl⟩
  (λi b hi hl hb=>lbl b (4+i) (HP1.out.l4 i b hl hb) Zo Zo (HP1.out.aP hl b hb)) Zo Zo
  (λb hb=>Or.inl (HP1.out.l2 b hb)) (λb hb=>Or.inl (HP1.out.l3 b hb)) (λb hb=>Or.inr (hb.elim (λh=>Or.inl (hFv b h)) (hu b)))
  (λb h2 h3=>by have:=HP1.out.l2 b h2;have:=HP1.out.l3 b h3;omega)
  (λb h2 h4=>by have h2':=HP1.out.l2 b h2;exact h4.elim (λh4=>by have:=hFv b h4;omega) λh4=>(hu b h4).elim (λh=>by omega) λh=>by have:=HP1.out.Kw.lt h2;omega)
  (λb h3 h4=>by have h3':=HP1.out.l3 b h3;exact h4.elim (λh4=>by have:=hFv b h4;omega) λh4=>(hu b h4).elim (λh=>by omega) λh=>by have:=HP1.out.hp.lt b h3;omega)
 have hzw:w.heap.size<=W1.heap.size:=HC1.out.size
 refine⟨rfl,_,_,_,_,_,_,p1,⟨g89.os.trans (g78.os.trans (HO.out.2.1.os.trans HC1.out.os)),g89.tape.trans (g78.tape.trans (HO.out.2.1.tape.trans HC1.out.tape)),g89.output.trans (g78.output.trans (HO.out.2.1.output.trans HC1.out.output)),by omega,λb hb hf=>?_⟩,λb hb=>?_⟩
 ·refine(Av b Zo (λe=>hf ?_) λe=>hf ?_).trans (HC1.out.block b hb)
  ·have:=lg;rw[←e,if_pos hb] at this;omega
  ·have:=lq b e;rw[if_pos hb] at this;omega
 ·rcases p2 b hb with h|h
  ·by_cases hx:b<w.heap.size
   ·rw[if_pos hx] at h;exact Or.inl h
   ·exact Or.inr Zo
  ·exact Or.inr Zo
def Ta(w:World)(e:TypeId)(sz n:Nat)(xs:List Value)(en:Ending)(w':World):Prop:=
 ∃v,en=.returned v/\Own w' e sz v n xs/\Below w.heap.size w w'/\(∀b,v.ownBlock=some b->w.heap.size<=b)
theorem Py(w:World)(t e:TypeId)(i:TypeInfo)(z:Value)(sz bytes:Nat)(ht:Tryz.prog.underlying t=some (.slice e))(hi:Tryz.prog.info? e=some i)(hz:i.zero=some z)
  (hsize:i.size=sz)(hby:i.bytes=bytes)(hzs:z.cells.size=sz)(hsz:0<sz)(g:Nat)(hg:Bk w g e #[])(a:Addr)(m c:Nat)(news:List Value)(hl:news.length=m*sz)(hnews:∀j u,news[j]?=some u->w.cell? (a.add j)=some u)(h1:∀u∈news,u.oneCell'=true)
  (b1:m<=maxLen)(b2:m*bytes<=140737488355328):
  ∃v' w',(Builtin.append_ #[t,t] t #[.slice (some ⟨g,0,none⟩) 0 0,.slice (some a) m c]).run Tryz.prog w=.ok v' w'/\Own w' e sz v' m news/\w.grownBy w' none/\EW w (.slice (some ⟨g,0,none⟩) 0 0) v':=by
 have ho:Own w e sz (.slice (some ⟨g,0,none⟩) 0 0) 0 []:=⟨by simp,.inr ⟨g,0,0,[],[],rfl,by simpa using hg,rfl,Nat.le_refl _,by decide,by simp⟩⟩
 by_cases hm:m=0
 ·subst hm;obtain rfl:news=[]:=List.eq_nil_of_length_eq_zero (by simpa using hl);refine⟨_,w,?_,ho,SJ _ _,λ_ h=>Or.inl h⟩;simp[Builtin.append_,run_underlying ht,sizeOf,typeInfo,hi,Builtin.lenOf,Builtin.firstCells,loadCells,loadCellsFrom,storeCells]
 ·obtain⟨v',w',hr,hw⟩:=run_append_arg_grows (P:=Tryz.prog) w t t e i z sz bytes ht hi hz hsize hby hzs hsz ⟨g,0,none⟩ 0 0 [] Zs (λj u hj=>by simp at hj) a m c news hl hnews Zo Zo (by simpa using b2);simp only[Nat.zero_add,List.nil_append] at hw;refine⟨v',w',hr,Own.XW hw.1,hw.2,λk hk=>Or.inr ?_⟩;rcases hw.1.2 with⟨rfl,_⟩|⟨g',cap,Ay,rfl,hb,_⟩
  ·cases hk
  ·cases hk;exact hb
theorem iX(l:List Yp):∀u∈rows Yp.l l,u.oneCell'=true:=by
 intro u hu;unfold rows at hu;obtain⟨x,_,hx⟩:=List.mem_flatMap.1 hu;exact xP x u hx
theorem Pq(w:World)(A:Option Addr)(c:Nat)(l:List Yp)(h:Own w 42 10 (.slice A l.length c) l.length (rows Yp.l l))(hl:l.length<=100000):
  Calls Tryz.prog 27 #[.slice A l.length c] w (Ta w 42 10 l.length (rows Yp.l l)):=by
 cases A with
 |none=>
  have hn:l.length=0/\c=0:=by
   rcases h.2 with⟨h',h0⟩|⟨g,off,cap,A,R,hv,_⟩
   ·injection h' with e1 e2 e3;exact⟨h0,e3⟩
   ·cases hv
  obtain⟨hn,rfl⟩:=hn
  have hnil:rows Yp.l l=[]:=List.eq_nil_of_length_eq_zero (by rw[Yx V0,hn])
  rw[hnil,hn]
  have hq:∀w,(binOp .eql 37 (.slice none 0 0) (.slice none 0 0)).run Tryz.prog w=.ok (.bool true) w:=λw=>Lib.run_eql_slice_nil (P:=Tryz.prog) w 37 42 none 0 0 0 0 Tryz.underlying37
  go_enter Tryz.func27,Tryz.ntmps27
  go_wp2_with fail
  go_ret
  exact⟨_,rfl,Own.nil,Below.refl _ _,λb e=>by cases e⟩
 |some a=>
  obtain⟨g,off,ha⟩:∃g off,a=⟨g,off,none⟩:=by
   rcases h.2 with⟨h',h0⟩|⟨g,off,cap,A,R,hv,_⟩
   ·cases h'
   ·cases hv;exact⟨_,_,rfl⟩
  subst ha
  have hq:∀w,(binOp .eql 37 (.slice (some ⟨g,off,none⟩) l.length c) (.slice none 0 0)).run Tryz.prog w=.ok (.bool false) w:=λw=>Lib.run_eql_slice_nil (P:=Tryz.prog) w 37 42 (some ⟨g,off,none⟩) l.length c 0 0 Tryz.underlying37
  obtain⟨inf,hi,hz,hz1,hz2⟩:=info_parts UW
  obtain⟨v',w',hrun,ho,hgr,hf⟩:=Py (w.alloc (.cells #[] 42)) 37 42 inf _ 10 72 Tryz.underlying37 hi hz hz1 hz2 rfl Zo w.heap.size (Bk.at_ rfl) ⟨g,off,none⟩ l.length c (rows Yp.l l) (Yx V0 l)
   (λj u hu=>by rw[Addr.add_lit];exact BW (h.alloc _) j u hu) (iX l) (by simp only[maxLen];omega) Zo
  have hB:Below w.heap.size w w':=((Below.refl _ _).alloc (Nat.le_refl _) _).trans (JD hgr Zs (by intro b e;cases e))
  have hF:∀b,v'.ownBlock=some b->w.heap.size<=b:=λb e=>by
   rcases hf b e with h1|h1
   ·cases h1;exact Nat.le_refl _
   ·simp at h1;omega
  have HE:=Zh (And.intro ho (And.intro hB hF));clear ho hB hF hgr hf h
  go_enter Tryz.func27,Tryz.ntmps27
  go_wp2_with (at_builtin;refine Ye Zr _ _ _ _ _ _ _ Zr Zr Zr hrun ?_)
  go_ret
  exact⟨_,rfl,HE.out⟩
theorem iY{w:World}{gp gh:Nat}{P:Ar}{tv bv:BB}{ro:List Fy}{Fh:List Nat}{Ft:Nat->Nat->Prop}{lab:Nat->Nat}(h:Eh w gp gh P tv bv ro Fh Ft lab)(hl:P.A4.length<=100000):
  Calls Tryz.prog 11 #[.pointer (some ⟨gp,0,none⟩)] w (Ta w 42 10 P.A4.length (rows Yp.l P.A4)):=by
 obtain⟨A,c,hv,_⟩:=Ys h.Kw
 have ho:=h.Kw
 rw[hv] at ho
 have hq:=Pq w A c P.A4 ho hl
 have c3:=h.bk.cell 3
 simp[hv] at c3
 clear h ho hv
 go_enter Tryz.func11,Tryz.ntmps11
 go_wp2_with fail
 refine hq.mono ?_
 rintro e w1 ⟨v,rfl,h1,h2,h3⟩
 go_wp2_with fail
 go_ret
 exact⟨v,rfl,h1,h2,h3⟩
end Go.Proofs.YtaipogljokblkaaGreatDoor
