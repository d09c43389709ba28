/- Core: QH. -/
import Derived.Test.YtaipogljokblkaaGreatDoorE48
import Derived.Deep.Cut
import Derived.Test.YtaipogljokblkaaGreatDoorE01
set_option linter.all false
set_option maxRecDepth 100000
set_option maxHeartbeats 8000000
namespace Go.Proofs.YtaipogljokblkaaGreatDoor
open Go Go.RowKit
set_option linter.unusedSimpArgs false
set_option linter.unusedVariables false
set_option linter.unusedSectionVars false
theorem zB{α:Type}{f:α->List Value}{sz:Nat}{E:TypeId}(hf:∀x,(f x).length=sz){w:World}{g off cap:Nat}{d:α}{r:List α}(h:Own w E sz (.slice (some ⟨g,off,none⟩) (d::r).length cap) (d::r).length (rows f (d::r))):
  Own w E sz (.slice (some ⟨g,if cap=1 then off else off+sz,none⟩) r.length (cap-1)) r.length (rows f r):=by
 rcases h.2 with⟨h',_⟩|⟨g',off',cap',A,R,hv,hk,rfl,hn,hm,hs⟩
 ·cases h'
 ·cases hv;simp only[List.length_cons] at hn hs;have hl:(rows f (d::r)).length=(r.length+1)*sz:=Y0 hf _;have hl2:(rows f r).length=r.length*sz:=Y0 hf _;refine⟨hl2,.inr ?_⟩;by_cases hc:cap=1
  ·obtain rfl:r=[]:=List.eq_nil_of_length_eq_zero Zo;rw[if_pos hc];refine⟨g,A.length,cap-1,A,f d++R,rfl,?_,rfl,by simp,by omega,by subst hc;simp⟩;have e:rows f [d]=f d:=by simp[rows]
   rw[e] at hk;exact hk
  ·rw[if_neg hc];refine⟨g,A.length+sz,cap-1,A++f d,R,rfl,?_,by rw[List.length_append,hf],by omega,by omega,?_⟩
   ·rw[DC] at hk;have e:A++f d++(rows f r++R)=A++(f d++rows f r++R):=by simp only[List.append_assoc]
    rw[e];exact hk
   ·rw[hl2];rw[hl,Nat.add_mul] at hs;rw[Nat.sub_mul];omega
theorem mU{w:World}{E:TypeId}{sz n g:Nat}{v:Value}{xs:List Value}(h:Own w E sz v n xs)(hv:v.ownBlock=some g)(i:Nat):w.frozen? ⟨g,i,none⟩=false:=by
 rcases h.2 with⟨rfl,_⟩|⟨g',off',cap',A,R,rfl,hb,_⟩
 ·cases hv
 ·cases hv;exact hb.free i
theorem Er.same{w w':World}{gp gh:Nat}{P:Ai}{tv bv:BA}{ro:List FG}{Fh:List Nat}{Ft:Nat->Nat->Prop}{lab:Nat->Nat}(h:Er w gp gh P tv bv ro Fh Ft lab)(hs:∀b,lab b<1000->b<w.heap.size->w'.heap[b]?=w.heap[b]?):Er w' gp gh P tv bv ro Fh Ft lab:=by
 have Oo:=h.Oo;refine⟨h.bk.same (hs gp (by rw[h.l0];decide) h.bk.lt),h.KB.kept λb hb=>hs b (by rw[h.l1 b hb];decide) (h.KB.lt hb),h.K4.kept λb hb=>hs b (by rw[h.l2 b hb];decide) (h.K4.lt hb),h.hp.same λb hb=>hs b (by rw[h.l3 b hb];decide) (h.hp.lt b hb),h.len,λi r T h1 h2=>?_,h.l0,h.l1,h.l2,h.l3,h.l4,h.low,h.Oo⟩;have hi:=Bd h2;exact(h.th i r T h1 h2).AG λb hb=>hs b (by rw[h.l4 i b hi hb];omega) (h.fG hi b hb)
theorem Er.Rv{w:World}{gp gh:Nat}{P:Ai}{bv:BA}{g off n c:Nat}{ro:List FG}{Fh:List Nat}{Ft:Nat->Nat->Prop}{lab:Nat->Nat}(h:Er w gp gh P ⟨some ⟨g,off,none⟩,n,c⟩ bv ro Fh Ft lab){i:Nat}(hi:i<P.A8.length):∃hr:i<ro.length,w.rangeAt g (off+i*4) ro[i].l:=by
 obtain⟨g',off',c',e,hr,hrow⟩:=h.dG hi;injection e with e1 e2 e3;injection e1 with e1;injection e1 with e4 e5 e6;subst e4;subst e5;exact⟨hr,hrow⟩
structure PK(w:World)(lab0:Nat->Nat)(gp gh:Nat)(P:Ai)(tv:BA)(rb bb:Nat)(b:Ym)(W:World):Prop where
 p:∃bv ro Fh Ft lab,Er W gp gh P tv bv ro Fh Ft lab/\1000<=lab rb/\1000<=lab bb/\∀b,lab b<1000->lab0 b<1000\/w.heap.size<=b
 r:Bk W rb 42 Ym.zero.l.toArray
 b:Bk W bb 42 b.l.toArray
 c:DS (λb=>lab0 b<1000) w W
 e:AQ W
 rz:w.heap.size<=rb
 bz:w.heap.size<=bb
 ne:rb≠bb
 z:7<=w.heap.size
theorem mJ{w W:World}{gp gh:Nat}{P:Ai}{tv bv:BA}{ro:List FG}{Fh:List Nat}{Ft:Nat->Nat->Prop}{lab:Nat->Nat}{n1 bb:Nat}{b:Ym}(h:Er W gp gh P tv bv ro Fh Ft (λb=>if b<n1 then(if b<w.heap.size then lab b else 1000) else 1000))(hr:Bk W w.heap.size 42 Ym.zero.l.toArray)(hb:Bk W bb 42 b.l.toArray)
  (hc:Below w.heap.size w W)(he:AQ W)(h1:w.heap.size<bb)(h2:w.heap.size<=n1)(hz:7<=w.heap.size):PK w lab gp gh P tv w.heap.size bb b W:=by
 refine⟨⟨bv,ro,Fh,Ft,_,h,?_,?_,λb hb=>?_⟩,hr,hb,⟨hc.os,hc.tape,hc.output,hc.size,λb hb _=>hc.block b hb⟩,he,Nat.le_refl _,by omega,by omega,hz⟩
 ·show 1000<=(if _ then _ else _);split
  ·rw[if_neg Zo];exact Nat.le_refl _
  ·exact Nat.le_refl _
 ·show 1000<=(if _ then _ else _);split
  ·rw[if_neg Zo];exact Nat.le_refl _
  ·exact Nat.le_refl _
 ·by_cases hx:b<w.heap.size
  ·rw[if_pos Zo,if_pos hx] at hb;exact Or.inl hb
  ·exact Or.inr Zo
section
variable{w W W':World}{lab0:Nat->Nat}{gp gh rb bb:Nat}{P P':Ai}{tv:BA}{b b':Ym}
theorem PK.below(h:PK w lab0 gp gh P tv rb bb b W)(hb:Below W.heap.size W W'):PK w lab0 gp gh P tv rb bb b W':=by
 obtain⟨bv,ro,Fh,Ft,lab,hp,l1,l2,l3⟩:=h.p;exact⟨⟨bv,ro,Fh,Ft,lab,hp.below hb,l1,l2,l3⟩,h.r.Ac hb,h.b.Ac hb,⟨hb.os.trans h.c.os,hb.tape.trans h.c.tape,hb.output.trans h.c.output,Nat.le_trans h.c.size hb.size,λb hb' hf=>(hb.block b (Nat.lt_of_lt_of_le hb' h.c.size)).trans (h.c.Ax b hb' hf)⟩,h.e.below hb,h.rz,h.bz,h.ne,h.z⟩
theorem PK.box(h:PK w lab0 gp gh P tv rb bb b W)(hg:W.grownBy W' (some bb))(hb:Bk W' bb 42 b'.l.toArray):PK w lab0 gp gh P tv rb bb b' W':=by
 obtain⟨bv,ro,Fh,Ft,lab,hp,l1,l2,l3⟩:=h.p;have hbz:=h.bz;have hz:=h.z;refine⟨⟨bv,ro,Fh,Ft,lab,hp.same λx hx hl=>hg.block x hl λe=>by cases e;omega,l1,l2,l3⟩,h.r.grown hg (λe=>h.ne (by cases e;rfl)),hb,⟨hg.os.trans h.c.os,hg.tape.trans h.c.tape,hg.output.trans h.c.output,Nat.le_trans h.c.size hg.size,λx hx hf=>(hg.block x (Nat.lt_of_lt_of_le hx h.c.size) λe=>by cases e;omega).trans (h.c.Ax x hx hf)⟩,h.e.low (λx hx=>hg.block x (by have:=h.e.lt;omega) λe=>by cases e;omega) (Nat.le_trans h.e.lt hg.size),h.rz,h.bz,h.ne,h.z⟩
theorem PK.Ap{bv bv':BA}{ro ro':List FG}{Fh Fh':List Nat}{Ft Ft':Nat->Nat->Prop}{lab lab':Nat->Nat}(h:PK w lab0 gp gh P tv rb bb b W)(hp:Er W gp gh P tv bv ro Fh Ft lab)(l1:1000<=lab rb)(l2:1000<=lab bb)(l3:∀b,lab b<1000->lab0 b<1000\/w.heap.size<=b)
  (hp':Er W' gp gh P' tv bv' ro' Fh' Ft' lab')(hc:DS (λb=>lab b<1000) W W')(hl:∀b,lab' b<1000->lab b<1000\/W.heap.size<=b):PK w lab0 gp gh P' tv rb bb b W':=by
 have hrl:=h.r.lt
 have hbl:=h.b.lt
 have cz:=h.c.size
 refine⟨⟨bv',ro',Fh',Ft',lab',hp',?_,?_,λx hx=>(hl x hx).elim (l3 x) λh'=>Or.inr Zo⟩,h.r.same (hc.Ax rb hrl Zo),h.b.same (hc.Ax bb hbl Zo),⟨hc.os.trans h.c.os,hc.tape.trans h.c.tape,hc.output.trans h.c.output,Nat.le_trans h.c.size hc.size,λx hx hf=>(hc.Ax x Zo λh'=>?_).trans (h.c.Ax x hx hf)⟩,h.e.low (λx hx=>hc.Ax x (by have:=h.e.lt;omega) λh'=>by have:=hp.low x hx;omega) (Nat.le_trans h.e.lt hc.size),h.rz,h.bz,h.ne,h.z⟩
 ·rcases Nat.lt_or_ge (lab' rb) 1000 with h'|h'
  ·rcases hl rb h' with h'|h'<;>omega
  ·exact h'
 ·rcases Nat.lt_or_ge (lab' bb) 1000 with h'|h'
  ·rcases hl bb h' with h'|h'<;>omega
  ·exact h'
 ·rcases l3 x h' with h'|h'
  ·exact hf h'
  ·omega
theorem PK.other{bv:BA}{ro:List FG}{Fh:List Nat}{Ft:Nat->Nat->Prop}{lab:Nat->Nat}{s:Nat}(h:PK w lab0 gp gh P tv rb bb b W)(hp:Er W gp gh P tv bv ro Fh Ft lab)(l1:1000<=lab rb)(l2:1000<=lab bb)(l3:∀b,lab b<1000->lab0 b<1000\/w.heap.size<=b)
  (hg:W.grownBy W' (some s))(hs:1000<=lab s)(n1:s≠rb)(n2:s≠bb)(hw:w.heap.size<=s):PK w lab0 gp gh P tv rb bb b W':=by
 have hz:=h.z
 exact⟨⟨bv,ro,Fh,Ft,lab,hp.same λx hx hl=>hg.block x hl λe=>by cases e;omega,l1,l2,l3⟩,h.r.grown hg (λe=>n1 (by cases e;rfl)),h.b.grown hg (λe=>n2 (by cases e;rfl)),⟨hg.os.trans h.c.os,hg.tape.trans h.c.tape,hg.output.trans h.c.output,Nat.le_trans h.c.size hg.size,λx hx hf=>(hg.block x (Nat.lt_of_lt_of_le hx h.c.size) λe=>by cases e;omega).trans (h.c.Ax x hx hf)⟩,h.e.low (λx hx=>hg.block x (by have:=h.e.lt;omega) λe=>by cases e;omega) (Nat.le_trans h.e.lt hg.size),h.rz,h.bz,h.ne,h.z⟩
theorem MZ{Q:Nat->Prop}(w:World)(g i:Nat)(v:Value)(h:Q g):DS Q w (w.setCell ⟨g,i,none⟩ v):=
 have gr:=Xs w g i v
 ⟨gr.os,gr.tape,gr.output,gr.size,λb hb hf=>gr.block b hb λe=>hf (by cases e;exact h)⟩
end
theorem WK{α:Type}(f:α->α)(l:List α)(i:Nat)(h:i<l.length):l.modify i f=l.set i (f l[i]):=by
 apply List.ext_getElem?;intro j;rw[List.getElem?_modify,List.getElem?_set];by_cases e:i=j
 ·subst e;simp[h]
 ·simp[e]
theorem Ko(T:MT):(Ai.ready T).last=T.last:=by
 unfold Ai.ready;cases T.V.busy
 ·cases T.queue<;>rfl
 ·rfl
theorem gR{Q:Nat->Prop}{w w2:World}{r:Option Nat}(g:w.grownBy w2 r)(h:∀b,r=some b->Q b):DS Q w w2:=⟨g.os,g.tape,g.output,g.size,λb hb hf=>g.block b hb λe=>hf (h b e.symm)⟩
theorem PK.done{w W W':World}{lab0:Nat->Nat}{gp gh rb bb:Nat}{P:Ai}{tv:BA}{b:Ym}(h:PK w lab0 gp gh P tv rb bb b W)(hg:W.grownBy W' (some rb)):PaR w gp gh P lab0 W':=by
 obtain⟨bv,ro,Fh,Ft,lab,hp,l1,l2,l3⟩:=h.p;have hr:=h.rz;exact⟨tv,bv,ro,Fh,Ft,lab,hp.same λx hx hl=>hg.block x hl λe=>by cases e;omega,⟨hg.os.trans h.c.os,hg.tape.trans h.c.tape,hg.output.trans h.c.output,Nat.le_trans h.c.size hg.size,λx hx hf=>(hg.block x (Nat.lt_of_lt_of_le hx h.c.size) λe=>by cases e;omega).trans (h.c.Ax x hx hf)⟩,l3⟩
def Ai.B5(P:Ai)(k:Nat)(T:MT):Ai:={P with heap:=((Ai.ready T).V.step P.heap).2.1,A8:=P.A8.set k {Ai.ready T with V:=((Ai.ready T).V.step P.heap).1}}
def Ai.Cp(P:Ai)(k:Nat)(T:MT):Ai:={P with A8:=P.A8.set k (Ai.ready T)}
theorem pick_any{w:World}{gp gh:Nat}{P:Ai}{tv bv:BA}{ro:List FG}{Fh:List Nat}{Ft:Nat->Nat->Prop}{lab:Nat->Nat}(h:Er w gp gh P tv bv ro Fh Ft lab)(he:AQ w){k:Nat}{T:MT}(hT:P.A8[k]?=some T)(hi:Ai.Co T=false)
  (hg:T.V.busy=false->∀o r,T.queue=o::r->DR T.V.st o/\Vj T.V.M/\T.V.M.R.step=0/\ON (MV.Aj {T.V with op:=o,BF:=some (Xx.new T.V.st o),A5:=.zero} 1 AB))(hs:iD (Ai.ready T).V P.heap)(hl0:-1<=T.last)(hl1:T.last<(P.Ao.length:Int))(hbl:P.Ao.length<=100000):
  Calls Tryz.prog 17 #[.pointer (some ⟨gp,0,none⟩),.int .i64 (k:Int)] w λen w'=>en=.returned (.tuple #[.agg (P.Cg k T).2.l.toArray,.nilIface])/\PaR w gp gh (P.Cg k T).1 lab w':=by
 have hk:k<P.A8.length:=Bd hT
 have hhas:P.has (k:Int)=true:=by unfold Ai.has;simp;omega
 obtain⟨g,off,c,rfl,hr,hrow⟩:=h.dG hk
 have hal:Below w.heap.size w (w.alloc (.cells Ym.zero.l.toArray 42)):=(Below.refl _ _).alloc (Nat.le_refl _) _
 have HP:=Zh (h.cut.below hal)
 have HE:=Zh (he.below hal)
 have HX:=Zh (Bk.at_ (w:=w) (g:=w.heap.size) (cs:=Ym.zero.l.toArray) (t:=42) rfl)
 have HC:=Zh hal
 have h40:=he.lt
 have hh:=MX HP.out (k:Int)
 rw[hhas] at hh
 have hid:=Us HP.out hT
 rw[hi] at hid
 obtain⟨Q,hQ⟩:∃Q,P.Cg k T=Q:=⟨_,rfl⟩
 rw[hQ]
 have HQ:=Zh hQ
 clear h he hal hrow hQ
 go_enter Tryz.func17,Tryz.ntmps17
 generalize hbz:T.V.busy=bz at hg
 have hrd:Ai.ready T=(bif bz then T else match T.queue with|[]=>T|op::r=>{T with V:=T.V.Jw op,queue:=r}):=by unfold Ai.ready;rw[hbz];rfl
 go_upto_region 7 with(first|(go_at_call 24;refine hh.mono ?_;rintro e w1 ⟨rfl,rfl⟩)|(go_at_call 26;refine hid.mono ?_;rintro e w1 ⟨rfl,hb1⟩;have c2:=(HP.out.below hb1).bk.cell 2;simp[BA.v] at c2;have hal2:=((Below.refl w1.heap.size w1).alloc (Nat.le_refl _) (.cells (Ym.l ⟨k,false,.zero,false,false,.zero⟩).toArray 42));have P2:=Zh ((HP.out.cut.below hb1).below hal2);have hv2:=P2.out.th k ro[k] T (List.getElem?_eq_getElem hr) hT;obtain⟨t1,t2,Fv,hv,hq,hqF⟩:=hv2;obtain⟨g',off',c',he',hr',hrow⟩:=P2.out.dG hk;cases he';have r0:=hrow 0 _ rfl;simp[FG.l,Ym.l,A3.l,Yu.l,A3.zero,Yu.zero] at r0;have HV:=Zh hv;have HB:=Zh (Bk.at_ (w:=w1) (g:=w1.heap.size) (cs:=(Ym.l ⟨k,false,.zero,false,false,.zero⟩).toArray) (t:=42) rfl);have HC2:=Zh ((HC.out.trans (hb1.mono HC.out.size)).trans (hal2.mono (Nat.le_trans HC.out.size hb1.size)));have HE2:=Zh ((HE.out.below hb1).below hal2);have HX2:=Zh ((HX.out.Ac hb1).Ac hal2);have hzx:w.heap.size<w1.heap.size:=(HX.out.Ac hb1).lt;clear t1 t2 hv hq hqF hrow hal2 HP HE HX HC hb1))
 go_upto_region 10 with(fail)
 refine(YN HV.out).mono ?_
 rintro e w2 ⟨rfl,hb2⟩
 rw[hbz]
 have HK:=Zh (mJ (w:=w) (lab:=lab) (P2.out.below hb2) (HX2.out.Ac hb2) (HB.out.Ac hb2) (HC2.out.trans (hb2.mono HC2.out.size)) (HE2.out.below hb2) Zo Zs h40)
 clear P2 HX2 HB HC2 HE2 hb2 c2 r0 HV
 go_upto_if 39 with(fail)
 generalize hbb:w1.heap.size=bb at*
 go_cut [] from 8 (λwx=>PK w lab gp gh (P.Cp k T) ⟨some ⟨g,off,none⟩,P.A8.length,c⟩ w.heap.size bb ⟨k,!T.V.busy,Ai.D9 T,false,false,.zero⟩ wx)
 case first=>
  cases bz
  rotate_left 1
  focus (
   have HK2:Hid (PK w lab gp gh (P.Cp k T) ⟨some ⟨g,off,none⟩,P.A8.length,c⟩ w.heap.size bb ⟨k,!T.V.busy,Ai.D9 T,false,false,.zero⟩ w2):=Zh (by
    have e1:P.Cp k T=P:=by unfold Ai.Cp;rw[hrd];show{P with A8:=P.A8.set k T}=P;rw[T5 hT]
    rw[e1,show Ai.D9 T=.zero from by unfold Ai.D9;rw[hbz];rfl,hbz];exact HK.out)
   go_wp2_with fail
   go_meet
   case rel=>exact HK2.out)
  obtain⟨o,r,hqu⟩:∃o r,T.queue=o::r:=by
   cases hq:T.queue with
   |nil=>unfold Ai.Co at hi;rw[hbz,hq] at hi;cases hi
   |cons o r=>exact⟨o,r,rfl⟩
  obtain⟨g1,g2,g3,g4⟩:=hg rfl o r hqu
  clear hg
  go_upto_region 10 with(fail)
  have HK2:=Zh (HK.out.below (Below.refl w2.heap.size w2).drew)
  clear HK
  obtain⟨bv,ro,Fh,Ft,lb,hp,l1,l2,l3⟩:=HK2.out.p
  obtain⟨hr,hrow⟩:=hp.Rv hk
  obtain⟨t1,t2,Fv,hv,hq,hq1,hq2⟩:=hp.th k ro[k] T (List.getElem?_eq_getElem hr) hT
  rw[hqu] at hq
  obtain⟨qb,qo,qc,hqv,_⟩:=Ds hq Zs
  have ho:=hq
  rw[hqv] at ho
  have hoc:=Cc ho
  have r1:=hrow 1 _ rfl
  simp[FG.l,hqv] at r1
  have o0:=hoc 0 _ rfl;have o1:=hoc 1 _ rfl;have o2:=hoc 2 _ rfl;have o3:=hoc 3 _ rfl
  simp at o0 o1 o2 o3
  have lg:lb g=1:=hp.l1 g rfl
  have lqb:lb qb=4+k:=hp.l4 k qb hk ((hq2 qb).2 (Or.inr (by rw[hqv];rfl)))
  have Oo:=hp.Oo
  have ng:bb≠g:=λe=>by rw[←e] at lg;omega
  have nq:bb≠qb:=λe=>by rw[←e] at lqb;omega
  have hgl:g<w2.drew.heap.size:=hp.KB.lt rfl
  have hql:qb<w2.drew.heap.size:=hq.lt (by rw[hqv];rfl)
  clear hp t1 t2 hv hq hq1 hq2 hrow ho hoc
  refine X8 (λw'=>w'.cell? ⟨g,off+k*4+1,none⟩=some (.slice (some ⟨qb,qo,none⟩) (r.length+1) qc)/\w'.cell? ⟨qb,qo,none⟩=some (.int .i64 o.kind)/\w'.cell? ⟨qb,qo+1,none⟩=some (.int .i64 o.key)/\w'.cell? ⟨qb,qo+2,none⟩=some (.int .i64 o.val)/\w'.cell? ⟨qb,qo+3,none⟩=some (.int .i64 o.Ah)) 10 Zk ⟨r1,o0,o1,o2,o3⟩ (λhS=>?_)
  have HR:Hid (w2.drew.cell? ⟨g,off+k*4+1,none⟩=some (.slice (some ⟨qb,qo,none⟩) (r.length+1) qc)/\w2.drew.cell? ⟨qb,qo,none⟩=some (.int .i64 o.kind)/\w2.drew.cell? ⟨qb,qo+1,none⟩=some (.int .i64 o.key)/\w2.drew.cell? ⟨qb,qo+2,none⟩=some (.int .i64 o.val)/\w2.drew.cell? ⟨qb,qo+3,none⟩=some (.int .i64 o.Ah)):=Zh ⟨r1,o0,o1,o2,o3⟩
  clear r1 o0 o1 o2 o3
  generalize w2.drew=W2 at*
  have b1:=HK2.out.b.cell 1
  have f1:=HK2.out.b.free 1
  simp[Ym.l,A3.l,Yu.l] at b1
  ((try simp only[ZL]);refine vT (fuel:=3) hS [0,1,2,3,4,5,6] ?_;simp only[Xy,Xr,List.toList_toArray];(repeat (first|go_big_quiet_skip|(go_big_quiet_want;first|(go_big_quiet_op;go_big_quiet_on)|(apply Exists.intro;refine⟨λw' hS'=>?_,?_⟩;(· ((obtain⟨q1,q2,q3,q4,q5⟩:=hS');go_simp;first|done|rfl|exact⟨rfl,rfl⟩));go_big_quiet_on;simp only[ZL]))));refine wpQuiet_nil ?_;(try dsimp only))
  have B3:=HK2.out.b.Eo 1 (.bool true)
  have HB3:=Zh (Yw (cs':=(Ym.l ⟨k,true,.zero,false,false,.zero⟩).toArray) B3 Zk)
  have S3:∀u:Value,(W2.setCell ⟨bb,1,none⟩ u).cell? ⟨g,off+k*4+1,none⟩=some (.slice (some ⟨qb,qo,none⟩) (r.length+1) qc)/\(W2.setCell ⟨bb,1,none⟩ u).cell? ⟨qb,qo,none⟩=some (.int .i64 o.kind)/\(W2.setCell ⟨bb,1,none⟩ u).cell? ⟨qb,qo+1,none⟩=some (.int .i64 o.key)/\(W2.setCell ⟨bb,1,none⟩ u).cell? ⟨qb,qo+2,none⟩=some (.int .i64 o.val)/\(W2.setCell ⟨bb,1,none⟩ u).cell? ⟨qb,qo+3,none⟩=some (.int .i64 o.Ah):=λu=>
   ⟨(World.cell?_setCell_far _ _ _ _ ng).trans HR.out.1,(World.cell?_setCell_far _ _ _ _ nq).trans HR.out.2.1,(World.cell?_setCell_far _ _ _ _ nq).trans HR.out.2.2.1,(World.cell?_setCell_far _ _ _ _ nq).trans HR.out.2.2.2.1,(World.cell?_setCell_far _ _ _ _ nq).trans HR.out.2.2.2.2⟩
  have hK3:=Zh (HK2.out.box (Xs W2 bb 1 (.bool true)) HB3.out)
  (refine Xi 7 Zk (λK hK=>?_);simp only[Xr,List.toList_toArray])
  go_wp2_with fail
  refine hK.out _ _ (λ_=>S3 _) ?_
  clear hK hS b1 f1 B3
  have hS:=S3 (.bool true)
  generalize hW3:W2.setCell ⟨bb,1,none⟩ (.bool true)=W3 at*
  ((try simp only[ZL]);refine vT (fuel:=1) hS [8] ?_;simp only[Xy,Xr,List.toList_toArray];(repeat (first|go_big_quiet_skip|(go_big_quiet_want;first|(go_big_quiet_op;go_big_quiet_on)|(apply Exists.intro;refine⟨λw' hS'=>?_,?_⟩;(· (skip;go_simp;first|done|rfl|exact⟨rfl,rfl⟩));go_big_quiet_on;simp only[ZL]))));refine wpQuiet_nil ?_;(try dsimp only))
  (refine Xi 9 Zk (λK hK=>?_);simp only[Xr,List.toList_toArray])
  go_wp2_with (refine Za Zr _ _ _ Zr bb 2 _ Zr Zr _ _ (Ym.l ⟨k,true,o,false,false,.zero⟩).toArray HB3.out (Nat.le_of_ble_eq_true Zk) Zk Zr Zk ?_;intro W4 hst;have HK4:=Zh (hK3.out.box hst.grown hst.bk);have HG4:=Zh hst.grown;clear hst)
  have S4:W4.cell? ⟨g,off+k*4+1,none⟩=some (.slice (some ⟨qb,qo,none⟩) (r.length+1) qc)/\W4.cell? ⟨qb,qo,none⟩=some (.int .i64 o.kind)/\W4.cell? ⟨qb,qo+1,none⟩=some (.int .i64 o.key)/\W4.cell? ⟨qb,qo+2,none⟩=some (.int .i64 o.val)/\W4.cell? ⟨qb,qo+3,none⟩=some (.int .i64 o.Ah):=by
   have e1:=HG4.out.block g (by rw[←hW3];simpa [World.setCell] using hgl) (λe=>ng (by cases e;rfl));have e2:=HG4.out.block qb (by rw[←hW3];simpa [World.setCell] using hql) (λe=>nq (by cases e;rfl));exact⟨(GB e1 _).trans hS.1,(GB e2 _).trans hS.2.1,(GB e2 _).trans hS.2.2.1,(GB e2 _).trans hS.2.2.2.1,(GB e2 _).trans hS.2.2.2.2⟩
  refine hK.out _ _ (λ_=>S4) ?_
  clear hK hS S3 S4 hK3 HB3 HG4 HR HK2 hW3
  refine Ye Zk ?_ _
  clear l1 l2 l3 ng nq lqb hgl hql lg Oo hqv
  go_upto_region 11 with(fail)
  have HK5:=Zh (HK4.out.below (Below.refl W4.heap.size W4).drew)
  clear HK4
  obtain⟨bv2,ro2,Fh2,Ft2,lb2,hp,l1,l2,l3⟩:=HK5.out.p
  obtain⟨hr2,hrow⟩:=hp.Rv hk
  have r0:=hrow 0 _ rfl
  simp[FG.l] at r0
  have hG:=uR hp HK5.out.e hT hr2 o g1 (by simpa [MV.busy] using hbz) g2 g3 g4
  have b2:=HK5.out.b.cell 2;have b3:=HK5.out.b.cell 3;have b4:=HK5.out.b.cell 4;have b5:=HK5.out.b.cell 5
  simp[Ym.l,A3.l,Yu.l] at b2 b3 b4 b5
  have HP5:=Zh (And.intro hp (And.intro l1 (And.intro l2 l3)))
  clear hp l1 l2 l3 hrow
  refine X8 (λw'=>w'.cell? ⟨g,off+k*4,none⟩=some (.pointer (some ⟨ro2[k].gv,0,none⟩))/\w'.cell? ⟨bb,2,none⟩=some (.int .i64 o.kind)/\w'.cell? ⟨bb,3,none⟩=some (.int .i64 o.key)/\w'.cell? ⟨bb,4,none⟩=some (.int .i64 o.val)/\w'.cell? ⟨bb,5,none⟩=some (.int .i64 o.Ah)) 7 Zk ⟨r0,b2,b3,b4,b5⟩ (λhS=>?_)
  clear r0 b2 b3 b4 b5
  generalize W4.drew=W5 at*
  ((try simp only[ZL]);refine vT (fuel:=2) hS [0,1,2,3,4,5] ?_;simp only[Xy,Xr,List.toList_toArray];(repeat (first|go_big_quiet_skip|(go_big_quiet_want;first|(go_big_quiet_op;go_big_quiet_on)|(apply Exists.intro;refine⟨λw' hS'=>?_,?_⟩;(· ((obtain⟨q1,q2,q3,q4,q5⟩:=hS');go_simp;first|done|rfl|exact⟨rfl,rfl⟩));go_big_quiet_on;simp only[ZL]))));refine wpQuiet_nil ?_;(try dsimp only))
  (refine Xi 6 Zk (λK hK=>?_);simp only[Xr,List.toList_toArray])
  go_wp2_with fail
  refine hG.mono ?_
  rintro e W6 ⟨rfl,Fh6,Ft6,lb6,hp6,hc6,hl6⟩
  have HK6:=Zh (HK5.out.Ap HP5.out.1 HP5.out.2.1 HP5.out.2.2.1 HP5.out.2.2.2 hp6 hc6 hl6)
  obtain⟨hr6,hrow⟩:=hp6.Rv (i:=k) (by show k<(P.A8.set k _).length;rw[List.length_set];exact hk)
  have r0:=hrow 0 _ rfl
  simp[FG.l] at r0
  have b2:=HK6.out.b.cell 2;have b3:=HK6.out.b.cell 3;have b4:=HK6.out.b.cell 4;have b5:=HK6.out.b.cell 5
  simp[Ym.l,A3.l,Yu.l] at b2 b3 b4 b5
  clear hp6 hc6 hl6 hrow HP5 HK5 hG
  go_wp2_with fail
  refine hK.out _ _ (λ_=>⟨r0,b2,b3,b4,b5⟩) ?_
  clear hK hS r0 b2 b3 b4 b5
  ((refine Xi 7 Zk (λK hK=>?_);simp only[Xr,List.toList_toArray]);go_wp2_with fail;refine hK.out _ _ (λh=>absurd h Zo) ?_;clear hK)
  refine Ye Zk ?_ _
  go_upto_region 14 with(fail)
  obtain⟨bv3,ro3,Fh3,Ft3,lb3,hp,l1,l2,l3⟩:=HK6.out.p
  have hT6:(P.kY k T (T.V.Jw o)).A8[k]?=some {T with V:=T.V.Jw o}:=by show(P.A8.set k _)[k]?=_;rw[List.getElem?_set_self hk]
  obtain⟨hr3,hrow⟩:=hp.Rv (i:=k) (Bd hT6)
  obtain⟨t1,t2,Fv3,hv,hq,hq1,hq2⟩:=hp.th k ro3[k] _ (List.getElem?_eq_getElem hr3) hT6
  simp only[hqu] at hq
  obtain⟨qb3,qo3,qc3,hqv3,hqc3⟩:=Ds hq Zs
  have hoT:=hq
  rw[hqv3] at hoT
  have hoT:=zB Ms hoT
  have r1:=hrow 1 _ rfl
  simp[FG.l,hqv3] at r1
  have f1:=mU hp.KB (g:=g) rfl (off+k*4+1)
  have hqc4:1<=qc3:=by simp at hqc3;omega
  have hlg3:lb3 g=1:=hp.l1 g rfl
  have fin:∀X Y:Nat,Own W6 35 4 (.slice (some ⟨qb3,X,none⟩) r.length Y) r.length (rows A3.l r)->PK w lab gp gh (P.Cp k T) ⟨some ⟨g,off,none⟩,P.A8.length,c⟩ w.heap.size bb ⟨k,!T.V.busy,Ai.D9 T,false,false,.zero⟩ (W6.setCell ⟨g,off+k*4+1,none⟩ (.slice (some ⟨qb3,X,none⟩) r.length Y)):=λX Y hoX=>by
   obtain⟨Fh7,Ft7,lb7,hp7,hl7⟩:=hp.lH HK6.out.e.lt hT6 hr3 rfl 1 (.slice (some ⟨qb3,X,none⟩) r.length Y) {ro3[k] with q:=⟨some ⟨qb3,X,none⟩,r.length,Y⟩} {T with V:=T.V.Jw o,queue:=r} rfl Zd ⟨t1,t2,Fv3,hv,hoX,λb hb=>by have:=hq1 b hb;rw[hqv3] at this;exact this,λb=>by have:=hq2 b;rw[hqv3] at this;exact this⟩;have q:=HK6.out.Ap hp l1 l2 l3 hp7 (MZ W6 g _ _ (by rw[hlg3];decide)) hl7;have e1:P.Cp k T={P.kY k T (T.V.Jw o) with A8:=(P.kY k T (T.V.Jw o)).A8.set k {T with V:=T.V.Jw o,queue:=r}}:=by
    unfold Ai.Cp Ai.kY;simp only[List.set_set];rw[hrd,hqu];rfl
   rw[e1,show Ai.D9 T=o from by unfold Ai.D9;rw[hbz,hqu];rfl,hbz];exact q
  have HF:=Zh fin
  have HOT:=Zh hoT
  clear fin hoT hp t1 t2 hv hq hq1 hq2 hrow hqv3 HK6 l1 l2 l3
  by_cases hc1:qc3=1
  subst hc1
  focus (
   go_wp2_with fail
   go_meet
   case rel=>exact HF.out qo3 0 HOT.out)
  focus (
   go_wp2_with fail
   go_meet
   case rel=>exact HF.out (qo3+4) (qc3-1) (by have:=HOT.out;rwa [if_neg hc1] at this))
 case rest=>
  have HK1:=Zh hcut
  clear hcut hrd hbz HK
  rename World=>W7
  obtain⟨S,hSS⟩:∃S,((Ai.ready T).V.step P.heap).2.2=S:=⟨_,rfl⟩
  go_upto_region 15 with(fail)
  go_cut [9,10] from 11 (λs9 s10 wx=>s10=.nilIface/\∃sb,s9=.pointer (some ⟨sb,0,none⟩)/\sb≠bb/\Bk wx sb 99 S.l.toArray/\PK w lab gp gh (P.B5 k T) ⟨some ⟨g,off,none⟩,P.A8.length,c⟩ w.heap.size bb ⟨k,!T.V.busy,Ai.D9 T,false,false,.zero⟩ wx)
  case first=>
   have HK:=HK1
   clear HK1
   have HK2:=Zh (HK.out.below (Below.refl W7.heap.size W7).drew)
   clear HK
   obtain⟨bv3,ro3,Fh3,Ft3,lb3,hp,l1,l2,l3⟩:=HK2.out.p
   have hTr:(P.Cp k T).A8[k]?=some (Ai.ready T):=by show(P.A8.set k _)[k]?=_;rw[List.getElem?_set_self hk]
   obtain⟨hr3,hrow⟩:=hp.Rv (i:=k) (Bd hTr)
   have r0:=hrow 0 _ rfl
   simp[FG.l] at r0
   have c1:=hp.bk.cell 1
   simp at c1
   have hG:=YZ hp HK2.out.e hTr hr3 hs
   refine X8 (λw'=>w'.cell? ⟨g,off+k*4,none⟩=some (.pointer (some ⟨ro3[k].gv,0,none⟩))/\w'.cell? ⟨gp,1,none⟩=some (.pointer (some ⟨gh,0,none⟩))) 14 Zk ⟨r0,c1⟩ (λhS=>?_)
   clear r0 c1 hrow
   have HP7:=Zh (And.intro hp (And.intro l1 (And.intro l2 l3)))
   clear hp l1 l2 l3
   generalize W7.drew=WA at*
   ((try simp only[ZL]);refine vT (fuel:=7) hS [0,1,2,3,4,5,6,7] ?_;simp only[Xy,Xr,List.toList_toArray];(repeat (first|go_big_quiet_skip|(go_big_quiet_want;first|(go_big_quiet_op;go_big_quiet_on)|(apply Exists.intro;refine⟨λw' hS'=>?_,?_⟩;(· ((obtain⟨q1,q2⟩:=hS');go_simp;first|done|rfl|exact⟨rfl,rfl⟩));go_big_quiet_on;simp only[ZL]))));refine wpQuiet_nil ?_;(try dsimp only))
   have fS:∀ (X:World) (PX:Ai) (FhX:List Nat) (FtX:Nat→Nat→Prop) (lbX:Nat→Nat),Er X gp gh PX ⟨some ⟨g,off,none⟩,P.A8.length,c⟩ bv3 ro3 FhX FtX lbX→k < PX.A8.length→X.cell? ⟨g,off+k*4,none⟩ = some (.pointer (some ⟨ro3[k].gv,0,none⟩))∧X.cell? ⟨gp,1,none⟩ = some (.pointer (some ⟨gh,0,none⟩)):=fun X PX FhX FtX lbX hX hkX=>(by
    obtain⟨_,hrow⟩:=hX.Rv hkX;have r0:=hrow 0 _ rfl;have c1:=hX.bk.cell 1;simp[FG.l] at r0 c1;exact⟨r0,c1⟩)
   have hkr:k<(P.Cp k T).A8.length:=Bd hTr
   have hks:k<((P.Cp k T).A8.set k {Ai.ready T with V:=((Ai.ready T).V.step (P.Cp k T).heap).1}).length:=(by rw[List.length_set];exact hkr)
   have est:({P.Cp k T with heap:=((Ai.ready T).V.step (P.Cp k T).heap).2.1,A8:=(P.Cp k T).A8.set k {Ai.ready T with V:=((Ai.ready T).V.step (P.Cp k T).heap).1}}:Ai)=P.B5 k T:=(by unfold Ai.B5 Ai.Cp;simp only[List.set_set])
   have hA:=(Below.refl WA.heap.size WA).alloc (Nat.le_refl _) (.cells #[.bool false,.int .i64 0,.int .i64 0,.int .i64 0] 99)
   have HB1:=Zh (HP7.out.1.cut.below hA)
   have hG2:=YZ HB1.out (HK2.out.e.below hA) hTr hr3 hs
   have HA1:=Zh hA
   have HX1:=Zh (Bk.at_ (w:=WA) (g:=WA.heap.size) (cs:=#[.bool false,.int .i64 0,.int .i64 0,.int .i64 0]) (t:=99) rfl)
   clear hA
   refine GK (i:=8) (j:=12) rfl rfl Zk (λK hK=>?_) (λK hK=>?_)
   focus (
    go_wp2_with fail
    refine hG.mono ?_
    rintro e W8 ⟨rfl,Fh8,Ft8,lb8,hp8,hc8,hl8⟩
    have HK8:=Zh (HK2.out.Ap HP7.out.1 HP7.out.2.1 HP7.out.2.2.1 HP7.out.2.2.2 hp8 hc8 hl8)
    have HP8:=Zh hp8
    clear hp8 hc8 hl8 hG hG2 HK2 HP7 HB1 HA1 HX1
    go_wp2_with fail
    refine hK.out _ _ ⟨λ_=>fS W8 _ _ _ _ HP8.out hks,?_⟩
    clear hK hS
    have hS:=fS W8 _ _ _ _ HP8.out hks
    ((try simp only[ZL]);refine vT (fuel:=3) hS [9,10,11] ?_;simp only[Xy,Xr,List.toList_toArray];(repeat (first|go_big_quiet_skip|(go_big_quiet_want;first|(go_big_quiet_op;go_big_quiet_on)|(apply Exists.intro;refine⟨λw' hS'=>?_,?_⟩;(· (skip;go_simp;first|done|rfl|exact⟨rfl,rfl⟩));go_big_quiet_on;simp only[ZL]))));refine wpQuiet_nil ?_;(try dsimp only))
    have hA:=(Below.refl W8.heap.size W8).alloc (Nat.le_refl _) (.cells #[.bool false,.int .i64 0,.int .i64 0,.int .i64 0] 99)
    have HX9:=Zh (Bk.at_ (w:=W8) (g:=W8.heap.size) (cs:=#[.bool false,.int .i64 0,.int .i64 0,.int .i64 0]) (t:=99) rfl)
    have hsb:W8.heap.size≠bb:=(by have:=HK8.out.b.lt;omega)
    (refine Xi 12 Zk (λK hK=>?_);simp only[Xr,List.toList_toArray])
    go_wp2_with fail
    refine hK.out _ _ (λ_=>fS _ _ _ _ _ (HP8.out.below hA) hks) ?_
    clear hK hS
    have hS:=fS _ _ _ _ _ (HP8.out.below hA) hks
    (refine Xi 13 Zk (λK hK=>?_);simp only[Xr,List.toList_toArray])
    go_wp2_with (refine vM HX9.out ?_;intro W9 hst;have hB9:=hst.below hA (Nat.le_refl _);have HS9:=Zh hst.bk;have HK9:=Zh (HK8.out.below hB9);have hS9:=fS _ _ _ _ _ (HP8.out.below hB9) hks;clear hst hB9)
    refine hK.out _ _ (λ_=>hS9) ?_
    clear hK hS hS9 hA HX9 HK8 HP8 fS
    generalize W8.heap.size=sb at*)
   rotate_left 1
   focus (
    go_wp2_with fail
    refine hK.out _ _ ⟨λ_=>fS _ _ _ _ _ HB1.out hkr,?_⟩
    clear hK hS hG
    have hS:=fS _ _ _ _ _ HB1.out hkr
    have HKB:=Zh (HK2.out.below HA1.out)
    (refine Xi 8 Zk (λK hK=>?_);simp only[Xr,List.toList_toArray])
    go_wp2_with fail
    refine hG2.mono ?_
    rintro e W8 ⟨rfl,Fh8,Ft8,lb8,hp8,hc8,hl8⟩
    have m1:1000<=(if w.heap.size<WA.heap.size then lb3 w.heap.size else 1000):=(by have h0:=HP7.out.2.1;split<;>omega)
    have m2:1000<=(if bb<WA.heap.size then lb3 bb else 1000):=(by have h0:=HP7.out.2.2.1;split<;>omega)
    have m3:∀b,(if b<WA.heap.size then lb3 b else 1000)<1000->lab b<1000\/w.heap.size<=b:=λb hb=>(by split at hb;exact HP7.out.2.2.2 b hb;omega)
    have HK8:=Zh (HKB.out.Ap HB1.out m1 m2 m3 hp8 hc8 hl8)
    have hx8:Bk W8 WA.heap.size 99 #[.bool false,.int .i64 0,.int .i64 0,.int .i64 0]:=HX1.out.same (hc8.Ax _ HX1.out.lt (by show ¬(if _ then _ else _)<1000;rw[if_neg Zo];omega))
    have hlt8:=HX1.out.lt
    have ls:1000≤lb8 WA.heap.size:=(by
     rcases Nat.lt_or_ge (lb8 WA.heap.size) 1000 with h'|h'
     ·rcases hl8 _ h' with h2|h2
      ·have h2:(if _ then _ else _)<1000:=h2;rw[if_neg Zo] at h2;omega
      ·omega
     ·exact h')
    have k1:1000≤lb8 w.heap.size:=(by
     rcases Nat.lt_or_ge (lb8 w.heap.size) 1000 with h'|h'
     ·have:=HKB.out.r.lt;rcases hl8 _ h' with h2|h2;exact absurd h2 (Nat.not_lt.mpr m1);omega
     ·exact h')
    have k2:1000≤lb8 bb:=(by
     rcases Nat.lt_or_ge (lb8 bb) 1000 with h'|h'
     ·have:=HKB.out.b.lt;rcases hl8 _ h' with h2|h2;exact absurd h2 (Nat.not_lt.mpr m2);omega
     ·exact h')
    have k3:∀b,lb8 b<1000->lab b<1000\/w.heap.size<=b:=λb hb=>(hl8 b hb).elim (m3 b) λh'=>Or.inr (by have:=HKB.out.c.size;omega)
    have HP8:=Zh hp8
    have HX8:=Zh hx8
    have hsb:WA.heap.size≠bb:=(by have:=HK2.out.b.lt;omega)
    have hsr:WA.heap.size≠w.heap.size:=(by have:=HK2.out.r.lt;omega)
    have hsw:w.heap.size<=WA.heap.size:=HK2.out.c.size
    have hS9:=fS W8 _ _ _ _ hp8 hks
    clear hp8 hc8 hl8 hx8 hG2 HP7 HB1 HA1 HX1 HKB m1 m2 m3 HK2
    go_wp2_with fail
    refine hK.out _ _ (λ_=>hS9) ?_
    clear hK hS
    have hS:=hS9
    ((try simp only[ZL]);refine vT (fuel:=2) hS [9,10,11] ?_;simp only[Xy,Xr,List.toList_toArray];(repeat (first|go_big_quiet_skip|(go_big_quiet_want;first|(go_big_quiet_op;go_big_quiet_on)|(apply Exists.intro;refine⟨λw' hS'=>?_,?_⟩;(· (skip;go_simp;first|done|rfl|exact⟨rfl,rfl⟩));go_big_quiet_on;simp only[ZL]))));refine wpQuiet_nil ?_;(try dsimp only))
    (refine Xi 13 Zk (λK hK=>?_);simp only[Xr,List.toList_toArray])
    go_wp2_with (refine vM HX8.out ?_;intro W9 hst;have HS9:=Zh hst.bk;have HK9:=Zh (HK8.out.other HP8.out k1 k2 k3 hst.grown ls hsr hsb hsw);have hS9:=fS W9 _ _ _ _ (HP8.out.same λx hx hl=>hst.grown.block x hl λe=>by cases e;omega) hks;clear hst)
    refine hK.out _ _ (λ_=>hS9) ?_
    clear hK hS hS9 HX8 HK8 HP8 fS ls k1 k2 k3 hsr hsw hlt8
    generalize WA.heap.size=sb at*)
   rotate_left 1
   all_goals (
    rw[est] at HK9
    ((refine Xi 14 Zk (λK hK=>?_);simp only[Xr,List.toList_toArray]);go_wp2_with fail;refine hK.out _ _ (λh=>absurd h Zo) ?_;clear hK)
    refine Ye Zk ?_ _
    have HSf:Bk W9 sb 99 S.l.toArray:=(by rw[←hSS];exact HS9.out)
    have HKf:=HK9.out
    clear est hks hkr hTr HS9 HK9
    go_wp2_with fail
    go_meet
    case rel=>exact⟨rfl,sb,rfl,hsb,HSf,HKf⟩)
  case rest=>
   obtain⟨rfl,sb,rfl,hsb,HSb,HKb⟩:=hcut
   have HS:=Zh HSb
   have HK9:=Zh HKb
   clear HSb HKb HK1
   rename World=>W9
   go_upto_region 18 with(fail)
   have HS2:=Zh (HS.out.Ac (Below.refl W9.heap.size W9).drew)
   have HK2:=Zh (HK9.out.below (Below.refl W9.heap.size W9).drew)
   clear HS HK9
   have s0:=HS2.out.cell 0;have s1:=HS2.out.cell 1;have s2:=HS2.out.cell 2;have s3:=HS2.out.cell 3
   simp[Ha.l,Yu.l] at s0 s1 s2 s3
   have hF:∀ (X:World),Bk X sb 99 S.l.toArray→X.cell? ⟨sb,0,none⟩ = some (.bool S.over)∧X.cell? ⟨sb,1,none⟩ = some (.int .i64 S.A5.code)∧X.cell? ⟨sb,2,none⟩ = some (.int .i64 S.A5.val)∧X.cell? ⟨sb,3,none⟩ = some (.int .i64 S.real):=fun X hX=>(by
    have s0:=hX.cell 0;have s1:=hX.cell 1;have s2:=hX.cell 2;have s3:=hX.cell 3;simp[Ha.l,Yu.l] at s0 s1 s2 s3;exact⟨s0,s1,s2,s3⟩)
   refine X8 (λX=>X.cell? ⟨sb,0,none⟩=some (.bool S.over)/\X.cell? ⟨sb,1,none⟩=some (.int .i64 S.A5.code)/\X.cell? ⟨sb,2,none⟩=some (.int .i64 S.A5.val)/\X.cell? ⟨sb,3,none⟩=some (.int .i64 S.real)) 13 Zk ⟨s0,s1,s2,s3⟩ (λhS=>?_)
   clear s0 s1 s2 s3
   generalize W9.drew=W9 at*
   have b6:=HK2.out.b.cell 6;have f6:=HK2.out.b.free 6
   simp[Ym.l,A3.l,Yu.l] at b6
   ((try simp only[ZL]);refine vT (fuel:=5) hS [0,1,2,3,4,5,6,7] ?_;simp only[Xy,Xr,List.toList_toArray];(repeat (first|go_big_quiet_skip|(go_big_quiet_want;first|(go_big_quiet_op;go_big_quiet_on)|(apply Exists.intro;refine⟨λw' hS'=>?_,?_⟩;(· ((obtain⟨q1,q2,q3,q4⟩:=hS');go_simp;first|done|rfl|exact⟨rfl,rfl⟩));go_big_quiet_on;simp only[ZL]))));refine wpQuiet_nil ?_;(try dsimp only))
   (refine Xi 8 Zk (λK hK=>?_);simp only[Xr,List.toList_toArray])
   go_wp2_with fail
   have G1:=Xs W9 bb 6 (.bool (S.real==0))
   have HB1:=Zh (Yw (cs':=(Ym.l ⟨k,!T.V.busy,Ai.D9 T,S.real==0,false,.zero⟩).toArray) (HK2.out.b.Eo 6 (.bool (S.real==0))) Zk)
   have HK3:=Zh (HK2.out.box G1 HB1.out)
   have HS3:=Zh (HS2.out.grown G1 (λe=>hsb (by cases e;rfl)))
   refine hK.out _ (W9.setCell ⟨bb,6,none⟩ (.bool (S.real==0))) (λ_=>hF _ HS3.out) ?_
   clear hK hS b6 f6 G1 HB1 HK2 HS2
   generalize W9.setCell ⟨bb,6,none⟩ (.bool (S.real==0))=W10 at*
   have hS:=hF _ HS3.out
   have b7:=HK3.out.b.cell 7;have f7:=HK3.out.b.free 7
   simp[Ym.l,A3.l,Yu.l] at b7
   ((try simp only[ZL]);refine vT (fuel:=3) hS [9] ?_;simp only[Xy,Xr,List.toList_toArray];(repeat (first|go_big_quiet_skip|(go_big_quiet_want;first|(go_big_quiet_op;go_big_quiet_on)|(apply Exists.intro;refine⟨λw' hS'=>?_,?_⟩;(· (skip;go_simp;first|done|rfl|exact⟨rfl,rfl⟩));go_big_quiet_on;simp only[ZL]))));refine wpQuiet_nil ?_;(try dsimp only))
   (refine Xi 10 Zk (λK hK=>?_);simp only[Xr,List.toList_toArray])
   go_wp2_with fail
   have G1:=Xs W10 bb 7 (.bool S.over)
   have HB1:=Zh (Yw (cs':=(Ym.l ⟨k,!T.V.busy,Ai.D9 T,S.real==0,S.over,.zero⟩).toArray) (HK3.out.b.Eo 7 (.bool S.over)) Zk)
   have HK4:=Zh (HK3.out.box G1 HB1.out)
   have HS4:=Zh (HS3.out.grown G1 (λe=>hsb (by cases e;rfl)))
   refine hK.out _ (W10.setCell ⟨bb,7,none⟩ (.bool S.over)) (λ_=>hF _ HS4.out) ?_
   clear hK hS b7 f7 G1 HB1 HK3 HS3
   generalize W10.setCell ⟨bb,7,none⟩ (.bool S.over)=W11 at*
   have hS:=hF _ HS4.out
   ((try simp only[ZL]);refine vT (fuel:=1) hS [11] ?_;simp only[Xy,Xr,List.toList_toArray];(repeat (first|go_big_quiet_skip|(go_big_quiet_want;first|(go_big_quiet_op;go_big_quiet_on)|(apply Exists.intro;refine⟨λw' hS'=>?_,?_⟩;(· (skip;go_simp;first|done|rfl|exact⟨rfl,rfl⟩));go_big_quiet_on;simp only[ZL]))));refine wpQuiet_nil ?_;(try dsimp only))
   (refine Xi 12 Zk (λK hK=>?_);simp only[Xr,List.toList_toArray])
   go_wp2_with (refine Za Zr _ _ _ Zr bb 8 _ Zr Zr _ _ (Ym.l ⟨k,!T.V.busy,Ai.D9 T,S.real==0,S.over,S.A5⟩).toArray HK4.out.b (Nat.le_of_ble_eq_true Zk) Zk Zr Zk ?_;intro W12 hst;have HK5:=Zh (HK4.out.box hst.grown hst.bk);have HS5:=Zh (HS4.out.grown hst.grown (λe=>hsb (by cases e;rfl)));clear hst)
   refine hK.out _ _ (λ_=>hF _ HS5.out) ?_
   clear hK hS HK4 HS4
   refine Ye Zk ?_ _
   have hT2:(P.B5 k T).A8[k]?=some {Ai.ready T with V:=((Ai.ready T).V.step P.heap).1}:=by show(P.A8.set k _)[k]?=_;rw[List.getElem?_set_self hk]
   have s3:=(hF _ HS5.out).2.2.2
   obtain⟨bv4,ro4,Fh4,Ft4,lb4,hp,l1,l2,l3⟩:=HK5.out.p
   obtain⟨hr4,hrow⟩:=hp.Rv (Bd hT2)
   have t2:ro4[k].last=T.last:=(hp.th k ro4[k] _ (List.getElem?_eq_getElem hr4) hT2).2.1.trans (Ko T)
   have r3:=hrow 3 _ rfl
   simp[FG.l,t2] at r3
   have HP:=Zh (And.intro hp (And.intro l1 (And.intro l2 l3)))
   clear hp l1 l2 l3 hrow t2
   obtain⟨bs,hbs⟩:∃bs,(bif S.real==1&&decide (0<=T.last) then P.Ao.modify T.last.toNat (λb=>{b with real:=true}) else P.Ao)=bs:=⟨_,rfl⟩
   have hbn:bs.length=P.Ao.length:=by rw[←hbs];cases S.real==1&&decide (0<=T.last)<;>simp
   have HBS:=Zh hbs
   have HBN:=Zh hbn
   have HSS:=Zh hSS
   clear hbs hbn hSS
   go_upto_region 19 with(fail)
   go_cut [102] from 11 (λs wx=>s=.bool (S.real==1&&decide (0<=T.last))/\W12=wx)
   case first=>
    by_cases hx:S.real=1
    rw[hx] at s3
    by_cases hy:0<=T.last
    focus (
     go_wp2_with fail
     go_meet
     case rel=>exact⟨by rw[hx,decide_eq_true hy];rfl,rfl⟩)
    focus (
     go_wp2_with fail
     go_meet
     case rel=>exact⟨by rw[hx,decide_eq_false (show ¬0<=T.last by omega)];rfl,rfl⟩)
    focus (
     go_wp2_with fail
     go_meet
     case rel=>exact⟨by rw[show(S.real==1)=false from decide_eq_false hx];rfl,rfl⟩)
   case rest=>
    obtain⟨rfl,rfl⟩:=hcut
    go_upto_if 102 with(fail)
    go_cut [] from 11 (λwx=>PK w lab gp gh {P.B5 k T with Ao:=bs} ⟨some ⟨g,off,none⟩,P.A8.length,c⟩ w.heap.size bb ⟨k,!T.V.busy,Ai.D9 T,S.real==0,S.over,S.A5⟩ wx)
    case first=>
     by_cases hx:S.real=1
     rw[hx] at s3
     by_cases hy:0<=T.last
     rotate_left 1
     focus (
      have ht:(S.real==1&&decide (0<=T.last))=false:=(by rw[hx,decide_eq_false (show ¬0<=T.last by omega)];rfl)
      have HK6:Hid (PK w lab gp gh {P.B5 k T with Ao:=bs} ⟨some ⟨g,off,none⟩,P.A8.length,c⟩ w.heap.size bb ⟨k,!T.V.busy,Ai.D9 T,S.real==0,S.over,S.A5⟩ W12):=Zh (by rw[←HBS.out,decide_eq_false (show ¬0<=T.last by omega),Bool.and_false];exact HK5.out)
      rw[ht]
      clear HP
      go_wp2_with fail
      go_meet
      case rel=>exact HK6.out)
     focus (
      have ht:(S.real==1&&decide (0<=T.last))=false:=(by rw[show(S.real==1)=false from decide_eq_false hx];rfl)
      have HK6:Hid (PK w lab gp gh {P.B5 k T with Ao:=bs} ⟨some ⟨g,off,none⟩,P.A8.length,c⟩ w.heap.size bb ⟨k,!T.V.busy,Ai.D9 T,S.real==0,S.over,S.A5⟩ W12):=Zh (by rw[←HBS.out,show(S.real==1)=false from decide_eq_false hx,Bool.false_and];exact HK5.out)
      rw[ht]
      clear HP
      go_wp2_with fail
      go_meet
      case rel=>exact HK6.out)
     have ht:(S.real==1&&decide (0<=T.last))=true:=(by rw[hx,decide_eq_true hy];rfl)
     rw[ht]
     go_upto_region 20 with(fail)
     clear r3 s3 HP hr4
     have HKd:=Zh (HK5.out.below (Below.refl W12.heap.size W12).drew)
     obtain⟨bv4,ro4,Fh4,Ft4,lb4,hp,l1,l2,l3⟩:=HKd.out.p
     obtain⟨hr4,hrow⟩:=hp.Rv (Bd hT2)
     have t2:ro4[k].last=T.last:=(hp.th k ro4[k] _ (List.getElem?_eq_getElem hr4) hT2).2.1.trans (Ko T)
     obtain⟨i,hi0⟩:=Int.eq_ofNat_of_zero_le hy
     have hil:i<P.Ao.length:=Zo
     have hil2:i<(P.B5 k T).Ao.length:=hil
     have r3:=hrow 3 _ rfl
     simp[FG.l,t2,hi0] at r3
     obtain⟨g2,off2,c2,hb2,_⟩:=Ds hp.K4 (by show 0<P.Ao.length;omega)
     have hb3:bv4=⟨some ⟨g2,off2,none⟩,P.Ao.length,c2⟩:=by
      obtain⟨ba,bn,bc⟩:=bv4;unfold BA.v at hb2;injection hb2 with e1 e2 e3;subst e1;subst e2;subst e3;rfl
     subst hb3
     have c3:=hp.bk.cell 3
     simp[BA.v] at c3
     have c6:=JJ Q8 hp.K4 i hil2 6 _ rfl
     have f6:=NL hp.K4 (off2+i*10+6)
     have Y7:=hp.vQ HKd.out.e.lt hT2 hr4 rfl i hil2
     have lg2:lb4 g2=2:=hp.l2 g2 rfl
     have HPd:=Zh (And.intro hp (And.intro l1 (And.intro l2 l3)))
     clear hp l1 l2 l3 hrow t2 hb2 HK5 HS5 hF
     refine X8 (λX=>X.cell? ⟨gp,3,none⟩=some (.slice (some ⟨g2,off2,none⟩) P.Ao.length c2)/\X.cell? ⟨g,off+k*4+3,none⟩=some (.int .i64 i)) 8 Zk ⟨c3,r3⟩ (λhS=>?_)
     clear c3 r3
     generalize W12.drew=W12 at*
     ((try simp only[ZL]);refine vT (fuel:=3) hS [0,1,2,3,4,5,6,7] ?_;simp only[Xy,Xr,List.toList_toArray];(repeat (first|go_big_quiet_skip|(go_big_quiet_want;first|(go_big_quiet_op;go_big_quiet_on)|(apply Exists.intro;refine⟨λw' hS'=>?_,?_⟩;(· ((obtain⟨q1,q2⟩:=hS');go_simp;first|done|rfl|exact⟨rfl,rfl⟩));go_big_quiet_on;simp only[ZL]))));refine wpQuiet_nil ?_;(try dsimp only))
     clear hS
     ((refine Xi 8 Zk (λK hK=>?_);simp only[Xr,List.toList_toArray]);go_wp2_with fail;refine hK.out _ _ (λh=>absurd h Zo) ?_;clear hK)
     ((refine Xi 9 Zk (λK hK=>?_);simp only[Xr,List.toList_toArray]);go_wp2_with fail;refine hK.out _ _ (λh=>absurd h Zo) ?_;clear hK)
     (refine Xi 10 Zk (λK hK=>?_);simp only[Xr,List.toList_toArray])
     go_wp2_with fail
     refine hK.out _ _ (λh=>absurd h Zo) ?_
     clear hK
     refine Ye Zk ?_ _
     obtain⟨Fh7,Ft7,lb7,hp7,hl7⟩:=Y7
     have HK6:Hid (PK w lab gp gh { P.B5 k T with Ao:=bs } ⟨some ⟨g,off,none⟩,P.A8.length,c⟩ w.heap.size bb ⟨k,!T.V.busy,Ai.D9 T,S.real==0,S.over,S.A5⟩ (W12.setCell ⟨g2,off2+i*10+6,none⟩ (.bool true))):=Zh (by
      have q:=HKd.out.Ap HPd.out.1 HPd.out.2.1 HPd.out.2.2.1 HPd.out.2.2.2 hp7 (MZ W12 g2 _ _ (by rw[lg2];decide)) hl7;have e1:(P.B5 k T).Ao.set i {(P.B5 k T).Ao[i] with real:=true}=bs:=by
       rw[←HBS.out,hx,decide_eq_true hy,hi0];exact(WK (λb:Ym=>{b with real:=true}) P.Ao i hil).symm
      rw[←e1];exact q)
     generalize W12.setCell ⟨g2,off2+i*10+6,none⟩ (.bool true)=W12 at*
     clear hp7 hl7 HPd HKd c6 f6
     go_wp2_with fail
     go_meet
     case rel=>exact HK6.out
    case rest=>
     have HK6:=Zh hcut
     clear hcut r3 s3 HP hr4 HK5 HS5 hF
     rename World=>WX
     obtain⟨W12,rfl⟩:∃W,W=WX:=⟨_,rfl⟩
     obtain⟨⟨ba,bn,bc⟩,ro5,Fh5,Ft5,lb5,hp,l1,l2,l3⟩:=HK6.out.p
     have hT3:({P.B5 k T with Ao:=bs}:Ai).A8[k]?=some {Ai.ready T with V:=((Ai.ready T).V.step P.heap).1}:=hT2
     obtain⟨hr5,hrow⟩:=hp.Rv (Bd hT3)
     obtain⟨t1,t2,t3⟩:=hp.th k ro5[k] _ (List.getElem?_eq_getElem hr5) hT3
     have hn5:bn = bs.length:=(by
      obtain⟨A,c',hv,_⟩:=Yq hp.K4;unfold BA.v at hv;injection hv)
     subst hn5
     have c3:=hp.bk.cell 3
     simp[BA.v] at c3
     have r3:=hrow 3 _ rfl
     simp[FG.l,t2,Ko] at r3
     have f3:=mU hp.KB (g:=g) rfl (off+k*4+3)
     have lg:lb5 g=1:=hp.l1 g rfl
     obtain⟨Fh6,Ft6,lb6,hp6,hl6⟩:=hp.lH HK6.out.e.lt hT3 hr5 rfl 3 (.int .i64 bs.length) {ro5[k] with last:=bs.length} {Ai.ready T with V:=((Ai.ready T).V.step P.heap).1,last:=bs.length} rfl Zd ⟨t1,rfl,t3⟩
     have HK7:=Zh (HK6.out.Ap hp l1 l2 l3 hp6 (MZ W12 g _ _ (by rw[lg];decide)) hl6)
     clear hp6 hl6 hp l1 l2 l3 t1 t2 t3 hrow HK6
     go_upto_region 22 with(fail)
     generalize W12.setCell ⟨g,off+k*4+3,none⟩ (.int .i64 bs.length)=W13 at*
     obtain⟨B,hB⟩:∃B:Ym,(⟨k,!T.V.busy,Ai.D9 T,S.real==0,S.over,S.A5⟩:Ym)=B:=⟨_,rfl⟩
     rw[hB] at HK7
     have HB0:=Zh hB
     clear hB
     have HK8:=Zh (HK7.out.below (Below.refl W13.heap.size W13).drew)
     clear HK7 c3 r3 f3 lg hr5
     obtain⟨⟨ba,bn,bc⟩,ro5,Fh5,Ft5,lb5,hp,l1,l2,l3⟩:=HK8.out.p
     have hT4:((P.B5 k T).A8.set k {Ai.ready T with V:=((Ai.ready T).V.step P.heap).1,last:=bs.length})[k]?=some {Ai.ready T with V:=((Ai.ready T).V.step P.heap).1,last:=bs.length}:=List.getElem?_set_self (Bd hT2)
     have hn5:bn = bs.length:=(by
      obtain⟨A,c',hv,_⟩:=Yq hp.K4;unfold BA.v at hv;injection hv)
     subst hn5
     have c3:=hp.bk.cell 3
     simp[BA.v] at c3
     have X0:=HK8.out.b
     refine X8 (λX=>Bk X bb 42 B.l.toArray/\X.cell? ⟨gp,3,none⟩=some (.slice ba bs.length bc)) 8 Zk ⟨X0,c3⟩ (λhS=>?_)
     clear c3 X0
     generalize W13.drew=W14 at*
     ((try simp only[ZL]);refine vT (fuel:=5) hS [0,1,2,3,4,5] ?_;simp only[Xy,Xr,List.toList_toArray];(repeat (first|go_big_quiet_skip|(go_big_quiet_want;first|(go_big_quiet_op;go_big_quiet_on)|(apply Exists.intro;refine⟨λw' hS'=>?_,?_⟩;(· ((have q1:=hS'.2;have y0:=hS'.1.cell 0;have y1:=hS'.1.cell 1;have y2:=hS'.1.cell 2;have y3:=hS'.1.cell 3;have y4:=hS'.1.cell 4;have y5:=hS'.1.cell 5;have y6:=hS'.1.cell 6;have y7:=hS'.1.cell 7;have y8:=hS'.1.cell 8;have y9:=hS'.1.cell 9;simp[Ym.l,A3.l,Yu.l] at y0 y1 y2 y3 y4 y5 y6 y7 y8 y9);go_simp;first|done|rfl|exact⟨rfl,rfl⟩));go_big_quiet_on;simp only[ZL]))));refine wpQuiet_nil ?_;(try dsimp only))
     (refine Xi 6 Zk (λK hK=>?_);simp only[Xr,List.toList_toArray])
     go_wp2_with fail
     have hA:=(Below.refl W14.heap.size W14).alloc (Nat.le_refl _) (.cells B.l.toArray 42)
     have hp2:=hp.below hA
     have HKa:=Zh (HK8.out.below hA)
     obtain⟨u,w7,hrun,ho,hg,hfr⟩:=LI (W14.alloc (.cells B.l.toArray 42)) _ bs hp2.K4 (by have:=HBN.out;omega) B W14.heap.size (Bk.at_ rfl) 37
     obtain⟨ua,uc,rfl,_⟩:=Yq ho
     have S2:Bk (W14.alloc (.cells B.l.toArray 42)) bb 42 B.l.toArray/\(W14.alloc (.cells B.l.toArray 42)).cell? ⟨gp,3,none⟩=some (.slice ba bs.length bc):=⟨HKa.out.b,(by have c3:=hp2.bk.cell 3;simp[BA.v] at c3;exact c3)⟩
     refine hK.out _ _ (λ_=>S2) ?_
     clear hK hS
     have hS:=S2
     have hz7:W14.heap.size+1<=w7.heap.size:=(by have:=hg.size;simpa using this)
     have hbb:bb<W14.heap.size:=HK8.out.b.lt
     have hgp:gp<W14.heap.size:=hp.bk.lt
     have nb:∀x,(Value.slice ba bs.length bc).ownBlock=some x->lb5 x=2:=λx hx=>hp.l2 x hx
     have S3:Bk w7 bb 42 B.l.toArray/\w7.cell? ⟨gp,3,none⟩=some (.slice ba bs.length bc):=⟨S2.1.grown hg (λe=>by have:=nb bb e.symm;omega),(GB (hg.block gp (by simp;omega) (λe=>by have:=nb gp e.symm;rw[hp.l0] at this;omega)) 3).trans S2.2⟩
     obtain⟨Fh7,Ft7,lb7,hp7,hl7⟩:=hp2.vR (u:=⟨ua,(bs++[B]).length,uc⟩) HKa.out.e.lt hT4 (by rw[hp2.len];exact Bd hT4) ho hg hfr
     have BV:DS (λb=>lb5 b<1000) (W14.alloc (.cells B.l.toArray 42)) (w7.setCell ⟨gp,3,none⟩ (.slice ua (bs++[B]).length uc)):=Ci (gR hg λx hx=>by rw[nb x hx];decide) (MZ (Q:=λb=>lb5 b<1000) w7 gp 3 _ (by rw[hp.l0];decide)) λb hb=>Or.inl hb
     have HKf:Hid (PK w lab gp gh Q.1 ⟨some ⟨g,off,none⟩,P.A8.length,c⟩ w.heap.size bb B (w7.setCell ⟨gp,3,none⟩ (.slice ua (bs++[B]).length uc))):=Zh (by
      have q:=HKa.out.Ap hp2 l1 l2 l3 hp7 BV hl7;have e1:Q.1={P.B5 k T with A8:=(P.B5 k T).A8.set k {Ai.ready T with V:=((Ai.ready T).V.step P.heap).1,last:=bs.length},Ao:=bs++[B]}:=by
       rw[←HQ.out,←HB0.out,HBN.out,←HBS.out,←HSS.out];unfold Ai.Cg Ai.B5;simp only[List.set_set]
      rw[e1];exact q)
     have c7:=S3.2
     have f7:=(hp2.bk.grown hg (λe=>by have:=nb gp e.symm;rw[hp.l0] at this;omega)).free 3
     clear hp hp2 hA HKa l1 l2 l3 hp7 hl7 BV S2 hfr hg ho HK8 hT4 nb
     generalize hfl:(bs++[B]).length=fl at*
     (refine Xi 7 Zk (λK hK=>?_);simp only[Xr,List.toList_toArray])
     go_wp2_with (at_builtin;refine Ya Zr _ _ _ _ _ _ _ Zr Zr Zr hrun ?_)
     refine hK.out _ _ (λ_=>S3) ?_
     clear hK hS hrun
     ((refine Xi 8 Zk (λK hK=>?_);simp only[Xr,List.toList_toArray]);go_wp2_with fail;refine hK.out _ _ (λh=>absurd h Zo) ?_;clear hK)
     ((refine Xi 9 Zk (λK hK=>?_);simp only[Xr,List.toList_toArray]);go_wp2_with fail;refine hK.out _ _ (λh=>absurd h Zo) ?_;clear hK)
     (refine Xi 10 Zk (λK hK=>?_);simp only[Xr,List.toList_toArray])
     go_wp2_with fail
     refine hK.out _ _ (λh=>absurd h Zo) ?_
     clear hK S3 c7 f7
     refine Ye Zk ?_ _
     generalize w7.setCell ⟨gp,3,none⟩ (.slice ua fl uc)=W15 at*
     have y0:=HKf.out.b.cell 0;have y1:=HKf.out.b.cell 1;have y2:=HKf.out.b.cell 2;have y3:=HKf.out.b.cell 3;have y4:=HKf.out.b.cell 4;have y5:=HKf.out.b.cell 5;have y6:=HKf.out.b.cell 6;have y7:=HKf.out.b.cell 7;have y8:=HKf.out.b.cell 8;have y9:=HKf.out.b.cell 9
     simp[Ym.l,A3.l,Yu.l] at y0 y1 y2 y3 y4 y5 y6 y7 y8 y9
     have HFI:Hid (Q.2=B):=Zh (by rw[←HQ.out,←HB0.out,←HSS.out];rfl)
     clear hi hs hl0 hl1 hbl hhas hh hid
     try clear hg
     try clear hbb
     go_wp2_with (refine vM HKf.out.r ?_;intro W16 hst;have z0:=hst.bk.cell 0;have z1:=hst.bk.cell 1;have z2:=hst.bk.cell 2;have z3:=hst.bk.cell 3;have z4:=hst.bk.cell 4;have z5:=hst.bk.cell 5;have z6:=hst.bk.cell 6;have z7:=hst.bk.cell 7;have z8:=hst.bk.cell 8;have z9:=hst.bk.cell 9;simp at z0 z1 z2 z3 z4 z5 z6 z7 z8 z9;have HST:=Zh hst;clear hst y0 y1 y2 y3 y4 y5 y6 y7 y8 y9)
     refine bodyPost_ret (v:=.tuple #[.agg #[.int .i64 B.Cj,.bool B.qD,.int .i64 B.op.kind,.int .i64 B.op.key,.int .i64 B.op.val,.int .i64 B.op.Ah,.bool B.real,.bool B.ends,.int .i64 B.A5.code,.int .i64 B.A5.val],.nilIface]) (by simp[results,Tryz.results17,go_sem,z0,z1,z2,z3,z4,z5,z6,z7,z8,z9]) rfl ?_
     exact⟨by rw[HFI.out];rfl,HKf.out.done HST.out.grown⟩
end Go.Proofs.YtaipogljokblkaaGreatDoor
