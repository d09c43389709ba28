/- Core: EaH, EaI, EaJ, EaK, EaL, EaT, EaU. -/
import Derived.Test.YtaipogljokblkaaGreatDoorE40
import Derived.Test.YtaipogljokblkaaGreatDoorE01
import Derived.KernelRfl
set_option linter.all false
set_option maxRecDepth 100000
set_option maxHeartbeats 8000000
namespace Go.Proofs.YtaipogljokblkaaGreatDoor
open Go Go.RowKit
set_option linter.unusedSimpArgs false
set_option linter.unusedVariables false
set_option linter.unusedSectionVars false
theorem put_eq{v v1:Vw}{b:X9}{x:Xe}{t f:Int}(h:v1.cell t f=v.cell t f):(v1.put b x).cell t f=(v.put b x).cell t f:=by
 unfold Vw.put;by_cases hb:b.sl=0
 ·rw[if_pos hb,if_pos hb];exact h
 ·rw[if_neg hb,if_neg hb];show Ap v1.cell b.sl _ t f=Ap v.cell b.sl _ t f;rw[X2,X2];by_cases e:t=b.sl
  ·rw[if_pos e,if_pos e,X2,X2];by_cases e2:f=b.fd
   ·rw[if_pos e2,if_pos e2]
   ·rw[if_neg e2,if_neg e2,←e];exact h
  ·rw[if_neg e,if_neg e];exact h
section
variable{Q:Yu->Vw->Prop}{al n:Nat}{v:Vw}{a:X9}{l:List Int}{key:Int}{S:Xh->Xx}{K:Xh × Xf->Xx × Xf}{op:A3}
theorem Gh.same(h:Gl v a l){A5:Yu}(e:(Ca (Bi v l) key op)=(A5,Bi v l)):Gh v a l key op A5 v:=⟨l,h,.refl,λ_ ht=>Or.inl ht,λ_ ht _=>⟨ht,rfl,rfl⟩,by rw[e],by rw[e]⟩
theorem RM(hS:∀(J:Xh) (x:Xj),(S J).next x=K (J.next x))(hK:∀(J:Xh) (c:Xf),c.kind≠12->K (J,c)=(S J,c))(h:Gl v a l)(hk:op.kind=8)(x:Xj)
  (fin:∀(J:Xh) (A5:Yu) (v':Vw),Gh v a l key op A5 v'->Yc Q al n v' (K (J,BK A5.code A5.val)).1 (K (J,BK A5.code A5.val)).2):
  Yc Q al (n+9*l.length+10) v (K ((Xh.from_ a key op).next x)).1 (K ((Xh.from_ a key op).next x)).2:=by
 obtain⟨k,ky,vl,tl⟩:=op
 obtain rfl:k=8:=hk
 have kl:=λJ a=>hK J (Yv a) (by show(3:Int)≠12;decide)
 simp[Xh.next,Xh.get,Xh.from_,Xh.zero,Xh.Au]
 rw[Iu (W:=Xm.new a key) rfl]
 refine .more (n:=n+1+9*l.length+5) (a:=al) ?_ (Nat.le_refl _) Zo
 refine JA (S:=λW=>S ⟨1,Xf.zero,a,key,⟨8,ky,vl,tl⟩,some W,Xe.zero,0⟩) (K:=λr=>K (TJ ⟨1,Xf.zero,a,key,⟨8,ky,vl,tl⟩,some (Xm.new a key),Xe.zero,0⟩ r)) (λW x=>?_) (λW c hc=>?_) h _ λpre post W hl w1 w2 we=>?_
 ·rw[hS];congr 1;exact Iu (J:=⟨1,Xf.zero,a,key,⟨8,ky,vl,tl⟩,some W,Xe.zero,0⟩) rfl x
 ·exact hK _ _ hc
 cases hf:W.found with
 |true=>
  obtain⟨u,r,e1,e2,_⟩:=we.yes hf
  simp[TJ,hf,kl]
  have hc:CU v 2 W.cur (u::r):=by rw[we.cur,we.prev,←e1];exact CU.at_ (by rw[←hl];exact h.ch)
  refine .ld (Yd hc.2.1 Zd Zd) (Yp hc.2.1.1) ?_
  rw[hS]
  simp[Xh.next,Xh.get,Xh.done]
  exact fin _ ⟨1,_⟩ _ (Gh.same h (by rw[hl,e1,Dt we.lo e2,hc.1];rfl))
 |false=>
  simp[TJ,hf]
  exact(fin _ ⟨2,0⟩ _ (Gh.same h (by rw[hl,Fs we.lo (we.no hf)];rfl))).more (Nat.le_refl _) Zo
theorem RK(hS:∀(J:Xh) (x:Xj),(S J).next x=K (J.next x))(hK:∀(J:Xh) (c:Xf),c.kind≠12->K (J,c)=(S J,c))(h:Gl v a l)(hk:op.kind=7)(x:Xj)
  (fin:∀(J:Xh) (A5:Yu) (v':Vw),Gh v a l key op A5 v'->Yc Q al n v' (K (J,BK A5.code A5.val)).1 (K (J,BK A5.code A5.val)).2):
  Yc Q al (n+9*l.length+60) v (K ((Xh.from_ a key op).next x)).1 (K ((Xh.from_ a key op).next x)).2:=by
 obtain⟨k,ky,vl,tl⟩:=op
 obtain rfl:k=7:=hk
 have kl:=λJ a=>hK J (Yv a) (by show(3:Int)≠12;decide)
 have kw:=λJ a o w=>hK J (Y6 a o w) (by show(5:Int)≠12;decide)
 have kr:=λJ w=>hK J (EC w) (by show(10:Int)≠12;decide)
 simp[Xh.next,Xh.A6,Xh.from_,Xh.zero,Xh.Au]
 rw[Iu (W:=Xm.new a key) rfl]
 refine .more (n:=n+40+1+1+1+9*l.length+5) (a:=al) ?_ (Nat.le_refl _) Zo
 refine JA (S:=λW=>S ⟨1,Xf.zero,a,key,⟨7,ky,vl,tl⟩,some W,Xe.zero,0⟩) (K:=λr=>K (TJ ⟨1,Xf.zero,a,key,⟨7,ky,vl,tl⟩,some (Xm.new a key),Xe.zero,0⟩ r)) (λW x=>?_) (λW c hc=>?_) h _ λpre post W hl w1 w2 we=>?_
 ·rw[hS];congr 1;exact Iu (J:=⟨1,Xf.zero,a,key,⟨7,ky,vl,tl⟩,some W,Xe.zero,0⟩) rfl x
 ·exact hK _ _ hc
 cases hf:W.found with
 |false=>
  simp[TJ,hf]
  exact(fin _ ⟨2,0⟩ _ (Gh.same h (by rw[hl,Fs we.lo (we.no hf)];rfl))).more (Nat.le_refl _) Zo
 |true=>
  obtain⟨s,r,rfl,e2,e3⟩:=we.yes hf
  simp[TJ,hf,kl]
  have hc:CU v 2 W.cur (s::r):=by rw[we.cur,we.prev];exact CU.at_ (by rw[←hl];exact h.ch)
  obtain⟨c1,c2,c3⟩:=hc
  have hpa:v.Ad W.prev:=by rw[we.prev];exact Jk Zd h.ad (by rw[←hl];exact h.ch)
  have hnd:=h.nd
  rw[hl] at hnd
  have hsl:s∈l:=by rw[hl];simp
  have hs0:s≠0:=(h.ch.held s hsl).1
  have hsp:s∉pre:=λhm=>(List.nodup_append.1 hnd).2.2 s hm s (List.mem_cons_self ..) rfl
  obtain⟨hsr,hrn⟩:=List.nodup_cons.1 (List.nodup_append.1 hnd).2.1
  have hlk:(EZ 2 v.As a pre).sl≠s:=by
   rcases @Cq v 2 pre a with⟨e,_⟩|e
   ·rw[e];exact λe=>(h.Ax (e▸hs0)).1 (e▸hsl)
   ·exact λe'=>hsp (e'▸e.1)
  refine .ld (Yd c2 Zd Zd) (Yp c2.1) ?_
  rw[hS]
  simp[Xh.next,Xh.A6,kw,CM,Y9,Io]
  refine .sw (Yd c2 Zd Zd) (by rw[Yp c2.1,c1,←e3]) (Yx _) rfl ?_
  rw[hS]
  simp[Xh.next,Xh.A6,kw,CM,Y9,Io]
  refine .sw (Iw.2 hpa) (by rw[CH,if_neg λe=>hlk (by rw[←we.prev];exact e.1.trans c1),←we.cur]) (Yx _) rfl ?_
  rw[hS]
  simp[Xh.next,Xh.A6,kr,Y9]
  refine .rt (Cl.2 (Cl.2 c2)) ?_
  rw[hS]
  simp[Xh.next,Xh.A6,Xh.done]
  rw[we.prev,c1]
  generalize hx:En W.cur W.next=x2
  have x2s:x2.sl=(v.cell s 2).sl/\x2.gn=(v.cell s 2).gn/\x2.mark=false:=by rw[←hx,e3];exact⟨rfl,rfl,rfl⟩
  have l2:=(show Gl v a (pre++s :: r) from hl ▸ h).splice (x:=x2) (r:=r) ((CU.put (v:=v) (b:=EZ 2 v.As a pre) c3 (Or.inr fun hm=>by
   rcases @Cq v 2 pre a with⟨e,_⟩|e
   ·rw[e] at hm;exact(h.Ax (c3.held _ hm).1).1 (by rw[hl];simp[hm])
   ·exact(List.nodup_append.1 hnd).2.2 _ e.1 _ (List.mem_cons_of_mem _ hm) rfl)).ref x2s.1 x2s.2.1) x2s.2.2 (λt ht=>⟨h.um t (by rw[hl];simp[ht]),λhm=>(List.nodup_append.1 hnd).2.2 t hm t (List.mem_cons_of_mem _ ht) rfl,λh0 e=>(h.Ax h0).1 (by rw[hl,←e];simp[ht])⟩) hrn
  have has:a.sl≠s:=λe=>(h.Ax (e▸hs0)).1 (e▸hsl)
  have hw:Xg W.cur 2=⟨s,W.cur.gn,2⟩:=by unfold Xg;rw[c1]
  rw[hw]
  have k1:∀t f,¬(t=s/\f=2)->((v.put ⟨s,W.cur.gn,2⟩ (Ff W.next)).put (EZ 2 v.As a pre) x2).cell t f=(v.put (EZ 2 v.As a pre) x2).cell t f:=λt f e=>put_eq (Yb t f e)
  have kc:∀q:List Int,(∀t∈q,t≠0)->Bi ((v.put ⟨s,W.cur.gn,2⟩ (Ff W.next)).put (EZ 2 v.As a pre) x2) q=Bi v q:=λq hq=>Fb λt ht=>by
   have hf2:∀f:Int,f=0\/f=1->¬(t=(EZ 2 v.As a pre).sl/\f=(EZ 2 v.As a pre).fd):=λf hf e=>by
    rcases @Cq v 2 pre a with⟨e',_⟩|e'
    ·rw[e'] at e;by_cases h0:a.sl=0
     ·exact hq t ht (e.1.trans h0)
     ·have:=(h.Ax h0).2;omega
    ·have:=e'.2.1;omega
   exact⟨by rw[k1 t 0 (λe=>absurd e.2 Zd),Yb t 0 (hf2 0 (Or.inl rfl))],by rw[k1 t 1 (λe=>absurd e.2 Zd),Yb t 1 (hf2 1 (Or.inr rfl))]⟩
  have hm:∀t∈pre++r,t∈l/\t≠s:=λt ht=>by
   rw[hl];rcases List.mem_append.1 ht with ht|ht
   ·exact⟨List.mem_append_left _ ht,λe=>hsp (e▸ht)⟩
   ·exact⟨List.mem_append_right _ (List.mem_cons_of_mem _ ht),λe=>hsr (e▸ht)⟩
  refine fin _ ⟨1,_⟩ _ ⟨pre++r,l2.same ?_ ?_ (λt ht=>⟨⟨(hm t ht).2,?_⟩,?_,?_⟩),?_,λt ht=>Or.inl (hm t ht).1,λt ht hk=>⟨?_,?_,?_⟩,?_,?_⟩
  ·rcases h.ad with h|⟨h1,h2,h3,h4⟩
   ·exact Or.inl h
   ·exact Or.inr ⟨h1,⟨has,by rw[B9,B9];exact h2⟩,by show _=((v.put _ _).put _ _).As a.sl;rw[AD,AD];exact h3,h4⟩
  ·show((v.put _ _).put _ _).get a=_;rw[CH,CH,CH,if_neg (c:=a.sl=s/\a.fd=2) λe=>has e.1]
  ·rw[B9,B9];exact(h.ch.held t (hm t ht).1).2
  ·show((v.put _ _).put _ _).As t=(v.put _ _).As t;rw[AD,AD,AD]
  ·exact k1 t 2 λe=>(hm t ht).2 e.1
  ·refine((Ec.put (v:=v) (l:=l) (Or.inr ⟨hs0,Or.inl hsl⟩)).trans (Ec.put (l:=l) ?_) λt ht=>Or.inl ht).trans (Ec.drop (l:=l) (Or.inl hsl)) λt ht=>Or.inl ht;rcases @Cq v 2 pre a with⟨e,_⟩|e
   ·exact Or.inl e
   ·have hm:(EZ 2 v.As a pre).sl∈l:=by rw[hl];exact List.mem_append_left _ e.1
    exact Or.inr ⟨(h.ch.held _ hm).1,Or.inl hm⟩
  ·have hts:t≠s:=λe=>hk (e▸e2);rw[hl] at ht;rcases List.mem_append.1 ht with ht|ht
   ·exact List.mem_append_left _ ht
   ·rcases List.mem_cons.1 ht with e|ht
    ·exact absurd e hts
    ·exact List.mem_append_right _ ht
  ·show((v.put _ _).put _ _).As t=_;rw[AD,AD]
  ·show((v.put _ _).put _ _).cell t 0=_;rw[k1 t 0 (λe=>absurd e.2 Zd),Yb t 0 λe=>?_];rcases @Cq v 2 pre a with⟨e',_⟩|e'
   ·rw[e'] at e;exact(h.Ax (e.1▸(h.ch.held t ht).1)).1 (e.1▸ht)
   ·have:=e'.2.1;omega
  ·rw[hl,Dt we.lo e2];rfl
  ·rw[hl,Dt we.lo e2];exact kc (pre++r) λt ht=>(h.ch.held t (hm t ht).1).1
end
section
variable{v v':Vw}{a:X9}{p q q':List Int}{w:Xe}{f z:Int}
theorem CU.repl:∀{p:List Int} {w:Xe},CU v f w (p++z::q)->(∀s∈p,v'.held s/\v'.As s=v.As s/\v'.cell s f=v.cell s f)->v'.held z->v'.As z=v.As z->CU v' f (v'.cell z f) q'->CU v' f w (p++z::q')
 |[],w,⟨h1,h2,_⟩,_,hz,hg,h=>⟨h1,⟨h2.1,by rw[h1];exact hz,by rw[h1,hg,←h1];exact h2.2.2⟩,h⟩
 |s::p,w,⟨h1,h2,h3⟩,hs,hz,hg,h=>by
  obtain⟨s1,s2,s3⟩:=hs s (List.mem_cons_self ..);exact⟨h1,⟨h2.1,by rw[h1];exact s1,by rw[h1,s2,←h1];exact h2.2.2⟩,by rw[s3];exact CU.repl h3 (λt ht=>hs t (List.mem_cons_of_mem _ ht)) hz hg h⟩
theorem Un(h:Gl v a (p++q)):Gl v (EZ 2 v.As a p) q:=by
 have hn:=List.nodup_append.1 h.nd;refine⟨CU.at_ h.ch,hn.2.1,Jk Zd h.ad h.ch,h.mark rfl,λs hs=>h.um s (List.mem_append_right _ hs),λh0=>?_⟩;rcases @Cq v 2 p a with⟨e,_⟩|e
 ·rw[e] at h0 ⊢;exact⟨λhm=>(h.Ax h0).1 (List.mem_append_right _ hm),(h.Ax h0).2⟩
 ·exact⟨λhm=>hn.2.2 _ e.1 _ hm rfl,e.2.1⟩
theorem nM(h:Gl v a (p++q))(h':Gl v' (EZ 2 v.As a p) q')(fr:Ec v v' (EZ 2 v.As a p) q)(hq:∀s∈q',s∈q\/¬v.held s):Gl v' a (p++q')/\Bi v' (p++q')=Bi v p++Bi v' q':=by
 have hn:=List.nodup_append.1 h.nd;rcases List.eq_nil_or_concat p with rfl|⟨p0,y,rfl⟩
 ·exact⟨h',rfl⟩
 rw[List.concat_eq_append] at*;have hb:EZ 2 v.As a (p0++[y])=⟨y,v.As y,2⟩:=GP y;rw[hb] at h' fr;have hp:∀s∈p0++[y],v.held s/\s∉q/\s≠0:=λs hs=>⟨(h.ch.held s (List.mem_append_left _ hs)).2,λhm=>hn.2.2 s hs s hm rfl,(h.ch.held s (List.mem_append_left _ hs)).1⟩;have hn0:=List.nodup_append.1 hn.1;have hsame:∀s∈p0++[y],v'.held s/\v'.As s=v.As s/\(∀g,g≠2->v'.cell s g=v.cell s g)/\(s∈p0->v'.cell s 2=v.cell s 2):=λs hs=>by
  obtain⟨h1,h2,h3⟩:=hp s hs;obtain⟨f1,f2,f3⟩:=fr.sl s h1 h2;exact⟨f1,f2,λg hg=>f3 g λe=>hg e.2,λhm=>f3 2 λe=>hn0.2.2 s hm y Zs e.1⟩
 have hy:=hsame y Zs;have hy0:y≠0:=(hp y Zs).2.2;have hga:v'.get a=v.get a:=by
  rcases h.ad with⟨h1,_⟩|⟨h1,h2,_⟩
  ·unfold Vw.get;rw[if_pos h1,if_pos h1,fr.rt a.fd λe=>hy0 e.1]
  ·have hf:=h.Ax h1;unfold Vw.get;rw[if_neg h1,if_neg h1];exact(fr.sl a.sl h2 λhm=>hf.1 (List.mem_append_right _ hm)).2.2 a.fd λe=>hf.1 (by rw[show a.sl=y from e.1];simp)
 have hq0:∀s∈q',s∉p0++[y]:=λs hs hm=>(hq s hs).elim (λh1=>(hp s hm).2.1 h1) λh1=>h1 (hp s hm).1;refine⟨⟨?_,List.nodup_append.2 ⟨hn.1,h'.nd,λs hs t ht e=>hq0 t ht (e▸hs)⟩,?_,by rw[hga];exact h.m0,λs hs=>?_,λh0=>⟨λhm=>?_,(h.Ax h0).2⟩⟩,?_⟩
 ·have hc:CU v 2 (v.get a) (p0++y::q):=by have:=h.ch;simpa using this
  have:=CU.repl (v':=v') (q':=q') hc (λs hs=>by have:=hsame s (by simp[hs]);exact⟨this.1,this.2.1,this.2.2.2 hs⟩) hy.1 hy.2.1 (by have:=h'.ch;rw[Cx hy0] at this;exact this);rw[hga];simpa using this
 ·rcases h.ad with h1|⟨h1,h2,h3,h4⟩
  ·exact Or.inl h1
  ·obtain⟨f1,f2,_⟩:=fr.sl a.sl h2 λhm=>(h.Ax h1).1 (List.mem_append_right _ hm);exact Or.inr ⟨h1,f1,h3.trans f2.symm,h4⟩
 ·rcases List.mem_append.1 hs with hs|hs
  ·rcases List.mem_append.1 hs with hm|hm
   ·rw[(hsame s hs).2.2.2 hm];exact h.um s (List.mem_append_left _ hs)
   ·rw[List.mem_singleton.1 hm];have:=h'.m0;rw[Cx hy0] at this;exact this
  ·exact h'.um s hs
 ·rcases List.mem_append.1 hm with hm|hm
  ·exact(h.Ax h0).1 (List.mem_append_left _ hm)
  ·rcases hq _ hm with h1|h1
   ·exact(h.Ax h0).1 (List.mem_append_right _ h1)
   ·rcases h.ad with h2|h2
    ·exact h0 h2.1
    ·exact h1 h2.2.1
 ·rw[EE,Fb (v':=v') (l:=p0++[y]) λs hs=>⟨(hsame s hs).2.2.1 0 Zd,(hsame s hs).2.2.1 1 Zd⟩]
end
theorem Qb{A R:List (Int × Int)}{key:Int}{op:A3}(h:∀e∈A,e.1<key):Ca (A++R) key op=((Ca R key op).1,A++(Ca R key op).2):=by
 have e1:(A++R).takeWhile (λe=>decide (e.1<key))=A++R.takeWhile (λe=>decide (e.1<key)):=by
  rw[List.takeWhile_append_of_pos λe he=>decide_eq_true (h e he)]
 have e2:(A++R).dropWhile (λe=>decide (e.1<key))=R.dropWhile (λe=>decide (e.1<key)):=by
  rw[List.dropWhile_append_of_pos λe he=>decide_eq_true (h e he)]
 unfold Ca;rw[e1,e2];cases R.dropWhile (λe=>decide (e.1<key)) with
 |nil=>simp only;split<;>simp
 |cons y t=>
  obtain⟨k,x⟩:=y;simp only;split
  ·split
   ·rfl
   ·split<;>simp
  ·split<;>simp
structure VC where
 L:List (Int × Int)
 B:Int->Bool
 z:Int
 c:Int
def bop:A3:=⟨6,0,0,0⟩
def VC.add(C:VC)(b:Int):VC:={C with L:=(Ca C.L (Yn b) bop).2,B:=Ap C.B b true}
structure Ea(v:Vw)(C:VC):Prop where
 r0:v.Rf (v.root 8)
 ex:∃l,Gl v (Xg (v.root 8) 2) l/\Bi v l=C.L/\∀b,1<=b->b<8->C.B b=true->v.Rf (v.root (8+b))/\(v.root (8+b)).sl∈l/\(v.cell (v.root (8+b)).sl 0).nm=Yn b
 nil:∀b,1<=b->b<8->C.B b=false->(v.root (8+b)).sl=0/\∀e∈C.L,e.1≠Yn b
 OT:C.L.Pairwise λa b=>a.1<b.1
 z:(v.root 16).nm=C.z
 c:(v.root 17).nm=C.c
theorem ordt:((List.range 256).all λk=>[1,2,4,8].all λz:Int=>decide (Yn (Int.tmod (k:Int) z)<Gy (k:Int)))=true:=Zk
theorem tX{k z:Int}(h0:0<=k)(h1:k<256)(hz:z=1\/z=2\/z=4\/z=8):Yn (Int.tmod k z)<Gy k:=by
 have h:=List.all_eq_true.1 ordt k.toNat (List.mem_range.2 Zo);have h:=List.all_eq_true.1 h z (by simp;omega);rw[Int.toNat_of_nonneg h0] at h;exact of_decide_eq_true h
theorem ordx:((List.range 256).all λk=>(List.range 8).all λb=>decide (Yn (b:Int)≠Gy (k:Int)))=true:=Zk
theorem tY{k b:Int}(h0:0<=k)(h1:k<256)(b0:0<=b)(b1:b<8):Yn b≠Gy k:=by
 have h:=List.all_eq_true.1 ordx k.toNat (List.mem_range.2 Zo);have h:=List.all_eq_true.1 h b.toNat (List.mem_range.2 Zo);rw[Int.toNat_of_nonneg h0,Int.toNat_of_nonneg b0] at h;exact of_decide_eq_true h
theorem bordx:((List.range 8).all λa=>(List.range 8).all λb=>decide (a=b\/Yn (a:Int)≠Yn (b:Int)))=true:=Zk
theorem UP{a b:Int}(a0:0<=a)(a1:a<8)(b0:0<=b)(b1:b<8)(h:a≠b):Yn a≠Yn b:=by
 have e:=List.all_eq_true.1 bordx a.toNat (List.mem_range.2 Zo);have e:=List.all_eq_true.1 e b.toNat (List.mem_range.2 Zo);rw[Int.toNat_of_nonneg a0,Int.toNat_of_nonneg b0] at e;rcases of_decide_eq_true e with e|e
 ·omega
 ·exact e
theorem Ea.base{v:Vw}{C:VC}{l:List Int}{b:Int}(hl:Gl v (Xg (v.root 8) 2) l)(hc:Bi v l=C.L)(hs:C.L.Pairwise λa b=>a.1<b.1)(hB:b=0\/(v.Rf (v.root (8+b))/\(v.root (8+b)).sl∈l/\(v.cell (v.root (8+b)).sl 0).nm=Yn b)):
  ∃p q,l=p++q/\Xg (v.root (8+b)) 2=EZ 2 v.As (Xg (v.root 8) 2) p/\∀e∈Bi v p,e.1<=Yn b:=by
 rcases hB with rfl|⟨h1,h2,h3⟩
 ·exact⟨[],l,rfl,rfl,λe he=>by cases he⟩
 ·obtain⟨p,q,e⟩:=List.append_of_mem h2;refine⟨p++[(v.root (8+b)).sl],q,by rw[e];simp,by rw[GP];unfold Xg;rw[h1.2.2],λy hy=>?_⟩;rw[EE] at hy;rcases List.mem_append.1 hy with hy|hy
  ·rw[←hc,e,EE] at hs;have:=(List.pairwise_append.1 hs).2.2 y hy ((v.cell (v.root (8+b)).sl 0).nm,(v.cell (v.root (8+b)).sl 1).nm) (List.mem_cons_self ..);have this:y.1<(v.cell (v.root (8+b)).sl 0).nm:=this;omega
  ·rw[List.mem_singleton.1 hy];exact Int.le_of_eq h3
def UZ(v:Vw)(B:Int->Bool)(l:List Int):Prop:=∀b,1<=b->b<8->B b=true->v.Rf (v.root (8+b))/\(v.root (8+b)).sl∈l/\(v.cell (v.root (8+b)).sl 0).nm=Yn b
section
variable{v v':Vw}{C:VC}{b key:Int}{op:A3}{A5:Yu}
theorem Ea.tail(h:Ea v C)(hb:b=0\/(1<=b/\b<8/\C.B b=true)):∃p q,Gl v (Xg (v.root 8) 2) (p++q)/\Bi v (p++q)=C.L/\UZ v C.B (p++q)/\Xg (v.root (8+b)) 2=EZ 2 v.As (Xg (v.root 8) 2) p/\(∀e∈Bi v p,e.1<=Yn b)/\v.Rf (v.root (8+b)):=by
 obtain⟨l,h1,h2,h3⟩:=h.ex;have hR:v.Rf (v.root (8+b)):=by
  rcases hb with rfl|⟨a1,a2,a3⟩
  ·exact h.r0
  ·exact(h3 b a1 a2 a3).1
 obtain⟨p,q,e1,e2,e3⟩:=Ea.base (C:=C) (b:=b) h1 h2 h.OT (hb.imp id λ⟨a1,a2,a3⟩=>h3 b a1 a2 a3);subst e1;exact⟨p,q,h1,h2,h3,e2,e3,hR⟩
theorem YP{p q q':List Int}(r0:v.Rf (v.root 8))(hl:Gl v (Xg (v.root 8) 2) (p++q))(hc:Bi v (p++q)=C.L)(hs:UZ v C.B (p++q))(ha:Xg (v.root (8+b)) 2=EZ 2 v.As (Xg (v.root 8) 2) p)(hp:∀e∈Bi v p,e.1<=Yn b)(hR:v.Rf (v.root (8+b)))
  (hlt:Yn b<key)(hne:∀b',1<=b'->b'<8->C.B b'=true->Yn b'≠key)(hL:aD v (Xg (v.root (8+b)) 2) q key op A5 v' q'):
  A5=(Ca C.L key op).1/\v'.root=v.root/\v'.Rf (v'.root 8)/\Gl v' (Xg (v'.root 8) 2) (p++q')/\Bi v' (p++q')=(Ca C.L key op).2/\UZ v' C.B (p++q'):=by
 obtain⟨h1,h2,h3,h4,h5,h6⟩:=hL
 have hroot:v'.root=v.root:=funext λr=>h2.rt r λe=>hR.1 e.1
 have hx:=Qb (A:=Bi v p) (R:=Bi v q) (key:=key) (op:=op) λe he=>by have:=hp e he;omega
 rw[←EE,hc] at hx
 have hjoin:=nM (v':=v') (q':=q') hl (by rw[←ha];exact h1) (by rw[←ha];exact h2) h3
 have hfar:=hl.Ax r0.1
 have h8:=h2.sl (v.root 8).sl r0.2.1 λhm=>hfar.1 (List.mem_append_right _ hm)
 refine⟨by rw[hx];exact h5,hroot,by rw[hroot];exact⟨r0.1,h8.1,r0.2.2.trans h8.2.1.symm⟩,by rw[hroot];exact hjoin.1,by rw[hjoin.2,hx,h6],λb' b1 b2 b3=>?_⟩
 rw[hroot]
 obtain⟨s1,s2,s3⟩:=hs b' b1 b2 b3
 rcases List.mem_append.1 s2 with s2|s2
 ·obtain⟨f1,f2,f3⟩:=h2.sl _ s1.2.1 λhm=>(List.nodup_append.1 hl.nd).2.2 _ s2 _ hm rfl;exact⟨⟨s1.1,f1,s1.2.2.trans f2.symm⟩,List.mem_append_left _ s2,by rw[f3 0 λe=>absurd e.2 (by show ¬(0:Int)=2;decide)];exact s3⟩
 ·obtain⟨k1,k2,k3⟩:=h4 _ s2 (by rw[s3];exact hne b' b1 b2 b3);exact⟨⟨s1.1,(h1.ch.held _ k1).2,s1.2.2.trans k2.symm⟩,List.mem_append_right _ k1,by rw[k3];exact s3⟩
theorem Qc{L:List (Int × Int)}(hs:L.Pairwise λa b=>a.1<b.1):(Ca L key op).2.Pairwise (λa b=>a.1<b.1)/\∀e∈(Ca L key op).2,e∈L\/e.1=key:=by
 induction L with
 |nil=>
  unfold Ca;simp only[List.takeWhile_nil,List.dropWhile_nil];split
  ·exact⟨by simp,λe he=>Or.inr (by simp at he;rw[he])⟩
  ·exact⟨by simp,λe he=>by cases he⟩
 |cons y r ih=>
  obtain⟨h1,h2⟩:=List.pairwise_cons.1 hs;by_cases hy:y.1<key
  ·obtain⟨i2,i3⟩:=ih h2;have e:=Qb (A:=[y]) (R:=r) (key:=key) (op:=op) λe he=>by rw[List.mem_singleton.1 he];exact hy
   rw[List.singleton_append] at e;rw[e];refine⟨List.pairwise_cons.2 ⟨λa ha=>?_,i2⟩,λe he=>?_⟩
   ·rcases i3 a ha with ha|ha
    ·exact h1 a ha
    ·show y.1<a.1;omega
   ·rcases List.mem_cons.1 he with rfl|he
    ·exact Or.inl (List.mem_cons_self ..)
    ·exact(i3 e he).imp (List.mem_cons_of_mem _) id
  ·obtain⟨k,x⟩:=y;have hy:¬k<key:=hy;have e:Ca ((k,x)::r) key op=if k=key then(if op.kind=6 then(⟨3,0⟩,(k,x)::r) else if op.kind=7 then(⟨1,x⟩,r) else(⟨1,x⟩,(k,x)::r)) else if op.kind=6 then(⟨1,0⟩,(key,op.val)::(k,x)::r) else(⟨2,0⟩,(k,x)::r):=by
    unfold Ca;simp[hy]
   rw[e];split
   ·split
    ·exact⟨hs,λe he=>Or.inl he⟩
    ·split
     ·exact⟨h2,λe he=>Or.inl (List.mem_cons_of_mem _ he)⟩
     ·exact⟨hs,λe he=>Or.inl he⟩
   ·rename_i hk;split
    ·refine⟨List.pairwise_cons.2 ⟨λa ha=>?_,hs⟩,λe he=>?_⟩
     ·rcases List.mem_cons.1 ha with rfl|ha
      ·show key<k;omega
      ·have:=h1 a ha;show key<a.1;have:k<a.1:=this;omega
     ·rcases List.mem_cons.1 he with rfl|he
      ·exact Or.inr rfl
      ·exact Or.inl he
    ·exact⟨hs,λe he=>Or.inl he⟩
end
def sH(C:VC)(k size:Int):VC:=
 let C1:={C with c:=wr (C.c+(bif k==7 then-1 else 1))}
 bif k==7 then C1 else bif size==8 then C1 else bif decide (C.c<wr (2*size)) then C1 else bif C.z==size then{C1 with z:=wr (C.z+size)} else C1
section
variable{v:Vw}{C:VC}{w:Xe}
theorem Ea.yO(h:Ea v C):Ea {v with root:=Ap v.root 17 w} {C with c:=w.nm}:=by
 have e:∀r,r≠17->Ap v.root 17 w r=v.root r:=λr hr=>by rw[X2,if_neg hr]
 obtain⟨l,h1,h2,h3⟩:=h.ex;refine⟨by show Vw.Rf _ (Ap v.root 17 w 8);rw[e 8 Zd];exact h.r0,⟨l,?_,h2,λb b1 b2 b3=>?_⟩,λb b1 b2 b3=>?_,h.OT,?_,?_⟩
 ·show Gl _ (Xg (Ap v.root 17 w 8) 2) l;rw[e 8 Zd];exact h1.same (by rcases h1.ad with a|a;exact Or.inl a;exact Or.inr a) (by unfold Vw.get;rw[if_neg (show ¬(Xg (v.root 8) 2).sl=0 from h.r0.1),if_neg (show ¬(Xg (v.root 8) 2).sl=0 from h.r0.1)]) λs hs=>⟨(h1.ch.held s hs).2,rfl,rfl⟩
 ·show Vw.Rf _ (Ap v.root 17 w (8+b))/\(Ap v.root 17 w (8+b)).sl∈l/\(v.cell (Ap v.root 17 w (8+b)).sl 0).nm=Yn b;rw[e (8+b) Zo];exact h3 b b1 b2 b3
 ·show(Ap v.root 17 w (8+b)).sl=0/\_;rw[e (8+b) Zo];exact h.nil b b1 b2 b3
 ·show(Ap v.root 17 w 16).nm=_;rw[e 16 Zd];exact h.z
 ·show(Ap v.root 17 w 17).nm=w.nm;rw[X2,if_pos rfl]
theorem Ea.yP(h:Ea v C):Ea {v with root:=Ap v.root 16 w} {C with z:=w.nm}:=by
 have e:∀r,r≠16->Ap v.root 16 w r=v.root r:=λr hr=>by rw[X2,if_neg hr]
 obtain⟨l,h1,h2,h3⟩:=h.ex;refine⟨by show Vw.Rf _ (Ap v.root 16 w 8);rw[e 8 Zd];exact h.r0,⟨l,?_,h2,λb b1 b2 b3=>?_⟩,λb b1 b2 b3=>?_,h.OT,?_,?_⟩
 ·show Gl _ (Xg (Ap v.root 16 w 8) 2) l;rw[e 8 Zd];exact h1.same (by rcases h1.ad with a|a;exact Or.inl a;exact Or.inr a) (by unfold Vw.get;rw[if_neg (show ¬(Xg (v.root 8) 2).sl=0 from h.r0.1),if_neg (show ¬(Xg (v.root 8) 2).sl=0 from h.r0.1)]) λs hs=>⟨(h1.ch.held s hs).2,rfl,rfl⟩
 ·show Vw.Rf _ (Ap v.root 16 w (8+b))/\(Ap v.root 16 w (8+b)).sl∈l/\(v.cell (Ap v.root 16 w (8+b)).sl 0).nm=Yn b;rw[e (8+b) Zo];exact h3 b b1 b2 b3
 ·show(Ap v.root 16 w (8+b)).sl=0/\_;rw[e (8+b) Zo];exact h.nil b b1 b2 b3
 ·show(Ap v.root 16 w 16).nm=w.nm;rw[X2,if_pos rfl]
 ·show(Ap v.root 16 w 17).nm=_;rw[e 17 Zd];exact h.c
end
theorem aU{Q:Yu->Vw->Prop}{al n:Nat}{v:Vw}{C:VC}{last:Xf}{op:A3}{z wn bk ch:Int}{ba no se:Xe}{wk:Option Xm}{Su:Option Xh}{A5:Yu}{cw:Xe}(h:Ea v C)(fin:∀v',Ea v' (sH C op.kind z)->Q A5 v'):
  Yc Q al (n+4) v (.K2 ⟨12,last,op,z,wn,bk,ch,ba,no,se,wk,Su,A5,cw⟩) (Yv (root 17)):=by
 obtain⟨k,ky,vl,tl⟩:=op
 refine .ld (AY Zd Zd) rfl ?_
 simp[Xx.next,Xa.next,Xa.GV,BU]
 have h1:=h.yO (w:=BP (v.root 17) (bif k==7 then-1 else 1))
 have e1:(BP (v.root 17) (bif k==7 then-1 else 1)).nm=wr (C.c+(bif k==7 then-1 else 1)):=by show wr ((v.root 17).nm+_)=_;rw[h.c]
 rw[e1] at h1
 refine .sw (AY Zd Zd) rfl (Yx _) Gx ?_
 simp[Xx.next,Xa.next,Xa.Ih,Xa.done]
 generalize hv1:({v with root:=Ap v.root 17 (BP (v.root 17) (bif k==7 then-1 else 1))}:Vw)=v1 at h1 ⊢
 rw[h.c]
 have fin:=λv'=>fin v'
 simp only[sH] at fin
 cases h7:k==7 with
 |true=>rw[h7] at fin h1;exact .dn (fin v1 h1)
 |false=>
  rw[h7] at fin h1
  simp only[cond_false] at fin h1 ⊢
  cases h8:z==8 with
  |true=>rw[h8] at fin;exact .dn (fin v1 h1)
  |false=>
   rw[h8] at fin
   simp only[cond_false] at fin ⊢
   cases hd:decide (C.c<wr (2*z)) with
   |true=>rw[hd] at fin;exact .dn (fin v1 h1)
   |false=>
    rw[hd] at fin
    simp only[cond_false] at fin ⊢
    refine .ld (AY Zd Zd) rfl ?_
    simp[Xx.next,Xa.next,Xa.DD,Xa.done,BU]
    have h16:=h1.z
    have h16:(v1.root 16).nm=C.z:=h16
    rw[h16]
    cases hz:C.z==z with
    |false=>
     rw[hz] at fin
     exact .dn (fin v1 h1)
    |true=>
     rw[hz] at fin
     simp only[cond_true] at fin ⊢
     have h2:=h1.yP (w:=BP (v1.root 16) z)
     rw[show(BP (v1.root 16) z).nm=wr (C.z+z) by show wr ((v1.root 16).nm+z)=_;rw[h16]] at h2
     refine .sw (AY Zd Zd) rfl (Yx _) Gx ?_
     simp[Xx.next,Xa.next,Xa.done]
     exact .dn (fin _ h2)
section
variable{Q:Yu->Vw->Prop}{al n:Nat}{v:Vw}{a:X9}{l:List Int}{key:Int}{S:Xh->Xx}{K:Xh × Xf->Xx × Xf}{op:A3}
theorem Mw(hS:∀(J:Xh) (x:Xj),(S J).next x=K (J.next x))(hK:∀(J:Xh) (c:Xf),c.kind≠12->K (J,c)=(S J,c))(h:Gl v a l)(hk:op.kind=6\/op.kind=7\/op.kind=8)(x:Xj)
  (fin:∀(J:Xh) (A5:Yu) (v':Vw),Gh v a l key op A5 v'->Yc Q al n v' (K (J,BK A5.code A5.val)).1 (K (J,BK A5.code A5.val)).2):
  Yc Q (al+1) (n+9*l.length+60) v (K ((Xh.from_ a key op).next x)).1 (K ((Xh.from_ a key op).next x)).2:=by
 rcases hk with hk|hk|hk
 ·exact(RL hS hK h hk x fin).more (Nat.le_refl _) Zo
 ·exact(RK hS hK h hk x fin).more Zo Zo
 ·exact(RM hS hK h hk x fin).more Zo Zo
end
def LisR(v:Vw)(L:List (Int × Int)):Prop:=∃l,Gl v (root 0) l/\Bi v l=L
theorem nO{v:Vw}{L:List (Int × Int)}(op:A3)(x:Xj)(hk:op.kind=6\/op.kind=7\/op.kind=8)(h:LisR v L):
  Yc (λa v'=>a=(Ca L op.key op).1/\LisR v' (Ca L op.key op).2) 1 (9*L.length+60) v (.lit ((Xh.from_ (root 0) op.key op).next x).1) ((Xh.from_ (root 0) op.key op).next x).2:=by
 obtain⟨l,h1,rfl⟩:=h
 have hlen:(Bi v l).length=l.length:=List.length_map ..
 rw[hlen]
 refine .more (n:=0+9*l.length+60) (a:=0+1) (Mw (S:=.lit) (K:=λr=>(.lit r.1,r.2)) (λ_ _=>rfl) (λ_ _ _=>rfl) h1 hk x λJ A5 v' hp=>?_) (Nat.le_refl _) Zo
 obtain⟨l',p1,p2,p3,p4,p5,p6⟩:=hp
 exact .dn ⟨p5,l',p1,p6⟩
def bW(C:VC)(op:A3)(size:Int):Yu × VC:=
 let r:=Ca C.L (Gy op.key) op
 (r.1,bif !(r.1.code==1)||op.kind==8 then{C with L:=r.2} else sH {C with L:=r.2} op.kind size)
theorem Ea.op{v v':Vw}{C:VC}{b key:Int}{op:A3}{A5:Yu}{p q q':List Int}(h:Ea v C)(hl:Gl v (Xg (v.root 8) 2) (p++q))(hc:Bi v (p++q)=C.L)(hs:UZ v C.B (p++q))(ha:Xg (v.root (8+b)) 2=EZ 2 v.As (Xg (v.root 8) 2) p)(hp:∀e∈Bi v p,e.1<=Yn b)(hR:v.Rf (v.root (8+b)))
  (hlt:Yn b<key)(hne:∀b',1<=b'->b'<8->Yn b'≠key)(hL:aD v (Xg (v.root (8+b)) 2) q key op A5 v' q'):A5=(Ca C.L key op).1/\Ea v' {C with L:=(Ca C.L key op).2}:=by
 obtain⟨u1,u2,u3,u4,u5,u6⟩:=YP h.r0 hl hc hs ha hp hR hlt (λb' b1 b2 _=>hne b' b1 b2) hL
 obtain⟨k1,k2⟩:=Qc (key:=key) (op:=op) h.OT
 refine⟨u1,u3,⟨p++q',u4,u5,u6⟩,λb' b1 b2 b3=>⟨by rw[u2];exact(h.nil b' b1 b2 b3).1,λe he=>?_⟩,k1,by rw[u2];exact h.z,by rw[u2];exact h.c⟩
 rcases k2 e he with he|he
 ·exact(h.nil b' b1 b2 b3).2 e he
 ·rw[he];exact λe=>hne b' b1 b2 e.symm
theorem uX{J:Xa}{c:Xf}(h:c.kind≠12):J.F9 c=(J,c):=by
 unfold Xa.F9;rw[show(c.kind==12)=false by simp[h]];rfl
theorem iZ{Q:Yu->Vw->Prop}{al n:Nat}{v:Vw}{C:VC}{pc:Int}{last:Xf}{op:A3}{z wn bk ch:Int}{ba no se:Xe}{wk:Option Xm}{Su:Option Xh}{A5:Yu}{cw:Xe}(h:Ea v C)(hk:op.kind=6\/op.kind=7\/op.kind=8)(hky:0<=op.key/\op.key<256)(hz:z=1\/z=2\/z=4\/z=8)(hb:bk=Int.tmod op.key z)(hB:bk=0\/(1<=bk/\bk<8/\C.B bk=true))(hba:Xg ba 2=Xg (v.root (8+bk)) 2)
  (fin:∀v',Ea v' (bW C op z).2->Q (bW C op z).1 v'):
  Yc Q (al+1) (n+9*C.L.length+64) v (.K2 (Xa.perform ⟨pc,last,op,z,wn,bk,ch,ba,no,se,wk,Su,A5,cw⟩).1) (Xa.perform ⟨pc,last,op,z,wn,bk,ch,ba,no,se,wk,Su,A5,cw⟩).2:=by
 obtain⟨p,q,hl,hc,hs,ha,hp,hR⟩:=h.tail hB
 have hbl:Yn bk<Gy op.key:=by rw[hb];exact tX hky.1 hky.2 hz
 have hlq:=Un hl
 rw[←ha,←hba] at hlq
 have hlen:q.length<=C.L.length:=by rw[←hc];unfold Bi;rw[List.length_map,List.length_append];omega
 refine Yc.more (n:=n+4+9*q.length+60) (a:=al+1) ?_ (Nat.le_refl _) Zo
 refine Mw (n:=n+4) (key:=Gy op.key) (op:=op) (S:=λI=>.K2 ⟨11,last,op,z,wn,bk,ch,ba,no,se,wk,some I,A5,cw⟩) (K:=λr=>(.K2 (Xa.F9 ⟨11,last,op,z,wn,bk,ch,ba,no,se,wk,some r.1,A5,cw⟩ r.2).1,(Xa.F9 ⟨11,last,op,z,wn,bk,ch,ba,no,se,wk,some r.1,A5,cw⟩ r.2).2)) (λI x=>rfl) (λI c hc=>?_) hlq hk Xj.zero λJ an v' hL=>?_
 ·simp only[uX hc]
 ·obtain⟨q',hL⟩:=hL;rw[hba] at hL;obtain⟨o1,o2⟩:=Ea.op h hl hc hs ha hp hR hbl (λb' b1 b2=>tY hky.1 hky.2 Zo b2) hL;subst o1;unfold bW at fin;simp only at fin;unfold Xa.F9;simp only[show(BK (Ca C.L (Gy op.key) op).1.code (Ca C.L (Gy op.key) op).1.val).kind=12 from rfl,show((12:Int)==12)=true from rfl,Bool.not_true,cond_false,show(BK (Ca C.L (Gy op.key) op).1.code (Ca C.L (Gy op.key) op).1.val).A5=(Ca C.L (Gy op.key) op).1 from rfl];cases hcd:!((Ca C.L (Gy op.key) op).1.code==1)||op.kind==8 with
  |true=>
   rw[hcd] at fin;exact .dn (fin v' o2)
  |false=>
   rw[hcd] at fin;exact aU o2 fin
def rH(J:Xa)(r:Xm × Xf × Bool):Xx × Xf:=
 if r.2.2 then(.K2 {J with walk:=some r.1},r.2.1) else
 if r.1.found then(.K2 {J with walk:=some r.1,sentinel:=Yt r.1.cur,pc:=6},Kg J.node) else(.K2 {J with walk:=some r.1,pc:=7},AV (Xg J.node 2) (Yt r.1.cur))
theorem S8{J:Xa}{W:Xm}(h:J.walk=some W)(x:Xj):(Xx.K2 (J.Dn x).1,(J.Dn x).2)=rH J (W.step x):=by
 unfold Xa.Dn rH;rw[h];unfold DH JY Y9;simp only;generalize W.step x=r;obtain⟨W1,c,b⟩:=r;cases b with
 |true=>rfl
 |false=>
  simp only[cond_false,Bool.false_eq_true,if_false];cases hf:W1.found<;>rfl
theorem O5{b:Int}(h0:0<=b)(h1:b<8):FW b=root (8+b):=by
 have:b=0\/b=1\/b=2\/b=3\/b=4\/b=5\/b=6\/b=7:=Zo;rcases this with rfl|rfl|rfl|rfl|rfl|rfl|rfl|rfl<;>rfl
section
variable{v v':Vw}{C:VC}{bk ch:Int}{w:Xe}{l:List Int}{s:Int}
theorem Ea.root_(h:Ea v C)(r0:v'.Rf (v'.root 8))(c0:1<=ch)(c8:ch<8)(hroot:v'.root=v.root)(hB:C.B ch=false)(hl:Gl v' (Xg (v'.root 8) 2) l)(hc:Bi v' l=(C.add ch).L)(hs:UZ v' C.B l)(hw:v'.Rf w/\w.sl∈l/\(v'.cell w.sl 0).nm=Yn ch):
  Ea {v' with root:=Ap v'.root (8+ch) w} (C.add ch):=by
 have e:∀r,r≠8+ch->Ap v'.root (8+ch) w r=v.root r:=λr hr=>by rw[X2,if_neg hr,hroot]
 have e':∀r,r≠8+ch->Ap v'.root (8+ch) w r=v'.root r:=λr hr=>by rw[X2,if_neg hr]
 obtain⟨k1,k2⟩:=Qc (key:=Yn ch) (op:=bop) h.OT
 refine⟨by show Vw.Rf _ (Ap v'.root (8+ch) w 8);rw[e' 8 Zo];exact r0,⟨l,?_,hc,λb b1 b2 b3=>?_⟩,λb b1 b2 b3=>?_,k1,?_,?_⟩
 ·show Gl _ (Xg (Ap v'.root (8+ch) w 8) 2) l;rw[e' 8 Zo];exact hl.same (by rcases hl.ad with a|a;exact Or.inl a;exact Or.inr a) (by unfold Vw.get;rw[if_neg (show ¬(Xg (v'.root 8) 2).sl=0 from r0.1),if_neg (show ¬(Xg (v'.root 8) 2).sl=0 from r0.1)]) λs hs=>⟨(hl.ch.held s hs).2,rfl,rfl⟩
 ·show Vw.Rf _ (Ap v'.root (8+ch) w (8+b))/\(Ap v'.root (8+ch) w (8+b)).sl∈l/\(v'.cell (Ap v'.root (8+ch) w (8+b)).sl 0).nm=Yn b;by_cases hb:b=ch
  ·subst hb;rw[X2,if_pos rfl];exact hw
  ·rw[e' (8+b) Zo];exact hs b b1 b2 (by have b3:Ap C.B ch true b=true:=b3;rw[X2,if_neg hb] at b3;exact b3)
 ·have b3:Ap C.B ch true b=false:=b3;have hb:b≠ch:=λhb=>by rw[X2,if_pos hb] at b3;cases b3
  rw[X2,if_neg hb] at b3;obtain⟨n1,n2⟩:=h.nil b b1 b2 b3;show(Ap v'.root (8+ch) w (8+b)).sl=0/\_;rw[e (8+b) Zo];refine⟨n1,λy hy=>?_⟩;rcases k2 y hy with hy|hy
  ·exact n2 y hy
  ·rw[hy];exact UP Zo c8 Zo b2 λe=>hb e.symm
 ·show(Ap v'.root (8+ch) w 16).nm=_;rw[e 16 Zo];exact h.z
 ·show(Ap v'.root (8+ch) w 17).nm=_;rw[e 17 Zo];exact h.c
end
theorem Vs{Q:Yu->Vw->Prop}{al n:Nat}{v:Vw}{C:VC}{last:Xf}{op:A3}{z wn bk ch:Int}{ba no se:Xe}{wk:Option Xm}{Su:Option Xh}{A5:Yu}{cw:Xe}(h:Ea v C)(hB:bk=0\/(1<=bk/\bk<8/\C.B bk=true))(hba:Xg ba 2=Xg (v.root (8+bk)) 2)(c0:1<=ch)(c8:ch<8)(hch:C.B ch=false)(hlt:Yn bk<Yn ch)
  (next:∀v' ba' no' se' wk',Ea v' (C.add ch)->Xg ba' 2=Xg (v'.root (8+ch)) 2->Yc Q al n v' (.K2 (Xa.Ch ⟨10,last,op,z,wn,ch,ch,ba',no',se',wk',Su,A5,cw⟩).1) (Xa.Ch ⟨10,last,op,z,wn,ch,ch,ba',no',se',wk',Su,A5,cw⟩).2):
  Yc Q (al+1) (n+9*C.L.length+14) v (.K2 ⟨3,last,op,z,wn,bk,ch,ba,no,se,wk,Su,A5,cw⟩) Dd:=by
 obtain⟨p,q,hl,hc,hs,ha,hp,hR⟩:=h.tail hB
 have hlq:=Un hl
 rw[←ha,←hba] at hlq
 have hlen:q.length<=C.L.length:=by rw[←hc];unfold Bi;rw[List.length_map,List.length_append];omega
 refine .more (n:=n+4+9*q.length+5+1+2) (a:=al+1) (.al λs g s0 hsn=>?_) (Nat.le_refl _) Zo
 simp only[Xx.next,Xa.next,Xa.Al,show((3:Int)==0)=false from rfl,show((3:Int)==1)=false from rfl,show((3:Int)==2)=false from rfl,show((3:Int)==11)=false from rfl,show((3:Int)==12)=false from rfl,show((3:Int)==13)=false from rfl,show((3:Int)==14)=false from rfl,show((3:Int)==15)=false from rfl,show((3:Int)==-1)=false from rfl,show((3:Int)==3)=true from rfl,cond_true,cond_false,Bool.not_true]
 have hn:=MK (v:=v) (g:=g) s0
 refine .st (Yd hn Zd Zd) rfl ?_
 have hsa:s≠(Xg ba 2).sl:=λe=>hsn (by rw[e,hba];exact hR.2.1)
 have hslq:s∉q:=λhm=>hsn (hlq.ch.held s hm).2
 have hls:∀t∈q,t≠s:=λt ht e=>hslq (e▸ht)
 have l1:Gl ((v.take s g).put (Xg ⟨s,g,0,0,false⟩ 0) (Yy (Yn ch))) (Xg ba 2) q:=(hlq.take hsn).put (w:=⟨s,g,0,0,false⟩) s0 hsa (Or.inl hslq)
 have f1:Ec v ((v.take s g).put (Xg ⟨s,g,0,0,false⟩ 0) (Yy (Yn ch))) (Xg ba 2) q:=(Ec.take hsn).trans (Ec.put (l:=[s]) (Or.inr ⟨s0,Or.inl (List.mem_singleton.2 rfl)⟩)) λt ht=>Or.inr (by rw[List.mem_singleton.1 ht];exact hsn)
 have n1:=Cl (v:=v.take s g) (b:=Xg ⟨s,g,0,0,false⟩ 0) (x:=Yy (Yn ch)) |>.2 hn
 have r1:((v.take s g).put (Xg ⟨s,g,0,0,false⟩ 0) (Yy (Yn ch))).root=v.root:=by rw[BC s0];rfl
 have k1:∀t,t≠s->((v.take s g).put (Xg ⟨s,g,0,0,false⟩ 0) (Yy (Yn ch))).cell t=v.cell t:=λt ht=>by
  funext u;rw[Yb t u λe=>ht e.1,ER ht]
 have g1:∀t,t≠s->((v.take s g).put (Xg ⟨s,g,0,0,false⟩ 0) (Yy (Yn ch))).As t=v.As t:=λt ht=>by
  rw[AD];show Ap v.As s g t=_;rw[X2,if_neg ht]
 have e10:((v.take s g).put (Xg ⟨s,g,0,0,false⟩ 0) (Yy (Yn ch))).cell s 0=Yy (Yn ch):=EU (w:=⟨s,g,0,0,false⟩) s0
 have e11:((v.take s g).put (Xg ⟨s,g,0,0,false⟩ 0) (Yy (Yn ch))).cell s 1=.zero:=by rw[Yb s 1 λe=>absurd e.2 (by show(1:Int)≠0;decide)];exact Nr
 generalize(v.take s g).put (Xg ⟨s,g,0,0,false⟩ 0) (Yy (Yn ch))=v1 at*
 have e0:=S8 (J:=⟨5,last,op,z,wn,bk,ch,ba,⟨s,g,0,0,false⟩,se,some (Xm.new (Xg ba 2) (Yn ch)),Su,A5,cw⟩) rfl ⟨.zero,true⟩
 simp only[Xx.next,Xa.next,Xa.Al,Xa.Au,show((4:Int)==0)=false from rfl,show((4:Int)==1)=false from rfl,show((4:Int)==2)=false from rfl,show((4:Int)==11)=false from rfl,show((4:Int)==12)=false from rfl,show((4:Int)==13)=false from rfl,show((4:Int)==14)=false from rfl,show((4:Int)==15)=false from rfl,show((4:Int)==-1)=false from rfl,show((4:Int)==3)=false from rfl,show((4:Int)==8)=false from rfl,show((4:Int)==4)=true from rfl,cond_true,cond_false,Bool.not_true]
 have ee:∀{Q:Yu->Vw->Prop} {a n:Nat} {v:Vw} {A:Xa} {c:Xf} {R:Xx × Xf},(Xx.K2 A,c)=R->Yc Q a n v R.1 R.2->Yc Q a n v (.K2 A) c:=λe h=>by subst e;exact h
 refine ee e0 ?_
 refine JA (n:=n+4) (S:=λW=>.K2 ⟨5,last,op,z,wn,bk,ch,ba,⟨s,g,0,0,false⟩,se,some W,Su,A5,cw⟩) (K:=rH ⟨5,last,op,z,wn,bk,ch,ba,⟨s,g,0,0,false⟩,se,some (Xm.new (Xg ba 2) (Yn ch)),Su,A5,cw⟩) (λW x=>S8 (J:=⟨5,last,op,z,wn,bk,ch,ba,⟨s,g,0,0,false⟩,se,some W,Su,A5,cw⟩) rfl x) (λW c _=>rfl) l1 _ λpre post W hq w1 w2 we=>?_
 have hnk:∀t∈q,(v1.cell t 0).nm≠Yn ch:=λt ht=>by
  rw[k1 t (hls t ht)];have hm:((v.cell t 0).nm,(v.cell t 1).nm)∈C.L:=by rw[←hc];exact List.mem_map.2 ⟨t,List.mem_append_right _ ht,rfl⟩
  exact(h.nil ch c0 c8 hch).2 _ hm
 have hf:W.found=false:=by
  cases hf:W.found with
  |false=>rfl
  |true=>
   obtain⟨u,r,e1,e2,_⟩:=we.yes hf;exact absurd e2 (hnk u (by rw[hq,e1];simp))
 have no:=we.no hf
 unfold rH
 rw[hf]
 simp only[Bool.false_eq_true,if_false]
 have hpa:v1.Ad W.prev:=by rw[we.prev];exact Jk Zd l1.ad (by rw[←hq];exact l1.ch)
 refine .st (Yd n1 Zd Zd) rfl ?_
 have l4:Gl (v1.put (Xg ⟨s,g,0,0,false⟩ 2) (Yt W.cur)) (Xg ba 2) q:=l1.put (w:=⟨s,g,0,0,false⟩) s0 hsa (Or.inl hslq)
 have f4:Ec v (v1.put (Xg ⟨s,g,0,0,false⟩ 2) (Yt W.cur)) (Xg ba 2) q:=f1.trans (Ec.put (l:=[s]) (Or.inr ⟨s0,Or.inl (List.mem_singleton.2 rfl)⟩)) λt ht=>Or.inr (by rw[List.mem_singleton.1 ht];exact hsn)
 have e4:(v1.put (Xg ⟨s,g,0,0,false⟩ 2) (Yt W.cur)).cell s 2=Yt W.cur:=EU (w:=⟨s,g,0,0,false⟩) s0
 have n4:(v1.put (Xg ⟨s,g,0,0,false⟩ 2) (Yt W.cur)).Rf ⟨s,g,0,0,false⟩:=Cl.2 n1
 have k4:∀t f,f≠2->(v1.put (Xg ⟨s,g,0,0,false⟩ 2) (Yt W.cur)).cell t f=v1.cell t f:=λt f h=>Yb t f λe=>h e.2
 have hlk:(EZ 2 v1.As (Xg ba 2) pre).sl≠s:=by
  rcases @Cq v1 2 pre (Xg ba 2) with⟨e,_⟩|e
  ·rw[e];exact λe=>hsa e.symm
  ·exact λe'=>hslq (by rw[hq,←e'];exact List.mem_append_left _ e.1)
 have p4:(v1.put (Xg ⟨s,g,0,0,false⟩ 2) (Yt W.cur)).get W.prev=W.cur:=by rw[CH,if_neg λe=>hlk (by rw[←we.prev];exact e.1),←we.cur]
 have a4:(v1.put (Xg ⟨s,g,0,0,false⟩ 2) (Yt W.cur)).Ad W.prev:=Iw.2 hpa
 have g4:(v1.put (Xg ⟨s,g,0,0,false⟩ 2) (Yt W.cur)).As=v1.As:=AD
 have r4:(v1.put (Xg ⟨s,g,0,0,false⟩ 2) (Yt W.cur)).root=v.root:=by rw[BC s0];exact r1
 generalize v1.put (Xg ⟨s,g,0,0,false⟩ 2) (Yt W.cur)=v4 at*
 have hpq:post⊆q:=λt ht=>by rw[hq];exact List.mem_append_right _ ht
 have hL:=ZC (v:=v) (key:=Yn ch) (op:=bop) (cur:=W.cur) rfl hq hsn s0 hsa hslq l4 f4 (λt ht=>⟨by rw[g4,g1 t (hls t ht)],by rw[k4 t 0 Zd,k1 t (hls t ht)],by rw[k4 t 1 Zd,k1 t (hls t ht)]⟩) (by rw[k4 s 0 Zd,e10];rfl) (by rw[k4 s 1 Zd,e11];rfl) n4 e4 (by rw[g4,←we.prev,p4]) (λt ht=>by rw[←k1 t (hls t (by rw[hq];exact List.mem_append_left _ ht))];exact we.lo t ht) λu r e=>by rw[←k1 u (hls u (hpq (by rw[e];simp)))];exact no u r e
 rw[g4,←we.prev] at hL
 simp only[Xx.next,Xa.next,Xa.Al,CM,Y9,show((7:Int)==0)=false from rfl,show((7:Int)==1)=false from rfl,show((7:Int)==2)=false from rfl,show((7:Int)==11)=false from rfl,show((7:Int)==12)=false from rfl,show((7:Int)==13)=false from rfl,show((7:Int)==14)=false from rfl,show((7:Int)==15)=false from rfl,show((7:Int)==-1)=false from rfl,show((7:Int)==3)=false from rfl,show((7:Int)==8)=false from rfl,show((7:Int)==4)=false from rfl,show((7:Int)==5)=false from rfl,show((7:Int)==7)=true from rfl,cond_true,cond_false]
 refine .sw a4 p4 (Yx _) rfl ?_
 simp only[Xx.next,Xa.next,Xa.Al,show((8:Int)==0)=false from rfl,show((8:Int)==1)=false from rfl,show((8:Int)==2)=false from rfl,show((8:Int)==11)=false from rfl,show((8:Int)==12)=false from rfl,show((8:Int)==13)=false from rfl,show((8:Int)==14)=false from rfl,show((8:Int)==15)=false from rfl,show((8:Int)==-1)=false from rfl,show((8:Int)==3)=false from rfl,show((8:Int)==8)=true from rfl,cond_true,cond_false,O5 (b:=ch) Zo c8]
 have n5:(v4.put W.prev (En W.cur ⟨s,g,0,0,false⟩)).Rf ⟨s,g,0,0,false⟩:=Cl.2 n4
 have c5:((v4.put W.prev (En W.cur ⟨s,g,0,0,false⟩)).cell s 0).nm=Yn ch:=by
  rw[Yb s 0 λe=>hlk (by rw[←we.prev];exact e.1.symm),k4 s 0 Zd,e10];rfl
 rw[hba] at hL
 obtain⟨u1,u2,u3,u4,u5,u6⟩:=YP h.r0 hl hc hs ha hp hR hlt (λb' b1 b2 b3=>UP Zo b2 Zo c8 λe=>by rw[e,hch] at b3;cases b3) hL
 generalize v4.put W.prev (En W.cur ⟨s,g,0,0,false⟩)=v5 at*
 have hnil:(v5.root (8+ch)).sl=0:=by rw[u2];exact(h.nil ch c0 c8 hch).1
 refine .ld (AY Zo Zo) rfl ?_
 simp only[Xx.next,Xa.next,Xa.Al,BU,hnil,show((0:Int)==0)=true from rfl,show((9:Int)==0)=false from rfl,show((9:Int)==1)=false from rfl,show((9:Int)==2)=false from rfl,show((9:Int)==11)=false from rfl,show((9:Int)==12)=false from rfl,show((9:Int)==13)=false from rfl,show((9:Int)==14)=false from rfl,show((9:Int)==15)=false from rfl,show((9:Int)==-1)=false from rfl,show((9:Int)==3)=false from rfl,show((9:Int)==8)=false from rfl,show((9:Int)==4)=false from rfl,show((9:Int)==5)=false from rfl,show((9:Int)==7)=false from rfl,show((9:Int)==6)=false from rfl,show((9:Int)==9)=true from rfl,cond_true,cond_false,O5 (b:=ch) Zo c8]
 refine .sw (AY Zo Zo) rfl (Yx _) Gx ?_
 simp only[Xx.next,Xa.next,Xa.Al,Xa.Vg,show((10:Int)==0)=false from rfl,show((10:Int)==1)=false from rfl,show((10:Int)==2)=false from rfl,show((10:Int)==11)=false from rfl,show((10:Int)==12)=false from rfl,show((10:Int)==13)=false from rfl,show((10:Int)==14)=false from rfl,show((10:Int)==15)=false from rfl,show((10:Int)==-1)=false from rfl,show((10:Int)==3)=false from rfl,show((10:Int)==8)=false from rfl,show((10:Int)==4)=false from rfl,show((10:Int)==5)=false from rfl,show((10:Int)==7)=false from rfl,show((10:Int)==6)=false from rfl,show((10:Int)==9)=false from rfl,show((10:Int)==10)=true from rfl,cond_true,cond_false]
 refine next _ _ _ _ _ (Ea.root_ (w:=En (v5.root (8+ch)) ⟨s,g,0,0,false⟩) h u3 c0 c8 u2 hch u4 u5 u6 ⟨n5.ref rfl rfl,?_,c5⟩) ?_
 ·show s∈p++(pre++s::post);simp
 ·show Xg _ 2=Xg (Ap v5.root (8+ch) (En (v5.root (8+ch)) ⟨s,g,0,0,false⟩) (8+ch)) 2;rw[X2,if_pos rfl];rfl
end Go.Proofs.YtaipogljokblkaaGreatDoor
