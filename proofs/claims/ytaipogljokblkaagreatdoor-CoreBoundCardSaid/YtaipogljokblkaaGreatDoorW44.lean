/- Core: BdV, BdW, BdX. -/
import Derived.Test.YtaipogljokblkaaGreatDoorW43
import Derived.Test.YtaipogljokblkaaGreatDoorW01
set_option linter.all false
set_option maxRecDepth 100000
set_option maxHeartbeats 8000000
namespace Go.Proofs.YtaipogljokblkaaGreatDoor
open Go Go.RowKit
set_option linter.unusedSimpArgs false
set_option linter.unusedVariables false
set_option linter.unusedSectionVars false
structure Qb(p:Pl)(own:Int->Tk)(k:Nat)(n:Xd):Prop where
 o:own n.sl=.fresh k
 Ap:(p.slot n.sl).Ap=n.gn
 m2:((p.slot n.sl).cell 2).mark=false
 n7:((p.slot n.sl).cell 7).nm=0
 pd:∀f,2<=f->f<=4->PD p own ((p.slot n.sl).cell f)
def IZ(p:Pl)(g:SG)(k:Nat)(ins:Bool)(n:Xd):Prop:=(bif ins then g.d n.sl else g.e n.sl)=.held k/\(p.slot n.sl).Ap=n.gn
section
variable{b:Bool}{p p':Pl}{own own':Int->Tk}{k j:Nat}{c:Xf}{x:Xj}{s f:Int}{w o n v:Xd}{a:Yj}{g g':SG}{ins:Bool}
theorem Qb.A9(h:Qb p own k n)(e:Bs j Qg p own p' own')(hk:k≠j):Qb p' own' k n:=by
 obtain⟨r1,r2⟩:=e.fresh hk h.o;exact⟨r1,by rw[r2];exact h.Ap,by rw[r2];exact h.m2,by rw[r2];exact h.n7,λf f0 f1=>by rw[r2];exact(h.pd f f0 f1).A9 e⟩
theorem Qb.Nu(h:Qb p own k n)(e:Bs k Qg p own p' own)(hs:p'.slot n.sl=p.slot n.sl):Qb p' own k n:=
 ⟨h.o,by rw[hs];exact h.Ap,by rw[hs];exact h.m2,by rw[hs];exact h.n7,λf f0 f1=>by rw[hs];exact(h.pd f f0 f1).A9 e⟩
theorem Qb.al(h:Qb p own k n)(e:X3 p p'):Qb p' own k n:=h.Nu (Bs.alike e) (by rw[e.slot])
theorem IZ.chn(h:IZ p g k ins n)(hq:SQ p g):g.own n.sl=.chain:=by
 have h1:=h.1;cases ins with
 |true=>exact hq.duty (Or.inl h1)
 |false=>exact hq.duty (Or.inr h1)
theorem IZ.live(h:IZ p g k ins n)(hq:SQ p g):n.sl≠0/\Lv p g.own n.sl n.gn/\PD p g.own n:=by
 have ho:=h.chn hq;refine⟨λe=>?_,⟨by rw[ho];simp,h.2⟩,λ_=>⟨by rw[h.2];exact Int.le_refl _,λ_=>by rw[ho];rfl⟩⟩;rw[e,hq.hb.zero] at ho;cases ho
theorem IZ.Iv(h:IZ p g k ins n)(hq:SQ p g)(e:Bs j Qg p g.own p' g'.own):
  (p'.slot n.sl).Ap=n.gn/\∀f,(p'.slot n.sl).cell f=(p.slot n.sl).cell f\/Qg f ((p.slot n.sl).cell f) ((p'.slot n.sl).cell f):=by
 have ho:=h.chn hq
 have hp:=e.Iv n.sl (by rw[ho];simp) (by rw[ho];rfl) (e.ch _ ho)
 exact⟨by rw[hp.1];exact h.2,λf=>(hp.2.2 f).imp id λh=>h.1⟩
theorem IZ.A9(h:IZ p g k ins n)(hq:SQ p g)(e:Ed j p g p' g')(hk:k≠j):IZ p' g' k ins n:=by
 refine⟨?_,(h.Iv hq e.ev).1⟩;have h1:=h.1;cases ins with
 |true=>exact(e.d _ _ hk).1 h1
 |false=>exact(e.e _ _ hk).1 h1
theorem IZ.Nu(h:IZ p g k ins n)(hq:SQ p g)(e:Ed k p g p' g):IZ p' g k ins n:=⟨h.1,(h.Iv hq e.ev).1⟩
theorem IZ.done(h:IZ p g k ins n)(hq:SQ p g)(e:Bs j Qg p g.own p' g'.own)(h7:((p.slot n.sl).cell 7).nm≠0):((p'.slot n.sl).cell 7).nm≠0:=by
 rcases(h.Iv hq e).2 7 with e|e
 ·rw[e];exact h7
 ·rcases e with⟨_,q,_⟩|⟨_,q,_⟩
  ·omega
  ·exact absurd q h7
theorem IZ.seen(h:IZ p g k ins n)(hq:SQ p g)(e:Bs j Qg p g.own p' g'.own)(h7:(p.slot n.sl).cell 7=o\/((p.slot n.sl).cell 7).nm≠0):(p'.slot n.sl).cell 7=o\/((p'.slot n.sl).cell 7).nm≠0:=by
 rcases h7 with h7|h7
 ·rcases(h.Iv hq e).2 7 with e|e
  ·rw[e];exact Or.inl h7
  ·rcases e with⟨_,q,_⟩|⟨_,_,q⟩
   ·omega
   ·exact Or.inr q
 ·exact Or.inr (h.done hq e h7)
theorem Mm{t:Tk}:∀q,Ah g.own s t q=if q=s then t else g.own q:=λq=>X2 ..
theorem dK(h:SQ p g)(hf:g.own s=.free)(h0:s≠0)(e:jH p p' s)(hw:w.sl=s)(hg:w.gn=(p'.slot s).Ap):
  SQ p' ⟨Ah g.own s (.fresh k),g.d,g.e⟩/\Ed k p g p' ⟨Ah g.own s (.fresh k),g.d,g.e⟩/\Qb p' (Ah g.own s (.fresh k)) k w/\∀t,Ah g.own s (.fresh k) t=.note k↔g.own t=.note k:=by
 have hr:=h.hb.alloc (k:=k) (ce:=Qg) hf h0 e
 refine⟨h.A5 (g':=⟨Ah g.own s (.fresh k),g.d,g.e⟩) hr.1 hr.2 (λr r0 r1=>Or.inl (e.BP r r0 r1)) (λt f a1 a2 _ _=>?_) (λt=>?_),Ed.same hr.2,⟨by rw[hw,Xy],by rw[hw,hg],by rw[hw,e.zero 2 Zd];rfl,by rw[hw,e.zero 7 Zd];rfl,λf f0 f1=>by rw[hw,e.zero f Zo];exact λh=>absurd rfl h⟩,λt=>?_⟩
 ·have a1:Ah g.own s (.fresh k) t≠.free:=a1;have a2:(Ah g.own s (.fresh k) t).Ax=false:=a2;have ht:t≠s:=λe'=>by rw[e',Xy] at a2;cases a2
  rw[X2,if_neg ht] at a1 a2;exact Or.inl ⟨a1,a2,by rw[e.Av t ht]⟩
 ·show SI (Ah g.own s (.fresh k) t) _ _ _ _;rw[Mm];by_cases ht:t=s
  ·rw[if_pos ht];have:=h.si s;rw[hf] at this;rw[ht];exact this
  ·rw[if_neg ht,e.Av t ht];exact h.si t
 ·rw[Mm];by_cases e':t=s
  ·rw[if_pos e',e',hf];simp
  ·rw[if_neg e']
theorem JT(h:SQ p g)(hu:Qb p g.own k n)(hm:v.mark=false)(h7:f≠7)(hv:2<=f->f<=4->PD p g.own v)(hs:Sem p g.own (Yf (Xg n f) v) x p'):SQ p' g/\Ed k p g p' g/\Qb p' g.own k n:=by
 have hkind:(Yf (Xg n f) v).kind=4:=rfl;cases hs with
 |store _ hl e=>
  have e:IQ p p' n.sl f v:=e;have hr:=h.hb.store (ce:=Qg) hu.o e;have Av:∀t,(g.own t).Ax=false->p'.slot t=p.slot t:=λt ht=>e.Av λe'=>by rw[e',hu.o] at ht;cases ht
  have hc:∀f',(p'.slot n.sl).cell f'=if f'=f then v else(p.slot n.sl).cell f':=λf'=>by
   rw[e.slot,if_pos rfl];show Ah (p.slot n.sl).cell f v f'=_;exact X2 ..
  refine⟨h.A5 hr.1 hr.2 (λr r0 r1=>Or.inl (e.BP r r0 r1)) (λt f' a1 a2 _ _=>Or.inl ⟨a1,a2,by rw[Av t a2]⟩) (λt=>?_),Ed.same hr.2,⟨hu.o,by rw[(e.Ap _).1];exact hu.Ap,?_,?_,λf' f0 f1=>?_⟩⟩
  ·have hq:=h.si t;cases ht:(g.own t).Ax with
   |false=>rw[Av t ht];exact hq
   |true=>
    obtain⟨q,hq'⟩:=pZ ht;rw[hq'] at hq ⊢;exact hq
  ·rw[hc];by_cases e':(2:Int)=f
   ·rw[if_pos e'];exact hm
   ·rw[if_neg e'];exact hu.m2
  ·rw[hc,if_neg (Ne.symm h7)];exact hu.n7
  ·rw[hc];by_cases e':f'=f
   ·rw[if_pos e'];exact(hv Zo Zo).A9 hr.2
   ·rw[if_neg e'];exact(hu.pd f' f0 f1).A9 hr.2
 |JS _ hl e=>exact absurd (show Lv p g.own n.sl n.gn from⟨by rw[hu.o];simp,hu.Ap⟩) hl
 |_=>omega
theorem SQ.free(h:SQ p g)(hf:g.own s=.fresh k\/g.own s=.note k)(e:PY p p' s):SQ p' ⟨Ah g.own s .free,g.d,g.e⟩/\Ed k p g p' ⟨Ah g.own s .free,g.d,g.e⟩:=by
 have hr:=h.hb.free (ce:=Qg) hf e;refine⟨h.A5 (g':=⟨Ah g.own s .free,g.d,g.e⟩) hr.1 hr.2 (λr r0 r1=>Or.inl (e.BP r r0 r1)) (λt f a1 a2 _ _=>?_) (λt=>?_),Ed.same hr.2⟩
 ·have a1:Ah g.own s .free t≠.free:=a1;have a2:(Ah g.own s .free t).Ax=false:=a2;have ht:t≠s:=λe'=>by rw[e',Xy] at a1;exact a1 rfl
  rw[X2,if_neg ht] at a1 a2;exact Or.inl ⟨a1,a2,by rw[e.Av t ht]⟩
 ·show SI (Ah g.own s .free t) _ _ _ _;rw[Mm];by_cases ht:t=s
  ·rw[if_pos ht];have hq:=h.si s;rw[ht];rcases hf with hf|hf
   ·rw[hf] at hq;exact hq
   ·rw[hf] at hq;exact λj=>⟨by rw[hq.2.1];simp,by rw[hq.2.2];simp⟩
  ·rw[if_neg ht,e.Av t ht];exact h.si t
theorem lL(h:SQ p g)(hu:Qb p g.own k n)(hs:Sem p g.own (GG n) x p'):SQ p' ⟨Ah g.own n.sl .free,g.d,g.e⟩/\Ed k p g p' ⟨Ah g.own n.sl .free,g.d,g.e⟩/\∀t,Ah g.own n.sl .free t=.note k↔g.own t=.note k:=by
 have hkind:(GG n).kind=9:=rfl;cases hs with
 |drop _ hl e=>
  have e:PY p p' n.sl:=e;have hr:=h.free (Or.inl hu.o) e;refine⟨hr.1,hr.2,λt=>?_⟩;rw[Mm];by_cases e':t=n.sl
  ·rw[if_pos e',e',hu.o];simp
  ·rw[if_neg e']
 |YQ _ hl e=>exact absurd (show Lv p g.own n.sl n.gn from⟨by rw[hu.o];simp,hu.Ap⟩) hl
 |_=>omega
theorem TB(h:SQ p g)(hu:Qb p g.own k n)(ha:VP p g.own a)(ho:o.mark=false)(tb:Me p)(hs:Sem p g.own (Xx a o (BC o n)) x p'):
  (x.ok=false/\X3 p p')\/(x.ok=true/\∃g',SQ p' g'/\Ed k p g p' g'/\IZ p' g' k true n/\∀t,g'.own t=.note k↔g.own t=.note k):=by
 rcases LP hs with⟨h1,e,_⟩|⟨h1,e,hsm,hl⟩
 ·exact Or.inl ⟨h1,e⟩
 ·refine Or.inr ⟨h1,⟨Ah g.own n.sl .chain,Ah g.d n.sl (.held k),Ah g.e n.sl .Th⟩,?_⟩;have hm:(p.get a).mark=false:=by rw[(Z3 hsm).2];exact ho
  have hne:a.sl≠0->a.sl≠n.sl:=λh0 e'=>by have:=(ha.Iv hl h0).2;rw[e',hu.o] at this;cases this
  have ev:Bs k Qg p g.own p' (Ah g.own n.sl .chain):=e.A9 (λh0=>⟨(ha.Iv hl h0).1,(ha.Iv hl h0).2,Or.inl ⟨(ha.fd.2.2 h0).1,(ha.fd.2.2 h0).2,by rw[←AM h0];exact hm⟩⟩) (tgA tb ha.fd.1 hsm) λt=>by
   rw[Mm];by_cases e':t=n.sl
   ·rw[if_pos e',e'];exact Or.inr ⟨Or.inl hu.o,Or.inl rfl⟩
   ·rw[if_neg e'];exact Or.inl rfl
  have hpw:PD p' (Ah g.own n.sl .chain) (BC o n):=λ_=>⟨by show n.gn<=(p'.slot n.sl).Ap;rw[(e.Ap _).1,hu.Ap];exact Int.le_refl _,λ_=>by show(Ah g.own n.sl .chain n.sl).Ax=false;rw[Xy];rfl⟩;have hsl:p'.slot n.sl=p.slot n.sl:=by rw[e.slot,if_neg λh'=>hne h'.1 h'.2.symm]
  refine⟨h.A5 (g':=⟨Ah g.own n.sl .chain,Ah g.d n.sl (.held k),Ah g.e n.sl .Th⟩) (h.hb.A5 (λt=>(e.Ap t).2) λt=>?_) ev (λr r0 r1=>?_) (λt f a1 a2 f0 f1=>?_) (λt=>?_),⟨ev,λt j hj=>?_,λt j hj=>?_⟩,⟨by show Ah g.d n.sl (.held k) n.sl=_;rw[Xy],by rw[(e.Ap _).1];exact hu.Ap⟩,λt=>?_⟩
  ·show Ah g.own n.sl .chain t=_↔_;rw[Mm];by_cases e':t=n.sl
   ·rw[if_pos e',e',hu.o];simp
   ·rw[if_neg e']
  ·rw[e.BP r r0 r1];by_cases hq:a.sl=0/\r=a.fd
   ·rw[if_pos hq];exact Or.inr hpw
   ·rw[if_neg hq];exact Or.inl rfl
  ·rw[e.cell];by_cases hq:a.sl≠0/\t=a.sl/\f=a.fd
   ·rw[if_pos hq];exact Or.inr hpw
   ·rw[if_neg hq];by_cases e':t=n.sl
    ·right;rw[e'];exact(hu.pd f f0 f1).A9 ev
    ·have a1:Ah g.own n.sl .chain t≠.free:=a1;have a2:(Ah g.own n.sl .chain t).Ax=false:=a2;rw[X2,if_neg e'] at a1 a2;exact Or.inl ⟨a1,a2,rfl⟩
  ·show SI (Ah g.own n.sl .chain t) (Ah g.d n.sl (.held k) t) (Ah g.e n.sl .Th t) _ _;rw[X2,X2,X2];by_cases e':t=n.sl
   ·rw[if_pos e',if_pos e',if_pos e',e',hsl,hu.m2,hu.n7];exact⟨by simp,⟨λ_=>rfl,λ_=>rfl⟩,λ_=>⟨by simp,by simp⟩,λh=>absurd rfl h⟩
   ·rw[if_neg e',if_neg e',if_neg e'];have hs:=h.si t;have h7:(p'.slot t).cell 7=(p.slot t).cell 7:=by rw[e.cell,if_neg λhq=>by have:=ha.fd.2.2 hq.1;omega]
    have h2:((p'.slot t).cell 2).mark=((p.slot t).cell 2).mark:=by
     rw[e.cell];by_cases hq:a.sl≠0/\t=a.sl/\2=a.fd
     ·rw[if_pos hq];rw[AM hq.1,←hq.2.1,←hq.2.2] at hm;rw[hm];rfl
     ·rw[if_neg hq]
    rw[h7,h2];exact hs
  ·show _↔Ah g.d n.sl (.held k) t=_;rw[X2];by_cases e':t=n.sl
   ·have:=h.si n.sl;rw[hu.o] at this;rw[if_pos e',e'];exact⟨λh=>absurd h (this j).1,λh=>by cases h;exact absurd rfl hj⟩
   ·rw[if_neg e']
  ·show _↔Ah g.e n.sl .Th t=_;rw[X2];by_cases e':t=n.sl
   ·have:=h.si n.sl;rw[hu.o] at this;rw[if_pos e',e'];exact⟨λh=>absurd h (this j).2,λh=>by cases h⟩
   ·rw[if_neg e']
  ·show Ah g.own n.sl .chain t=_↔_;rw[X2];by_cases e':t=n.sl
   ·rw[if_pos e',e',hu.o];simp
   ·rw[if_neg e']
end
def SG.fin(g:SG)(ins:Bool)(s:Int):SG:=bif ins then{g with d:=Ah g.d s .used} else{g with e:=Ah g.e s .used}
section
variable{b:Bool}{p p':Pl}{own own':Int->Tk}{k j:Nat}{c:Xf}{x:Xj}{s f Kf:Int}{w o n v:Xd}{a:Yj}{g g':SG}{ins:Bool}
theorem lK(h:SQ p g)(h0:n.sl≠0)(hn:PD p g.own n)(f0:2<=f)(f1:f<=4)(ho:o.mark=false)(hp:PD p g.own o)(tb:Me p)(hs:Sem p g.own (Xx (Xg n f) o (Bg o)) x p'):
  (x.ok=false/\X3 p p')\/(x.ok=true/\∃g',SQ p' g'/\Ed k p g p' g'/\(f=2->IZ p' g' k false n)/\g'.own=g.own):=by
 rcases LP hs with⟨h1,e,_⟩|⟨h1,e,hsm,hl⟩
 ·exact Or.inl ⟨h1,e⟩
 ·right;have hv:Lv p g.own n.sl n.gn:=hl.resolve_left h0;have hf:=(hn h0).2 hv;have hsm:AE ((p.slot n.sl).cell f) o=true:=by rw[AM (d:=Xg n f) h0] at hsm;exact hsm
  have hm:((p.slot n.sl).cell f).mark=false:=by rw[(Z3 hsm).2];exact ho
  have hc:∀t q,(p'.slot t).cell q=if t=n.sl/\q=f then Bg o else(p.slot t).cell q:=λt q=>by
   rw[e.cell];by_cases hq:t=n.sl/\q=f
   ·rw[if_pos hq,if_pos ⟨h0,hq⟩]
   ·rw[if_neg hq,if_neg λh=>hq h.2]
  have ev:∀own',own'=g.own->Bs k Qg p g.own p' own':=λown' ho'=>e.A9 (λ_=>⟨hv.1,hf,Or.inl ⟨f0,f1,hm⟩⟩) (tgA tb (λh=>absurd h h0) (by rw[AM (d:=Xg n f) h0];exact hsm)) λt=>Or.inl (by rw[ho']);have hb:KO p' g.own:=h.hb.A5 (λt=>(e.Ap t).2) λ_=>Iff.rfl;have hbr:∀r,0<=r->r<24->p'.board r=p.board r\/PD p' g.own (p'.board r):=λr r0 r1=>Or.inl (by rw[e.BP r r0 r1,if_neg λh=>h0 h.1]);have hpd:∀t q,g.own t≠.free->(g.own t).Ax=false->2<=q->q<=4->(g.own t≠.free/\(g.own t).Ax=false/\(p'.slot t).cell q=(p.slot t).cell q)\/PD p' g.own ((p'.slot t).cell q):=λt q a1 a2 _ _=>by
   rw[hc];by_cases hq:t=n.sl/\q=f
   ·rw[if_pos hq];exact Or.inr ((show PD p g.own (Bg o) from λh=>hp h).A9 (ev _ rfl))
   ·rw[if_neg hq];exact Or.inl ⟨a1,a2,rfl⟩
  have h7:∀t,(p'.slot t).cell 7=(p.slot t).cell 7:=λt=>by rw[hc,if_neg λh=>by omega]
  by_cases hf2:f=2
  ·subst hf2;refine⟨h1,⟨g.own,g.d,Ah g.e n.sl (.held k)⟩,h.A5 (g':=⟨g.own,g.d,Ah g.e n.sl (.held k)⟩) hb (ev _ rfl) hbr hpd (λt=>?_),⟨ev _ rfl,λ_ _ _=>Iff.rfl,λt j hj=>?_⟩,λ_=>⟨by show Ah g.e n.sl (.held k) n.sl=_;rw[Xy],by rw[(e.Ap _).1];exact hv.2⟩,rfl⟩
   ·show SI (g.own t) (g.d t) (Ah g.e n.sl (.held k) t) _ _;have hs:=h.si t;rw[h7,hc,X2];by_cases ht:t=n.sl
    ·rw[if_pos ht,if_pos ⟨ht,rfl⟩];have hs:=h.si n.sl;rw[ht];generalize hg:g.own n.sl=u at*;cases u with
     |chain=>
      refine⟨hs.1,⟨λh=>(by cases h),λh=>(by cases h)⟩,λhz=>⟨(hs.2.2.1 hz).1,by simp⟩,λhz=>?_⟩;have he:g.e n.sl=.Th:=hs.2.1.2 hm;rcases hs.2.2.2 hz with q|q
      ·exact Or.inl ⟨q.1,by simp⟩
      ·rw[he] at q;cases q.2
     |note _=>rw[hm] at hs;cases hs.1
     |Bi _=>exact hs.elim
     |free=>exact absurd hg hv.1
     |fresh _=>cases hf
    ·rw[if_neg ht,if_neg λh=>ht h.1];exact hs
   ·show _↔Ah g.e n.sl (.held k) t=_;rw[X2];by_cases ht:t=n.sl
    ·rw[if_pos ht,ht];have hs:=h.si n.sl;refine⟨λhe=>?_,λh=>by cases h;exact absurd rfl hj⟩;have ho':=h.duty (Or.inr he);rw[ho'] at hs;rw[hs.2.1.2 hm] at he;cases he
    ·rw[if_neg ht]
  ·refine⟨h1,g,h.A5 hb (ev _ rfl) hbr hpd (λt=>?_),⟨ev _ rfl,λ_ _ _=>Iff.rfl,λ_ _ _=>Iff.rfl⟩,λh=>absurd h hf2,rfl⟩;rw[h7,hc,if_neg λh=>by omega];exact h.si t
theorem L7:(g.fin ins s).own=g.own:=by cases ins<;>rfl
theorem NI(h:(bif ins then g.d s else g.e s)=.held k)(hj:j≠k)(t:Int):(g.d t=.held j↔(g.fin ins s).d t=.held j)/\(g.e t=.held j↔(g.fin ins s).e t=.held j):=by
 have hne:∀{q:Int->Du},q s=.held k->(q t=.held j↔Ah q s .used t=.held j):=λ{q} hq=>by
  rw[X2];by_cases ht:t=s
  ·rw[if_pos ht,ht,hq];exact⟨λh=>(by cases h;exact absurd rfl hj),λh=>(by cases h)⟩
  ·rw[if_neg ht]
 cases ins with
 |true=>exact⟨hne h,Iff.rfl⟩
 |false=>exact⟨Iff.rfl,hne h⟩
theorem NH{t:Int}(h:t≠s):(g.fin ins s).d t=g.d t/\(g.fin ins s).e t=g.e t:=by
 cases ins with
 |true=>exact⟨Bw _ _ h,rfl⟩
 |false=>exact⟨rfl,Bw _ _ h⟩
theorem tK(h:SQ p g)(hd:IZ p g k ins n)(ho:o.nm=0)(hb:wr (o.nm+Kf)≠0)(h7:(p.slot n.sl).cell 7=o\/((p.slot n.sl).cell 7).nm≠0)(tb:Me p)(hs:Sem p g.own (Xx (Xg n 7) o (Cx o Kf)) x p'):
  (x.ok=false/\X3 p p'/\((p'.slot n.sl).cell 7).nm≠0)\/(x.ok=true/\SQ p' (g.fin ins n.sl)/\Ed k p g p' (g.fin ins n.sl)):=by
 obtain⟨n0,hl,hpn⟩:=hd.live h
 have hch:=hd.chn h
 rcases LP hs with⟨h1,e,hw⟩|⟨h1,e,hsm,_⟩
 ·refine Or.inl ⟨h1,e,?_⟩;rw[e.slot];rcases h7 with h7|h7
  ·have hw:=hw (Or.inr hl);rw[AM (d:=Xg n 7) n0] at hw;have hw:AE ((p.slot n.sl).cell 7) o=false:=hw;rw[h7] at hw;unfold AE at hw;simp at hw
  ·exact h7
 ·refine Or.inr ⟨h1,?_⟩;rw[AM (d:=Xg n 7) n0] at hsm;have hsm:AE ((p.slot n.sl).cell 7) o=true:=hsm;have hz:((p.slot n.sl).cell 7).nm=0:=by rw[(Z3 hsm).1];exact ho
  have hc:∀t q,(p'.slot t).cell q=if t=n.sl/\q=7 then Cx o Kf else(p.slot t).cell q:=λt q=>by
   rw[e.cell];by_cases hq:t=n.sl/\q=7
   ·rw[if_pos hq,if_pos ⟨n0,hq⟩]
   ·rw[if_neg hq,if_neg λh=>hq h.2]
  have ev:Bs k Qg p g.own p' (g.fin ins n.sl).own:=e.A9 (λ_=>⟨hl.1,by show(g.own n.sl).Ax=false;rw[hch];rfl,Or.inr ⟨rfl,hz,hb⟩⟩) (tgA tb (λh=>absurd h n0) (by rw[AM (d:=Xg n 7) n0];exact hsm)) λt=>Or.inl (by rw[L7]);refine⟨h.A5 (by rw[L7];exact h.hb.A5 (λt=>(e.Ap t).2) λ_=>Iff.rfl) ev (λr r0 r1=>Or.inl (by rw[e.BP r r0 r1,if_neg λh=>n0 h.1])) (λt q a1 a2 q0 q1=>?_) (λt=>?_),⟨ev,λt j hj=>(NI hd.1 hj t).1,λt j hj=>(NI hd.1 hj t).2⟩⟩
  ·rw[L7] at a1 a2;exact Or.inl ⟨a1,a2,by rw[hc,if_neg λh=>by omega]⟩
  ·rw[L7,hc t 2,if_neg λh=>by omega,hc];have hs:=h.si t;by_cases ht:t=n.sl
   ·rw[if_pos ⟨ht,rfl⟩];rw[ht,hch] at hs;rw[ht,hch];obtain⟨s1,s2,s3,s4⟩:=hs;have hd1:=hd.1;have s3:=s3 hz;cases ins with
    |true=>
     show SI .chain (Ah g.d n.sl .used n.sl) (g.e n.sl) _ _;rw[Xy];exact⟨by simp,s2,λh=>absurd h hb,λ_=>Or.inl ⟨rfl,s3.2⟩⟩
    |false=>
     show SI .chain (g.d n.sl) (Ah g.e n.sl .used n.sl) _ _;rw[Xy];have hd1:g.e n.sl=.held k:=hd1;rw[hd1] at s2;exact⟨s1,⟨λh=>(by cases h),λh=>absurd (s2.2 h) Zs⟩,λh=>absurd h hb,λ_=>Or.inr ⟨s3.1,rfl⟩⟩
   ·rw[if_neg λh=>ht h.1,(NH ht).1,(NH ht).2];exact hs
theorem dZ(h:SQ p g)(hd:IZ p g k ins n)(h7:((p.slot n.sl).cell 7).nm≠0):
  SQ p ⟨Ah g.own n.sl (.note (k+1000)),(g.fin ins n.sl).d,(g.fin ins n.sl).e⟩/\Ed k p g p ⟨Ah g.own n.sl (.note (k+1000)),(g.fin ins n.sl).d,(g.fin ins n.sl).e⟩:=by
 have hch:=hd.chn h
 have ev:Bs k Qg p g.own p (Ah g.own n.sl (.note (k+1000))):=Bs.xM (Or.inr (Or.inl hch)) (Or.inr (Or.inr ⟨_,rfl⟩))
 refine⟨h.A5 (g':=⟨Ah g.own n.sl (.note (k+1000)),(g.fin ins n.sl).d,(g.fin ins n.sl).e⟩) (h.hb.A5 (λ_=>rfl) λt=>?_) ev (λ_ _ _=>Or.inl rfl) (λt q a1 a2 q0 q1=>Or.inl ?_) (λt=>?_),⟨ev,λt j hj=>(NI hd.1 hj t).1,λt j hj=>(NI hd.1 hj t).2⟩⟩
 ·show Ah g.own n.sl (.note (k+1000)) t=_↔_;rw[X2];by_cases ht:t=n.sl
  ·rw[if_pos ht,ht,hch];simp
  ·rw[if_neg ht]
 ·have a1:Ah g.own n.sl (.note (k+1000)) t≠.free:=a1;have a2:(Ah g.own n.sl (.note (k+1000)) t).Ax=false:=a2;by_cases ht:t=n.sl
  ·rw[ht,hch];exact⟨by simp,rfl,rfl⟩
  ·rw[X2,if_neg ht] at a1 a2;exact⟨a1,a2,rfl⟩
 ·show SI (Ah g.own n.sl (.note (k+1000)) t) _ _ _ _;rw[X2];have hs:=h.si t;by_cases ht:t=n.sl
  ·rw[if_pos ht];rw[ht,hch] at hs;rw[ht];obtain⟨s1,s2,s3,s4⟩:=hs;have hd1:=hd.1;have hm:g.e n.sl≠.Th->((p.slot n.sl).cell 2).mark=true:=λhne=>by
    cases hmm:((p.slot n.sl).cell 2).mark with
    |true=>rfl
    |false=>exact absurd (s2.2 hmm) hne
   cases ins with
   |true=>
    have hd1:g.d n.sl=.held k:=hd1;have he:g.e n.sl=.used:=by
     rcases s4 h7 with q|q
     ·rw[hd1] at q;cases q.1
     ·exact q.2
    exact⟨hm (by rw[he];simp),by show Ah g.d n.sl .used n.sl=_;rw[Xy],he⟩
   |false=>
    have hd1:g.e n.sl=.held k:=hd1;have he:g.d n.sl=.used:=by
     rcases s4 h7 with q|q
     ·exact q.1
     ·rw[hd1] at q;cases q.2
    exact⟨hm (by rw[hd1];simp),he,by show Ah g.e n.sl .used n.sl=_;rw[Xy]⟩
  ·rw[if_neg ht];show SI (g.own t) ((g.fin ins n.sl).d t) ((g.fin ins n.sl).e t) _ _;rw[(NH ht).1,(NH ht).2];exact hs
end
def Kx(p:Pl)(own:Int->Tk)(s:B7):Prop:=VP p own s.prev/\PD p own s.Ay/\s.Ay.mark=false
structure AZ(p:Pl)(own:Int->Tk)(C:Xe):Prop where
 sp:Kx p own C.spot
 s0:Kx p own C.s0
 s1:Kx p own C.s1
 s2:Kx p own C.s2
 nx:PD p own C.next
 fd:PD p own C.found
 lv:C.level=0\/C.level=1\/C.level=2
def IS(C:Xe)(c:Xf):Prop:=
 (C.pc=2/\∃i,c=X9 C.spot.prev i)\/(C.pc=3/\C.spot.Ay.sl≠0/\∃i,c=X9 (Xg C.spot.Ay (2+C.level)) i)\/
 (C.pc=4/\C.spot.Ay.sl≠0/\c.kind=3)\/(C.pc=5/\C.spot.Ay.sl≠0/\c.kind=3)\/(C.pc=6/\c=Xx C.spot.prev C.spot.Ay (BC C.spot.Ay C.next))\/
 (C.pc=7/\c.kind=7/\C.next.mark=false)\/(C.pc=8/\c.kind=7/\C.spot.Ay.sl≠0)\/(C.pc=9/\c.kind=7)
def BS(p:Pl)(own:Int->Tk)(r:Xe × Xf × Bool):Prop:=AZ p own r.1/\(r.2.2=true->IS r.1 r.2.1)
section
variable{p p':Pl}{own own':Int->Tk}{k j:Nat}{c:Xf}{x:Xj}{C:Xe}{g g':SG}{s:B7}{n:Xd}{l:Int}
theorem Kx.A9(h:Kx p own s)(e:Bs j Qg p own p' own'):Kx p' own' s:=⟨h.1.A9 e,h.2.1.A9 e,h.2.2⟩
theorem AZ.A9(h:AZ p own C)(e:Bs j Qg p own p' own'):AZ p' own' C:=⟨h.sp.A9 e,h.s0.A9 e,h.s1.A9 e,h.s2.A9 e,h.nx.A9 e,h.fd.A9 e,h.lv⟩
theorem AZ.al(h:AZ p own C)(e:X3 p p'):AZ p' own C:=h.A9 (j:=0) (Bs.alike e)
theorem Fe:Kx p own B7.zero:=⟨Or.inl ⟨rfl,Int.le_refl 0,by show(0:Int)<24;decide⟩,λh=>absurd rfl h,rfl⟩
theorem JY(h0:n.sl≠0)(hp:PD p own n)(hl:l=0\/l=1\/l=2):VP p own (Xg n (2+l)):=Or.inr ⟨h0,by show 2<=2+l;omega,by show 2+l<=4;omega,hp⟩
theorem US(hl:l=0\/l=1\/l=2):VP p own (root l):=Or.inl ⟨rfl,by show 0<=l;omega,by show l<24;omega⟩
theorem Ew(h:IS C c):c.kind≠12/\c.kind≠10:=by
 rcases h with⟨_,i,e⟩|⟨_,_,i,e⟩|⟨_,_,e⟩|⟨_,_,e⟩|⟨_,e⟩|⟨_,e,_⟩|⟨_,e,_⟩|⟨_,e⟩
 ·rw[e];exact⟨by show(6:Int)≠12;decide,by show(6:Int)≠10;decide⟩
 ·rw[e];exact⟨by show(6:Int)≠12;decide,by show(6:Int)≠10;decide⟩
 ·omega
 ·omega
 ·rw[e];exact⟨by show(5:Int)≠12;decide,by show(5:Int)≠10;decide⟩
 ·omega
 ·omega
 ·omega
theorem Pn(h:AZ p own C):BS p own C.enter:=⟨⟨h.sp,h.s0,h.s1,h.s2,h.nx,h.fd,h.lv⟩,λ_=>Or.inl ⟨rfl,_,rfl⟩⟩
theorem LJ(h:AZ p own C):BS p own C.again:=
 Pn (C:={C with level:=2,spot:={C.spot with prev:=root 2}}) ⟨⟨US (Or.inr (Or.inr rfl)),h.sp.2.1,h.sp.2.2⟩,h.s0,h.s1,h.s2,h.nx,h.fd,Or.inr (Or.inr rfl)⟩
theorem Rp(h:AZ p own C)(h0:C.spot.Ay.sl≠0):BS p own C.behind:=⟨⟨h.sp,h.s0,h.s1,h.s2,h.nx,h.fd,h.lv⟩,λ_=>Or.inr (Or.inl ⟨rfl,h0,_,rfl⟩)⟩
theorem cm_put(h:AZ p own C):AZ p own (C.DY C.level C.spot):=by
 unfold Xe.DY;rcases h.lv with e|e|e<;>rw[e]
 ·exact⟨h.sp,h.sp,h.s1,h.s2,h.nx,h.fd,Or.inl rfl⟩
 ·exact⟨h.sp,h.s0,h.sp,h.s2,h.nx,h.fd,Or.inr (Or.inl rfl)⟩
 ·exact⟨h.sp,h.s0,h.s1,h.sp,h.nx,h.fd,Or.inr (Or.inr rfl)⟩
theorem Pm(h:AZ p own C):BS p own C.lower:=by
 have hq:=cm_put h;have hs:(C.DY C.level C.spot).spot=C.spot/\(C.DY C.level C.spot).level=C.level:=by
  unfold Xe.DY;rcases h.lv with e|e|e<;>rw[e]<;>exact⟨rfl,rfl⟩
 unfold Xe.lower;simp only;generalize C.DY C.level C.spot=D at*;by_cases h0:D.level=0
 ·rw[if_pos (by simp[h0])];by_cases hf:(!(D.spot.Ay.sl==0)&&D.k==D.Ha)=true
  ·rw[if_pos hf];exact⟨⟨hq.sp,hq.s0,hq.s1,hq.s2,hq.nx,λh=>hq.sp.2.1 h,hq.lv⟩,λe=>by cases e⟩
  ·rw[if_neg hf];exact⟨⟨hq.sp,hq.s0,hq.s1,hq.s2,hq.nx,hq.fd,hq.lv⟩,λe=>by cases e⟩
 ·rw[if_neg (by simp[h0])];have hl:D.level-1=0\/D.level-1=1\/D.level-1=2:=by have:=hq.lv;omega
  by_cases hz:D.spot.prev.sl=0
  ·rw[if_pos (by simp[hz])];exact Pn (C:={D with level:=D.level-1,spot:={D.spot with prev:=root (D.level-1)}}) ⟨⟨US hl,hq.sp.2.1,hq.sp.2.2⟩,hq.s0,hq.s1,hq.s2,hq.nx,hq.fd,hl⟩
  ·rw[if_neg (by simp[hz])];refine⟨⟨⟨?_,hq.sp.2.1,hq.sp.2.2⟩,hq.s0,hq.s1,hq.s2,hq.nx,hq.fd,hl⟩,λ_=>Or.inr (Or.inr (Or.inr (Or.inr (Or.inr (Or.inr (Or.inr ⟨rfl,rfl⟩))))))⟩;rcases hq.sp.1 with⟨q,_⟩|⟨_,_,_,q⟩
   ·exact absurd q hz
   ·exact Or.inr ⟨hz,by show 2<=2+(D.level-1);omega,by show 2+(D.level-1)<=4;omega,q⟩
theorem xN(h:AZ p own C):BS p own C.on:=by
 unfold Xe.on;by_cases h0:C.spot.Ay.sl=0
 ·rw[if_pos (by simp[h0])];exact Pm h
 ·rw[if_neg (by simp[h0])];exact⟨⟨h.sp,h.s0,h.s1,h.s2,h.nx,h.fd,h.lv⟩,λ_=>Or.inr (Or.inr (Or.inr (Or.inr (Or.inr (Or.inr (Or.inl ⟨rfl,rfl,h0⟩))))))⟩
theorem Ke(h:SQ p g)(hk:AZ p g.own C)(hc:IS C c)(hs:Sem p g.own c x p')(tb:Me p):
  SQ p' g/\Ed k p g p' g/\BS p' g.own (C.step x)/\∀s j,g.own s=.fresh j->p'.slot s=p.slot s:=by
 have al:∀e:X3 p p',BS p' g.own (C.step x)->SQ p' g/\Ed k p g p' g/\BS p' g.own (C.step x)/\∀s j,g.own s=.fresh j->p'.slot s=p.slot s:=λe hr=>⟨h.alike e,Ed.alike e,hr,λs _ _=>by rw[e.slot]⟩
 rcases hc with⟨hp,i,rfl⟩|⟨hp,h0,i,rfl⟩|⟨hp,h0,hk3⟩|⟨hp,h0,hk3⟩|⟨hp,rfl⟩|⟨hp,hk7,hm⟩|⟨hp,hk7,h0⟩|⟨hp,hk7⟩
 ·have hkind:(X9 C.spot.prev i).kind=6:=rfl;cases hs with
  |look _ e hx hn=>
   have hpd:=h.look hk.sp.1 e hx hn;have hk':=hk.al e;refine al e ?_;cases hm:x.word.mark with
   |true=>
    have he:C.step x=C.again:=by unfold Xe.step;simp[hp,hm]
    rw[he];exact LJ hk'
   |false=>
    have hq:AZ p' g.own {C with spot:={C.spot with Ay:=x.word}}:=⟨⟨hk'.sp.1,hpd,hm⟩,hk'.s0,hk'.s1,hk'.s2,hk'.nx,hk'.fd,hk'.lv⟩;by_cases hz:x.word.sl=0
    ·have he:C.step x=Xe.lower {C with spot:={C.spot with Ay:=x.word}}:=by unfold Xe.step;simp[hp,hm,hz]
     rw[he];exact Pm hq
    ·have he:C.step x=Xe.behind {C with spot:={C.spot with Ay:=x.word}}:=by unfold Xe.step;simp[hp,hm,hz]
     rw[he];exact Rp hq hz
  |_=>omega
 ·have hkind:(X9 (Xg C.spot.Ay (2+C.level)) i).kind=6:=rfl;cases hs with
  |look _ e hx hn=>
   have hpd:=h.look (JY h0 hk.sp.2.1 hk.lv) e hx hn;have hk':=hk.al e;have he:C.step x=({C with next:=x.word,pc:=4},X8 (Xg C.spot.Ay 0),true):=by unfold Xe.step;simp[hp]
   exact al e (by rw[he];exact⟨⟨hk'.sp,hk'.s0,hk'.s1,hk'.s2,hpd,hk'.fd,hk'.lv⟩,λ_=>Or.inr (Or.inr (Or.inl ⟨rfl,h0,rfl⟩))⟩)
  |_=>omega
 ·have he:C.step x=({C with k:=x.word.nm,pc:=5},X8 C.spot.prev,true):=by unfold Xe.step;simp[hp]
  have hK:∀e:X3 p p',BS p' g.own (C.step x):=λe=>by
   have hk':=hk.al e;rw[he];exact⟨⟨hk'.sp,hk'.s0,hk'.s1,hk'.s2,hk'.nx,hk'.fd,hk'.lv⟩,λ_=>Or.inr (Or.inr (Or.inr (Or.inl ⟨rfl,h0,rfl⟩)))⟩
  cases hs<;>first|omega|exact al (by assumption) (hK (by assumption))
 ·have hK:∀e:X3 p p',BS p' g.own (C.step x):=λe=>by
   have hk':=hk.al e;cases hw:AE x.word C.spot.Ay with
   |false=>
    have he:C.step x=C.again:=by unfold Xe.step;simp[hp,hw]
    rw[he];exact LJ hk'
   |true=>
    cases hm:C.next.mark with
    |true=>
     have he:C.step x=({C with pc:=6},Xx C.spot.prev C.spot.Ay (BC C.spot.Ay C.next),true):=by unfold Xe.step;simp[hp,hw,hm]
     rw[he];exact⟨⟨hk'.sp,hk'.s0,hk'.s1,hk'.s2,hk'.nx,hk'.fd,hk'.lv⟩,λ_=>Or.inr (Or.inr (Or.inr (Or.inr (Or.inl ⟨rfl,rfl⟩))))⟩
    |false=>
     by_cases hb:C.Ha<=C.k
     ·have he:C.step x=C.lower:=by unfold Xe.step;simp[hp,hw,hm,hb]
      rw[he];exact Pm hk'
     ·have he:C.step x=({C with spot:={C.spot with prev:=Xg C.spot.Ay (2+C.level)},pc:=7},GZ (3*C.level+2) (3*C.level+1),true):=by unfold Xe.step;simp[hp,hw,hm,hb]
      rw[he];exact⟨⟨⟨JY h0 hk'.sp.2.1 hk'.lv,hk'.sp.2⟩,hk'.s0,hk'.s1,hk'.s2,hk'.nx,hk'.fd,hk'.lv⟩,λ_=>Or.inr (Or.inr (Or.inr (Or.inr (Or.inr (Or.inl ⟨rfl,rfl,hm⟩)))))⟩
  cases hs<;>first|omega|exact al (by assumption) (hK (by assumption))
 ·obtain⟨r1,r2,r3⟩:=Om (k:=k) h hk.sp.1 hk.sp.2.2 (show(BC C.spot.Ay C.next).mark=false from rfl) (show PD p g.own (BC C.spot.Ay C.next) from λh=>hk.nx h) rfl tb hs;refine⟨r1,r2,?_,r3⟩;have hk':=hk.A9 r2.ev;cases hok:x.ok with
  |true=>
   have he:C.step x=Xe.on {C with spot:={C.spot with Ay:=BC C.spot.Ay C.next}}:=by unfold Xe.step;simp[hp,hok]
   rw[he];exact xN (C:={C with spot:={C.spot with Ay:=BC C.spot.Ay C.next}}) ⟨⟨hk'.sp.1,λh=>hk'.nx h,rfl⟩,hk'.s0,hk'.s1,hk'.s2,hk'.nx,hk'.fd,hk'.lv⟩
  |false=>
   have he:C.step x=C.again:=by unfold Xe.step;simp[hp,hok]
   rw[he];exact LJ hk'
 ·have he:C.step x=Xe.on {C with spot:={C.spot with Ay:=C.next}}:=by unfold Xe.step;simp[hp]
  have hK:∀e:X3 p p',BS p' g.own (C.step x):=λe=>by
   have hk':=hk.al e;rw[he];exact xN (C:={C with spot:={C.spot with Ay:=C.next}}) ⟨⟨hk'.sp.1,hk'.nx,hm⟩,hk'.s0,hk'.s1,hk'.s2,hk'.nx,hk'.fd,hk'.lv⟩
  cases hs<;>first|omega|exact al (by assumption) (hK (by assumption))
 ·have he:C.step x=C.behind:=by unfold Xe.step;simp[hp]
  have hK:∀e:X3 p p',BS p' g.own (C.step x):=λe=>by rw[he];exact Rp (hk.al e) h0
  cases hs<;>first|omega|exact al (by assumption) (hK (by assumption))
 ·have he:C.step x=C.enter:=by unfold Xe.step;simp[hp]
  have hK:∀e:X3 p p',BS p' g.own (C.step x):=λe=>by rw[he];exact Pn (hk.al e)
  cases hs<;>first|omega|exact al (by assumption) (hK (by assumption))
theorem FM{bd:Int}:BS p own ((Xe.new bd).step x):=by
 have he:(Xe.new bd).step x=(Xe.new bd).again:=rfl;rw[he];exact LJ ⟨Fe,Fe,Fe,Fe,λh=>absurd rfl h,λh=>absurd rfl h,Or.inl rfl⟩
end
end Go.Proofs.YtaipogljokblkaaGreatDoor
