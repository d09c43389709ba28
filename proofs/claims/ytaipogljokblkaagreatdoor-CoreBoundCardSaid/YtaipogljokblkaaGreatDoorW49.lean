/- Core: BeF, BeG, BeH. -/
import Derived.Test.YtaipogljokblkaaGreatDoorW46
import Derived.Test.YtaipogljokblkaaGreatDoorW01
import Derived.Test.YtaipogljokblkaaGreatDoorW48
set_option linter.all false
set_option maxRecDepth 100000
set_option maxHeartbeats 8000000
namespace Go.Proofs.YtaipogljokblkaaGreatDoor
open Go Go.RowKit
set_option linter.unusedSimpArgs false
set_option linter.unusedVariables false
set_option linter.unusedSectionVars false
structure TK(p:Pl)(g:SG)(k:Nat)(V:MV):Prop where
 nb:NB V.M
 nt:∀m∈V.M.ns,g.own m.ref.sl=.note (k+1000)/\(p.slot m.ref.sl).Ap=m.ref.gn
 nd:(V.M.ns.map (·.ref.sl)).Nodup
 eb:V.M.R.step≠0->EB V.M V.call
 jk:V.M.R.step≠0->V.Ae=1\/V.Ae=2->∃J,V.BJ=some J/\JK false p g k J V.call
 jd:V.M.R.step=0->V.Ae=1\/V.Ae=2->∃J,V.BJ=some J/\JK true p g k (J.next V.M.R.Au).1 (J.next V.M.R.Au).2
inductive Cu(st:Int)(k:Nat):Pl->SG->Pl->SG->Prop
 |refl {p g}:Cu st k p g p g
 |step {p g p' g' p2 g2} (a:Nat) (ha:a=k\/a=k+1000) (h:JG st p g) (e:N0 st a p g p' g') (r:Cu st k p' g' p2 g2):Cu st k p g p2 g2
section
variable{st:Int}{n t j k a:Nat}{M:MR}{c:Xf}{x:Xj}{p p' p2:Pl}{g g' g2:SG}{V:MV}{own:Int->Tk}
theorem kinds(hc:Z2 st n c):(c.kind=4->1<=c.A2.sl/\c.new.tg=0)/\(c.kind=5->c.new.tg=wr (c.A1.tg+1))/\(c.kind=9->1<=c.A1.sl):=by
 rcases hc with⟨hc,h12⟩|rfl|rfl|rfl
 ·refine⟨λe=>?_,λe=>?_,λe=>?_⟩<;>rcases hc with⟨h,_⟩|⟨h,ha,_,ht⟩|⟨h,_,_,hg⟩|⟨h,_⟩|⟨h,_⟩|h|⟨h,ho⟩|⟨h,_⟩|h<;>first|omega|exact⟨ha.1,ht⟩|exact hg|exact ho.1
 ·exact⟨λe=>(by cases e),λe=>(by cases e),λe=>(by cases e)⟩
 ·exact⟨λe=>(by cases e),λe=>(by cases e),λe=>(by cases e)⟩
 ·exact⟨λe=>(by cases e),λe=>(by cases e),λe=>(by cases e)⟩
theorem wL(h:EB M c)(hc:Z2 st n c):AccT M.R.AY:=by
 have hk:=kinds hc;rcases h with⟨_,⟨e,ha⟩|⟨e,ha⟩|⟨e,ha⟩|⟨_,ha⟩⟩|⟨_,⟨_,_,hd⟩|⟨_,ha⟩⟩|⟨_,_,ha,hd⟩|⟨_,_,ha⟩|⟨_,_,ha,hd⟩|⟨_,_,ha⟩|⟨_,_,ha⟩
 ·rw[ha];exact⟨λe=>(by cases e),λe=>(by cases e)⟩
 ·rw[ha];exact⟨λ_=>Or.inr (hk.1 e).2,λe=>(by cases e)⟩
 ·rw[ha];exact⟨λe=>(by cases e),λ_=>Or.inl (hk.2.1 e)⟩
 ·exact⟨λe=>by omega,λe=>by omega⟩
 ·exact⟨λ_=>Or.inl hd,λe=>by omega⟩
 ·rw[ha];exact⟨λe=>(by cases e),λe=>(by cases e)⟩
 ·exact⟨λ_=>Or.inl hd,λe=>by omega⟩
 ·rw[ha];exact⟨λe=>(by cases e),λe=>(by cases e)⟩
 ·exact⟨λ_=>Or.inl hd,λe=>by omega⟩
 ·exact⟨λe=>by omega,λe=>by omega⟩
 ·exact⟨λe=>by omega,λe=>by omega⟩
theorem mD(h2:M.R.Aa=2)(hb:AD n t M)(hr:LZ st n M c)(h:EB M c)(hc:Z2 st n c)(ho:KO p own)(hi:HI st n p){t':Nat}(tt:Nn t' p)(ht:t'<=1000000000)(h16:M.R.step≠16):
  ((M.As (p.act M.R.AY).2).R.step≠0->X3 p (p.act M.R.AY).1)/\((M.As (p.act M.R.AY).2).R.step=0->(c.kind≠2->c.kind≠11->Sem p own c (M.As (p.act M.R.AY).2).R.Au (p.act M.R.AY).1)/\(c.kind=2\/c.kind=11->X3 p (p.act M.R.AY).1)):=by
 have hk:=kinds hc
 obtain⟨_,_,e3,e4⟩:=bA (x:=(p.act M.R.AY).2) h2 hb hr h
 generalize(M.As (p.act M.R.AY).2).R.step=s' at*
 generalize(M.As (p.act M.R.AY).2).R.Au=rp at*
 rcases h with⟨hs,h⟩|⟨hs,h⟩|⟨hs,hk2,ha,hd⟩|⟨hs,hk6,ha⟩|⟨hs,hk6,ha,hd⟩|⟨hs,hk13,ha⟩|⟨hs,_⟩
 ·have h0:=e4 (Or.inl hs);have hrp:=(e3 h0).2.2.1 hs;refine⟨λh=>absurd h0 h,λ_=>⟨λ_ _=>?_,λh'=>?_⟩⟩
  ·rw[hrp];rcases h with⟨e,ha⟩|⟨e,ha⟩|⟨e,ha⟩|⟨e,ha⟩
   ·exact Uo ho (by rw[ha]) (Or.inl e) (by rw[ha]) rfl
   ·exact eK ho (by rw[ha]) e (by rw[ha]) (by rw[ha]) (by have:=(hk.1 e).1;omega)
   ·exact mE ho (by rw[ha]) e (by rw[ha]) (by rw[ha]) (by rw[ha])
   ·exact tN ho hi tt ht ha e
  ·rcases h with⟨e,ha⟩|⟨e,ha⟩|⟨e,ha⟩|⟨e,ha⟩<;>omega
 ·have h0:=e4 (Or.inr hs);refine⟨λh=>absurd h0 h,λ_=>⟨λ_ _=>?_,λh'=>?_⟩⟩
  ·rcases h with⟨e,ha,hd⟩|⟨e,ha⟩
   ·exact Sem.calm (Or.inr (Or.inl e)) (Kh ha hd)
   ·exact mF ho (by rw[ha]) e (by rw[ha]) (by have:=hk.2.2 e;omega)
  ·rcases h with⟨e,_⟩|⟨e,_⟩<;>omega
 ·exact⟨λ_=>Kh ha hd,λ_=>⟨λh=>absurd hk2 h,λ_=>Kh ha hd⟩⟩
 ·exact⟨λ_=>(PA ho (by rw[ha])).1,λh0=>⟨λ_ _=>Uo ho (by rw[ha]) (Or.inr hk6) (by rw[ha]) ((e3 h0).2.2.2 hs),λh=>by omega⟩⟩
 ·exact⟨λ_=>Kh ha hd,λh0=>absurd hs (e3 h0).1⟩
 ·have:=(PA ho ha).1;exact⟨λ_=>this,λ_=>⟨λ_ h11=>Sem.calm (Or.inr (Or.inr (hk13.resolve_right h11))) this,λ_=>this⟩⟩
 ·exact absurd hs h16
theorem Cu.trans(h:Cu st k p g p' g')(h2:Cu st k p' g' p2 g2):Cu st k p g p2 g2:=by
 induction h with
 |refl=>exact h2
 |step a ha hg e _ ih=>exact Cu.step a ha hg e (ih h2)
theorem Cu.one(h:JG st p g)(e:N0 st k p g p' g'):Cu st k p g p' g':=Cu.step k (Or.inl rfl) h e Cu.refl
theorem Fq{ns:List Xn}(h:∀m∈ns,g.own m.ref.sl=.note (k+1000)/\(p.slot m.ref.sl).Ap=m.ref.gn)(e:N0 st a p g p' g')(ha:k+1000≠a):∀m∈ns,g'.own m.ref.sl=.note (k+1000)/\(p'.slot m.ref.sl).Ap=m.ref.gn:=λm hm=>by
 obtain⟨q1,q2⟩:=e.ev.note ha (h m hm).1;exact⟨q1,by rw[q2];exact(h m hm).2⟩
theorem TK.A9(h:TK p g j V)(hv:VI st n t V)(hg:JG st p g)(e:N0 st a p g p' g')(h1:j≠a)(h2:j+1000≠a):TK p' g' j V:=by
 refine⟨h.nb,Fq h.nt e h2,h.nd,h.eb,λh0 hd=>?_,λh0 hd=>?_⟩
 ·obtain⟨J,q1,q2⟩:=h.jk h0 hd;refine⟨J,q1,SH (n:=n) q2 hg ?_ e h1⟩;rcases hv.at_ with⟨_,q⟩|⟨_,_,q⟩
  ·exact absurd q h0
  ·rcases q with⟨_,_,J',e',q⟩|⟨_,_,_,J',e',q⟩|⟨q,_⟩|⟨q,_⟩
   ·rw[q1] at e';cases e';exact q
   ·rw[q1] at e';cases e';exact q
   ·omega
   ·omega
 ·rcases hv.at_ with⟨q,_⟩|⟨q,_⟩
  ·omega
  ·exact absurd h0 q
theorem TK.evoC(h:TK p g j V)(hv:VI st n t V)(e:Cu st k p g p' g')(h1:j≠k)(hj:j<1000)(hk:k<1000):TK p' g' j V:=by
 induction e with
 |refl=>exact h
 |step a ha hg e _ ih=>exact ih (h.A9 hv hg e Zo Zo)
theorem lF{J:Yz}(hb:AD n t V.M)(hn:NB V.M)(hs0:V.M.R.step=0)(hnt:∀m∈V.M.ns,g.own m.ref.sl=.note (k+1000)/\(p.slot m.ref.sl).Ap=m.ref.gn)(hnd:(V.M.ns.map (·.ref.sl)).Nodup)
  (hk:JK true p g k J c)(hI:JI st n J c)(hc:JO st n c)(h12:c.kind≠12)(hg:JG st p g)(tb:Me p)(k9:k<1000):
  ∃g',JG st p g'/\Cu st k p g p g'/\TK p g' k (MV.Ag {V with BJ:=some J} 2 c):=by
 have h2:=hn.eng
 obtain⟨n1,n2⟩:=O7 (c:=c) hn hs0 hb.Qd
 obtain⟨_,e2,e3⟩:=LD h2 hb (Or.inl ⟨hc,h12⟩)
 have fin:∀g1,JG st p g1->Cu st k p g p g1->JK false p g1 k J c->(∀m∈(V.M.Ag c).ns,g1.own m.ref.sl=.note (k+1000)/\(p.slot m.ref.sl).Ap=m.ref.gn)->((V.M.Ag c).ns.map (·.ref.sl)).Nodup->
   ∃g',JG st p g'/\Cu st k p g p g'/\TK p g' k (MV.Ag {V with BJ:=some J} 2 c):=λg1 q1 q2 q3 q4 q5=>by
  by_cases hs:(V.M.Ag c).R.step=0
  ·have hi:DV c=true:=by
    cases h:DV c with
    |true=>rfl
    |false=>exact absurd hs (IK V.M hc h h12)
   have hi:c.kind=7\/c.kind=10:=by unfold DV at hi;simpa using hi
   obtain⟨g',r1,r2,r3,_⟩:=Lx (x:=(V.M.Ag c).R.Au) q1 hI h12 q3 (Sem.calm (Or.inr hi) (X3.refl p)) tb;exact⟨g',r1,q2.trans (Cu.one q1 r2),n1,Fq q4 r2 Zo,q5,λh=>absurd hs h,λh=>absurd hs h,λ_ _=>⟨J,rfl,r3⟩⟩
  ·exact⟨g1,q1,q2,n1,q4,q5,e2,λ_ _=>⟨J,rfl,q3⟩,λh=>absurd h hs⟩
 cases h10:c.kind==10 with
 |true=>
  have h10':c.kind=10:=by simpa using h10
  obtain⟨g1,r1,r2,r3,r4,r5,r6⟩:=gT hg hI hk h10'
  rw[h10] at n2
  have n2:(V.M.Ag c).ns=V.M.ns++[⟨AF c.A1,0,0⟩]:=n2
  refine fin g1 r1 (Cu.one hg r2) r6 (λm hm=>?_) ?_
  ·rw[n2] at hm;rcases List.mem_append.1 hm with hm|hm
   ·exact Fq hnt r2 Zo m hm
   ·rw[List.mem_singleton.1 hm];exact⟨by show g1.own c.A1.sl=_;rw[r3,Xy],r5⟩
  ·rw[n2,List.map_append];refine List.nodup_append.2 ⟨hnd,by simp,λs hs q hq=>?_⟩;obtain⟨m,hm,rfl⟩:=List.mem_map.1 hs;simp only[List.map_cons,List.map_nil,List.mem_singleton] at hq;intro e;have:=(hnt m hm).1;rw[e,hq] at this;exact r4 _ this
 |false=>
  rw[h10] at n2
  have n2:(V.M.Ag c).ns=V.M.ns:=n2
  exact fin g hg Cu.refl (vE hk) (by rw[n2];exact hnt) (by rw[n2];exact hnd)
end
def Kl(V:MV)(mo th:Int):Prop:=V.M.R.most=mo/\V.M.R.Ac=th
theorem Kl.of{V V':MV}{mo th:Int}(h:Kl V mo th)(e:Hd V.M.R V'.M.R):Kl V' mo th:=⟨by rw[e.2.2.2];exact h.1,by rw[e.2.1];exact h.2⟩
section
variable{st mo th:Int}{n t k:Nat}{p:Pl}{g:SG}{V:MV}{o:Bl}
theorem RI(k9:k<1000)(tb:Me p):∀(m t:Nat) (V:MV) (g:SG),VL st n t V->TK p g k V->Kl V mo th->JG st p g->∃g',JG st p g'/\Cu st k p g p g'/\TK p g' k (MV.NN m V)/\Kl (MV.NN m V) mo th
 |0,t,V,g,h,hk,hm,hg=>⟨g,hg,Cu.refl,hk,hm⟩
 |m+1,t,V,g,h,hk,hm,hg=>by
  by_cases h0:V.M.R.step=0
  ·rw[bH (aE h0 h.Ae)];have hx:PC st n V.call V.M.R.Au:=(h.at_.resolve_left λq=>absurd h0 q.1).2;have fin:(V.Ae=3\/V.Ae=4)->∃g',JG st p g'/\Cu st k p g p g'/\TK p g' k (MV.NN m V.ER)/\Kl (MV.NN m V.ER) mo th:=λhd=>by
    have e:V.ER={V with Ae:=0}:=by
     unfold MV.ER;rw[show(V.Ae==1||V.Ae==2)=false from by rcases hd with h|h<;>rw[h]<;>rfl];rfl
    rw[e,Nm (nE rfl)];exact⟨g,hg,Cu.refl,⟨hk.nb,hk.nt,hk.nd,λq=>absurd h0 q,λq=>absurd h0 q,λ_ hd=>by have hd:(0:Int)=1\/(0:Int)=2:=hd;omega⟩,hm⟩
   have go:(V.Ae=1\/V.Ae=2)->(∃J,V.BJ=some J/\JI st n J V.call)->V.call.kind≠12->∃g',JG st p g'/\Cu st k p g p g'/\TK p g' k (MV.NN m V.ER)/\Kl (MV.NN m V.ER) mo th:=λhd hJ h12=>by
    obtain⟨J,hj,hI⟩:=hJ;obtain⟨J',hj',hkn⟩:=hk.jd h0 hd;rw[hj] at hj';cases hj';obtain⟨q1,q2,_⟩:=IA hI h12 hx;have ed:(V.Ae==1||V.Ae==2)=true:=by rcases hd with h|h<;>rw[h]<;>rfl
    cases hkd:((J.next V.M.R.Au).2.kind==12) with
    |true=>
     have e:V.ER=MV.Ag {V with BJ:=some (J.next V.M.R.Au).1,BR:=(J.next V.M.R.Au).2.BR} 3 AS:=by
      unfold MV.ER;rw[ed,hj];simp only[cond_true,hkd,Bool.not_true,cond_false]
     rw[e];have hv:VL st n (t+1) (MV.Ag {V with BJ:=some (J.next V.M.R.Au).1,BR:=(J.next V.M.R.Au).2.BR} 3 AS):=
      Jh (J:=J) (V:={V with BJ:=some (J.next V.M.R.Au).1,BR:=(J.next V.M.R.Au).2.BR}) h.VT h.base (Or.inr (Or.inr (Or.inl rfl))) (Or.inr (Or.inr (Or.inl ⟨rfl,rfl⟩)))
     obtain⟨n1,n2⟩:=O7 (c:=AS) hk.nb h0 h.base.Qd;obtain⟨e1,e2,_⟩:=LD (c:=AS) hk.nb.eng h.base (st:=st) (Or.inr (Or.inr (Or.inl rfl)));have n2:(V.M.Ag AS).ns=V.M.ns:=n2;have d3:∀{P:Prop},((3:Int)=1\/(3:Int)=2)->P:=λh=>by omega
     exact RI k9 tb m (t+1) _ g hv ⟨n1,by show ∀m∈(V.M.Ag AS).ns,_;rw[n2];exact hk.nt,by show((V.M.Ag AS).ns.map _).Nodup;rw[n2];exact hk.nd,e2,λ_ h=>d3 h,λ_ h=>d3 h⟩ (hm.of e1) hg
    |false=>
     have hkd':(J.next V.M.R.Au).2.kind≠12:=by simpa using hkd
     have e:V.ER=MV.Ag {V with BJ:=some (J.next V.M.R.Au).1} 2 (J.next V.M.R.Au).2:=by
      unfold MV.ER;rw[ed,hj];simp only[cond_true,hkd,Bool.not_false]
     rw[e];have hv:VL st n (t+1) (MV.Ag {V with BJ:=some (J.next V.M.R.Au).1} 2 (J.next V.M.R.Au).2):=
      Jh (J:=J) (V:={V with BJ:=some (J.next V.M.R.Au).1}) h.VT h.base (Or.inl ⟨q2,hkd'⟩) (Or.inr (Or.inl ⟨rfl,hkd',q2,_,rfl,q1⟩))
     obtain⟨g1,r1,r2,r3⟩:=lF (V:=V) h.base hk.nb h0 hk.nt hk.nd hkn q1 q2 hkd' hg tb k9;obtain⟨e1,_,_⟩:=LD (c:=(J.next V.M.R.Au).2) hk.nb.eng h.base (st:=st) (Or.inl ⟨q2,hkd'⟩);obtain⟨g2,s1,s2,s3⟩:=RI k9 tb m (t+1) _ g1 hv r3 (hm.of e1) r1;exact⟨g2,s1,r2.trans s2,s3⟩
   rcases h.BJ with⟨hd,e,hJ⟩|⟨hd,e,_,hJ⟩|⟨hd,_⟩|⟨hd,_⟩
   ·exact go (Or.inl hd) hJ (by rw[e];decide)
   ·exact go (Or.inr hd) hJ e
   ·exact fin (Or.inl hd)
   ·exact fin (Or.inr hd)
  ·rw[Nm (Mv h0)];exact⟨g,hg,Cu.refl,hk,hm⟩
theorem sZ(k9:k<1000)(tb:Me p)(h:VI st n t V)(h0:V.Ae=0)(ho:Zy st o)(hk:TK p g k V)(hm:Kl V mo th)(hg:JG st p g):∃g',JG st p g'/\Cu st k p g p g'/\TK p g' k (V.Ih o)/\Kl (V.Ih o) mo th:=by
 have hs:V.M.R.step=0:=by
  rcases h.at_ with⟨_,q⟩|⟨_,_,q⟩
  ·exact q
  ·rcases q with⟨q,_⟩|⟨q,_⟩|⟨q,_⟩|⟨q,_⟩<;>omega
 have hv:=SM h h0 ho;obtain⟨n1,n2⟩:=O7 (c:=Yv) hk.nb hs h.base.Qd;have n2:(V.M.Ag Yv).ns=V.M.ns:=n2;obtain⟨e1,e2,_⟩:=LD (c:=Yv) hk.nb.eng h.base (st:=st) (Or.inr (Or.inl rfl));have hI:JI st n (Yz.new V.st o) Yv:=by rw[h.VT];exact(NE ho).1
 have hf:JK false p g k (Yz.new V.st o) Yv:=by rw[h.VT];exact gS ho
 have fin:∀g1,JG st p g1->Cu st k p g p g1->TK p g1 k (MV.Ag {V with op:=o,BJ:=some (Yz.new V.st o),BR:=.zero} 1 Yv)->∃g',JG st p g'/\Cu st k p g p g'/\TK p g' k (V.Ih o)/\Kl (V.Ih o) mo th:=λg1 a b d=>by
  obtain⟨g2,s1,s2,s3⟩:=RI k9 tb 16 _ _ g1 hv d (hm.of e1) a;exact⟨g2,s1,b.trans s2,s3⟩
 have nt':∀m∈(V.M.Ag Yv).ns,g.own m.ref.sl=.note (k+1000)/\(p.slot m.ref.sl).Ap=m.ref.gn:=by rw[n2];exact hk.nt
 have nd':((V.M.Ag Yv).ns.map (·.ref.sl)).Nodup:=by rw[n2];exact hk.nd
 by_cases hb:(V.M.Ag Yv).R.step=0
 ·obtain⟨g1,r1,r2,r3,_⟩:=Lx (x:=(V.M.Ag Yv).R.Au) hg hI Zd hf (Sem.calm (Or.inl rfl) (X3.refl p)) tb;exact fin g1 r1 (Cu.one hg r2) ⟨n1,Fq nt' r2 Zo,nd',λh=>absurd hb h,λh=>absurd hb h,λ_ _=>⟨_,rfl,r3⟩⟩
 ·exact fin g hg Cu.refl ⟨n1,nt',nd',e2,λ_ _=>⟨_,rfl,hf⟩,λh=>absurd h hb⟩
theorem jV(h:jD st n V):Z2 st n V.call:=by
 rcases h with⟨_,e,_⟩|⟨_,e,h,_⟩|⟨_,e⟩|⟨_,e⟩
 ·exact Or.inr (Or.inl e)
 ·exact Or.inl ⟨h,e⟩
 ·exact Or.inr (Or.inr (Or.inl e))
 ·exact Or.inr (Or.inr (Or.inr e))
theorem KW(h:jD st n V)(hd:V.Ae=1\/V.Ae=2):V.call.kind≠12/\V.call.kind≠2/\V.call.kind≠11/\∃J,V.BJ=some J/\JI st n J V.call:=by
 rcases h with⟨_,e,h⟩|⟨_,e,hc,h⟩|⟨e,_⟩|⟨e,_⟩
 ·exact⟨by rw[e];decide,by rw[e];decide,by rw[e];decide,h⟩
 ·refine⟨e,?_,?_,h⟩<;>rcases hc with⟨h,_⟩|⟨h,_⟩|⟨h,_⟩|⟨h,_⟩|⟨h,_⟩|h|⟨h,_⟩|⟨h,_⟩|h<;>omega
 ·omega
 ·omega
theorem sY{t':Nat}(k9:k<1000)(h:VI st n t V)(hd:V.Ae≠0)(hk:TK p g k V)(hm:Kl V mo th)(hg:JG st p g)(hi:HI st n p)(tt:Nn t' p)(ht:t'<1000000000):
  ∃g',JG st (V.step p).2.1 g'/\Cu st k p g (V.step p).2.1 g'/\TK (V.step p).2.1 g' k (V.step p).1/\Kl (V.step p).1 mo th/\Nn (t'+1) (V.step p).2.1:=by
 obtain⟨h0,hb,hv⟩:=RH h hd hi
 have hj:jD st n V:=by
  rcases h.at_ with⟨q,_⟩|⟨_,_,q⟩
  ·exact absurd q hd
  ·exact q
 have hc:=jV hj
 have heb:=hk.eb h0
 have h2:=hk.nb.eng
 have tt':=act_tg tt Zo hi hb.b.2.1 (wL heb hc)
 have tb:=tt.tgB Zo
 have tb':=tt'.tgB Zo
 obtain⟨n1,n2⟩:=uP (x:=(p.act V.M.R.AY).2) hk.nb h.base hb h0 hk.nd
 obtain⟨e1,e2,_,_⟩:=bA (x:=(p.act V.M.R.AY).2) h2 h.base hb heb
 have fin:∀g1,JG st (p.act V.M.R.AY).1 g1->Cu st k p g (p.act V.M.R.AY).1 g1->TK (p.act V.M.R.AY).1 g1 k {V with M:=V.M.As (p.act V.M.R.AY).2}->
   ∃g',JG st (V.step p).2.1 g'/\Cu st k p g (V.step p).2.1 g'/\TK (V.step p).2.1 g' k (V.step p).1/\Kl (V.step p).1 mo th/\Nn (t'+1) (V.step p).2.1:=λg1 a b d=>by
  obtain⟨g2,s1,s2,s3,s4⟩:=RI k9 tb' 16 _ _ g1 hv d (hm.of (V':={V with M:=V.M.As (p.act V.M.R.AY).2}) e1) a
  exact⟨g2,s1,b.trans s2,s3,s4,tt'⟩
 by_cases h16:V.M.R.step=16
 ·obtain⟨d,hd1,hac,hns,_⟩:=n2.resolve_left λq=>q.2 h16;obtain⟨o1,o2⟩:=hk.nt d hd1;have hnz:=h.base.Qn d hd1;have hl:Lv p g.own d.ref.sl d.ref.gn:=⟨by rw[o1];simp,o2⟩;have hdel:PY p (p.act V.M.R.AY).1 d.ref.sl:=by
   rcases V9 (a:=V.M.R.AY) hg.hb (by rw[hac]) (by rw[hac];have:=hnz.1;show d.ref.sl≠0;omega) with⟨_,q⟩|⟨q,_⟩
   ·rw[hac] at q ⊢;exact q
   ·rw[hac] at q;exact absurd hl q
  obtain⟨r1,r2⟩:=hg.free o1 hdel;have nt':∀m∈(V.M.As (p.act V.M.R.AY).2).ns,Ah g.own d.ref.sl .free m.ref.sl=.note (k+1000)/\((p.act V.M.R.AY).1.slot m.ref.sl).Ap=m.ref.gn:=by
   rw[hns];intro m hm;have hm1:=List.mem_of_mem_erase hm;have hne:m.ref.sl≠d.ref.sl:=λe=>by
    have hnd:=hk.nd;have hp:=(List.perm_cons_erase hd1).map (·.ref.sl);have hnd':=(hp.nodup_iff).1 hnd;rw[List.map_cons] at hnd';exact(List.nodup_cons.1 hnd').1 (by rw[←e];exact List.mem_map.2 ⟨m,hm,rfl⟩)
   rw[X2,if_neg hne,hdel.Av _ hne];exact hk.nt m hm1
  have nd':((V.M.As (p.act V.M.R.AY).2).ns.map (·.ref.sl)).Nodup:=by
   rw[hns];exact hk.nd.sublist (List.erase_sublist.map _)
  have ev:Cu st k p g (p.act V.M.R.AY).1 ⟨Ah g.own d.ref.sl .free,g.d,g.e⟩:=Cu.step (k+1000) (Or.inr rfl) hg r2 Cu.refl;have hjk:V.Ae=1\/V.Ae=2->∃J,V.BJ=some J/\JK false (p.act V.M.R.AY).1 ⟨Ah g.own d.ref.sl .free,g.d,g.e⟩ k J V.call/\JI st n J V.call:=λhd'=>by
   obtain⟨J,q1,q2⟩:=hk.jk h0 hd';obtain⟨_,_,_,J',q3,q4⟩:=KW hj hd';rw[q1] at q3;cases q3;exact⟨J,q1,SH q2 hg q4 r2 Zo,q4⟩
  by_cases hs:(V.M.As (p.act V.M.R.AY).2).R.step=0
  ·by_cases hd':V.Ae=1\/V.Ae=2
   ·obtain⟨J,q1,q2,q3⟩:=hjk hd';obtain⟨xI,k2,k11,_⟩:=KW hj hd';have k10:V.call.kind=10:=by
     rcases heb with⟨q,_⟩|⟨q,_⟩|⟨q,_⟩|⟨q,_⟩|⟨q,_⟩|⟨q,_⟩|⟨_,q,_⟩<;>omega
    obtain⟨g2,s1,s2,s3,_⟩:=Lx (x:=(V.M.As (p.act V.M.R.AY).2).R.Au) r1 q3 xI q2 (Sem.calm (Or.inr (Or.inr k10)) (X3.refl _)) tb';exact fin g2 s1 (ev.trans (Cu.one r1 s2)) ⟨n1,Fq nt' s2 Zo,nd',λq=>absurd hs q,λq=>absurd hs q,λ_ _=>⟨J,q1,s3⟩⟩
   ·exact fin _ r1 ev ⟨n1,nt',nd',λq=>absurd hs q,λq=>absurd hs q,λ_ q=>absurd q hd'⟩
  ·exact fin _ r1 ev ⟨n1,nt',nd',e2,λ_ q=>(by obtain⟨J,q1,q2,_⟩:=hjk q;exact⟨J,q1,q2⟩),λq=>absurd q hs⟩
 ·have hns:(V.M.As (p.act V.M.R.AY).2).ns=V.M.ns:=by
   rcases n2 with⟨q,_⟩|⟨_,_,_,_,q⟩
   ·exact q
   ·exact absurd q h16
  obtain⟨s1,s2⟩:=mD h2 h.base hb heb hc hg.hb hi tt Zo h16;have nd':((V.M.As (p.act V.M.R.AY).2).ns.map (·.ref.sl)).Nodup:=by rw[hns];exact hk.nd
  have quiet:X3 p (p.act V.M.R.AY).1->JG st (p.act V.M.R.AY).1 g/\Cu st k p g (p.act V.M.R.AY).1 g/\(∀m∈(V.M.As (p.act V.M.R.AY).2).ns,g.own m.ref.sl=.note (k+1000)/\((p.act V.M.R.AY).1.slot m.ref.sl).Ap=m.ref.gn):=λe=>by
   obtain⟨q1,q2⟩:=hg.alike (j:=k) e;refine⟨q1,Cu.one hg q2,?_⟩;rw[hns];exact Fq hk.nt q2 Zo
  by_cases hs:(V.M.As (p.act V.M.R.AY).2).R.step=0
  ·by_cases hd':V.Ae=1\/V.Ae=2
   ·obtain⟨J,q1,q2⟩:=hk.jk h0 hd';obtain⟨xI,k2,k11,J',q3,q4⟩:=KW hj hd';rw[q1] at q3;cases q3;obtain⟨g1,r1,r2,r3,_⟩:=Lx hg q4 xI q2 ((s2 hs).1 k2 k11) tb;exact fin g1 r1 (Cu.one hg r2) ⟨n1,by rw[hns];exact Fq hk.nt r2 Zo,nd',λq=>absurd hs q,λq=>absurd hs q,λ_ _=>⟨J,q1,r3⟩⟩
   ·have hk':V.call.kind=2\/V.call.kind=11:=by
     rcases hj with⟨q,_⟩|⟨q,_⟩|⟨_,q⟩|⟨_,q⟩
     ·exact absurd (Or.inl q) hd'
     ·exact absurd (Or.inr q) hd'
     ·rw[q];exact Or.inl rfl
     ·rw[q];exact Or.inr rfl
    obtain⟨q1,q2,q3⟩:=quiet ((s2 hs).2 hk');exact fin g q1 q2 ⟨n1,q3,nd',λq=>absurd hs q,λq=>absurd hs q,λ_ q=>absurd q hd'⟩
  ·obtain⟨q1,q2,q3⟩:=quiet (s1 hs);refine fin g q1 q2 ⟨n1,q3,nd',e2,λ_ hd'=>?_,λq=>absurd q hs⟩;obtain⟨J,q1,q2⟩:=hk.jk h0 hd';obtain⟨_,_,_,J',q3,q4⟩:=KW hj hd';rw[q1] at q3;cases q3;exact⟨J,q1,SH q2 hg q4 (hg.alike (j:=k+1) (s1 hs)).2 Zo⟩
end
structure PI(st mo th:Int)(n nt t:Nat)(P:Ar)(g:SG):Prop where
 gi:GI st n nt t P
 hg:JG st P.heap g
 tt:Nn (t+1) P.heap
 tk:∀(i:Nat) (T:MT),P.AB[i]?=some T->TK P.heap g i T.V/\Kl T.V mo th
 n6:nt<=6
section
variable{st mo th:Int}{n nt t k:Nat}{P:Ar}{T:MT}{g:SG}
theorem PI.idx(h:PI st mo th n nt t P g){i:Nat}{T:MT}(hT:P.AB[i]?=some T):i<1000:=by
 have hz:=h.gi.z;have h6:=h.n6;rcases Nat.lt_or_ge i P.AB.length with h|h
 ·omega
 ·rw[List.getElem?_eq_none h] at hT;cases hT
theorem PI.Md(h:PI st mo th n nt t P g)(hT:P.AB[k]?=some T):(T.V.M.ns.length:Int)<=mo+th*9:=by
 obtain⟨h1,h2,h3⟩:=h.tk k T hT;rw[←h2,←h3];exact h1.nb.len
theorem PI.up{t':Nat}(h:PI st mo th n nt t P g)(ht:t<=t'):PI st mo th n nt t' P g:=
 ⟨⟨h.gi.s,h.gi.z,h.gi.h,by have:=h.gi.b;omega,λi T hi=>by obtain⟨a,b⟩:=h.gi.v i T hi;exact⟨a.up ht,b⟩⟩,h.hg,h.tt.up Zo,h.tk,h.n6⟩
theorem PI.pick(h:PI st mo th n nt t P g)(hT:P.AB[k]?=some T)(hi:Ar.DT T=false)(ht:t<=60000)(hn:n<=1024):∃g',PI st mo th n nt (t+12) (P.EA k T).1 g':=by
 obtain⟨_,_,p3,_⟩:=aF h.gi hT hi ht hn;have k9:=h.idx hT;obtain⟨v1,v2,_,_⟩:=h.gi.v k T hT;obtain⟨t1,t2⟩:=h.tk k T hT;obtain⟨r1,r2,_,_⟩:=Uz v1 v2 hi;have tb:=h.tt.tgB Zo;have hr:∃g1,JG st P.heap g1/\Cu st k P.heap g P.heap g1/\TK P.heap g1 k (Ar.ready T).V/\Kl (Ar.ready T).V mo th:=by
  unfold Ar.ready;unfold Ar.DT at hi;cases hb:T.V.busy with
  |true=>exact⟨g,h.hg,Cu.refl,t1,t2⟩
  |false=>
   have h0:T.V.Ae=0:=by unfold MV.busy at hb;simpa using hb
   rw[hb] at hi;cases hc:T.queue with
   |nil=>rw[hc] at hi;cases hi
   |cons o r=>exact sZ k9 tb v1 h0 (v2 o (by rw[hc];exact List.mem_cons_self ..)) t1 t2 h.hg
 obtain⟨g1,a1,a2,a3,a4⟩:=hr;obtain⟨g2,b1,b2,b3,b4,b5⟩:=sY k9 r1 r2 a3 a4 a1 h.gi.h h.tt Zo;refine⟨g2,p3,b1,Nn.up b5 Zo,λi T' hi'=>?_,h.n6⟩;have hi':(P.AB.set k {Ar.ready T with V:=((Ar.ready T).V.step P.heap).1,last:=P.A4.length})[i]?=some T':=hi';have hk:k<P.AB.length:=by
  rcases Nat.lt_or_ge k P.AB.length with h|h
  ·exact h
  ·rw[List.getElem?_eq_none h] at hT;cases hT
 by_cases e:k=i
 ·subst e;rw[List.getElem?_set_self hk] at hi';injection hi' with hi';subst hi';exact⟨b3,b4⟩
 ·rw[List.getElem?_set_ne e] at hi';obtain⟨u1,_⟩:=h.gi.v i T' hi';obtain⟨w1,w2⟩:=h.tk i T' hi';exact⟨(w1.evoC u1 (a2.trans b2) (Ne.symm e) (h.idx hi') k9),w2⟩
theorem pX{eng me:Int}{p:Pl}(he:eng=2)(m1:1<=mo)(t1:1<=th)(i:Nat):TK p g i (MV.fresh st eng me th mo)/\Kl (MV.fresh st eng me th mo) mo th:=by
 refine⟨⟨⟨he,m1,t1,Or.inl rfl,?_,λ_ _=>Or.inl ?_,λh=>?_⟩,λm hm=>(by cases hm),List.nodup_nil,λh=>absurd rfl h,λh=>absurd rfl h,λ_ h=>?_⟩,rfl,rfl⟩
 ·show((0:Nat):Int)<=mo+th*9;omega
 ·show((0:Nat):Int)<mo;omega
 ·have h:(0:Int)=16:=h;omega
 ·have h:(0:Int)=1\/(0:Int)=2:=h;omega
theorem rT{p:Pl}(hs:∀s,(p.slot s).used=false):KO p λ_=>.free:=⟨λs=>⟨λ_=>hs s,λ_=>rfl⟩,rfl⟩
theorem QN{p:Pl}{m:Int}(hm:m≠0)(h0:(p.board 0).sl=0\/((p.board 0).sl=m/\(p.board 0).gn=(p.slot m).Ap))(h2:((p.slot m).cell 2).sl=0)(hu:∀s,(p.slot s).used=decide (s=m)):BN p (Ah (λ_=>Tk.free) m .chain):=by
 have ho:∀t,Ah (λ_=>Tk.free) m .chain t=if t=m then .chain else .free:=λt=>X2 ..;have hin:∀i:Option Int,In (Ah (λ_=>Tk.free) m .chain) i->(lk p i).sl≠0->i=none:=λi hi hz=>by
  cases i with
  |none=>rfl
  |some s=>
   have hi:Ah (λ_=>Tk.free) m .chain s=.chain:=hi;rw[ho] at hi;by_cases e:s=m
   ·rw[e] at hz;exact absurd h2 hz
   ·rw[if_neg e] at hi;cases hi
 refine⟨⟨λi hi hz=>?_,λi j hi hj hz e=>?_⟩,λs=>?_,by rw[ho,if_neg (Ne.symm hm)]⟩
 ·have:=hin i hi hz;subst this;have hz:(p.board 0).sl≠0:=hz;obtain⟨q1,q2⟩:=h0.resolve_left hz;exact⟨by show Ah _ m Tk.chain (p.board 0).sl=_;rw[q1,Xy],by show(p.slot (p.board 0).sl).Ap=(p.board 0).gn;rw[q1,q2]⟩
 ·rw[hin i hi hz,hin j hj (by rw[←e];exact hz)]
 ·rw[ho,hu];by_cases e:s=m
  ·simp[e]
  ·simp[e]
theorem vA(st:Int)(n:Nat)(s1:1<=st)(s5:st<=5)(hs:st=2\/st=4->1<=n):∃g,JG st (Pl.laid st n) g/\Nn 1 (Pl.laid st n):=by
 have tz:Nn 1 (Pl.begun n):=by
  refine⟨λr _ _=>?_,λs f=>⟨Int.le_refl 0,by show(0:Int)<=1;decide⟩,λs=>⟨Int.le_refl 0,by show(0:Int)<=1;decide⟩⟩;show 0<=(Ah (λ_=>Xd.zero) 24 (Y5 1) r).tg/\(Ah (λ_=>Xd.zero) 24 (Y5 1) r).tg<=1;rw[X2];by_cases e:r=24
  ·rw[if_pos e];exact⟨Int.le_refl 0,by show(0:Int)<=1;decide⟩
  ·rw[if_neg e];exact⟨Int.le_refl 0,by show(0:Int)<=1;decide⟩
 have bz:∀r,r<24->(Pl.begun n).board r=.zero:=λr hr=>by
  show Ah (λ_=>Xd.zero) 24 (Y5 1) r=_;rw[X2,if_neg Zo]
 have hz:KO (Pl.begun n) λ_=>.free:=rT λ_=>rfl;have h2z:BN (Pl.begun n) λ_=>.free:=by
  refine⟨⟨λi hi h=>?_,λi j hi hj h=>?_⟩,hz.tok,rfl⟩<;>exfalso<;>cases i with
  |none=>exact h (by show((Pl.begun n).board 0).sl=0;rw[bz 0 Zd];rfl)
  |some s=>cases hi
 have one:st=2\/st=4->∃(m:Int) (w:Xd) (p1:Pl),m≠0/\w=⟨m,1,0,0,false⟩/\Nn 1 p1/\p1.board=(Pl.begun n).board/\((p1.slot m).cell 2=.zero)/\(p1.slot m).Ap=1/\(∀s,(p1.slot s).used=decide (s=m))/\
   (Pl.begun n).EI=(p1.stored 0 w).stored 1 w/\(Pl.begun n).GA=(p1.stored 8 w).stored 16 (Y5 1):=λh=>by
  obtain⟨l,m,hf⟩:=GJ n (hs h)
  have hm:=(HB.stored (HB.fresh n) 24 Cg rfl).VM m (by show m∈(Pl.begun n).free;rw[hf];simp)
  have e1:(Pl.begun n).free.getLast?=some m:=by rw[hf];simp
  have e2:(Pl.begun n).free.dropLast=l:=by rw[hf];simp
  have e:(Pl.begun n).act Pl.A6=({Pl.begun n with steps:=wr ((Pl.begun n).steps+1),free:=l,slot:=Ah (Pl.begun n).slot m ⟨1,true,Ah (λ_=>.zero) 9 (Y5 0)⟩,made:=wr ((Pl.begun n).made+1)},⟨⟨m,1,0,0,false⟩,true⟩):=by
   show Pl.alloc {Pl.begun n with steps:=wr ((Pl.begun n).steps+1)} _=_;unfold Pl.alloc;simp only[e1,e2];rfl
  have hsl:∀s,Ah (Pl.begun n).slot m ⟨1,true,Ah (λ_=>.zero) 9 (Y5 0)⟩ s=if s=m then⟨1,true,Ah (λ_=>.zero) 9 (Y5 0)⟩ else It.zero:=λs=>X2 ..
  refine⟨m,⟨m,1,0,0,false⟩,((Pl.begun n).act Pl.A6).1,by omega,rfl,?_,by rw[e],?_,?_,λs=>?_,?_,?_⟩
  ·rw[e];refine⟨tz.BP,λs f=>?_,λs=>?_⟩
   ·show 0<=((Ah (Pl.begun n).slot m _ s).cell f).tg/\((Ah (Pl.begun n).slot m _ s).cell f).tg<=1;rw[hsl];by_cases q:s=m
    ·rw[if_pos q];show 0<=(Ah (λ_=>Xd.zero) 9 (Y5 0) f).tg/\(Ah (λ_=>Xd.zero) 9 (Y5 0) f).tg<=1;rw[X2];by_cases q:f=9
     ·rw[if_pos q];exact⟨Int.le_refl 0,by show(0:Int)<=1;decide⟩
     ·rw[if_neg q];exact⟨Int.le_refl 0,by show(0:Int)<=1;decide⟩
    ·rw[if_neg q];exact⟨Int.le_refl 0,by show(0:Int)<=1;decide⟩
   ·show 0<=(Ah (Pl.begun n).slot m _ s).Ap/\(Ah (Pl.begun n).slot m _ s).Ap<=1;rw[hsl];by_cases q:s=m
    ·rw[if_pos q];exact⟨by show(0:Int)<=1;decide,Int.le_refl 1⟩
    ·rw[if_neg q];exact⟨Int.le_refl 0,by show(0:Int)<=1;decide⟩
  ·rw[e];show(Ah (Pl.begun n).slot m _ m).cell 2=_;rw[Xy];rfl
  ·rw[e];show(Ah (Pl.begun n).slot m _ m).Ap=_;rw[Xy]
  ·rw[e];show(Ah (Pl.begun n).slot m _ s).used=_;rw[hsl];by_cases q:s=m
   ·simp[q]
   ·rw[if_neg q];simp[q];rfl
  ·unfold Pl.EI;rw[e];rfl
  ·unfold Pl.GA;rw[e];rfl
 have stt:∀{p:Pl} {fd:Int} {w:Xd},Nn 1 p->w.tg=0->Nn 1 (p.stored fd w):=λ{p fd w} h hw=>by
  refine⟨λr a b=>?_,h.cell,h.Ap⟩;show 0<=(Ah p.board fd w r).tg/\(Ah p.board fd w r).tg<=1;rw[X2];by_cases q:r=fd
  ·rw[if_pos q,hw];exact⟨Int.le_refl 0,by decide⟩
  ·rw[if_neg q];exact h.BP r a b
 unfold Pl.laid;obtain rfl|rfl|rfl|rfl|rfl:st=1\/st=2\/st=3\/st=4\/st=5:=Zo
 ·exact⟨⟨λ_=>.free,λ_=>.Th,λ_=>.Th⟩,Or.inl ⟨rfl,h2z⟩,tz⟩
 ·obtain⟨m,w,p1,m0,hw,tp,hb,hc,hg,hu,e,_⟩:=one (Or.inl rfl);show ∃g,JG 2 (Pl.begun n).EI g/\Nn 1 (Pl.begun n).EI;rw[e];have b0:((p1.stored 0 w).stored 1 w).board 0=w:=rfl;have b1:((p1.stored 0 w).stored 1 w).board 1=w:=rfl;have hown:∀t,Ah (λ_=>Tk.free) m .chain t=if t=m then .chain else .free:=λt=>X2 ..;have hm:∀t,Ah (λ_=>Tk.free) m .chain t≠.free->t=m:=λt h=>Classical.byContradiction λq=>h (by rw[hown,if_neg q]);have hpd:PD ((p1.stored 0 w).stored 1 w) (Ah (λ_=>Tk.free) m .chain) w:=λ_=>by
   rw[hw];exact⟨by show(1:Int)<=(p1.slot m).Ap;rw[hg];exact Int.le_refl 1,λ_=>by show(Ah (λ_=>Tk.free) m .chain m).Ax=false;rw[Xy];rfl⟩
  refine⟨⟨Ah (λ_=>.free) m .chain,λ_=>.Th,λ_=>.Th⟩,Or.inr (Or.inl ⟨rfl,QN m0 (Or.inr ⟨by rw[b0,hw],by rw[b0,hw];exact hg.symm⟩) (by show((p1.slot m).cell 2).sl=0;rw[hc];rfl) hu,?_⟩),stt (stt tp (by rw[hw])) (by rw[hw])⟩;refine⟨by rw[b0,hw];exact m0,by rw[b1,hw];exact m0,by rw[b1];exact hpd,λs h1 _=>?_,λs h1 _ h3=>?_⟩
  ·have:=hm s h1;subst this;intro h;have h:((p1.slot s).cell 2).sl≠0:=h;rw[hc] at h;exact absurd rfl h
  ·have:=hm s h1;subst this;exact absurd (show Ah (λ_=>Tk.free) s .chain s=.chain from Xy ..) h3
 ·refine⟨⟨λ_=>.free,λ_=>.Th,λ_=>.Th⟩,Or.inr (Or.inr (Or.inl ⟨Or.inl rfl,h2z,λr r0 r1=>?_,λs h=>absurd rfl h,λs h=>absurd rfl h⟩)),tz⟩;show PD (Pl.begun n) _ ((Pl.begun n).board r);rw[bz r r1];exact λh=>absurd rfl h
 ·obtain⟨m,w,p1,m0,hw,tp,hb,hc,hg,hu,_,e⟩:=one (Or.inr rfl);show ∃g,JG 4 (Pl.begun n).GA g/\Nn 1 (Pl.begun n).GA;rw[e];have hown:∀t,Ah (λ_=>Tk.free) m .chain t=if t=m then .chain else .free:=λt=>X2 ..;have hm:∀t,Ah (λ_=>Tk.free) m .chain t≠.free->t=m:=λt h=>Classical.byContradiction λq=>h (by rw[hown,if_neg q]);have b0:((p1.stored 8 w).stored 16 (Y5 1)).board 0=.zero:=by
   show Ah (Ah p1.board 8 w) 16 (Y5 1) 0=_;rw[X2,if_neg Zd,X2,if_neg Zd,hb];exact bz 0 Zd
  have hpd:PD ((p1.stored 8 w).stored 16 (Y5 1)) (Ah (λ_=>Tk.free) m .chain) w:=λ_=>by
   rw[hw];exact⟨by show(1:Int)<=(p1.slot m).Ap;rw[hg];exact Int.le_refl 1,λ_=>by show(Ah (λ_=>Tk.free) m .chain m).Ax=false;rw[Xy];rfl⟩
  refine⟨⟨Ah (λ_=>.free) m .chain,λ_=>.Th,λ_=>.Th⟩,Or.inr (Or.inr (Or.inl ⟨Or.inr rfl,QN m0 (Or.inl (by rw[b0];rfl)) (by show((p1.slot m).cell 2).sl=0;rw[hc];rfl) hu,λr r0 r1=>?_,λs h1 _=>?_,λs h1 _ h3=>?_⟩)),stt (stt tp (by rw[hw])) rfl⟩
  ·show PD _ _ (Ah (Ah p1.board 8 w) 16 (Y5 1) r);rw[X2,X2];by_cases q:r=16
   ·rw[if_pos q];exact λh=>absurd rfl h
   ·rw[if_neg q];by_cases q:r=8
    ·rw[if_pos q];exact hpd
    ·rw[if_neg q,hb,bz r r1];exact λh=>absurd rfl h
  ·have:=hm s h1;subst this;intro h;have h:((p1.slot s).cell 2).sl≠0:=h;rw[hc] at h;exact absurd rfl h
  ·have:=hm s h1;subst this;exact absurd (show Ah (λ_=>Tk.free) s .chain s=.chain from Xy ..) h3
 ·refine⟨⟨λ_=>.free,λ_=>.Th,λ_=>.Th⟩,Or.inr (Or.inr (Or.inr ⟨rfl,hz,λr r0 r1=>?_,λs _ h=>absurd rfl h,λs k=>⟨by simp,by simp⟩⟩)),tz⟩;show PD (Pl.begun n) _ ((Pl.begun n).board r);rw[bz r r1];exact λh=>absurd rfl h
theorem pY(s1:1<=st)(s5:st<=5)(hs:st=2\/st=4->1<=n)(m1:1<=mo)(t0:1<=nt)(t1:nt<=6):∃g,PI st mo (nt:Int) n nt 0 (Ar.fresh st 2 mo nt n nt) g:=by
 obtain⟨g,h1,h2⟩:=vA st n s1 s5 hs;refine⟨g,OS hs Zd Zd t0 t1,h1,h2,λi T hi=>?_,t1⟩;unfold Ar.fresh at hi;simp only at hi;rw[List.getElem?_map] at hi;cases hr:(List.range nt)[i]? with
 |none=>rw[hr] at hi;cases hi
 |some j=>
  rw[hr] at hi;injection hi with hi;subst hi;exact pX rfl m1 Zo i
theorem PI.put(h:PI st mo th n nt t P g)(x:Fn.CL)(hx:Zy st (YH x.op)):PI st mo th n nt t (P.put x) g:=by
 have hg:=h.gi.put x hx;unfold Ar.put at hg ⊢;cases hT:P.AB[x.Bt.toNat]? with
 |none=>exact h
 |some T=>
  rw[hT] at hg;have hk:x.Bt.toNat<P.AB.length:=by
   rcases Nat.lt_or_ge x.Bt.toNat P.AB.length with h|h
   ·exact h
   ·rw[List.getElem?_eq_none h] at hT;cases hT
  refine⟨hg,h.hg,h.tt,λi T' hi=>?_,h.n6⟩;have hi:(P.AB.set x.Bt.toNat {T with queue:=T.queue++[YH x.op],Cs:=T.Cs+1})[i]?=some T':=hi;by_cases e:x.Bt.toNat=i
  ·subst e;rw[List.getElem?_set_self hk] at hi;injection hi with hi;subst hi;exact h.tk _ T hT
  ·rw[List.getElem?_set_ne e] at hi;exact h.tk i T' hi
theorem PI.fill:∀(l:List Fn.CL) (P:Ar),PI st mo th n nt t P g->(∀x∈l,Zy st (YH x.op))->PI st mo th n nt t (P.fill l) g
 |[],_,h,_=>h
 |x::l,P,h,hl=>PI.fill l (P.put x) (h.put x (hl x (List.mem_cons_self ..))) λy hy=>hl y (List.mem_cons_of_mem _ hy)
end
end Go.Proofs.YtaipogljokblkaaGreatDoor
