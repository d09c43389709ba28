/- Core: BdP, BdQ. -/
import Derived.Test.YtaipogljokblkaaGreatDoorW41
import Derived.Test.YtaipogljokblkaaGreatDoorW01
set_option linter.all false
set_option maxRecDepth 100000
set_option maxHeartbeats 8000000
namespace Go.Proofs.YtaipogljokblkaaGreatDoor
open Go Go.RowKit
set_option linter.unusedSimpArgs false
set_option linter.unusedVariables false
set_option linter.unusedSectionVars false
structure FT(p:Pl)(own:Int->Tk)(W:Xq):Prop where
 pv:NO p own W.prev
 Ay:PD p own W.Ay
 um:W.Ay.mark=false
 sn:R7 p own W.prev W.Ay
 nx:W.found=true->W.Ay.sl≠0/\PD p own W.next/\W.next.mark=false/\R7 p own (Xg W.Ay 2) W.next
def JH(p:Pl)(own:Int->Tk)(k:Nat)(r:Xq × Xf × Bool):Prop:=(r.2.2=true->EP true p own k r.1 r.2.1)/\(r.2.2=false->FT p own r.1)
section
variable{b:Bool}{p p':Pl}{own own':Int->Tk}{k a:Nat}{W:Xq}{c:Xf}{x:Xj}{n:Bool}{w:Xd}
theorem FT.A9(h:FT p own W)(e:Bs a Ie p own p' own'):FT p' own' W:=
 ⟨h.pv.A9 e,h.Ay.A9 e,h.um,h.sn.A9 h.pv e,λhf=>⟨(h.nx hf).1,(h.nx hf).2.1.A9 e,(h.nx hf).2.2.1,(h.nx hf).2.2.2.A9 (Jw (h.nx hf).1 h.Ay) e⟩⟩
theorem EP.low(h:EP b p own k W c):EP false p own k W c:=
 ⟨h.pc,h.st,h.pv,h.c1,h.c2,h.c3,h.c4,h.c5,λh1=>⟨(h.c6 h1).1,(h.c6 h1).2.1,(h.c6 h1).2.2.1,λe=>(by cases e)⟩,h.c7,h.c8,h.cu,h.nx⟩
theorem Iz(h:NO p own W.start):JH p own k W.again:=by
 refine⟨λ_=>?_,λe=>by cases e⟩;refine⟨⟨by show(1:Int)<=1;omega,by show(1:Int)<=8;omega⟩,h,h,λ_=>rfl,?_,?_,?_,?_,?_,?_,?_,?_,?_⟩;all_goals (intro e;exfalso)
 all_goals (first|(have e:(1:Int)=2\/(1:Int)=3\/(1:Int)=4\/(1:Int)=5\/(1:Int)=8:=e;omega)|(revert e;show(1:Int)=_->False;omega)|(revert e;show ¬((3:Int)<=1);omega)|skip)
theorem ML(st:NO p own W.start)(pv:NO p own W.prev)(cu:W.Ay.sl≠0/\W.Ay.mark=false/\PD p own W.Ay/\R7 p own W.prev W.Ay):JH p own k W.behind:=by
 refine⟨λ_=>?_,λe=>by cases e⟩;refine⟨⟨by show(1:Int)<=2;omega,by show(2:Int)<=8;omega⟩,st,pv,?_,λ_=>rfl,?_,?_,?_,?_,?_,?_,λ_=>cu,?_⟩;all_goals (intro e;exfalso)
 all_goals (first|(revert e;show(2:Int)=_->False;omega)|(revert e;show ¬((3:Int)<=2);omega))
theorem NT(pv:NO p own W.prev)(Ay:PD p own W.Ay)(mk:W.Ay.mark=false)(sn:R7 p own W.prev W.Ay)(nx:n=true->W.Ay.sl≠0/\PD p own W.next/\W.next.mark=false/\R7 p own (Xg W.Ay 2) W.next):JH p own k (W.finish n):=
 ⟨λe=>(by cases e),λ_=>⟨pv,Ay,mk,sn,nx⟩⟩
theorem ZA(st:NO p own W.start)(pv:NO p own W.prev)(Ay:PD p own W.Ay)(mk:W.Ay.mark=false)(sn:R7 p own W.prev W.Ay):JH p own k W.on:=by
 unfold Xq.on;by_cases h:W.Ay.sl=0
 ·rw[if_pos (by simp[h])];exact NT pv Ay mk sn λe=>by cases e
 ·rw[if_neg (by simp[h])];refine⟨λ_=>?_,λe=>by cases e⟩;refine⟨⟨by show(1:Int)<=8;omega,by show(8:Int)<=8;omega⟩,st,pv,?_,?_,?_,?_,?_,?_,?_,λ_=>rfl,λ_=>⟨h,mk,Ay,sn⟩,?_⟩;all_goals (intro e)
  all_goals (first|(exfalso;revert e;show(8:Int)=_->False;omega)|(intro e2;exfalso;revert e2;show ¬((8:Int)<=5);omega))
def VC(p:Pl)(own:Int->Tk)(k:Nat)(W:Xq)(x:Xj)(p':Pl):Prop:=
 ∃own',BN p' own'/\LQ p' own'/\Bs k Ie p own p' own'/\JH p' own' k (W.step x)/\(∀s,own' s=.note k↔own s=.note k)/\∀s,own s=.fresh k->own' s=.fresh k/\p'.slot s=p.slot s
theorem Dz(h:BN p own)(hq:LQ p own)(e:X3 p p')(hk:JH p' own k (W.step x)):VC p own k W x p':=
 ⟨own,h.alike e,hq.alike e,Bs.alike e,hk,λ_=>Iff.rfl,λs hs=>⟨hs,by rw[e.slot]⟩⟩
theorem OQ{s:Int}(hs:own s≠.fresh k)(hp:∀t,own t=.fresh k->p'.slot t=p.slot t)(hc:own s=.chain):
  (∀t,Ah own s (.Bi k) t=.note k↔own t=.note k)/\∀t,own t=.fresh k->Ah own s (.Bi k) t=.fresh k/\p'.slot t=p.slot t:=by
 have hu:∀t,Ah own s (.Bi k) t=if t=s then .Bi k else own t:=λt=>X2 ..
 refine⟨λt=>?_,λt ht=>⟨?_,hp t ht⟩⟩
 ·rw[hu];by_cases e:t=s
  ·rw[if_pos e,e,hc];simp
  ·rw[if_neg e]
 ·rw[hu,if_neg λe=>hs (by rw[←e];exact ht)];exact ht
theorem Hu(h:BN p own)(hq:LQ p own)(hk:EP false p own k W c)(hs:Sem p own c x p')(tb:Me p):VC p own k W x p':=by
 have hp:=hk.pc;have hp:W.pc=1\/W.pc=2\/W.pc=3\/W.pc=4\/W.pc=5\/W.pc=6\/W.pc=7\/W.pc=8:=Zo;rcases hp with hp|hp|hp|hp|hp|hp|hp|hp
 ·have hc:=hk.c1 hp;subst hc;have hkind:(X9 W.prev 1).kind=6:=rfl;cases hs with
  |look _ e hx hn=>
   obtain⟨q1,q2,_⟩:=hq.look hk.pv e hx hn;refine Dz h hq e ?_;cases hm:x.word.mark with
   |true=>
    have he:W.step x=W.again:=by unfold Xq.step;simp[hp,hm]
    rw[he];exact Iz (hk.st.al e)
   |false=>
    by_cases hz:x.word.sl=0
    ·have he:W.step x=Xq.finish {W with Ay:=x.word} false:=by unfold Xq.step;simp[hp,hm,hz]
     rw[he];exact NT (W:={W with Ay:=x.word}) (hk.pv.al e) q1 hm q2 λe=>by cases e
    ·have he:W.step x=Xq.behind {W with Ay:=x.word}:=by unfold Xq.step;simp[hp,hm,hz]
     rw[he];exact ML (W:={W with Ay:=x.word}) (hk.st.al e) (hk.pv.al e) ⟨hz,hm,q1,q2⟩
  |_=>omega
 ·have hc:=hk.c2 hp;subst hc;obtain⟨u1,u2,u3,u4⟩:=hk.cu Zo;have hkind:(X9 (Xg W.Ay 2) 0).kind=6:=rfl;cases hs with
  |look _ e hx hn=>
   obtain⟨q1,q2,q3⟩:=hq.look (Jw u1 u3) e hx hn;refine Dz h hq e ?_;have he:W.step x=({W with next:=x.word,pc:=3},X8 (Xg W.Ay 0),true):=by unfold Xq.step;simp[hp]
   rw[he];refine⟨λ_=>?_,λe=>by cases e⟩;refine⟨⟨by show(1:Int)<=3;omega,by show(3:Int)<=8;omega⟩,hk.st.al e,hk.pv.al e,?_,?_,λ_=>rfl,?_,?_,?_,?_,?_,λ_=>⟨u1,u2,u3.Nw e,u4.al hk.pv e⟩,λ_ _=>⟨q1,q2,λ_=>q3 u1⟩⟩;all_goals (intro e;exfalso;revert e;show(3:Int)=_->False;omega)
  |_=>omega
 ·have hc:=hk.c3 hp;obtain⟨u1,u2,u3,u4⟩:=hk.cu Zo;obtain⟨n1,n2,n3⟩:=hk.nx Zo Zo;cases hs with
  |look _ e hx hn=>
   refine Dz h hq e ?_;have he:W.step x=({W with k:=x.word.nm,pc:=4},X8 W.prev,true):=by unfold Xq.step;simp[hp]
   rw[he];refine⟨λ_=>?_,λe=>by cases e⟩;refine⟨⟨by show(1:Int)<=4;omega,by show(4:Int)<=8;omega⟩,hk.st.al e,hk.pv.al e,?_,?_,?_,λ_=>rfl,?_,?_,?_,?_,λ_=>⟨u1,u2,u3.Nw e,u4.al hk.pv e⟩,λ_ _=>⟨n1.Nw e,n2.al (Jw u1 u3) e,λhm hl=>?_⟩⟩;all_goals (first|(intro e;exfalso;revert e;show(4:Int)=_->False;omega)|skip)
   rw[e.slot];exact n3 hm (by unfold Lv at hl ⊢;rw[e.slot] at hl;exact hl)
  |_=>omega
 ·have hc:=hk.c4 hp;subst hc;obtain⟨u1,u2,u3,u4⟩:=hk.cu Zo;obtain⟨n1,n2,n3⟩:=hk.nx Zo Zo;have hkind:(X8 W.prev).kind=3:=rfl;cases hs with
  |look _ e hx hn=>
   refine Dz h hq e ?_;cases hw:AE x.word W.Ay with
   |false=>
    have he:W.step x=W.again:=by unfold Xq.step;simp[hp,hw]
    rw[he];exact Iz (hk.st.al e)
   |true=>
    cases hm:W.next.mark with
    |true=>
     have he:W.step x=({W with pc:=5},Xx W.prev W.Ay (BC W.Ay W.next),true):=by unfold Xq.step;simp[hp,hw,hm]
     rw[he];refine⟨λ_=>?_,λe=>by cases e⟩;refine⟨⟨by show(1:Int)<=5;omega,by show(5:Int)<=8;omega⟩,hk.st.al e,hk.pv.al e,?_,?_,?_,?_,λ_=>⟨rfl,hm⟩,?_,?_,?_,λ_=>⟨u1,u2,u3.Nw e,u4.al hk.pv e⟩,λ_ _=>⟨n1.Nw e,n2.al (Jw u1 u3) e,λhm hl=>?_⟩⟩;all_goals (first|(intro e;exfalso;revert e;show(5:Int)=_->False;omega)|skip)
     rw[e.slot];exact n3 hm (by unfold Lv at hl ⊢;rw[e.slot] at hl;exact hl)
    |false=>
     by_cases hkey:W.key<=W.k
     ·have he:W.step x=W.finish (W.k==W.key):=by unfold Xq.step;simp[hp,hw,hm,hkey]
      rw[he];exact NT (hk.pv.al e) (u3.Nw e) u2 (u4.al hk.pv e) λ_=>⟨u1,n1.Nw e,hm,n2.al (Jw u1 u3) e⟩
     ·have he:W.step x=({W with prev:=Xg W.Ay 2,pc:=7},GZ 2 1,true):=by unfold Xq.step;simp[hp,hw,hm,hkey]
      rw[he];refine⟨λ_=>?_,λe=>by cases e⟩;refine⟨⟨by show(1:Int)<=7;omega,by show(7:Int)<=8;omega⟩,hk.st.al e,(Jw u1 u3).al e,?_,?_,?_,?_,?_,?_,λ_=>⟨rfl,n1.Nw e,hm,n2.al (Jw u1 u3) e⟩,?_,?_,?_⟩;all_goals (intro e)
      all_goals (first|(exfalso;revert e;show(7:Int)=_->False;omega)|(intro e2;exfalso;revert e2;show ¬((7:Int)<=5);omega)|(exfalso;have e:(7:Int)=2\/(7:Int)=3\/(7:Int)=4\/(7:Int)=5\/(7:Int)=8:=e;omega))
  |_=>omega
 ·obtain⟨hc,hm⟩:=hk.c5 hp;subst hc;obtain⟨u1,u2,u3,u4⟩:=hk.cu Zo;obtain⟨n1,n2,n3⟩:=hk.nx Zo Zo;rcases Ic hq hk.pv u2 u4 hs with⟨hok,e⟩|⟨hok,e,hi,ho,hl⟩
  ·have he:W.step x=W.again:=by unfold Xq.step;simp[hp,hok]
   exact Dz h hq e (by rw[he];exact Iz (hk.st.al e))
  ·have he:W.step x=({W with pc:=6},AU W.Ay,true):=by unfold Xq.step;simp[hp,hok]
   have htg:0<=W.Ay.tg/\W.Ay.tg<9000000000000000000:=by
    rw[←ho];cases Hl W.prev with
    |none=>exact tb.BP 0 Zd Zd
    |some s=>exact tb.cell s 2
   have hwt:(BC W.Ay W.next).tg=W.Ay.tg+1:=Iy Zo Zo;have hr:=Nb (k:=k) h hq e hi ho u2 u1 (n3 hm) hm n1 ⟨rfl,rfl,hwt⟩;have hfr:=OQ (p:=p) (p':=p') (k:=k) (own:=own) (s:=W.Ay.sl) (by rw[hr.1];simp) (λt ht=>e.Av λe'=>by rw[e'] at hi;have hi:own t=.chain:=hi;rw[ht] at hi;cases hi) hr.1;refine⟨_,hr.2.2.1,hr.2.2.2.1,hr.2.2.2.2,?_,hfr.1,hfr.2⟩;have hpv:=hk.pv.A9 hr.2.2.2.2;have hnext:PD p own (BC W.Ay W.next):=λh=>n1 h;rw[he];refine⟨λ_=>?_,λe=>by cases e⟩;refine⟨⟨by show(1:Int)<=6;omega,by show(6:Int)<=8;omega⟩,hk.st.A9 hr.2.2.2.2,hpv,?_,?_,?_,?_,?_,λ_=>⟨rfl,hnext.A9 hr.2.2.2.2,λhl'=>?_,λ_=>⟨Xy ..,hr.2.1⟩⟩,?_,?_,?_,?_⟩;all_goals (first|(intro e;exfalso;revert e;show(6:Int)=_->False;omega)|(intro e e2;exfalso;revert e2;show ¬((6:Int)<=5);omega)|(intro e;exfalso;have e:(6:Int)=2\/(6:Int)=3\/(6:Int)=4\/(6:Int)=5\/(6:Int)=8:=e;omega)|skip)
   show Sn (p'.get W.prev) (BC W.Ay W.next);rw[YD hl' hpv,e.lk];unfold NZ;rw[if_pos rfl];exact Sn.refl
 ·obtain⟨hc,m1,m2,_⟩:=hk.c6 hp;subst hc;have hkind:(AU W.Ay).kind=10:=rfl;cases hs with
  |calm _ e=>
   have he:W.step x=Xq.on {W with Ay:=BC W.Ay W.next}:=by unfold Xq.step;simp[hp]
   exact Dz h hq e (by rw[he];exact ZA (W:={W with Ay:=BC W.Ay W.next}) (hk.st.al e) (hk.pv.al e) (m1.Nw e) rfl (m2.al hk.pv e))
  |_=>omega
 ·obtain⟨hc,m1,m2,m3⟩:=hk.c7 hp;cases hs with
  |calm _ e=>
   have he:W.step x=Xq.on {W with Ay:=W.next}:=by unfold Xq.step;simp[hp]
   exact Dz h hq e (by rw[he];exact ZA (W:={W with Ay:=W.next}) (hk.st.al e) (hk.pv.al e) (m1.Nw e) m2 (m3.al hk.pv e))
  |_=>omega
 ·have hc:=hk.c8 hp;obtain⟨u1,u2,u3,u4⟩:=hk.cu Zo;cases hs with
  |calm _ e=>
   have he:W.step x=W.behind:=by unfold Xq.step;simp[hp]
   exact Dz h hq e (by rw[he];exact ML (hk.st.al e) (hk.pv.al e) ⟨u1,u2,u3.Nw e,u4.al hk.pv e⟩)
  |_=>omega
theorem EZ{d:Yj}{key:Int}(h:NO p own d):JH p own k ((Xq.new d key).step x):=by
 have he:(Xq.new d key).step x=(Xq.new d key).again:=rfl;rw[he];exact Iz h
theorem LQ.retire{s:Int}(h:LQ p own)(hs:own s=.Bi k)(e:Bs a Ie p own p (Ah own s (.note (k+1000)))):LQ p (Ah own s (.note (k+1000))):=by
 have hu:∀t,Ah own s (.note (k+1000)) t=if t=s then .note (k+1000) else own t:=λt=>X2 ..;refine h.same e (λ_ _ _=>rfl) λt a1 a2=>?_;by_cases e':t=s
 ·rw[e',hs];exact⟨by simp,rfl,λ_=>by simp,rfl⟩
 ·rw[hu,if_neg e'] at a1 a2;exact⟨a1,a2,λh=>by rw[hu,if_neg e'] at h;exact h,rfl⟩
theorem Gl{s:Int}(h:BN p own)(hq:LQ p own)(hs:own s=.Bi k):BN p (Ah own s (.note (k+1000)))/\LQ p (Ah own s (.note (k+1000)))/\Bs k Ie p own p (Ah own s (.note (k+1000))):=by
 have hv:=h.retire (ce:=Ie) hs;exact⟨hv.1,hq.retire hs hv.2,hv.2⟩
theorem Kz(hk:EP true p own k W c)(hc:c.kind=10):W.pc=6/\own c.A1.sl=.Bi k/\(p.slot c.A1.sl).Ap=c.A1.gn:=by
 have hp:=hk.pc;have hp:W.pc=1\/W.pc=2\/W.pc=3\/W.pc=4\/W.pc=5\/W.pc=6\/W.pc=7\/W.pc=8:=Zo;rcases hp with hp|hp|hp|hp|hp|hp|hp|hp
 ·rw[hk.c1 hp] at hc;cases hc
 ·rw[hk.c2 hp] at hc;cases hc
 ·have:=hk.c3 hp;omega
 ·rw[hk.c4 hp] at hc;cases hc
 ·rw[(hk.c5 hp).1] at hc;cases hc
 ·have h6:=hk.c6 hp;rw[h6.1];exact⟨hp,h6.2.2.2 rfl⟩
 ·have:=(hk.c7 hp).1;omega
 ·have:=hk.c8 hp;omega
theorem EP.noted{s:Int}(hk:EP true p own k W c)(e:Bs k Ie p own p (Ah own s (.note (k+1000))))(h6:W.pc=6):EP false p (Ah own s (.note (k+1000))) k W c:=by
 refine⟨hk.pc,hk.st.A9 e,hk.pv.A9 e,hk.c1,hk.c2,hk.c3,hk.c4,hk.c5,λh1=>⟨(hk.c6 h1).1,(hk.c6 h1).2.1.A9 e,(hk.c6 h1).2.2.1.A9 hk.pv e,λe=>by cases e⟩,λh1=>?_,hk.c8,λh1=>?_,λh1 h2=>?_⟩<;>omega
end
structure CS(b:Bool)(p:Pl)(own:Int->Tk)(k:Nat)(J:Xi)(c:Xf):Prop where
 pc:J.pc=-1\/(0<=J.pc/\J.pc<=7)
 dn:J.pc=-1↔c.kind=12
 st:NO p own J.start
 c0:J.pc=0->c.kind=1
 u1:J.op.kind=6->J.pc=1->c=AK
 un:J.op.kind=6->2<=J.pc->own J.node.sl=.fresh k/\(p.slot J.node.sl).Ap=J.node.gn
 u2:J.op.kind=6->J.pc=2->∃v,c=Yf (Xg J.node 0) v
 u3:J.op.kind=6->J.pc=3->∃v,c=Yf (Xg J.node 1) v
 u4:J.op.kind=6->J.pc=4->∃W,J.walk=some W/\EP b p own k W c
 u5:J.op.kind=6->J.pc=5->c=GG J.node
 ue:J.op.kind=6->6<=J.pc->∃W,J.walk=some W/\FT p own W
 u6:J.op.kind=6->J.pc=6->c=Yf (Xg J.node 2) (AF (Xs J.walk))
 u7:J.op.kind=6->J.pc=7->c=Xx (BF J.walk) (Xs J.walk) (BC (Xs J.walk) J.node)/\((p.slot J.node.sl).cell 2).sl=(Xs J.walk).sl/\((p.slot J.node.sl).cell 2).gn=(Xs J.walk).gn
 rt:J.op.kind≠6->J.pc<=6/\(J.op.kind≠7->J.pc<=2)
 r1:J.op.kind≠6->J.pc=1\/J.pc=6->∃W,J.walk=some W/\EP b p own k W c
 r2:J.op.kind≠6->2<=J.pc->J.pc<=5->∃W,J.walk=some W/\FT p own W/\W.found=true
 rc:J.op.kind≠6->J.pc=2->c.kind=3
 r3:J.op.kind≠6->J.pc=3->c=Xx (Xg (Xs J.walk) 2) (Cm J.walk) (Bg (Cm J.walk))
 r4:J.op.kind≠6->J.pc=4->c=Xx (BF J.walk) (Xs J.walk) (BC (Xs J.walk) (Cm J.walk))/\(Lv p own (Xs J.walk).sl (Xs J.walk).gn->(p.slot (Xs J.walk).sl).cell 2=Bg (Cm J.walk))
 r5:J.op.kind≠6->J.pc=5->c=AU (Xs J.walk)/\(b=true->own (Xs J.walk).sl=.Bi k/\(p.slot (Xs J.walk).sl).Ap=(Xs J.walk).gn)
section
variable{b:Bool}{p p':Pl}{own own':Int->Tk}{k a:Nat}{J:Xi}{W:Xq}{c:Xf}{x:Xj}{s:Int}
theorem CS.A9(h:CS b p own k J c)(e:Bs a Ie p own p' own')(ha:k≠a):CS b p' own' k J c:=by
 refine⟨h.pc,h.dn,h.st.A9 e,h.c0,h.u1,λh1 h2=>?_,h.u2,h.u3,λh1 h2=>?_,h.u5,λh1 h2=>?_,h.u6,λh1 h2=>?_,h.rt,λh1 h2=>?_,λh1 h2 h3=>?_,h.rc,h.r3,λh1 h2=>?_,λh1 h2=>?_⟩
 ·obtain⟨q1,q2⟩:=h.un h1 h2;obtain⟨r1,r2⟩:=e.fresh ha q1;exact⟨r1,by rw[r2];exact q2⟩
 ·obtain⟨W,q1,q2⟩:=h.u4 h1 h2;exact⟨W,q1,q2.A9 e ha⟩
 ·obtain⟨W,q1,q2⟩:=h.ue h1 h2;exact⟨W,q1,q2.A9 e⟩
 ·obtain⟨r1,r2⟩:=e.fresh ha (h.un h1 Zo).1;rw[r2];exact h.u7 h1 h2
 ·obtain⟨W,q1,q2⟩:=h.r1 h1 h2;exact⟨W,q1,q2.A9 e ha⟩
 ·obtain⟨W,q1,q2,q3⟩:=h.r2 h1 h2 h3;exact⟨W,q1,q2.A9 e,q3⟩
 ·obtain⟨W,q1,q2,q3⟩:=h.r2 h1 Zo Zo;obtain⟨r1,r2⟩:=h.r4 h1 h2;refine⟨r1,λhl=>?_⟩;rw[q1] at r2 hl ⊢;exact frozen (n:=Bg (Cm (some W))) e q2.Ay (q2.nx q3).1 rfl r2 hl
 ·obtain⟨q1,q2⟩:=h.r5 h1 h2;refine⟨q1,λh3=>?_⟩;obtain⟨r1,r2⟩:=e.Bi ha (q2 h3).1;exact⟨r1,by rw[r2];exact(q2 h3).2⟩
theorem CS.low(h:CS b p own k J c):CS false p own k J c:=by
 refine⟨h.pc,h.dn,h.st,h.c0,h.u1,h.un,h.u2,h.u3,λh1 h2=>?_,h.u5,h.ue,h.u6,h.u7,h.rt,λh1 h2=>?_,h.r2,h.rc,h.r3,h.r4,λh1 h2=>⟨(h.r5 h1 h2).1,λe=>by cases e⟩⟩
 ·obtain⟨W,q1,q2⟩:=h.u4 h1 h2;exact⟨W,q1,q2.low⟩
 ·obtain⟨W,q1,q2⟩:=h.r1 h1 h2;exact⟨W,q1,q2.low⟩
theorem K2(h:EP b p own k W c):c.kind≠12:=by
 have hp:=h.pc;have hp:W.pc=1\/W.pc=2\/W.pc=3\/W.pc=4\/W.pc=5\/W.pc=6\/W.pc=7\/W.pc=8:=Zo;rcases hp with hp|hp|hp|hp|hp|hp|hp|hp
 ·rw[h.c1 hp];show(6:Int)≠12;omega
 ·rw[h.c2 hp];show(6:Int)≠12;omega
 ·have:=h.c3 hp;omega
 ·rw[h.c4 hp];show(3:Int)≠12;omega
 ·rw[(h.c5 hp).1];show(5:Int)≠12;omega
 ·rw[(h.c6 hp).1];show(10:Int)≠12;omega
 ·have:=(h.c7 hp).1;omega
 ·have:=h.c8 hp;omega
section
variable(st:NO p own J.start)
include st
theorem I9(hp:J.pc=-1)(hc:c.kind=12):CS b p own k J c:=by
 refine⟨Or.inl hp,⟨λ_=>hc,λ_=>hp⟩,st,?_,?_,?_,?_,?_,?_,?_,?_,?_,?_,λ_=>⟨by omega,λ_=>by omega⟩,?_,?_,?_,?_,?_,?_⟩<;>intros<;>omega
section
variable(ho:J.op.kind=6)
include ho
theorem li_u1(hp:J.pc=1)(hc:c=AK):CS b p own k J c:=by
 have hd:J.pc=-1↔c.kind=12:=⟨λh=>by omega,λh=>by rw[hc] at h;cases h⟩;refine⟨by omega,hd,st,?_,?_,?_,?_,?_,?_,?_,?_,?_,?_,?_,?_,?_,?_,?_,?_,?_⟩<;>intros<;>first|omega|exact hc
theorem li_u2(hp:J.pc=2)(hu:own J.node.sl=.fresh k/\(p.slot J.node.sl).Ap=J.node.gn)(hc:∃v,c=Yf (Xg J.node 0) v):CS b p own k J c:=by
 have hd:J.pc=-1↔c.kind=12:=⟨λh=>by omega,λh=>by obtain⟨v,e⟩:=hc;rw[e] at h;cases h⟩;refine⟨by omega,hd,st,?_,?_,?_,?_,?_,?_,?_,?_,?_,?_,?_,?_,?_,?_,?_,?_,?_⟩<;>intros<;>first|omega|exact hu|exact hc
theorem li_u3(hp:J.pc=3)(hu:own J.node.sl=.fresh k/\(p.slot J.node.sl).Ap=J.node.gn)(hc:∃v,c=Yf (Xg J.node 1) v):CS b p own k J c:=by
 have hd:J.pc=-1↔c.kind=12:=⟨λh=>by omega,λh=>by obtain⟨v,e⟩:=hc;rw[e] at h;cases h⟩;refine⟨by omega,hd,st,?_,?_,?_,?_,?_,?_,?_,?_,?_,?_,?_,?_,?_,?_,?_,?_,?_⟩<;>intros<;>first|omega|exact hu|exact hc
theorem xG(hp:J.pc=4)(hu:own J.node.sl=.fresh k/\(p.slot J.node.sl).Ap=J.node.gn)(hw:J.walk=some W)(hc:EP b p own k W c):CS b p own k J c:=by
 have hd:J.pc=-1↔c.kind=12:=⟨λh=>by omega,λh=>absurd h (K2 hc)⟩;refine⟨by omega,hd,st,?_,?_,?_,?_,?_,?_,?_,?_,?_,?_,?_,?_,?_,?_,?_,?_,?_⟩<;>intros<;>first|omega|exact hu|exact⟨W,hw,hc⟩
theorem li_u5(hp:J.pc=5)(hu:own J.node.sl=.fresh k/\(p.slot J.node.sl).Ap=J.node.gn)(hc:c=GG J.node):CS b p own k J c:=by
 have hd:J.pc=-1↔c.kind=12:=⟨λh=>by omega,λh=>by rw[hc] at h;cases h⟩;refine⟨by omega,hd,st,?_,?_,?_,?_,?_,?_,?_,?_,?_,?_,?_,?_,?_,?_,?_,?_,?_⟩<;>intros<;>first|omega|exact hu|exact hc
theorem li_u6(hp:J.pc=6)(hu:own J.node.sl=.fresh k/\(p.slot J.node.sl).Ap=J.node.gn)(hw:J.walk=some W)(he:FT p own W)(hc:c=Yf (Xg J.node 2) (AF (Xs J.walk))):CS b p own k J c:=by
 have hd:J.pc=-1↔c.kind=12:=⟨λh=>by omega,λh=>by rw[hc] at h;cases h⟩;refine⟨by omega,hd,st,?_,?_,?_,?_,?_,?_,?_,?_,?_,?_,?_,?_,?_,?_,?_,?_,?_⟩<;>intros<;>first|omega|exact hu|exact⟨W,hw,he⟩|exact hc
theorem li_u7(hp:J.pc=7)(hu:own J.node.sl=.fresh k/\(p.slot J.node.sl).Ap=J.node.gn)(hw:J.walk=some W)(he:FT p own W)
  (hc:c=Xx (BF J.walk) (Xs J.walk) (BC (Xs J.walk) J.node)/\((p.slot J.node.sl).cell 2).sl=(Xs J.walk).sl/\((p.slot J.node.sl).cell 2).gn=(Xs J.walk).gn):CS b p own k J c:=by
 have hd:J.pc=-1↔c.kind=12:=⟨λh=>by omega,λh=>by rw[hc.1] at h;cases h⟩
 refine⟨by omega,hd,st,?_,?_,?_,?_,?_,?_,?_,?_,?_,?_,?_,?_,?_,?_,?_,?_,?_⟩<;>intros<;>first|omega|exact hu|exact⟨W,hw,he⟩|exact hc
end
section
variable(ho:J.op.kind≠6)
include ho
theorem oW(hp:J.pc=1\/(J.pc=6/\J.op.kind=7))(hw:J.walk=some W)(hc:EP b p own k W c):CS b p own k J c:=by
 have hd:J.pc=-1↔c.kind=12:=⟨λh=>by omega,λh=>absurd h (K2 hc)⟩;refine⟨by omega,hd,st,?_,?_,?_,?_,?_,?_,?_,?_,?_,?_,?_,?_,?_,?_,?_,?_,?_⟩<;>intros<;>first|omega|exact⟨W,hw,hc⟩|exact⟨by omega,λ_=>by omega⟩
theorem li_r2(hp:J.pc=2)(hw:J.walk=some W)(he:FT p own W)(hf:W.found=true)(hc:c.kind=3):CS b p own k J c:=by
 have hd:J.pc=-1↔c.kind=12:=⟨λh=>by omega,λh=>by omega⟩;refine⟨by omega,hd,st,?_,?_,?_,?_,?_,?_,?_,?_,?_,?_,?_,?_,?_,?_,?_,?_,?_⟩<;>intros<;>first|omega|exact⟨W,hw,he,hf⟩|exact⟨by omega,λ_=>by omega⟩|exact hc
theorem li_r3(h7:J.op.kind=7)(hp:J.pc=3)(hw:J.walk=some W)(he:FT p own W)(hf:W.found=true)(hc:c=Xx (Xg (Xs J.walk) 2) (Cm J.walk) (Bg (Cm J.walk))):CS b p own k J c:=by
 have hd:J.pc=-1↔c.kind=12:=⟨λh=>by omega,λh=>by rw[hc] at h;cases h⟩;refine⟨by omega,hd,st,?_,?_,?_,?_,?_,?_,?_,?_,?_,?_,?_,?_,?_,?_,?_,?_,?_⟩<;>intros<;>first|omega|exact⟨W,hw,he,hf⟩|exact⟨by omega,λ_=>by omega⟩|exact hc
theorem li_r4(h7:J.op.kind=7)(hp:J.pc=4)(hw:J.walk=some W)(he:FT p own W)(hf:W.found=true)
  (hc:c=Xx (BF J.walk) (Xs J.walk) (BC (Xs J.walk) (Cm J.walk))/\(Lv p own (Xs J.walk).sl (Xs J.walk).gn->(p.slot (Xs J.walk).sl).cell 2=Bg (Cm J.walk))):CS b p own k J c:=by
 have hd:J.pc=-1↔c.kind=12:=⟨λh=>by omega,λh=>by rw[hc.1] at h;cases h⟩
 refine⟨by omega,hd,st,?_,?_,?_,?_,?_,?_,?_,?_,?_,?_,?_,?_,?_,?_,?_,?_,?_⟩<;>intros<;>first|omega|exact⟨W,hw,he,hf⟩|exact⟨by omega,λ_=>by omega⟩|exact hc
theorem xH(h7:J.op.kind=7)(hp:J.pc=5)(hw:J.walk=some W)(he:FT p own W)(hf:W.found=true)
  (hc:c=AU (Xs J.walk)/\(b=true->own (Xs J.walk).sl=.Bi k/\(p.slot (Xs J.walk).sl).Ap=(Xs J.walk).gn)):CS b p own k J c:=by
 have hd:J.pc=-1↔c.kind=12:=⟨λh=>by omega,λh=>by rw[hc.1] at h;cases h⟩
 refine⟨by omega,hd,st,?_,?_,?_,?_,?_,?_,?_,?_,?_,?_,?_,?_,?_,?_,?_,?_,?_⟩<;>intros<;>first|omega|exact⟨W,hw,he,hf⟩|exact⟨by omega,λ_=>by omega⟩|exact hc
end
theorem SD(ho:J.op.kind=6)(hp:J.pc=4)(hu:own J.node.sl=.fresh k/\(p.slot J.node.sl).Ap=J.node.gn)(hw:J.walk=some W)(hr:JH p own k (W.step x)):CS true p own k (J.BK x).1 (J.BK x).2:=by
 have hs:CT J.walk x=(some (W.step x).1,(W.step x).2.1,(W.step x).2.2):=by rw[hw];rfl
 unfold Xi.BK;simp only[hs];cases hb:(W.step x).2.2 with
 |true=>rw[if_pos rfl];exact xG (J:={J with walk:=some (W.step x).1}) st ho hp hu rfl (hr.1 hb)
 |false=>
  rw[if_neg Zs];have he:=hr.2 hb;cases hf:IV (some (W.step x).1) with
  |true=>rw[if_pos rfl];exact li_u5 (J:={J with walk:=some (W.step x).1,pc:=5}) st ho rfl hu rfl
  |false=>rw[if_neg Zs];exact li_u6 (J:={J with walk:=some (W.step x).1,pc:=6}) st ho rfl hu rfl he rfl
theorem Lt(ho:J.op.kind≠6)(hp:J.pc=1)(hw:J.walk=some W)(hr:JH p own k (W.step x)):CS true p own k (J.AT x).1 (J.AT x).2:=by
 have hs:CT J.walk x=(some (W.step x).1,(W.step x).2.1,(W.step x).2.2):=by rw[hw];rfl
 unfold Xi.AT;simp only[hs];cases hb:(W.step x).2.2 with
 |true=>rw[if_pos rfl];exact oW (J:={J with walk:=some (W.step x).1}) st ho (Or.inl hp) rfl (hr.1 hb)
 |false=>
  rw[if_neg Zs];have he:=hr.2 hb;cases hf:IV (some (W.step x).1) with
  |false=>rw[if_pos Zs];exact I9 (J:=(Xi.done {J with walk:=some (W.step x).1} 2 0).1) st rfl rfl
  |true=>rw[if_neg Zs];exact li_r2 (J:={J with walk:=some (W.step x).1,pc:=2}) st ho rfl rfl he hf rfl
theorem UU(ho:J.op.kind=7)(hp:J.pc=6)(hw:J.walk=some W)(hr:JH p own k (W.step x)):CS true p own k (J.BI x).1 (J.BI x).2:=by
 have hs:CT J.walk x=(some (W.step x).1,(W.step x).2.1,(W.step x).2.2):=by rw[hw];rfl
 unfold Xi.BI;simp only[hs];cases hb:(W.step x).2.2 with
 |true=>rw[if_pos rfl];exact oW (J:={J with walk:=some (W.step x).1}) st (by rw[ho];decide) (Or.inr ⟨hp,ho⟩) rfl (hr.1 hb)
 |false=>
  rw[if_neg Zs];exact I9 (J:=(Xi.done {J with walk:=some (W.step x).1} 1 J.val).1) st rfl rfl
theorem JZ(hp:J.pc=0):CS true p own k (J.next x).1 (J.next x).2:=by
 unfold Xi.next;by_cases h6:J.op.kind=6
 ·rw[if_pos (by simp[h6])];have he:J.insert x=({J with pc:=1},AK):=by unfold Xi.insert;simp[hp]
  rw[he];exact li_u1 (J:={J with pc:=1}) st h6 rfl rfl
 ·rw[if_neg (by simp[h6])];have hw:=EZ (x:=x) (k:=k) (key:=J.key) st;by_cases h7:J.op.kind=7
  ·rw[if_pos (by simp[h7])];have he:J.Am x=(J.An 1).AT x:=by unfold Xi.Am;simp[hp]
   rw[he];exact Lt (J:=J.An 1) st h6 rfl rfl hw
  ·rw[if_neg (by simp[h7])];have he:J.get x=(J.An 1).AT x:=by unfold Xi.get;simp[hp]
   rw[he];exact Lt (J:=J.An 1) st h6 rfl rfl hw
end
end
end Go.Proofs.YtaipogljokblkaaGreatDoor
