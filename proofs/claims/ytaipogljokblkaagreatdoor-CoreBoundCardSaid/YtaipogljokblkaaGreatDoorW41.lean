/- Core: BdJ, BdK, BdL, BdM, BdN, BdO. -/
import Derived.Test.YtaipogljokblkaaGreatDoorW40
import Derived.Test.YtaipogljokblkaaGreatDoorW01
set_option linter.all false
set_option maxRecDepth 100000
set_option maxHeartbeats 8000000
namespace Go.Proofs.YtaipogljokblkaaGreatDoor
open Go Go.RowKit
set_option linter.unusedSimpArgs false
set_option linter.unusedVariables false
set_option linter.unusedSectionVars false
theorem NP{c w:Xd}(h:AE c w=true):c.sl=w.sl/\c.tg=w.tg:=by
 unfold AE at h;simp only[Bool.and_eq_true,beq_iff_eq] at h;exact⟨h.1,h.2.1⟩
structure Me(p:Pl):Prop where
 BP:∀r,0<=r->r<24->0<=(p.board r).tg/\(p.board r).tg<9000000000000000000
 cell:∀s f,0<=((p.slot s).cell f).tg/\((p.slot s).cell f).tg<9000000000000000000
section
variable{b:Bool}{p p':Pl}{own own':Int->Tk}{k a:Nat}{J:Yd}{c:Xf}{x:Xj}{w:Xd}{r:Int}{ce:Int->Xd->Xd->Prop}
theorem BN.root(h:BN p own)(e:KN p p' r w)(hr:r≠0)(htg:w.tg=(p.board r).tg+1):BN p' own/\Bs a ce p own p' own:=by
 have hl:lk p'=lk p:=by
  funext i;cases i with
  |none=>show p'.board 0=_;rw[e.BP 0 Zd Zd,if_neg (Ne.symm hr)];rfl
  |some s=>show(p'.slot s).cell 2=_;rw[e.slot];rfl
 refine⟨⟨?_,λs=>by rw[e.slot];exact h.tok s,h.zero⟩,Bs.of (λq h0 h1=>?_) (λs=>by rw[e.slot]) (λs j _ _=>by rw[e.slot]) (λs _ _ f=>Or.inl (by rw[e.slot])) λ_=>Or.inl rfl⟩
 ·rw[hl];exact h.shape.same (λ_=>Iff.rfl) (λ_ _=>rfl) (λs _=>by rw[e.slot])
 ·rw[e.BP q h0 h1];by_cases hq:q=r
  ·rw[if_pos hq,hq];exact Or.inr htg
  ·rw[if_neg hq];exact Or.inl rfl
theorem CQ.alike(h:CQ p own)(e:X3 p p'):CQ p' own:=
 h.A9 (a:=0) (Bs.alike e) (by rw[e.BP 0 Zd Zd];exact h.head) (by rw[e.BP 1 Zd Zd];exact h.tail) (Or.inl (e.BP 1 Zd Zd)) (λs a1 a2=>Or.inl ⟨a1,a2,by rw[e.slot]⟩) (λs a1 a2 a3=>Or.inl ⟨a1,a2,a3⟩)
theorem CQ.Oh(h:CQ p own)(e:KN p p' 1 w)(ev:Bs a Tg p own p' own)(hw:w.sl≠0)(hp:PD p own w):CQ p' own:=
 h.A9 ev (by rw[e.BP 0 Zd Zd,if_neg Zd];exact h.head) (by rw[e.BP 1 Zd Zd,if_pos rfl];exact hw) (Or.inr (by rw[e.BP 1 Zd Zd,if_pos rfl];exact hp.A9 ev)) (λs a1 a2=>Or.inl ⟨a1,a2,by rw[e.slot]⟩) (λs a1 a2 a3=>Or.inl ⟨a1,a2,a3⟩)
theorem LL(h:J.pc=-1):Em b p own k J c:=by constructor<;>intros<;>omega
section
variable(ho:J.op.kind=4)
include ho
theorem ck_u1(hp:J.pc=1)(hc:c=AK):Em b p own k J c:=by constructor<;>intros<;>first|omega|exact hc
theorem ck_u2(hp:J.pc=2)(hu:own J.node.sl=.fresh k/\(p.slot J.node.sl).Ap=J.node.gn/\((p.slot J.node.sl).cell 2).sl=0)(hc:∃v,c=Yf (Xg J.node 1) v):Em b p own k J c:=by constructor<;>intros<;>first|omega|exact hu|exact hc
theorem Vv(hp:J.pc=3)(hu:own J.node.sl=.fresh k/\(p.slot J.node.sl).Ap=J.node.gn/\((p.slot J.node.sl).cell 2).sl=0)(hc:c=X9 (root 1) 0):Em b p own k J c:=by constructor<;>intros<;>first|omega|exact hu|exact hc
theorem ck_u4(hp:J.pc=4)(hu:own J.node.sl=.fresh k/\(p.slot J.node.sl).Ap=J.node.gn/\((p.slot J.node.sl).cell 2).sl=0)(ht:J.t.sl≠0/\PD p own J.t)(hc:c=X8 (Xg J.t 2)):Em b p own k J c:=by constructor<;>intros<;>first|omega|exact hu|exact ht|exact hc
theorem ck_u5(hp:J.pc=5)(hu:own J.node.sl=.fresh k/\(p.slot J.node.sl).Ap=J.node.gn/\((p.slot J.node.sl).cell 2).sl=0)(ht:J.t.sl≠0/\PD p own J.t)(hx:PD p own J.n)(hc:c=X8 (root 1)):Em b p own k J c:=by constructor<;>intros<;>first|omega|exact hu|exact ht|exact hx|exact hc
theorem ck_u6(hp:J.pc=6)(hu:own J.node.sl=.fresh k/\(p.slot J.node.sl).Ap=J.node.gn/\((p.slot J.node.sl).cell 2).sl=0)(ht:J.t.sl≠0/\PD p own J.t)(hx:PD p own J.n)(hc:c=Xx (root 1) J.t (BC J.t J.n)/\J.n.sl≠0):Em b p own k J c:=by constructor<;>intros<;>first|omega|exact hu|exact ht|exact hx|exact hc
theorem ck_u7(hp:J.pc=7)(hu:own J.node.sl=.fresh k/\(p.slot J.node.sl).Ap=J.node.gn/\((p.slot J.node.sl).cell 2).sl=0)(ht:J.t.sl≠0/\PD p own J.t)(hc:c=Xx (Xg J.t 2) J.n (BC J.n J.node)/\J.n.sl=0):Em b p own k J c:=by constructor<;>intros<;>first|omega|exact hu|exact ht|exact hc
theorem ck_u8(hp:J.pc=8)(ht:J.t.sl≠0/\PD p own J.t)(hc:c=Xx (root 1) J.t (BC J.t J.node)/\J.node.sl≠0/\PD p own J.node):Em b p own k J c:=by constructor<;>intros<;>first|omega|exact ht|exact hc
end
def Td(p:Pl)(own:Int->Tk)(k:Nat)(J:Yd)(x:Xj)(p':Pl):Prop:=
 ∃own',BN p' own'/\CQ p' own'/\Bs k Tg p own p' own'/\Em true p' own' k (J.next x).1 (J.next x).2/\∀s,own' s=.note k↔own s=.note k
theorem Be(h:BN p own)(hq:CQ p own)(e:X3 p p')(hk:Em true p' own k (J.next x).1 (J.next x).2):Td p own k J x p':=⟨own,h.alike e,hq.alike e,Bs.alike e,hk,λ_=>Iff.rfl⟩
theorem PD.nil(h:w.sl=0):PD p own w:=λh'=>absurd h h'
theorem PD.al(h:PD p own w)(e:X3 p p'):PD p' own w:=h.A9 (a:=0) (ce:=Tg) (Bs.alike e)
theorem vU(h:BN p own)(hq:CQ p own)(hk:Em false p own k J c)(hs:Sem p own c x p')(hpc:J.pc≠-1)(ho:J.op.kind=4)(tb:Me p):Td p own k J x p':=by
 have hn:∀x,J.next x=J.enqueue x:=λx=>by unfold Yd.next;rw[ho];rfl
 have hp:=hk.pc;have hp:J.pc=0\/J.pc=1\/J.pc=2\/J.pc=3\/J.pc=4\/J.pc=5\/J.pc=6\/J.pc=7\/J.pc=8:=Zo;have al:∀{s:Int} (e:X3 p p') {g:Int},own s=.fresh k/\(p.slot s).Ap=g/\((p.slot s).cell 2).sl=0->own s=.fresh k/\(p'.slot s).Ap=g/\((p'.slot s).cell 2).sl=0:=λe _ h=>by rw[e.slot];exact h
 rcases hp with hp|hp|hp|hp|hp|hp|hp|hp|hp
 ·have hc:=hk.c0 hp;have he:J.enqueue x=({J with pc:=1},AK):=by unfold Yd.enqueue;rw[hp];rfl
  have hK:∀q o,Em true q o k (J.next x).1 (J.next x).2:=λq o=>by rw[hn,he];exact ck_u1 ho rfl rfl
  cases hs<;>first|omega|exact Be h hq (by assumption) (hK _ _)
 ·have hc:=hk.u1 ho hp;subst hc;have hkind:AK.kind=8:=rfl;cases hs with
  |@alloc s _ hf h0 e hw hg hok=>
   have he:J.enqueue x=({J with node:=x.word,pc:=2},Yf (Xg x.word 1) (Y5 J.op.val)):=by unfold Yd.enqueue;rw[hp,hok];rfl
   have hr:=h.alloc (k:=k) (ce:=Tg) hf h0 e;have hne:∀t,Ah own s (.fresh k) t≠.free->(Ah own s (.fresh k) t).Ax=false->t≠s:=λt _ a2 e'=>by rw[e',Xy] at a2;cases a2
   refine⟨_,hr.1,?_,hr.2,?_,λt=>?_⟩
   ·refine hq.A9 hr.2 (by rw[e.BP 0 Zd Zd];exact hq.head) (by rw[e.BP 1 Zd Zd];exact hq.tail) (Or.inl (e.BP 1 Zd Zd)) (λt a1 a2=>?_) (λt a1 a2 a3=>?_)
    ·have ht:=hne t a1 a2;rw[X2,if_neg ht] at a1 a2;exact Or.inl ⟨a1,a2,by rw[e.Av t ht]⟩
    ·have ht:=hne t a1 a2;rw[X2,if_neg ht] at a1 a2 a3;exact Or.inl ⟨a1,a2,a3⟩
   ·rw[hn,he];refine ck_u2 ho rfl ⟨?_,?_,?_⟩ ⟨_,rfl⟩
    ·show Ah own s (.fresh k) x.word.sl=_;rw[hw,Xy]
    ·show(p'.slot x.word.sl).Ap=x.word.gn;rw[hw,hg]
    ·show((p'.slot x.word.sl).cell 2).sl=0;rw[hw,e.zero 2 Zd];rfl
   ·rw[X2];by_cases e':t=s
    ·rw[if_pos e',e',hf];simp
    ·rw[if_neg e']
  |Kg _ e hok=>
   have he:J.enqueue x=J.done 4 0:=by unfold Yd.enqueue;rw[hp,hok];rfl
   exact Be h hq e (by rw[hn,he];exact LL rfl)
  |_=>omega
 ·obtain⟨v,hc⟩:=hk.u2 ho hp;subst hc;have hu:=hk.un ho Zo Zo;have hkind:(Yf (Xg J.node 1) v).kind=4:=rfl;have he:J.enqueue x=({J with pc:=3},X9 (root 1) 0):=by unfold Yd.enqueue;rw[hp];rfl
  cases hs with
  |store _ hl e=>
   have e:IQ p p' J.node.sl 1 v:=e;have hr:=h.store (ce:=Tg) (s:=J.node.sl) hu.1 e;have hne:∀t,(own t).Ax=false->t≠J.node.sl:=λt a2 e'=>by rw[e',hu.1] at a2;cases a2
   refine⟨own,hr.1,?_,hr.2,?_,λ_=>Iff.rfl⟩
   ·exact hq.A9 hr.2 (by rw[e.BP 0 Zd Zd];exact hq.head) (by rw[e.BP 1 Zd Zd];exact hq.tail) (Or.inl (e.BP 1 Zd Zd)) (λt a1 a2=>Or.inl ⟨a1,a2,by rw[e.Av (hne t a2)]⟩) (λt a1 a2 a3=>Or.inl ⟨a1,a2,a3⟩)
   ·rw[hn,he];refine Vv ho rfl ⟨hu.1,by rw[←hu.2.1];exact(e.Ap _).1,?_⟩ rfl;show((p'.slot J.node.sl).cell 2).sl=0;rw[e.slot,if_pos rfl];show(Ah (p.slot J.node.sl).cell 1 v 2).sl=0;rw[X2,if_neg Zd];exact hu.2.2
  |JS _ hl e=>exact absurd (show Lv p own J.node.sl J.node.gn from⟨by rw[hu.1];simp,hu.2.1⟩) hl
  |_=>omega
 ·have hc:=hk.u3 ho hp;subst hc;have hu:=hk.un ho Zo Zo;have hkind:(X9 (root 1) 0).kind=6:=rfl;have he:J.enqueue x=({J with t:=x.word,pc:=4},X8 (Xg x.word 2)):=by unfold Yd.enqueue;rw[hp];rfl
  cases hs with
  |look _ e hx _=>
   have hx:x.word=p.board 1:=hx (Or.inl rfl);exact Be h hq e (by rw[hn,he];exact ck_u4 ho rfl (al e hu) ⟨by show x.word.sl≠0;rw[hx];exact hq.tail,by show PD p' own x.word;rw[hx];exact hq.pd1.al e⟩ rfl)
  |_=>omega
 ·have hc:=hk.u4 ho hp;subst hc;have hu:=hk.un ho Zo Zo;have ht:=hk.ut ho Zo Zo;have hkind:(X8 (Xg J.t 2)).kind=3:=rfl;have he:J.enqueue x=({J with n:=x.word,pc:=5},X8 (root 1)):=by unfold Yd.enqueue;rw[hp];rfl
  cases hs with
  |look _ e hx hx'=>
   have hg:p.get (Xg J.t 2)=(p.slot J.t.sl).cell 2:=by
    unfold Pl.get;rw[show((Xg J.t 2).sl==0)=false from by show(J.t.sl==0)=false;simp[ht.1]];rfl
   have hpd:PD p own x.word:=by
    by_cases hl:Lv p own J.t.sl J.t.gn
    ·rw[(hx (Or.inr hl)).trans hg];exact hq.pd _ hl.1 ((ht.2 ht.1).2 hl)
    ·rw[hx' λh=>h.elim (λh=>ht.1 h) hl];exact PD.nil rfl
   exact Be h hq e (by rw[hn,he];exact ck_u5 ho rfl (al e hu) ⟨ht.1,ht.2.al e⟩ (hpd.al e) rfl)
  |_=>omega
 ·have hc:=hk.u5 ho hp;subst hc;have hu:=hk.un ho Zo Zo;have ht:=hk.ut ho Zo Zo;have hpn:=hk.ux ho Zo Zo;have hkind:(X8 (root 1)).kind=3:=rfl;cases hs with
  |look _ e _ _=>
   refine Be h hq e ?_;rw[hn];cases hw:AE x.word J.t with
   |false=>
    have he:J.enqueue x=({J with pc:=3},X9 (root 1) 0):=by unfold Yd.enqueue;rw[hp,hw];rfl
    rw[he];exact Vv ho rfl (al e hu) rfl
   |true=>
    by_cases hz:J.n.sl=0
    ·have he:J.enqueue x=({J with pc:=7},Xx (Xg J.t 2) J.n (BC J.n J.node)):=by unfold Yd.enqueue;rw[hp,hw];simp[hz]
     rw[he];exact ck_u7 ho rfl (al e hu) ⟨ht.1,ht.2.al e⟩ ⟨rfl,hz⟩
    ·have he:J.enqueue x=({J with pc:=6},Xx (root 1) J.t (BC J.t J.n)):=by unfold Yd.enqueue;rw[hp,hw];simp[hz]
     rw[he];exact ck_u6 ho rfl (al e hu) ⟨ht.1,ht.2.al e⟩ (hpn.al e) ⟨rfl,hz⟩
  |_=>omega
 ·obtain⟨hc,hz⟩:=hk.u6 ho hp;subst hc;have hu:=hk.un ho Zo Zo;have hpn:=hk.ux ho Zo Zo;have hkind:(Xx (root 1) J.t (BC J.t J.n)).kind=5:=rfl;have he:J.enqueue x=({J with pc:=3},X9 (root 1) 0):=by unfold Yd.enqueue;rw[hp];rfl
  cases hs with
  |FW _ e hok=>exact Be h hq e (by rw[hn,he];exact Vv ho rfl (al e hu) rfl)
  |D0 _ h0 hw e hok=>
   have e:KN p p' 1 (BC J.t J.n):=e;have hb:=tb.BP 1 Zd Zd;have hw:=(NP (show AE (p.board 1) J.t=true from hw)).2;have hr:=h.root (a:=k) (ce:=Tg) e Zd (by show wr (J.t.tg+1)=_;rw[hw] at hb ⊢;exact Iy Zo Zo);exact⟨own,hr.1,hq.Oh e hr.2 hz hpn,hr.2,by rw[hn,he];exact Vv ho rfl (by rw[e.slot];exact hu) rfl,λ_=>Iff.rfl⟩
  |D8 _ h0=>exact absurd rfl h0
  |_=>omega
 ·obtain⟨hc,hz⟩:=hk.u7 ho hp;subst hc;have hu:=hk.un ho Zo Zo;have ht:=hk.ut ho Zo Zo;have hkind:(Xx (Xg J.t 2) J.n (BC J.n J.node)).kind=5:=rfl;have hnz:J.node.sl≠0:=λe'=>by have:=hu.1;rw[e',h.zero] at this;cases this
  cases hs with
  |FW _ e hok=>
   have he:J.enqueue x=({J with pc:=3},X9 (root 1) 0):=by unfold Yd.enqueue;rw[hp,hok];rfl
   exact Be h hq e (by rw[hn,he];exact Vv ho rfl (al e hu) rfl)
  |D0 _ h0 hw e hok=>exact absurd h0 ht.1
  |D8 _ h0 hl hw e hok=>
   have he:J.enqueue x=({J with pc:=8},Xx (root 1) J.t (BC J.t J.node)):=by unfold Yd.enqueue;rw[hp,hok];rfl
   have hl:Lv p own J.t.sl J.t.gn:=hl;have e:IQ p p' J.t.sl 2 (BC J.n J.node):=e;have hw:=NP (show AE ((p.slot J.t.sl).cell 2) J.n = true from hw);have hf:=(ht.2 ht.1).2 hl;have hch:own J.t.sl = .chain:=Classical.byContradiction fun hne=>hq.closed _ hl.1 hf hne (hw.1.trans hz);have hb:=tb.cell J.t.sl 2;have e2:Ja p p' (some J.t.sl) (BC J.n J.node):=⟨fun r a b=>by rw [e.BP r a b,if_neg (fun h=>by cases h.1)],fun t=>by
    rw[e.slot];by_cases e':t=J.t.sl
    ·rw[if_pos e',e',if_pos rfl]
    ·rw[if_neg e',if_neg λh=>e' (by cases h;rfl)]⟩
   have hr:=h.Lk (ce:=Tg) e2 hch hu.1 (by show((p.slot J.node.sl).cell 2).sl=((p.slot J.t.sl).cell 2).sl;rw[hu.2.2,hw.1,hz]) (λhne=>absurd (show((p.slot J.t.sl).cell 2).sl=0 from hw.1.trans hz) hne) rfl hu.2.1.symm
    (by show wr (J.n.tg+1)=((p.slot J.t.sl).cell 2).tg+1;rw[hw.2] at hb ⊢;exact Iy Zo Zo) (λt ht'=>⟨rfl,hw.1.trans hz,hnz⟩)
   have hu':∀t,Ah own J.node.sl .chain t=if t=J.node.sl then .chain else own t:=λt=>X2 ..;have hpn:PD p' (Ah own J.node.sl .chain) J.node:=λ_=>⟨by rw[(e.Ap _).1,hu.2.1];exact Int.le_refl _,λ_=>by rw[hu',if_pos rfl];rfl⟩;have hnt:J.node.sl≠J.t.sl:=λe'=>by have:=hu.1;rw[e',hch] at this;cases this
   refine⟨_,hr.1,?_,hr.2,?_,λt=>?_⟩
   ·refine hq.A9 hr.2 (by rw[e.BP 0 Zd Zd];exact hq.head) (by rw[e.BP 1 Zd Zd];exact hq.tail) (Or.inl (e.BP 1 Zd Zd)) (λt a1 a2=>?_) (λt a1 a2 a3=>?_)
    ·by_cases e':t=J.node.sl
     ·exact Or.inr (PD.nil (by rw[e',e.Av hnt];exact hu.2.2))
     ·by_cases e3:t=J.t.sl
      ·right;have:(p'.slot t).cell 2=BC J.n J.node:=by
        rw[e.slot,if_pos e3];show Ah (p.slot J.t.sl).cell 2 _ 2=_;exact Xy ..
       rw[this];exact hpn
      ·rw[hu',if_neg e'] at a1 a2;exact Or.inl ⟨a1,a2,by rw[e.Av e3]⟩
    ·by_cases e':t=J.node.sl
     ·rw[hu',if_pos e'] at a3;exact absurd rfl a3
     ·rw[hu',if_neg e'] at a1 a2 a3;exact Or.inl ⟨a1,a2,a3⟩
   ·rw[hn,he];exact ck_u8 ho rfl ⟨ht.1,ht.2.A9 hr.2⟩ ⟨rfl,hnz,hpn⟩
   ·rw[hu'];by_cases e':t=J.node.sl
    ·rw[if_pos e',e',hu.1];simp
    ·rw[if_neg e']
  |_=>omega
 ·obtain⟨hc,hz,hpn⟩:=hk.u8 ho hp;subst hc;have hkind:(Xx (root 1) J.t (BC J.t J.node)).kind=5:=rfl;have he:J.enqueue x=J.done 1 0:=by unfold Yd.enqueue;rw[hp];rfl
  cases hs with
  |FW _ e hok=>exact Be h hq e (by rw[hn,he];exact LL rfl)
  |D0 _ h0 hw e hok=>
   have e:KN p p' 1 (BC J.t J.node):=e;have hb:=tb.BP 1 Zd Zd;have hw:=(NP (show AE (p.board 1) J.t=true from hw)).2;have hr:=h.root (a:=k) (ce:=Tg) e Zd (by show wr (J.t.tg+1)=_;rw[hw] at hb ⊢;exact Iy Zo Zo);exact⟨own,hr.1,hq.Oh e hr.2 hz hpn,hr.2,by rw[hn,he];exact LL rfl,λ_=>Iff.rfl⟩
  |D8 _ h0=>exact absurd rfl h0
  |_=>omega
end
section
variable{b:Bool}{p p':Pl}{own own':Int->Tk}{k a:Nat}{J:Yd}{c:Xf}{x:Xj}{w:Xd}{r:Int}
def Zz(p:Pl)(own:Int->Tk)(J:Yd):Prop:=J.h.sl≠0/\PD p own J.h/\Sn (p.board 0) J.h
def jL(p:Pl)(own:Int->Tk)(J:Yd):Prop:=PD p own J.n/\(J.n.sl≠0->p.board 0=J.h->((p.slot J.h.sl).cell 2).sl=J.n.sl/\((p.slot J.h.sl).cell 2).gn=J.n.gn)
section
variable(ho:J.op.kind≠4)
include ho
theorem Vw(hp:J.pc=1)(hc:c=X9 (root 0) 0):Em b p own k J c:=by constructor<;>intros<;>first|omega|exact hc
theorem ck_o2(hp:J.pc=2)(hh:Zz p own J)(hc:c=X8 (root 1)):Em b p own k J c:=by constructor<;>intros<;>first|omega|exact hh|exact hc
theorem ck_o3(hp:J.pc=3)(hh:Zz p own J)(hc:c=X9 (Xg J.h 2) 1):Em b p own k J c:=by constructor<;>intros<;>first|omega|exact hh|exact hc
theorem ck_o4(hp:J.pc=4)(hh:Zz p own J)(hn:jL p own J)(hc:c=X8 (root 0)):Em b p own k J c:=by constructor<;>intros<;>first|omega|exact hh|exact hn|exact hc
theorem ck_o5(hp:J.pc=5)(hh:Zz p own J)(hn:jL p own J)(hc:c=Xx (root 1) J.t (BC J.t J.n)/\J.n.sl≠0):Em b p own k J c:=by constructor<;>intros<;>first|omega|exact hh|exact hn|exact hc
theorem ck_o6(hp:J.pc=6)(hh:Zz p own J)(hn:jL p own J)(hc:c.kind=3/\J.n.sl≠0):Em b p own k J c:=by constructor<;>intros<;>first|omega|exact hh|exact hn|exact hc
theorem ck_o7(hp:J.pc=7)(hh:Zz p own J)(hn:jL p own J)(hc:c=Xx (root 0) J.h (BC J.h J.n)/\J.n.sl≠0):Em b p own k J c:=by constructor<;>intros<;>first|omega|exact hh|exact hn|exact hc
theorem xO(hp:J.pc=8)(hc:c=AU J.h/\(b=true->own J.h.sl=.Bi k/\(p.slot J.h.sl).Ap=J.h.gn)):Em b p own k J c:=by constructor<;>intros<;>first|omega|exact hc
end
theorem Zz.al(h:Zz p own J)(e:X3 p p'):Zz p' own J:=⟨h.1,h.2.1.al e,by rw[e.BP 0 Zd Zd];exact h.2.2⟩
theorem jL.al(h:jL p own J)(e:X3 p p'):jL p' own J:=⟨h.1.al e,by rw[e.BP 0 Zd Zd,e.slot];exact h.2⟩
theorem vV(h:BN p own)(hq:CQ p own)(hk:Em false p own k J c)(hs:Sem p own c x p')(hpc:J.pc≠-1)(ho:J.op.kind≠4)(tb:Me p):Td p own k J x p':=by
 have hn:∀x,J.next x=J.dequeue x:=λx=>by unfold Yd.next;rw[show(J.op.kind==4)=false from by simp[ho]];rfl
 have hp:=hk.pc;have hp:J.pc=0\/J.pc=1\/J.pc=2\/J.pc=3\/J.pc=4\/J.pc=5\/J.pc=6\/J.pc=7\/J.pc=8:=Zo;rcases hp with hp|hp|hp|hp|hp|hp|hp|hp|hp
 ·have hc:=hk.c0 hp;have he:J.dequeue x=({J with pc:=1},X9 (root 0) 0):=by unfold Yd.dequeue;rw[hp];rfl
  have hK:∀q o,Em true q o k (J.next x).1 (J.next x).2:=λq o=>by rw[hn,he];exact Vw ho rfl rfl
  cases hs<;>first|omega|exact Be h hq (by assumption) (hK _ _)
 ·have hc:=hk.o1 ho hp;subst hc;have hkind:(X9 (root 0) 0).kind=6:=rfl;have he:J.dequeue x=({J with h:=x.word,pc:=2},X8 (root 1)):=by unfold Yd.dequeue;rw[hp];rfl
  cases hs with
  |look _ e hx _=>
   have hx:x.word=p.board 0:=hx (Or.inl rfl);have hc:own (p.board 0).sl=.chain/\(p.slot (p.board 0).sl).Ap=(p.board 0).gn:=h.shape.s1 none trivial hq.head;have hpd:PD p own x.word:=by
    rw[hx];exact λ_=>⟨by rw[hc.2];exact Int.le_refl _,λ_=>by rw[hc.1];rfl⟩
   have hh:Zz p own {J with h:=x.word,pc:=2}:=⟨by show x.word.sl≠0;rw[hx];exact hq.head,hpd,by show Sn _ x.word;rw[hx];exact Sn.refl⟩;exact Be h hq e (by rw[hn,he];exact ck_o2 ho rfl (hh.al e) rfl)
  |_=>omega
 ·have hc:=hk.o2 ho hp;subst hc;have hh:Zz p own J:=hk.oh ho Zo Zo;have hkind:(X8 (root 1)).kind=3:=rfl;have he:J.dequeue x=({J with t:=x.word,pc:=3},X9 (Xg J.h 2) 1):=by unfold Yd.dequeue;rw[hp];rfl
  cases hs with
  |look _ e _ _=>exact Be h hq e (by rw[hn,he];exact ck_o3 ho rfl (hh.al e) rfl)
  |_=>omega
 ·have hc:=hk.o3 ho hp;subst hc;have hh:Zz p own J:=hk.oh ho Zo Zo;have hkind:(X9 (Xg J.h 2) 1).kind=6:=rfl;have he:J.dequeue x=({J with n:=x.word,pc:=4},X8 (root 0)):=by unfold Yd.dequeue;rw[hp];rfl
  cases hs with
  |look _ e hx hx'=>
   have hg:p.get (Xg J.h 2)=(p.slot J.h.sl).cell 2:=by
    unfold Pl.get;rw[show((Xg J.h 2).sl==0)=false from by show(J.h.sl==0)=false;simp[hh.1]];rfl
   have hpd:PD p own x.word:=by
    by_cases hl:Lv p own J.h.sl J.h.gn
    ·rw[(hx (Or.inr hl)).trans hg];exact hq.pd _ hl.1 ((hh.2.1 hh.1).2 hl)
    ·rw[hx' λh=>h.elim (λh=>hh.1 h) hl];exact PD.nil rfl
   have hno:jL p own { J with n:=x.word,pc:=4 }:=⟨hpd,fun _ hr=>by
    have hr:p.board 0=J.h:=hr;have hc:own (p.board 0).sl=.chain/\(p.slot (p.board 0).sl).Ap=(p.board 0).gn:=h.shape.s1 none trivial hq.head;rw[hr] at hc;have hx:x.word=(p.slot J.h.sl).cell 2:=(hx (Or.inr ⟨by show own J.h.sl≠.free;rw[hc.1];simp,hc.2⟩)).trans hg;show((p.slot J.h.sl).cell 2).sl=x.word.sl/\((p.slot J.h.sl).cell 2).gn=x.word.gn;rw[hx];exact⟨rfl,rfl⟩⟩
   exact Be h hq e (by rw[hn,he];exact ck_o4 ho rfl (hh.al e) (hno.al e) rfl)
  |_=>omega
 ·have hc:=hk.o4 ho hp;subst hc;have hh:Zz p own J:=hk.oh ho Zo Zo;have hno:jL p own J:=hk.on ho Zo Zo;have hkind:(X8 (root 0)).kind=3:=rfl;cases hs with
  |look _ e _ _=>
   refine Be h hq e ?_;rw[hn];cases hw:AE x.word J.h with
   |false=>
    have he:J.dequeue x=({J with pc:=1},X9 (root 0) 0):=by unfold Yd.dequeue;rw[hp,hw];rfl
    rw[he];exact Vw ho rfl rfl
   |true=>
    by_cases hz:J.n.sl=0
    ·have he:J.dequeue x=J.done 2 0:=by unfold Yd.dequeue;rw[hp,hw];simp[hz]
     rw[he];exact LL rfl
    ·by_cases ht:J.h.sl=J.t.sl
     ·have he:J.dequeue x=({J with pc:=5},Xx (root 1) J.t (BC J.t J.n)):=by unfold Yd.dequeue;rw[hp,hw];simp[hz,ht]
      rw[he];exact ck_o5 ho rfl (hh.al e) (hno.al e) ⟨rfl,hz⟩
     ·have he:J.dequeue x=({J with pc:=6},X8 (Xg J.n 1)):=by unfold Yd.dequeue;rw[hp,hw];simp[hz,ht]
      rw[he];exact ck_o6 ho rfl (hh.al e) (hno.al e) ⟨rfl,hz⟩
  |_=>omega
 ·obtain⟨hc,hz⟩:=hk.o5 ho hp;subst hc;have hno:jL p own J:=hk.on ho Zo Zo;have hkind:(Xx (root 1) J.t (BC J.t J.n)).kind=5:=rfl;have he:J.dequeue x=({J with pc:=1},X9 (root 0) 0):=by unfold Yd.dequeue;rw[hp];rfl
  cases hs with
  |FW _ e hok=>exact Be h hq e (by rw[hn,he];exact Vw ho rfl rfl)
  |D0 _ h0 hw e hok=>
   have e:KN p p' 1 (BC J.t J.n):=e;have hb:=tb.BP 1 Zd Zd;have hw:=(NP (show AE (p.board 1) J.t=true from hw)).2;have hr:=h.root (a:=k) (ce:=Tg) e Zd (by show wr (J.t.tg+1)=_;rw[hw] at hb ⊢;exact Iy Zo Zo);exact⟨own,hr.1,hq.Oh e hr.2 hz hno.1,hr.2,by rw[hn,he];exact Vw ho rfl rfl,λ_=>Iff.rfl⟩
  |D8 _ h0=>exact absurd rfl h0
  |_=>omega
 ·obtain⟨hc,hz⟩:=hk.o6 ho hp;have hh:Zz p own J:=hk.oh ho Zo Zo;have hno:jL p own J:=hk.on ho Zo Zo;have he:J.dequeue x=({J with val:=x.word.nm,pc:=7},Xx (root 0) J.h (BC J.h J.n)):=by unfold Yd.dequeue;rw[hp];rfl
  cases hs with
  |look _ e _ _=>exact Be h hq e (by rw[hn,he];exact ck_o7 ho rfl (hh.al e) (hno.al e) ⟨rfl,hz⟩)
  |_=>omega
 ·obtain⟨hc,hz⟩:=hk.o7 ho hp;subst hc;have hh:Zz p own J:=hk.oh ho Zo Zo;have hno:jL p own J:=hk.on ho Zo Zo;have hkind:(Xx (root 0) J.h (BC J.h J.n)).kind=5:=rfl;cases hs with
  |FW _ e hok=>
   have he:J.dequeue x=({J with pc:=1},X9 (root 0) 0):=by unfold Yd.dequeue;rw[hp,hok];rfl
   exact Be h hq e (by rw[hn,he];exact Vw ho rfl rfl)
  |D0 _ h0 hw e hok=>
   have he:J.dequeue x=({J with pc:=8},AU J.h):=by unfold Yd.dequeue;rw[hp,hok];rfl
   have hw:p.board 0=J.h:=Lf hw hh.2.2;have hb:=tb.BP 0 Zd Zd;have e:KN p p' 0 (BC J.h J.n):=e;have hx:=hno.2 hz hw;have hr:=h.unlink (k:=k) (ce:=Tg) (i:=none) (s:=J.h.sl) e.link trivial (by show(p.board 0).sl=_;rw[hw]) hh.1 hx.1.symm hx.2.symm Zs
    (by show wr (J.h.tg+1)=(p.board 0).tg+1;rw[hw] at hb ⊢;exact Iy Zo Zo) (λ_ e=>by cases e)
   have hu':∀t,Ah own J.h.sl (.Bi k) t=if t=J.h.sl then .Bi k else own t:=λt=>X2 ..;refine⟨_,hr.2.2.1,?_,hr.2.2.2,?_,λt=>?_⟩
   ·refine hq.A9 hr.2.2.2 (by rw[e.BP 0 Zd Zd,if_pos rfl];exact hz) (by rw[e.BP 1 Zd Zd,if_neg Zd];exact hq.tail) (Or.inl (by rw[e.BP 1 Zd Zd,if_neg Zd])) (λt a1 a2=>?_) (λt a1 a2 a3=>?_)
    ·left;by_cases e':t=J.h.sl
     ·rw[e',hr.1,e.slot];exact⟨by simp,rfl,rfl⟩
     ·rw[hu',if_neg e'] at a1 a2;exact⟨a1,a2,by rw[e.slot]⟩
    ·by_cases e':t=J.h.sl
     ·right;rw[e',e.slot,hx.1];exact hz
     ·rw[hu',if_neg e'] at a1 a2 a3;exact Or.inl ⟨a1,a2,a3⟩
   ·rw[hn,he];refine xO ho rfl ⟨rfl,λ_=>⟨?_,?_⟩⟩
    ·show Ah own J.h.sl (.Bi k) J.h.sl=_;rw[Xy]
    ·show(p'.slot J.h.sl).Ap=J.h.gn;rw[e.slot,hr.2.1];show(p.board 0).gn=_;rw[hw]
   ·rw[hu'];by_cases e':t=J.h.sl
    ·rw[if_pos e',e',hr.1];simp
    ·rw[if_neg e']
  |D8 _ h0=>exact absurd rfl h0
  |_=>omega
 ·have hc:=(hk.o8 ho hp).1;subst hc;have hkind:(AU J.h).kind=10:=rfl;have he:J.dequeue x=J.done 1 J.val:=by unfold Yd.dequeue;rw[hp];rfl
  cases hs with
  |calm _ e=>exact Be h hq e (by rw[hn,he];exact LL rfl)
  |_=>omega
end
section
variable{b:Bool}{p p':Pl}{own own':Int->Tk}{k a:Nat}{J:Yd}{c:Xf}{x:Xj}{s:Int}
theorem CQ.retire(h:CQ p own)(hs:own s=.Bi k)(e:Bs a Tg p own p (Ah own s (.note (k+1000)))):CQ p (Ah own s (.note (k+1000))):=by
 have hu:∀t,Ah own s (.note (k+1000)) t=if t=s then .note (k+1000) else own t:=λt=>X2 ..;refine h.A9 e h.head h.tail (Or.inl rfl) (λt a1 a2=>Or.inl ?_) (λt a1 a2 a3=>Or.inl ?_)
 ·by_cases e':t=s
  ·rw[e',hs];exact⟨by simp,rfl,rfl⟩
  ·rw[hu,if_neg e'] at a1 a2;exact⟨a1,a2,rfl⟩
 ·by_cases e':t=s
  ·rw[e',hs];exact⟨by simp,rfl,by simp⟩
  ·rw[hu,if_neg e'] at a1 a2 a3;exact⟨a1,a2,a3⟩
theorem CQ.free(h:CQ p own)(hs:own s=.note k)(e:PY p p' s)(ev:Bs a Tg p own p' (Ah own s .free)):CQ p' (Ah own s .free):=by
 have hu:∀t,Ah own s .free t=if t=s then .free else own t:=λt=>X2 ..;have hne:∀t,Ah own s .free t≠.free->t≠s:=λt a1 e'=>by rw[hu,if_pos e'] at a1;exact a1 rfl
 refine h.A9 ev (by rw[e.BP 0 Zd Zd];exact h.head) (by rw[e.BP 1 Zd Zd];exact h.tail) (Or.inl (e.BP 1 Zd Zd)) (λt a1 a2=>?_) (λt a1 a2 a3=>?_)
 ·have ht:=hne t a1;rw[hu,if_neg ht] at a1 a2;exact Or.inl ⟨a1,a2,by rw[e.Av t ht]⟩
 ·have ht:=hne t a1;rw[hu,if_neg ht] at a1 a2 a3;exact Or.inl ⟨a1,a2,a3⟩
theorem iH(h:BN p own)(hq:CQ p own)(hk:Em true p own k J c)(hc:c.kind=10)(hpc:J.pc≠-1):
  own c.A1.sl=.Bi k/\(p.slot c.A1.sl).Ap=c.A1.gn/\BN p (Ah own c.A1.sl (.note (k+1000)))/\CQ p (Ah own c.A1.sl (.note (k+1000)))/\Bs k Tg p own p (Ah own c.A1.sl (.note (k+1000)))/\Em false p (Ah own c.A1.sl (.note (k+1000))) k J c:=by
 have hp:=hk.pc
 have hp:J.pc=0\/J.pc=1\/J.pc=2\/J.pc=3\/J.pc=4\/J.pc=5\/J.pc=6\/J.pc=7\/J.pc=8:=Zo
 by_cases ho:J.op.kind=4
 ·exfalso;rcases hp with hp|hp|hp|hp|hp|hp|hp|hp|hp
  ·have:=hk.c0 hp;omega
  ·rw[hk.u1 ho hp] at hc;cases hc
  ·obtain⟨v,e⟩:=hk.u2 ho hp;rw[e] at hc;cases hc
  ·rw[hk.u3 ho hp] at hc;cases hc
  ·rw[hk.u4 ho hp] at hc;cases hc
  ·rw[hk.u5 ho hp] at hc;cases hc
  ·rw[(hk.u6 ho hp).1] at hc;cases hc
  ·rw[(hk.u7 ho hp).1] at hc;cases hc
  ·rw[(hk.u8 ho hp).1] at hc;cases hc
 ·have h8:J.pc=8:=by
   rcases hp with hp|hp|hp|hp|hp|hp|hp|hp|hp
   ·have:=hk.c0 hp;omega
   ·rw[hk.o1 ho hp] at hc;cases hc
   ·rw[hk.o2 ho hp] at hc;cases hc
   ·rw[hk.o3 ho hp] at hc;cases hc
   ·rw[hk.o4 ho hp] at hc;cases hc
   ·rw[(hk.o5 ho hp).1] at hc;cases hc
   ·have:=(hk.o6 ho hp).1;omega
   ·rw[(hk.o7 ho hp).1] at hc;cases hc
   ·exact hp
  obtain⟨e,hr⟩:=hk.o8 ho h8;subst e;have hr:=hr rfl;have hv:=h.retire (ce:=Tg) hr.1;exact⟨hr.1,hr.2,hv.1,hq.retire hr.1 hv.2,hv.2,xO ho h8 ⟨rfl,λe=>by cases e⟩⟩
end
theorem Shape.reref{own:Int->Tk}{lw:Option Int->Xd}{Ap:Int->Int}{i:Option Int}{w:Xd}(h:Shape own lw Ap)(hw:w.sl=(lw i).sl)(hv:w.gn=(lw i).gn):Shape own (NZ lw i w) Ap:=by
 have e:∀j,(NZ lw i w j).sl=(lw j).sl/\(NZ lw i w j).gn=(lw j).gn:=λj=>by
  unfold NZ;by_cases e:j=i
  ·rw[if_pos e,e];exact⟨hw,hv⟩
  ·rw[if_neg e];exact⟨rfl,rfl⟩
 constructor
 ·intro j h1 h2;rw[(e j).1] at h2 ⊢;rw[(e j).2];exact h.s1 j h1 h2
 ·intro j m h1 h2 h3 h4;rw[(e j).1] at h3 h4;rw[(e m).1] at h4;exact h.s2 j m h1 h2 h3 h4
def Ie:Int->Xd->Xd->Prop:=λf o _=>f=2/\o.mark=false
section
variable{p p':Pl}{own own':Int->Tk}{s:Int}{k a:Nat}{w:Xd}{ce:Int->Xd->Xd->Prop}
theorem BN.mark(h:BN p own)(e:Ja p p' (some s) w)(hs:own s=.chain)(hw:w.sl=((p.slot s).cell 2).sl)(hv:w.gn=((p.slot s).cell 2).gn)(htg:w.tg=((p.slot s).cell 2).tg+1)(hce:ce 2 ((p.slot s).cell 2) w):
  BN p' own/\Bs k ce p own p' own:=by
 refine⟨⟨?_,λt=>by rw[(e.Ap t).2];exact h.tok t,h.zero⟩,e.A9 (s:=s) hs htg (λt ht=>by cases ht;exact hce) (Or.inr hs) (Or.inl hs) λ_ _=>rfl⟩
 rw[e.lk,show(λs=>(p'.slot s).Ap)=λs=>(p.slot s).Ap from funext λt=>(e.Ap t).1]
 exact h.shape.reref hw hv
structure LQ(p:Pl)(own:Int->Tk):Prop where
 pdr:∀r,0<=r->r<24->PD p own (p.board r)
 pd:∀s,own s≠.free->(own s).Ax=false->PD p own ((p.slot s).cell 2)
 closed:∀s,own s≠.free->(own s).Ax=false->own s≠.chain->((p.slot s).cell 2).mark=true
theorem LQ.A9(h:LQ p own)(e:Bs a Ie p own p' own')(hr:∀r,0<=r->r<24->p'.board r=p.board r\/PD p' own' (p'.board r))
  (hn:∀s,own' s≠.free->(own' s).Ax=false->(own s≠.free/\(own s).Ax=false/\(p'.slot s).cell 2=(p.slot s).cell 2)\/PD p' own' ((p'.slot s).cell 2))
  (hcl:∀s,own' s≠.free->(own' s).Ax=false->own' s≠.chain->(own s≠.free/\(own s).Ax=false/\own s≠.chain)\/((p'.slot s).cell 2).mark=true):LQ p' own':=by
 refine⟨λr h0 h1=>?_,λs a1 a2=>?_,λs a1 a2 a3=>?_⟩
 ·rcases hr r h0 h1 with e'|e'
  ·rw[e'];exact(h.pdr r h0 h1).A9 e
  ·exact e'
 ·rcases hn s a1 a2 with⟨b1,b2,b3⟩|b
  ·rw[b3];exact(h.pd s b1 b2).A9 e
  ·exact b
 ·rcases hcl s a1 a2 a3 with⟨b1,b2,b3⟩|b
  ·have hz:=h.closed s b1 b2 b3;rcases(e.Iv s b1 b2 a1).2.2 2 with hp|hp
   ·rw[hp];exact hz
   ·exact absurd hp.1.2 (by rw[hz];simp)
  ·exact b
def NO(p:Pl)(own:Int->Tk)(d:Yj):Prop:=d=Go.Proofs.YtaipogljokblkaaGreatDoor.root 0\/(d.sl≠0/\d.fd=2/\PD p own ⟨d.sl,d.gn,0,0,false⟩)
def R7(p:Pl)(own:Int->Tk)(d:Yj)(w:Xd):Prop:=(d.sl=0\/Lv p own d.sl d.gn)->Sn (p.get d) w
theorem AM{d:Yj}(h:d.sl≠0):p.get d=(p.slot d.sl).cell d.fd:=by
 unfold Pl.get;rw[show(d.sl==0)=false from by simp[h]];rfl
theorem L5{r:Yj}(h:r=Go.Proofs.YtaipogljokblkaaGreatDoor.root 0):p.get r=p.board 0:=by rw[h];rfl
theorem NO.A9{d:Yj}(h:NO p own d)(e:Bs a ce p own p' own'):NO p' own' d:=h.imp id λh=>⟨h.1,h.2.1,h.2.2.A9 e⟩
theorem R7.A9{d:Yj}(h:R7 p own d w)(hd:NO p own d)(e:Bs a ce p own p' own'):R7 p' own' d w:=by
 intro hl;rcases hd with hd|⟨h0,h2,hp⟩
 ·have hs:=h (Or.inl (by rw[hd];rfl));rw[L5 hd] at hs ⊢;exact e.root Zd Zd hs
 ·have hl:=hl.resolve_left h0;rw[AM h0];exact e.seen hp h0 (λhv=>by have:=h (Or.inr hv);rwa [AM h0] at this) hl
theorem frozen{d n:Xd}(e:Bs a Ie p own p' own')(hp:PD p own d)(h0:d.sl≠0)(hm:n.mark=true)(h:Lv p own d.sl d.gn->(p.slot d.sl).cell 2=n)(hv:Lv p' own' d.sl d.gn):(p'.slot d.sl).cell 2=n:=by
 obtain⟨h1,h2⟩:=hp h0;have hb:=e.back hv h1;rcases(e.Iv _ hb.1 (h2 hb) hv.1).2.2 2 with hq|hq
 ·rw[hq];exact h hb
 ·exact absurd hq.1.2 (by rw[h hb,hm];simp)
end
structure EP(b:Bool)(p:Pl)(own:Int->Tk)(k:Nat)(W:Xq)(c:Xf):Prop where
 pc:1<=W.pc/\W.pc<=8
 st:NO p own W.start
 pv:NO p own W.prev
 c1:W.pc=1->c=X9 W.prev 1
 c2:W.pc=2->c=X9 (Xg W.Ay 2) 0
 c3:W.pc=3->c.kind=3
 c4:W.pc=4->c=X8 W.prev
 c5:W.pc=5->c=Xx W.prev W.Ay (BC W.Ay W.next)/\W.next.mark=true
 c6:W.pc=6->c=AU W.Ay/\PD p own (BC W.Ay W.next)/\R7 p own W.prev (BC W.Ay W.next)/\(b=true->own W.Ay.sl=.Bi k/\(p.slot W.Ay.sl).Ap=W.Ay.gn)
 c7:W.pc=7->c.kind=7/\PD p own W.next/\W.next.mark=false/\R7 p own W.prev W.next
 c8:W.pc=8->c.kind=7
 cu:W.pc=2\/W.pc=3\/W.pc=4\/W.pc=5\/W.pc=8->W.Ay.sl≠0/\W.Ay.mark=false/\PD p own W.Ay/\R7 p own W.prev W.Ay
 nx:3<=W.pc->W.pc<=5->PD p own W.next/\R7 p own (Xg W.Ay 2) W.next/\(W.next.mark=true->Lv p own W.Ay.sl W.Ay.gn->(p.slot W.Ay.sl).cell 2=W.next)
section
variable{b:Bool}{p p':Pl}{own own':Int->Tk}{k a:Nat}{W:Xq}{c:Xf}
theorem Jw{d:Xd}(h0:d.sl≠0)(hp:PD p own d):NO p own (Xg d 2):=Or.inr ⟨h0,rfl,hp⟩
theorem EP.A9(h:EP b p own k W c)(e:Bs a Ie p own p' own')(ha:k≠a):EP b p' own' k W c:=by
 refine⟨h.pc,h.st.A9 e,h.pv.A9 e,h.c1,h.c2,h.c3,h.c4,h.c5,λh1=>?_,λh1=>?_,h.c8,λh1=>?_,λh1 h2=>?_⟩
 ·obtain⟨q1,q2,q3,q4⟩:=h.c6 h1;refine⟨q1,q2.A9 e,q3.A9 h.pv e,λh3=>?_⟩;obtain⟨r1,r2⟩:=e.Bi ha (q4 h3).1;exact⟨r1,by rw[r2];exact(q4 h3).2⟩
 ·obtain⟨q1,q2,q3,q4⟩:=h.c7 h1;exact⟨q1,q2.A9 e,q3,q4.A9 h.pv e⟩
 ·obtain⟨q1,q2,q3,q4⟩:=h.cu h1;exact⟨q1,q2,q3.A9 e,q4.A9 h.pv e⟩
 ·obtain⟨q1,q2,q3⟩:=h.nx h1 h2;obtain⟨r1,_,r3,_⟩:=h.cu Zo;exact⟨q1.A9 e,q2.A9 (Jw r1 r3) e,λhm=>frozen e r3 r1 hm (q3 hm)⟩
end
section
variable{b:Bool}{p p':Pl}{own own':Int->Tk}{k a:Nat}{c:Xf}{x:Xj}{s:Int}{w o:Xd}{d:Yj}{i:Option Int}
theorem IQ.link(e:IQ p p' s 2 w):Ja p p' (some s) w:=
 ⟨fun r a b=>by rw [e.BP r a b,if_neg (fun h=>by cases h.1)],fun t=>by
  rw[e.slot];by_cases e':t=s
  ·rw[if_pos e',e',if_pos rfl]
  ·rw[if_neg e',if_neg λh=>e' (by cases h;rfl)]⟩
theorem PD.Nw(h:PD p own w)(e:X3 p p'):PD p' own w:=h.A9 (a:=0) (ce:=Ie) (Bs.alike e)
theorem NO.al(h:NO p own d)(e:X3 p p'):NO p' own d:=h.A9 (a:=0) (ce:=Ie) (Bs.alike e)
theorem R7.al(h:R7 p own d w)(hd:NO p own d)(e:X3 p p'):R7 p' own d w:=h.A9 (a:=0) (ce:=Ie) hd (Bs.alike e)
theorem LQ.same(h:LQ p own)(e:Bs a Ie p own p' own')(hr:∀r,0<=r->r<24->p'.board r=p.board r)(hn:∀s,own' s≠.free->(own' s).Ax=false->own s≠.free/\(own s).Ax=false/\(own' s≠.chain->own s≠.chain)/\(p'.slot s).cell 2=(p.slot s).cell 2):LQ p' own':=
 h.A9 e (λr h0 h1=>Or.inl (hr r h0 h1)) (λs a1 a2=>Or.inl ⟨(hn s a1 a2).1,(hn s a1 a2).2.1,(hn s a1 a2).2.2.2⟩) (λs a1 a2 a3=>Or.inl ⟨(hn s a1 a2).1,(hn s a1 a2).2.1,(hn s a1 a2).2.2.1 a3⟩)
theorem LQ.alike(h:LQ p own)(e:X3 p p'):LQ p' own:=
 h.same (a:=0) (Bs.alike e) e.BP λs a1 a2=>⟨a1,a2,id,by rw[e.slot]⟩
theorem LQ.look(h:LQ p own)(hd:NO p own d)(e:X3 p p')(hx:d.sl=0\/Lv p own d.sl d.gn->w=p.get d)(hn:¬(d.sl=0\/Lv p own d.sl d.gn)->w=Y5 (-1)):
  PD p' own w/\R7 p' own d w/\(d.sl≠0->Lv p' own d.sl d.gn->(p'.slot d.sl).cell 2=w):=by
 have hpd:PD p own w:=by
  by_cases hl:d.sl=0\/Lv p own d.sl d.gn
  ·rw[hx hl];rcases hd with hd|⟨h0,h2,hp⟩
   ·rw[L5 hd];exact h.pdr 0 Zd Zd
   ·have hl:=hl.resolve_left h0;rw[AM h0,h2];exact h.pd _ hl.1 ((hp h0).2 hl)
  ·rw[hn hl];exact λh=>absurd rfl h
 have hsn:R7 p own d w:=λhl=>by rw[hx hl];exact Sn.refl
 refine⟨hpd.Nw e,hsn.al hd e,λh0 hl=>?_⟩
 rcases hd with hd|⟨_,h2,_⟩
 ·rw[hd] at h0;exact absurd rfl h0
 ·have hl:Lv p own d.sl d.gn:=by unfold Lv at hl ⊢;rw[e.slot] at hl;exact hl
  rw[e.slot,hx (Or.inr hl),AM h0,h2]
def Hl(d:Yj):Option Int:=if d.sl=0 then none else some d.sl
theorem Ic(hq:LQ p own)(hd:NO p own d)(hm:o.mark=false)(hsn:R7 p own d o)(hs:Sem p own (Xx d o w) x p'):
  (x.ok=false/\X3 p p')\/(x.ok=true/\Ja p p' (Hl d) w/\In own (Hl d)/\lk p (Hl d)=o/\(d.sl=0\/Lv p own d.sl d.gn)):=by
 have hkind:(Xx d o w).kind=5:=rfl
 cases hs with
 |FW _ e hok=>exact Or.inl ⟨hok,e⟩
 |D0 _ h0 hw e hok=>
  have h0:d.sl=0:=h0
  right
  rcases hd with hd|⟨h1,_⟩
  ·have hsn:=hsn (Or.inl h0);rw[L5 hd] at hsn;have hw:AE (p.board 0) o=true:=by rw[hd] at hw;exact hw
   have e:KN p p' 0 w:=by rw[hd] at e;exact e
   have e0:Hl d=none:=if_pos h0;rw[e0];exact⟨hok,e.link,trivial,Lf hw hsn,Or.inl h0⟩
  ·exact absurd h0 h1
 |D8 _ h0 hl hw e hok=>
  have h0:d.sl≠0:=h0
  have hl:Lv p own d.sl d.gn:=hl
  right
  rcases hd with hd|⟨_,h2,hp⟩
  ·exact absurd (by rw[hd];rfl) h0
  ·have hsn:=hsn (Or.inr hl);rw[AM h0,h2] at hsn;have hw:AE ((p.slot d.sl).cell 2) o=true:=by have hw:AE ((p.slot d.sl).cell d.fd) o=true:=hw;rw[h2] at hw;exact hw
   have e:IQ p p' d.sl 2 w:=by have e:IQ p p' d.sl d.fd w:=e;rw[h2] at e;exact e
   have hw:=Lf hw hsn;have hf:=(hp h0).2 hl;have hch:own d.sl=.chain:=Classical.byContradiction λhne=>by
    have:=hq.closed _ hl.1 hf hne;rw[hw,hm] at this;cases this
   have e0:Hl d=some d.sl:=if_neg h0;rw[e0];exact⟨hok,e.link,hch,hw,Or.inr hl⟩
 |_=>omega
theorem YD(h:d.sl=0\/Lv p own d.sl d.gn)(hd:NO p own d):p.get d=lk p (Hl d):=by
 rcases hd with hd|⟨h0,h2,_⟩
 ·rw[L5 hd,show Hl d=none from if_pos (by rw[hd];rfl)];rfl
 ·rw[AM h0,h2,show Hl d=some d.sl from if_neg h0];rfl
theorem LQ.put(h:LQ p own)(e:Ja p p' i w)(ev:Bs k Ie p own p' own')(hw:PD p own w)
  (hn:∀s,own' s≠.free->(own' s).Ax=false->(own s≠.free/\(own s).Ax=false)\/(i≠some s/\PD p own ((p.slot s).cell 2)))
  (hcl:∀s,own' s≠.free->(own' s).Ax=false->own' s≠.chain->(own s≠.free/\(own s).Ax=false/\own s≠.chain)\/(i≠some s/\((p.slot s).cell 2).mark=true)):LQ p' own':=by
 have hl:∀s,i≠some s->(p'.slot s).cell 2=(p.slot s).cell 2:=λs h=>by rw[e.Av h]
 have hi:∀s,i=some s->(p'.slot s).cell 2=w:=λs h=>by rw[e.slot,if_pos h];show Ah (p.slot s).cell 2 w 2=w;exact Xy ..
 refine h.A9 ev (λr h0 h1=>?_) (λs a1 a2=>?_) (λs a1 a2 a3=>?_)
 ·rw[e.BP r h0 h1];by_cases h2:i=none/\r=0
  ·rw[if_pos h2];exact Or.inr (hw.A9 ev)
  ·rw[if_neg h2];exact Or.inl rfl
 ·by_cases h2:i=some s
  ·rw[hi s h2];exact Or.inr (hw.A9 ev)
  ·rcases hn s a1 a2 with h3|h3
   ·exact Or.inl ⟨h3.1,h3.2,hl s h2⟩
   ·rw[hl s h2];exact Or.inr (h3.2.A9 ev)
 ·rcases hcl s a1 a2 a3 with h3|h3
  ·exact Or.inl h3
  ·rw[hl s h3.1];exact Or.inr h3.2
theorem Nb{n:Xd}(h:BN p own)(hq:LQ p own)(e:Ja p p' i w)(hi:In own i)(ho:lk p i=o)(hm:o.mark=false)(h0:o.sl≠0)(hn:Lv p own o.sl o.gn->(p.slot o.sl).cell 2=n)(hnm:n.mark=true)(hpn:PD p own n)
  (hw:w.sl=n.sl/\w.gn=n.gn/\w.tg=o.tg+1):
  own o.sl=.chain/\(p'.slot o.sl).Ap=o.gn/\BN p' (Ah own o.sl (.Bi k))/\LQ p' (Ah own o.sl (.Bi k))/\Bs k Ie p own p' (Ah own o.sl (.Bi k)):=by
 have hs1:=h.shape.s1 i hi (by rw[ho];exact h0)
 rw[ho] at hs1
 have hc2:=hn ⟨by rw[hs1.1];simp,hs1.2⟩
 have hne:i≠some o.sl:=λe'=>by
  rw[e'] at ho;have ho:(p.slot o.sl).cell 2=o:=ho;rw[hc2] at ho;rw[ho,hm] at hnm;cases hnm
 have hr:=h.unlink (k:=k) (ce:=Ie) (s:=o.sl) e hi (by rw[ho]) h0 (by rw[hw.1];show _=((p.slot o.sl).cell 2).sl;rw[hc2]) (by rw[hw.2.1];show _=((p.slot o.sl).cell 2).gn;rw[hc2]) hne (by rw[hw.2.2,ho]) (λt _=>⟨rfl,by rw[ho];exact hm⟩)
 have hu:∀t,Ah own o.sl (.Bi k) t=if t=o.sl then .Bi k else own t:=λt=>X2 ..
 refine⟨hr.1,by rw[(e.Ap _).1];exact hs1.2,hr.2.2.1,hq.put e hr.2.2.2 (λh=>by rw[hw.1] at h ⊢;rw[hw.2.1];exact hpn h) (λt a1 a2=>Or.inl ?_) (λt a1 a2 a3=>?_),hr.2.2.2⟩
 ·by_cases e':t=o.sl
  ·rw[e',hr.1];exact⟨by simp,rfl⟩
  ·rw[hu,if_neg e'] at a1 a2;exact⟨a1,a2⟩
 ·by_cases e':t=o.sl
  ·rw[e',hc2];exact Or.inr ⟨hne,hnm⟩
  ·rw[hu,if_neg e'] at a1 a2 a3;exact Or.inl ⟨a1,a2,a3⟩
theorem Lu(h:BN p own)(hq:LQ p own)(e:Ja p p' i w)(hi:In own i)(ho:lk p i=o)(hm:o.mark=false)(hpo:PD p own o)(hs:own s=.fresh k)(hc:((p.slot s).cell 2).sl=o.sl/\((p.slot s).cell 2).gn=o.gn)
  (hw:w.sl=s/\w.gn=(p.slot s).Ap/\w.tg=o.tg+1):BN p' (Ah own s .chain)/\LQ p' (Ah own s .chain)/\Bs k Ie p own p' (Ah own s .chain):=by
 have hr:=h.Lk (ce:=Ie) (s:=s) e hi hs (by rw[ho];exact hc.1) (λ_=>by rw[ho];exact hc.2) hw.1 hw.2.1 (by rw[ho];exact hw.2.2) (λt _=>⟨rfl,by rw[ho];exact hm⟩)
 have hu:∀t,Ah own s .chain t=if t=s then .chain else own t:=λt=>X2 ..
 have hne:i≠some s:=λe'=>by rw[e'] at hi;have hi:own s=.chain:=hi;rw[hs] at hi;cases hi
 refine⟨hr.1,?_,hr.2⟩
 refine hq.A9 hr.2 (λr h0 h1=>?_) (λt a1 a2=>?_) (λt a1 a2 a3=>Or.inl ?_)
 ·rw[e.BP r h0 h1];by_cases h2:i=none/\r=0
  ·rw[if_pos h2];right;intro _;rw[hw.1,hw.2.1];exact⟨by rw[(e.Ap _).1];exact Int.le_refl _,λ_=>by rw[hu,if_pos rfl];rfl⟩
  ·rw[if_neg h2];exact Or.inl rfl
 ·by_cases h2:i=some t
  ·right;rw[e.slot,if_pos h2];show PD p' _ (Ah (p.slot t).cell 2 w 2);rw[Xy];intro _;rw[hw.1,hw.2.1];exact⟨by rw[(e.Ap _).1];exact Int.le_refl _,λ_=>by rw[hu,if_pos rfl];rfl⟩
  ·rw[e.Av h2];by_cases e':t=s
   ·right;rw[e'];have:PD p own ((p.slot s).cell 2):=λh=>by rw[hc.1] at h ⊢;rw[hc.2];exact hpo h
    exact this.A9 hr.2
   ·rw[hu,if_neg e'] at a1 a2;exact Or.inl ⟨a1,a2,rfl⟩
 ·by_cases e':t=s
  ·rw[hu,if_pos e'] at a3;exact absurd rfl a3
  ·rw[hu,if_neg e'] at a1 a2 a3;exact⟨a1,a2,a3⟩
end
end Go.Proofs.YtaipogljokblkaaGreatDoor
