/- Core: BdF, BdG, BdH, BdI. -/
import Derived.Test.YtaipogljokblkaaGreatDoorW39
import Derived.Test.YtaipogljokblkaaGreatDoorW01
set_option linter.all false
set_option maxRecDepth 100000
set_option maxHeartbeats 8000000
namespace Go.Proofs.YtaipogljokblkaaGreatDoor
open Go Go.RowKit
set_option linter.unusedSimpArgs false
set_option linter.unusedVariables false
set_option linter.unusedSectionVars false
section
variable{p p':Pl}{own:Int->Tk}{s f:Int}{k:Nat}{w c:Xd}{ce:Int->Xd->Xd->Prop}{i:Option Int}
structure Ja(p p':Pl)(i:Option Int)(w:Xd):Prop where
 BP:∀r,0<=r->r<24->p'.board r=if i=none/\r=0 then w else p.board r
 slot:∀t,p'.slot t=if i=some t then{p.slot t with cell:=Ah (p.slot t).cell 2 w} else p.slot t
theorem Ja.Ap(e:Ja p p' i w)(t:Int):(p'.slot t).Ap=(p.slot t).Ap/\(p'.slot t).used=(p.slot t).used:=by
 rw[e.slot];by_cases h:i=some t
 ·rw[if_pos h];exact⟨rfl,rfl⟩
 ·rw[if_neg h];exact⟨rfl,rfl⟩
theorem Ja.Av(e:Ja p p' i w){t:Int}(h:i≠some t):p'.slot t=p.slot t:=by rw[e.slot,if_neg h]
theorem Ja.lk(e:Ja p p' i w):lk p'=NZ (lk p) i w:=by
 funext j;unfold NZ;cases j with
 |none=>
  show p'.board 0=_;rw[e.BP 0 Zd Zd];by_cases h:i=none
  ·simp[h]
  ·rw[if_neg λh'=>h h'.1,if_neg λh'=>h h'.symm];rfl
 |some t=>
  show(p'.slot t).cell 2=_;rw[e.slot];by_cases h:i=some t
  ·rw[if_pos h,if_pos h.symm];show Ah (p.slot t).cell 2 w 2=w;rw[Xy]
  ·rw[if_neg h,if_neg λh'=>h h'.symm];rfl
theorem Ja.A9(e:Ja p p' i w){own':Int->Tk}(hi:In own i)(htg:w.tg=(Go.Proofs.YtaipogljokblkaaGreatDoor.lk p i).tg+1)(hce:∀t,i=some t->ce 2 (Go.Proofs.YtaipogljokblkaaGreatDoor.lk p i) w)
  (hs:own s=.fresh k\/own s=.chain)(hs':own' s=.chain\/own' s=.Bi k)(ho:∀t,t≠s->own' t=own t):Bs k ce p own p' own':=by
 refine Bs.of (λr a b=>?_) (λt=>(e.Ap t).1) (λt j hj hf=>e.Av λe'=>?_) (λt h1 hf g=>?_) λt=>?_
 ·rw[e.BP r a b];by_cases h:i=none/\r=0
  ·rw[if_pos h];right;rw[htg,h.1,h.2];rfl
  ·rw[if_neg h];exact Or.inl rfl
 ·rw[e'] at hi;have hi:own t=.chain:=hi;rw[hf] at hi;cases hi
 ·rw[e.slot];by_cases h:i=some t
  ·rw[if_pos h];show Ah (p.slot t).cell 2 w g=_\/_;by_cases hg:g=2
   ·right;have hc:=hce t h;rw[h] at hc htg;rw[hg];show ce 2 ((p.slot t).cell 2) (Ah (p.slot t).cell 2 w 2)/\(Ah (p.slot t).cell 2 w 2).tg=((p.slot t).cell 2).tg+1;rw[Xy];exact⟨hc,htg⟩
   ·left;rw[X2,if_neg hg]
  ·rw[if_neg h];exact Or.inl rfl
 ·by_cases e':t=s
  ·rw[e'];exact Or.inr ⟨hs.imp id Or.inl,hs'.imp id Or.inl⟩
  ·exact Or.inl (ho t e')
theorem BN.Lk(h:BN p own)(e:Ja p p' i w)(hi:In own i)(hs:own s=.fresh k)(hn:(lk p (some s)).sl=(lk p i).sl)(hg:(lk p i).sl≠0->(lk p (some s)).gn=(lk p i).gn)(hw:w.sl=s)(hv:w.gn=(p.slot s).Ap)
  (htg:w.tg=(lk p i).tg+1)(hce:∀t,i=some t->ce 2 (lk p i) w):BN p' (Ah own s .chain)/\Bs k ce p own p' (Ah own s .chain):=by
 have h0:s≠0:=λe'=>by rw[e',h.zero] at hs;cases hs
 have hu:∀t,Ah own s .chain t=if t=s then .chain else own t:=λt=>X2 ..
 refine⟨⟨?_,λt=>?_,by rw[hu,if_neg (Ne.symm h0)];exact h.zero⟩,e.A9 (s:=s) hi htg hce (Or.inl hs) (Or.inl (by rw[hu,if_pos rfl])) λt ht=>by rw[hu,if_neg ht]⟩
 ·rw[e.lk,show(λs=>(p'.slot s).Ap)=λs=>(p.slot s).Ap from funext λt=>(e.Ap t).1];exact h.shape.Lk hi hs hn hg h0 hw hv
 ·rw[(e.Ap t).2,hu];by_cases e':t=s
  ·rw[if_pos e',e',←h.tok s,hs];simp
  ·rw[if_neg e'];exact h.tok t
theorem BN.unlink(h:BN p own)(e:Ja p p' i w)(hi:In own i)(hs:(lk p i).sl=s)(h0:s≠0)(hw:w.sl=(lk p (some s)).sl)(hv:w.gn=(lk p (some s)).gn)(hne:i≠some s)
  (htg:w.tg=(lk p i).tg+1)(hce:∀t,i=some t->ce 2 (lk p i) w):
  own s=.chain/\(p.slot s).Ap=(lk p i).gn/\BN p' (Ah own s (.Bi k))/\Bs k ce p own p' (Ah own s (.Bi k)):=by
 have hq:=h.shape.unlink (k:=k) (w:=w) hi hs h0 hw hv
 have hu:∀t,Ah own s (.Bi k) t=if t=s then .Bi k else own t:=λt=>X2 ..
 refine⟨hq.1,hq.2.1,⟨?_,λt=>?_,by rw[hu,if_neg (Ne.symm h0)];exact h.zero⟩,e.A9 (s:=s) hi htg hce (Or.inr hq.1) (Or.inr (by rw[hu,if_pos rfl])) λt ht=>by rw[hu,if_neg ht]⟩
 ·rw[e.lk,show(λs=>(p'.slot s).Ap)=λs=>(p.slot s).Ap from funext λt=>(e.Ap t).1];exact hq.2.2 hne
 ·rw[(e.Ap t).2,hu];by_cases e':t=s
  ·rw[if_pos e',e',←h.tok s,hq.1];simp
  ·rw[if_neg e'];exact h.tok t
end
structure KN(p p':Pl)(r:Int)(w:Xd):Prop where
 BP:∀q,0<=q->q<24->p'.board q=if q=r then w else p.board q
 slot:p'.slot=p.slot
theorem KN.link{p p':Pl}{w:Xd}(e:KN p p' 0 w):Ja p p' none w:=
 ⟨λq a b=>by rw[e.BP q a b];simp,λt=>by rw[e.slot];simp⟩
inductive Sem(p:Pl)(own:Int->Tk):Xf->Xj->Pl->Prop
 |look {c x p'} (hk:c.kind=3\/c.kind=6) (e:X3 p p') (hx:c.A2.sl=0\/Lv p own c.A2.sl c.A2.gn->x.word=p.get c.A2) (hn:¬(c.A2.sl=0\/Lv p own c.A2.sl c.A2.gn)->x.word=Y5 (-1)):Sem p own c x p'
 |store {c x p'} (hk:c.kind=4) (hl:Lv p own c.A2.sl c.A2.gn) (e:IQ p p' c.A2.sl c.A2.fd c.new):Sem p own c x p'
 |JS {c x p'} (hk:c.kind=4) (hl:¬Lv p own c.A2.sl c.A2.gn) (e:X3 p p'):Sem p own c x p'
 |FW {c x p'} (hk:c.kind=5) (e:X3 p p') (ho:x.ok=false) (hw:c.A2.sl=0\/Lv p own c.A2.sl c.A2.gn->AE (p.get c.A2) c.A1=false):Sem p own c x p'
 |D0 {c x p'} (hk:c.kind=5) (h0:c.A2.sl=0) (hs:AE (p.board c.A2.fd) c.A1=true) (e:KN p p' c.A2.fd c.new) (ho:x.ok=true):Sem p own c x p'
 |D8 {c x p'} (hk:c.kind=5) (h0:c.A2.sl≠0) (hl:Lv p own c.A2.sl c.A2.gn) (hs:AE ((p.slot c.A2.sl).cell c.A2.fd) c.A1=true) (e:IQ p p' c.A2.sl c.A2.fd c.new) (ho:x.ok=true):Sem p own c x p'
 |calm {c x p'} (hk:c.kind=1\/c.kind=7\/c.kind=10) (e:X3 p p'):Sem p own c x p'
 |alloc {c x p'} {s:Int} (hk:c.kind=8) (hf:own s=.free) (h0:s≠0) (e:jH p p' s) (hw:x.word.sl=s) (hg:x.word.gn=(p'.slot s).Ap) (ho:x.ok=true):Sem p own c x p'
 |Kg {c x p'} (hk:c.kind=8) (e:X3 p p') (ho:x.ok=false):Sem p own c x p'
 |drop {c x p'} (hk:c.kind=9) (hl:Lv p own c.A1.sl c.A1.gn) (e:PY p p' c.A1.sl):Sem p own c x p'
 |YQ {c x p'} (hk:c.kind=9) (hl:¬Lv p own c.A1.sl c.A1.gn) (e:X3 p p'):Sem p own c x p'
structure Dd(b:Bool)(p:Pl)(own:Int->Tk)(k:Nat)(J:X6)(c:Xf):Prop where
 pc:J.pc=-1\/(0<=J.pc/\J.pc<=5)
 c0:J.pc=0->c.kind=1
 u1:J.op.kind=1->J.pc=1->c=AK
 un:J.op.kind=1->2<=J.pc->own J.node.sl=.fresh k/\(p.slot J.node.sl).Ap=J.node.gn
 u2:J.op.kind=1->J.pc=2->∃v,c=Yf (Xg J.node 1) v
 u3:J.op.kind=1->J.pc=3->c=X8 (root 0)
 u4:J.op.kind=1->J.pc=4->c=Yf (Xg J.node 2) (AF J.By)/\Sn (p.board 0) J.By
 u5:J.op.kind=1->J.pc=5->c=Xx (root 0) J.By (BC J.By J.node)/\Sn (p.board 0) J.By/\((p.slot J.node.sl).cell 2).sl=J.By.sl/\((p.slot J.node.sl).cell 2).gn=J.By.gn
 o1:J.op.kind≠1->J.pc=1->c=X9 (root 0) 0
 o2:J.op.kind≠1->J.pc=2->c=X8 (Xg J.By 2)/\Sn (p.board 0) J.By/\J.By.sl≠0/\J.op.kind≠3
 o3:J.op.kind≠1->J.pc=3->∃v,c=Xx (root 0) J.By (BC J.By v)/\Sn (p.board 0) J.By/\J.By.sl≠0/\J.op.kind≠3/\(p.board 0=J.By->((p.slot J.By.sl).cell 2).sl=v.sl/\((p.slot J.By.sl).cell 2).gn=v.gn)
 o4:J.op.kind≠1->J.pc=4->c=X8 (Xg J.By 1)/\(J.op.kind≠3->own J.By.sl=.Bi k/\(p.slot J.By.sl).Ap=J.By.gn)
 o5:J.op.kind≠1->J.pc=5->c=AU J.By/\(b=true->own J.By.sl=.Bi k/\(p.slot J.By.sl).Ap=J.By.gn)
def rP:Int->Xd->Xd->Prop:=λ_ _ _=>False
section
variable{b:Bool}{p p':Pl}{own own':Int->Tk}{k a:Nat}{J:X6}{c:Xf}{x:Xj}
theorem Dd.A9(h:Dd b p own k J c)(e:Bs a rP p own p' own')(ha:k≠a)(hb:BN p own):Dd b p' own' k J c:=by
 refine⟨h.pc,h.c0,h.u1,λh1 h2=>?_,h.u2,h.u3,λh1 h2=>?_,λh1 h2=>?_,h.o1,λh1 h2=>?_,λh1 h2=>?_,λh1 h2=>?_,λh1 h2=>?_⟩
 ·obtain⟨q1,q2⟩:=h.un h1 h2;obtain⟨r1,r2⟩:=e.fresh ha q1;exact⟨r1,by rw[r2];exact q2⟩
 ·obtain⟨q1,q2⟩:=h.u4 h1 h2;exact⟨q1,e.root Zd Zd q2⟩
 ·obtain⟨q1,q2,q3⟩:=h.u5 h1 h2;obtain⟨r1,r2⟩:=e.fresh ha (h.un h1 Zo).1;exact⟨q1,e.root Zd Zd q2,by rw[r2];exact q3⟩
 ·obtain⟨q1,q2,q3⟩:=h.o2 h1 h2;exact⟨q1,e.root Zd Zd q2,q3⟩
 ·obtain⟨v,q1,q2,q3,q4,q5⟩:=h.o3 h1 h2;refine⟨v,q1,e.root Zd Zd q2,q3,q4,λhr=>?_⟩;rcases e.rt 0 Zd Zd with h3|h3
  ·rw[h3] at hr;have hc:=hb.shape.s1 none trivial (by show(p.board 0).sl≠0;rw[hr];exact q3);have hc:own J.By.sl=.chain:=by have:=hc.1;rw[show lk p none=p.board 0 from rfl,hr] at this;exact this
   rcases(e.Iv J.By.sl (by rw[hc];simp) (by rw[hc];rfl) (e.ch _ hc)).2.2 2 with hp|hp
   ·rw[hp];exact q5 hr
   ·exact hp.1.elim
  ·rw[hr] at h3;have:=q2.1;omega
 ·obtain⟨q1,q2⟩:=h.o4 h1 h2;refine⟨q1,λh3=>?_⟩;obtain⟨r1,r2⟩:=e.Bi ha (q2 h3).1;exact⟨r1,by rw[r2];exact(q2 h3).2⟩
 ·obtain⟨q1,q2⟩:=h.o5 h1 h2;refine⟨q1,λh3=>?_⟩;obtain⟨r1,r2⟩:=e.Bi ha (q2 h3).1;exact⟨r1,by rw[r2];exact(q2 h3).2⟩
end
theorem Lf{c w:Xd}(h:AE c w=true)(hs:Sn c w):c=w:=by
 unfold AE at h;simp only[Bool.and_eq_true,beq_iff_eq] at h;exact hs.2 h.2.1.symm
section
variable{b:Bool}{p p':Pl}{own own':Int->Tk}{k a:Nat}{J:X6}{c:Xf}{x:Xj}
theorem Ll(h:J.pc=-1):Dd b p own k J c:=by constructor<;>intros<;>omega
theorem pk_u1(ho:J.op.kind=1)(hp:J.pc=1)(hc:c=AK):Dd b p own k J c:=by constructor<;>intros<;>first|omega|exact hc
theorem pk_u2(ho:J.op.kind=1)(hp:J.pc=2)(hu:own J.node.sl=.fresh k/\(p.slot J.node.sl).Ap=J.node.gn)(hc:∃v,c=Yf (Xg J.node 1) v):Dd b p own k J c:=by
 constructor<;>intros<;>first|omega|exact hu|exact hc
theorem wZ(ho:J.op.kind=1)(hp:J.pc=3)(hu:own J.node.sl=.fresh k/\(p.slot J.node.sl).Ap=J.node.gn)(hc:c=X8 (root 0)):Dd b p own k J c:=by
 constructor<;>intros<;>first|omega|exact hu|exact hc
theorem pk_u4(ho:J.op.kind=1)(hp:J.pc=4)(hu:own J.node.sl=.fresh k/\(p.slot J.node.sl).Ap=J.node.gn)(hc:c=Yf (Xg J.node 2) (AF J.By)/\Sn (p.board 0) J.By):Dd b p own k J c:=by
 constructor<;>intros<;>first|omega|exact hu|exact hc
theorem pk_u5(ho:J.op.kind=1)(hp:J.pc=5)(hu:own J.node.sl=.fresh k/\(p.slot J.node.sl).Ap=J.node.gn)
  (hc:c=Xx (root 0) J.By (BC J.By J.node)/\Sn (p.board 0) J.By/\((p.slot J.node.sl).cell 2).sl=J.By.sl/\((p.slot J.node.sl).cell 2).gn=J.By.gn):Dd b p own k J c:=by
 constructor<;>intros<;>first|omega|exact hu|exact hc
theorem xC(ho:J.op.kind≠1)(hp:J.pc=1)(hc:c=X9 (root 0) 0):Dd b p own k J c:=by constructor<;>intros<;>first|omega|exact hc
theorem pk_o2(ho:J.op.kind≠1)(hp:J.pc=2)(hc:c=X8 (Xg J.By 2)/\Sn (p.board 0) J.By/\J.By.sl≠0/\J.op.kind≠3):Dd b p own k J c:=by constructor<;>intros<;>first|omega|exact hc
theorem pk_o3(ho:J.op.kind≠1)(hp:J.pc=3)
  (hc:∃v,c=Xx (root 0) J.By (BC J.By v)/\Sn (p.board 0) J.By/\J.By.sl≠0/\J.op.kind≠3/\(p.board 0=J.By->((p.slot J.By.sl).cell 2).sl=v.sl/\((p.slot J.By.sl).cell 2).gn=v.gn)):Dd b p own k J c:=by
 constructor<;>intros<;>first|omega|exact hc
theorem xB(ho:J.op.kind≠1)(hp:J.pc=4)(hc:c=X8 (Xg J.By 1)/\(J.op.kind≠3->own J.By.sl=.Bi k/\(p.slot J.By.sl).Ap=J.By.gn)):Dd b p own k J c:=by
 constructor<;>intros<;>first|omega|exact hc
theorem xA(ho:J.op.kind≠1)(hp:J.pc=5)(hc:c=AU J.By/\(b=true->own J.By.sl=.Bi k/\(p.slot J.By.sl).Ap=J.By.gn)):Dd b p own k J c:=by
 constructor<;>intros<;>first|omega|exact hc
def PL(p:Pl)(own:Int->Tk)(k:Nat)(J:X6)(x:Xj)(p':Pl):Prop:=
 ∃own',BN p' own'/\Bs k rP p own p' own'/\Dd true p' own' k (J.next x).1 (J.next x).2/\∀s,own' s=.note k↔own s=.note k
theorem Co(h:BN p own)(e:X3 p p')(hk:Dd true p' own k (J.next x).1 (J.next x).2):PL p own k J x p':=⟨own,h.alike e,Bs.alike e,hk,λ_=>Iff.rfl⟩
theorem fV(h:BN p own)(hk:Dd false p own k J c)(hs:Sem p own c x p')(hpc:J.pc≠-1)(ho:J.op.kind=1)(t0:0<=(p.board 0).tg)(t1:(p.board 0).tg<9000000000000000000):PL p own k J x p':=by
 have hn:∀x,J.next x=J.push x:=λx=>by unfold X6.next;rw[ho];rfl
 have hp:=hk.pc;have hp:J.pc=0\/J.pc=1\/J.pc=2\/J.pc=3\/J.pc=4\/J.pc=5:=Zo;rcases hp with hp|hp|hp|hp|hp|hp
 ·have hc:=hk.c0 hp;have he:J.push x=({J with pc:=1},AK):=by unfold X6.push;rw[hp];rfl
  have hK:∀q o,Dd true q o k (J.next x).1 (J.next x).2:=λq o=>by rw[hn,he];exact pk_u1 ho rfl rfl
  cases hs<;>first|omega|exact Co h (by assumption) (hK _ _)
 ·have hc:=hk.u1 ho hp;subst hc;have hkind:AK.kind=8:=rfl;cases hs with
  |@alloc s _ hf h0 e hw hg hok=>
   have he:J.push x=({J with node:=x.word,pc:=2},Yf (Xg x.word 1) (Y5 J.op.val)):=by unfold X6.push;rw[hp,hok];rfl
   have hq:=h.alloc (k:=k) (ce:=rP) hf h0 e;refine⟨_,hq.1,hq.2,?_,λt=>?_⟩
   ·rw[hn,he];refine pk_u2 ho rfl ⟨?_,?_⟩ ⟨_,rfl⟩
    ·show Ah own s (.fresh k) x.word.sl=_;rw[hw,Xy]
    ·show(p'.slot x.word.sl).Ap=x.word.gn;rw[hw,hg]
   ·rw[X2];by_cases e':t=s
    ·rw[if_pos e',e',hf];simp
    ·rw[if_neg e']
  |Kg _ e hok=>
   have he:J.push x=J.done 4 0:=by unfold X6.push;rw[hp,hok];rfl
   exact Co h e (by rw[hn,he];exact Ll rfl)
  |_=>omega
 ·obtain⟨v,hc⟩:=hk.u2 ho hp;subst hc;have hu:=hk.un ho Zo;have hkind:(Yf (Xg J.node 1) v).kind=4:=rfl;have he:J.push x=({J with pc:=3},X8 (root 0)):=by unfold X6.push;rw[hp];rfl
  cases hs with
  |store _ hl e=>
   have hq:=h.store (ce:=rP) (s:=J.node.sl) hu.1 e;exact⟨own,hq.1,hq.2,by rw[hn,he];exact wZ ho rfl ⟨hu.1,by rw[←hu.2];exact(e.Ap _).1⟩ rfl,λ_=>Iff.rfl⟩
  |JS _ hl e=>exact absurd (show Lv p own J.node.sl J.node.gn from⟨by rw[hu.1];simp,hu.2⟩) hl
  |_=>omega
 ·have hc:=hk.u3 ho hp;subst hc;have hu:=hk.un ho Zo;have hkind:(X8 (root 0)).kind=3:=rfl;have he:J.push x=({J with By:=x.word,pc:=4},Yf (Xg J.node 2) (AF x.word)):=by unfold X6.push;rw[hp];rfl
  cases hs with
  |look _ e hx _=>
   have hx:x.word=p.board 0:=hx (Or.inl rfl);exact Co h e (by rw[hn,he];exact pk_u4 ho rfl ⟨hu.1,by rw[←hu.2,e.slot]⟩ ⟨rfl,by show Sn _ x.word;rw[e.BP 0 Zd Zd,hx];exact Sn.refl⟩)
  |_=>omega
 ·obtain⟨hc,hsn⟩:=hk.u4 ho hp;subst hc;have hu:=hk.un ho Zo;have hkind:(Yf (Xg J.node 2) (AF J.By)).kind=4:=rfl;have he:J.push x=({J with pc:=5},Xx (root 0) J.By (BC J.By J.node)):=by unfold X6.push;rw[hp];rfl
  cases hs with
  |store _ hl e=>
   have e:IQ p p' J.node.sl 2 (AF J.By):=e;have hq:=h.store (ce:=rP) (s:=J.node.sl) hu.1 e;refine⟨own,hq.1,hq.2,?_,λ_=>Iff.rfl⟩;rw[hn,he];have h2:(p'.slot J.node.sl).cell 2=AF J.By:=by
    rw[e.slot,if_pos rfl];show Ah (p.slot J.node.sl).cell 2 (AF J.By) 2=_;exact Xy ..
   exact pk_u5 ho rfl ⟨hu.1,by rw[←hu.2];exact(e.Ap _).1⟩ ⟨rfl,by rw[e.BP 0 Zd Zd];exact hsn,by show((p'.slot J.node.sl).cell 2).sl=_;rw[h2];rfl,by show((p'.slot J.node.sl).cell 2).gn=_;rw[h2];rfl⟩
  |JS _ hl e=>exact absurd (show Lv p own J.node.sl J.node.gn from⟨by rw[hu.1];simp,hu.2⟩) hl
  |_=>omega
 ·obtain⟨hc,hsn,h1,h2⟩:=hk.u5 ho hp;subst hc;have hu:=hk.un ho Zo;have hkind:(Xx (root 0) J.By (BC J.By J.node)).kind=5:=rfl;cases hs with
  |FW _ e hok=>
   have he:J.push x=({J with pc:=3},X8 (root 0)):=by unfold X6.push;rw[hp,hok];rfl
   exact Co h e (by rw[hn,he];exact wZ ho rfl ⟨hu.1,by rw[←hu.2,e.slot]⟩ rfl)
  |D0 _ h0 hw e hok=>
   have he:J.push x=J.done 1 0:=by unfold X6.push;rw[hp,hok];rfl
   have hw:p.board 0=J.By:=Lf hw hsn;have e:KN p p' 0 (BC J.By J.node):=e;have hq:=h.Lk (ce:=rP) (i:=none) (s:=J.node.sl) e.link trivial hu.1 (by show((p.slot J.node.sl).cell 2).sl=(p.board 0).sl;rw[h1,hw]) (λ_=>by show((p.slot J.node.sl).cell 2).gn=(p.board 0).gn;rw[h2,hw]) rfl hu.2.symm
    (by show wr (J.By.tg+1)=(p.board 0).tg+1;rw[hw] at t0 t1 ⊢;exact Iy Zo Zo) (λ_ e=>by cases e)
   refine⟨_,hq.1,hq.2,by rw[hn,he];exact Ll rfl,λt=>?_⟩;rw[X2];by_cases e':t=J.node.sl
   ·rw[if_pos e',e',hu.1];simp
   ·rw[if_neg e']
  |D8 _ h0=>exact absurd rfl h0
  |_=>omega
theorem nN(h:BN p own)(hk:Dd false p own k J c)(hs:Sem p own c x p')(hpc:J.pc≠-1)(ho:J.op.kind≠1)(t0:0<=(p.board 0).tg)(t1:(p.board 0).tg<9000000000000000000):PL p own k J x p':=by
 have hn:∀x,J.next x=J.pop x:=λx=>by unfold X6.next;rw[show(J.op.kind==1)=false from by simp[ho]];rfl
 have hp:=hk.pc;have hp:J.pc=0\/J.pc=1\/J.pc=2\/J.pc=3\/J.pc=4\/J.pc=5:=Zo;rcases hp with hp|hp|hp|hp|hp|hp
 ·have hc:=hk.c0 hp;have he:J.pop x=({J with pc:=1},X9 (root 0) 0):=by unfold X6.pop;rw[hp];rfl
  have hK:∀q o,Dd true q o k (J.next x).1 (J.next x).2:=λq o=>by rw[hn,he];exact xC ho rfl rfl
  cases hs<;>first|omega|exact Co h (by assumption) (hK _ _)
 ·have hc:=hk.o1 ho hp;subst hc;have hkind:(X9 (root 0) 0).kind=6:=rfl;cases hs with
  |look _ e hx _=>
   have hx:x.word=p.board 0:=hx (Or.inl rfl);have hsn:Sn (p'.board 0) x.word:=by rw[e.BP 0 Zd Zd,hx];exact Sn.refl
   refine Co h e ?_;rw[hn];by_cases hz:x.word.sl=0
   ·have he:J.pop x=X6.done {J with By:=x.word} 2 0:=by unfold X6.pop;rw[hp];simp[hz]
    rw[he];exact Ll rfl
   ·by_cases h3:J.op.kind=3
    ·have he:J.pop x=({J with By:=x.word,pc:=4},X8 (Xg x.word 1)):=by unfold X6.pop;rw[hp];simp[hz,h3]
     rw[he];exact xB ho rfl ⟨rfl,λh=>absurd h3 h⟩
    ·have he:J.pop x=({J with By:=x.word,pc:=2},X8 (Xg x.word 2)):=by unfold X6.pop;rw[hp];simp[hz,h3]
     rw[he];exact pk_o2 ho rfl ⟨rfl,hsn,hz,h3⟩
  |_=>omega
 ·obtain⟨hc,hsn,hz,h3⟩:=hk.o2 ho hp;subst hc;have hkind:(X8 (Xg J.By 2)).kind=3:=rfl;have he:J.pop x=({J with pc:=3},Xx (root 0) J.By (BC J.By x.word)):=by unfold X6.pop;rw[hp];rfl
  cases hs with
  |look _ e hx _=>
   refine Co h e ?_;rw[hn,he];refine pk_o3 ho rfl ⟨x.word,rfl,by rw[e.BP 0 Zd Zd];exact hsn,hz,h3,λhr=>?_⟩;rw[e.BP 0 Zd Zd] at hr;have hc:=h.shape.s1 none trivial (by show(p.board 0).sl≠0;rw[hr];exact hz);rw[show lk p none=p.board 0 from rfl,hr] at hc;have hx:=hx (Or.inr ⟨by show own J.By.sl≠.free;rw[hc.1];simp,hc.2⟩);have hg:p.get (Xg J.By 2)=(p.slot J.By.sl).cell 2:=by
    unfold Pl.get;rw[show((Xg J.By 2).sl==0)=false from by show(J.By.sl==0)=false;simp[hz]];rfl
   have hx:x.word=(p.slot J.By.sl).cell 2:=hx.trans hg;show((p'.slot J.By.sl).cell 2).sl=x.word.sl/\((p'.slot J.By.sl).cell 2).gn=x.word.gn;rw[e.slot,hx];exact⟨rfl,rfl⟩
  |_=>omega
 ·obtain⟨v,hc,hsn,hz,h3,hnx⟩:=hk.o3 ho hp;subst hc;have hkind:(Xx (root 0) J.By (BC J.By v)).kind=5:=rfl;cases hs with
  |FW _ e hok=>
   have he:J.pop x=({J with pc:=1},X9 (root 0) 0):=by unfold X6.pop;rw[hp,hok];rfl
   exact Co h e (by rw[hn,he];exact xC ho rfl rfl)
  |D0 _ h0 hw e hok=>
   have he:J.pop x=({J with pc:=4},X8 (Xg J.By 1)):=by unfold X6.pop;rw[hp,hok];rfl
   have hw:p.board 0=J.By:=Lf hw hsn;have e:KN p p' 0 (BC J.By v):=e;have hq:=h.unlink (k:=k) (ce:=rP) (i:=none) (s:=J.By.sl) e.link trivial (by show(p.board 0).sl=_;rw[hw]) hz (hnx hw).1.symm (hnx hw).2.symm Zs
    (by show wr (J.By.tg+1)=(p.board 0).tg+1;rw[hw] at t0 t1 ⊢;exact Iy Zo Zo) (λ_ e=>by cases e)
   refine⟨_,hq.2.2.1,hq.2.2.2,?_,λt=>?_⟩
   ·rw[hn,he];refine xB ho rfl ⟨rfl,λ_=>⟨?_,?_⟩⟩
    ·show Ah own J.By.sl (.Bi k) J.By.sl=_;rw[Xy]
    ·show(p'.slot J.By.sl).Ap=J.By.gn;rw[e.slot,hq.2.1];show(p.board 0).gn=_;rw[hw]
   ·rw[X2];by_cases e':t=J.By.sl
    ·rw[if_pos e',e',hq.1];simp
    ·rw[if_neg e']
  |D8 _ h0=>exact absurd rfl h0
  |_=>omega
 ·obtain⟨hc,hq⟩:=hk.o4 ho hp;subst hc;have hkind:(X8 (Xg J.By 1)).kind=3:=rfl;cases hs with
  |look _ e _ _=>
   refine Co h e ?_;rw[hn];by_cases h3:J.op.kind=3
   ·have he:J.pop x=X6.done {J with val:=x.word.nm} 1 x.word.nm:=by unfold X6.pop;rw[hp];simp[h3]
    rw[he];exact Ll rfl
   ·have he:J.pop x=({J with val:=x.word.nm,pc:=5},AU J.By):=by unfold X6.pop;rw[hp];simp[h3]
    rw[he];exact xA ho rfl ⟨rfl,λ_=>by show own J.By.sl=_/\(p'.slot J.By.sl).Ap=_;rw[e.slot];exact hq h3⟩
  |_=>omega
 ·have hc:=(hk.o5 ho hp).1;subst hc;have hkind:(AU J.By).kind=10:=rfl;have he:J.pop x=J.done 1 J.val:=by unfold X6.pop;rw[hp];rfl
  cases hs with
  |calm _ e=>exact Co h e (by rw[hn,he];exact Ll rfl)
  |_=>omega
theorem XQ(h:BN p own)(hk:Dd true p own k J c)(hc:c.kind=10)(hpc:J.pc≠-1):own c.A1.sl=.Bi k/\(p.slot c.A1.sl).Ap=c.A1.gn/\BN p (Ah own c.A1.sl (.note (k+1000)))/\Bs k rP p own p (Ah own c.A1.sl (.note (k+1000)))/\Dd false p (Ah own c.A1.sl (.note (k+1000))) k J c:=by
 have hp:=hk.pc;by_cases ho:J.op.kind=1
 ·exfalso;have hp:J.pc=0\/J.pc=1\/J.pc=2\/J.pc=3\/J.pc=4\/J.pc=5:=Zo;rcases hp with hp|hp|hp|hp|hp|hp
  ·have:=hk.c0 hp;omega
  ·rw[hk.u1 ho hp] at hc;cases hc
  ·obtain⟨v,e⟩:=hk.u2 ho hp;rw[e] at hc;cases hc
  ·rw[hk.u3 ho hp] at hc;cases hc
  ·rw[(hk.u4 ho hp).1] at hc;cases hc
  ·rw[(hk.u5 ho hp).1] at hc;cases hc
 ·have h5:J.pc=5:=by
   have hp:J.pc=0\/J.pc=1\/J.pc=2\/J.pc=3\/J.pc=4\/J.pc=5:=Zo;rcases hp with hp|hp|hp|hp|hp|hp
   ·have:=hk.c0 hp;omega
   ·rw[hk.o1 ho hp] at hc;cases hc
   ·rw[(hk.o2 ho hp).1] at hc;cases hc
   ·obtain⟨v,e,_⟩:=hk.o3 ho hp;rw[e] at hc;cases hc
   ·rw[(hk.o4 ho hp).1] at hc;cases hc
   ·exact hp
  obtain⟨e,hq⟩:=hk.o5 ho h5;subst e;have hq:=hq rfl;have hr:=h.retire (ce:=rP) hq.1;exact⟨hq.1,hq.2,hr.1,hr.2,xA ho h5 ⟨rfl,λe=>by cases e⟩⟩
end
structure CQ(p:Pl)(own:Int->Tk):Prop where
 head:(p.board 0).sl≠0
 tail:(p.board 1).sl≠0
 pd1:PD p own (p.board 1)
 pd:∀s,own s≠.free->(own s).Ax=false->PD p own ((p.slot s).cell 2)
 closed:∀s,own s≠.free->(own s).Ax=false->own s≠.chain->((p.slot s).cell 2).sl≠0
def Tg:Int->Xd->Xd->Prop:=λf o n=>f=2/\o.sl=0/\n.sl≠0
structure Em(b:Bool)(p:Pl)(own:Int->Tk)(k:Nat)(J:Yd)(c:Xf):Prop where
 pc:J.pc=-1\/(0<=J.pc/\J.pc<=8)
 c0:J.pc=0->c.kind=1
 u1:J.op.kind=4->J.pc=1->c=AK
 un:J.op.kind=4->2<=J.pc->J.pc<=7->own J.node.sl=.fresh k/\(p.slot J.node.sl).Ap=J.node.gn/\((p.slot J.node.sl).cell 2).sl=0
 u2:J.op.kind=4->J.pc=2->∃v,c=Yf (Xg J.node 1) v
 u3:J.op.kind=4->J.pc=3->c=X9 (root 1) 0
 ut:J.op.kind=4->4<=J.pc->J.pc<=8->J.t.sl≠0/\PD p own J.t
 u4:J.op.kind=4->J.pc=4->c=X8 (Xg J.t 2)
 ux:J.op.kind=4->5<=J.pc->J.pc<=6->PD p own J.n
 u5:J.op.kind=4->J.pc=5->c=X8 (root 1)
 u6:J.op.kind=4->J.pc=6->c=Xx (root 1) J.t (BC J.t J.n)/\J.n.sl≠0
 u7:J.op.kind=4->J.pc=7->c=Xx (Xg J.t 2) J.n (BC J.n J.node)/\J.n.sl=0
 u8:J.op.kind=4->J.pc=8->c=Xx (root 1) J.t (BC J.t J.node)/\J.node.sl≠0/\PD p own J.node
 o1:J.op.kind≠4->J.pc=1->c=X9 (root 0) 0
 oh:J.op.kind≠4->2<=J.pc->J.pc<=7->J.h.sl≠0/\PD p own J.h/\Sn (p.board 0) J.h
 o2:J.op.kind≠4->J.pc=2->c=X8 (root 1)
 o3:J.op.kind≠4->J.pc=3->c=X9 (Xg J.h 2) 1
 on:J.op.kind≠4->4<=J.pc->J.pc<=7->PD p own J.n/\(J.n.sl≠0->p.board 0=J.h->((p.slot J.h.sl).cell 2).sl=J.n.sl/\((p.slot J.h.sl).cell 2).gn=J.n.gn)
 o4:J.op.kind≠4->J.pc=4->c=X8 (root 0)
 o5:J.op.kind≠4->J.pc=5->c=Xx (root 1) J.t (BC J.t J.n)/\J.n.sl≠0
 o6:J.op.kind≠4->J.pc=6->c.kind=3/\J.n.sl≠0
 o7:J.op.kind≠4->J.pc=7->c=Xx (root 0) J.h (BC J.h J.n)/\J.n.sl≠0
 o8:J.op.kind≠4->J.pc=8->c=AU J.h/\(b=true->own J.h.sl=.Bi k/\(p.slot J.h.sl).Ap=J.h.gn)
section
variable{b:Bool}{p p':Pl}{own own':Int->Tk}{k a:Nat}{J:Yd}{c:Xf}{x:Xj}
theorem Em.A9(h:Em b p own k J c)(e:Bs a Tg p own p' own')(ha:k≠a)(hb:BN p own):Em b p' own' k J c:=by
 refine ⟨h.pc,h.c0,h.u1,fun h1 h2 h3=>?_,h.u2,h.u3,fun h1 h2 h3=>⟨(h.ut h1 h2 h3).1,(h.ut h1 h2 h3).2.A9 e⟩,h.u4,fun h1 h2 h3=>(h.ux h1 h2 h3).A9 e,h.u5,h.u6,h.u7,
  λh1 h2=>⟨(h.u8 h1 h2).1,(h.u8 h1 h2).2.1,(h.u8 h1 h2).2.2.A9 e⟩,h.o1,λh1 h2 h3=>⟨(h.oh h1 h2 h3).1,(h.oh h1 h2 h3).2.1.A9 e,e.root Zd Zd (h.oh h1 h2 h3).2.2⟩,h.o2,h.o3,
  λh1 h2 h3=>⟨(h.on h1 h2 h3).1.A9 e,λh4 hr=>?_⟩,h.o4,h.o5,h.o6,h.o7,λh1 h2=>?_⟩
 ·obtain⟨q1,q2⟩:=h.un h1 h2 h3;obtain⟨r1,r2⟩:=e.fresh ha q1;exact⟨r1,by rw[r2];exact q2⟩
 ·obtain⟨q1,_,q3⟩:=h.oh h1 Zo h3;rcases e.rt 0 Zd Zd with h5|h5
  ·rw[h5] at hr;have hc:=hb.shape.s1 none trivial (by show(p.board 0).sl≠0;rw[hr];exact q1);have hc:own J.h.sl=.chain:=by have:=hc.1;rw[show lk p none=p.board 0 from rfl,hr] at this;exact this
   have hq:=(h.on h1 h2 h3).2 h4 hr;rcases(e.Iv J.h.sl (by rw[hc];simp) (by rw[hc];rfl) (e.ch _ hc)).2.2 2 with hp|hp
   ·rw[hp];exact hq
   ·exact absurd hp.1.2.1 (by rw[hq.1];exact h4)
  ·rw[hr] at h5;have:=q3.1;omega
 ·obtain⟨q1,q2⟩:=h.o8 h1 h2;refine⟨q1,λh3=>?_⟩;obtain⟨r1,r2⟩:=e.Bi ha (q2 h3).1;exact⟨r1,by rw[r2];exact(q2 h3).2⟩
theorem CQ.A9(h:CQ p own)(e:Bs a Tg p own p' own')(h0:(p'.board 0).sl≠0)(h1:(p'.board 1).sl≠0)(hp1:p'.board 1=p.board 1\/PD p' own' (p'.board 1))
  (hn:∀s,own' s≠.free->(own' s).Ax=false->(own s≠.free/\(own s).Ax=false/\(p'.slot s).cell 2=(p.slot s).cell 2)\/PD p' own' ((p'.slot s).cell 2))
  (hcl:∀s,own' s≠.free->(own' s).Ax=false->own' s≠.chain->(own s≠.free/\(own s).Ax=false/\own s≠.chain)\/((p'.slot s).cell 2).sl≠0):CQ p' own':=by
 refine⟨h0,h1,?_,λs a1 a2=>?_,λs a1 a2 a3=>?_⟩
 ·rcases hp1 with e'|e'
  ·rw[e'];exact h.pd1.A9 e
  ·exact e'
 ·rcases hn s a1 a2 with⟨b1,b2,b3⟩|b
  ·rw[b3];exact(h.pd s b1 b2).A9 e
  ·exact b
 ·rcases hcl s a1 a2 a3 with⟨b1,b2,b3⟩|b
  ·have hz:=h.closed s b1 b2 b3;rcases(e.Iv s b1 b2 a1).2.2 2 with hp|hp
   ·rw[hp];exact hz
   ·exact absurd hp.1.2.1 hz
  ·exact b
end
end Go.Proofs.YtaipogljokblkaaGreatDoor
