/- Core: BdR, BdS, BdT, BdU. -/
import Derived.Test.YtaipogljokblkaaGreatDoorW42
import Derived.Test.YtaipogljokblkaaGreatDoorW01
set_option linter.all false
set_option maxRecDepth 100000
set_option maxHeartbeats 8000000
namespace Go.Proofs.YtaipogljokblkaaGreatDoor
open Go Go.RowKit
set_option linter.unusedSimpArgs false
set_option linter.unusedVariables false
set_option linter.unusedSectionVars false
def FE(p:Pl)(own:Int->Tk)(k:Nat)(J:Xi)(x:Xj)(p':Pl):Prop:=
 ∃own',BN p' own'/\LQ p' own'/\Bs k Ie p own p' own'/\CS true p' own' k (J.next x).1 (J.next x).2/\∀s,own' s=.note k↔own s=.note k
section
variable{b:Bool}{p p':Pl}{own own':Int->Tk}{k a:Nat}{J:Xi}{W:Xq}{c:Xf}{x:Xj}{s f:Int}{w:Xd}
theorem Dg(h:BN p own)(hq:LQ p own)(e:X3 p p')(hk:CS true p' own k (J.next x).1 (J.next x).2):FE p own k J x p':=⟨own,h.alike e,hq.alike e,Bs.alike e,hk,λ_=>Iff.rfl⟩
theorem jP(h:FT p own W)(e:X3 p p'):FT p' own W:=h.A9 (a:=0) (Bs.alike e)
theorem aO(h:own s=.fresh k/\(p.slot s).Ap=f)(e:X3 p p'):own s=.fresh k/\(p'.slot s).Ap=f:=by rw[e.slot];exact h
theorem LQ.alloc(h:LQ p own)(hf:own s=.free)(e:jH p p' s)(ev:Bs a Ie p own p' (Ah own s (.fresh k))):LQ p' (Ah own s (.fresh k)):=by
 refine h.same ev e.BP λt a1 a2=>?_;have ht:t≠s:=λe'=>by rw[e',Xy] at a2;cases a2
 rw[X2,if_neg ht] at a1 a2;exact⟨a1,a2,λh=>by rw[X2,if_neg ht] at h;exact h,by rw[e.Av t ht]⟩
theorem LQ.store(h:LQ p own)(hf:own s=.fresh k)(e:IQ p p' s f w)(ev:Bs a Ie p own p' own):LQ p' own:=by
 refine h.same ev e.BP λt a1 a2=>?_;have ht:t≠s:=λe'=>by rw[e',hf] at a2;cases a2
 exact⟨a1,a2,id,by rw[e.Av ht]⟩
theorem LQ.free(h:LQ p own)(e:PY p p' s)(ev:Bs a Ie p own p' (Ah own s .free)):LQ p' (Ah own s .free):=by
 refine h.same ev e.BP λt a1 a2=>?_;have ht:t≠s:=λe'=>by rw[e',Xy] at a1;exact a1 rfl
 rw[X2,if_neg ht] at a1 a2;exact⟨a1,a2,λh=>by rw[X2,if_neg ht] at h;exact h,by rw[e.Av t ht]⟩
theorem OE(h:BN p own)(hq:LQ p own)(hf:own s=.free)(h0:s≠0)(e:jH p p' s)(hw:w.sl=s)(hg:w.gn=(p'.slot s).Ap):
  BN p' (Ah own s (.fresh k))/\LQ p' (Ah own s (.fresh k))/\Bs k Ie p own p' (Ah own s (.fresh k))/\(Ah own s (.fresh k) w.sl=.fresh k/\(p'.slot w.sl).Ap=w.gn)/\∀t,Ah own s (.fresh k) t=.note k↔own t=.note k:=by
 have hr:=h.alloc (k:=k) (ce:=Ie) hf h0 e
 refine⟨hr.1,hq.alloc hf e hr.2,hr.2,⟨by rw[hw,Xy],by rw[hw,hg]⟩,λt=>?_⟩
 rw[X2];by_cases e':t=s
 ·rw[if_pos e',e',hf];simp
 ·rw[if_neg e']
theorem G9{n v:Xd}(h:BN p own)(hq:LQ p own)(hu:own n.sl=.fresh k/\(p.slot n.sl).Ap=n.gn)(hs:Sem p own (Yf (Xg n f) v) x p'):
  BN p' own/\LQ p' own/\Bs k Ie p own p' own/\(own n.sl=.fresh k/\(p'.slot n.sl).Ap=n.gn)/\(p'.slot n.sl).cell f=v:=by
 have hkind:(Yf (Xg n f) v).kind=4:=rfl
 cases hs with
 |store _ hl e=>
  have e:IQ p p' n.sl f v:=e
  have hr:=h.store (ce:=Ie) hu.1 e
  exact⟨hr.1,hq.store hu.1 e hr.2,hr.2,⟨hu.1,by rw[(e.Ap _).1];exact hu.2⟩,by rw[e.slot,if_pos rfl];show Ah (p.slot n.sl).cell f v f=v;exact Xy ..⟩
 |JS _ hl e=>exact absurd (show Lv p own n.sl n.gn from⟨by rw[hu.1];simp,hu.2⟩) hl
 |_=>omega
theorem QS{n:Xd}(h:BN p own)(hq:LQ p own)(hu:own n.sl=.fresh k/\(p.slot n.sl).Ap=n.gn)(hs:Sem p own (GG n) x p'):
  BN p' (Ah own n.sl .free)/\LQ p' (Ah own n.sl .free)/\Bs k Ie p own p' (Ah own n.sl .free)/\∀t,Ah own n.sl .free t=.note k↔own t=.note k:=by
 have hkind:(GG n).kind=9:=rfl
 cases hs with
 |drop _ hl e=>
  have e:PY p p' n.sl:=e
  have hr:=h.free (ce:=Ie) (Or.inl hu.1) e
  refine⟨hr.1,hq.free e hr.2,hr.2,λt=>?_⟩
  rw[X2];by_cases e':t=n.sl
  ·rw[if_pos e',e',hu.1];simp
  ·rw[if_neg e']
 |YQ _ hl e=>exact absurd (show Lv p own n.sl n.gn from⟨by rw[hu.1];simp,hu.2⟩) hl
 |_=>omega
theorem ZN{i:Option Int}{o:Xd}(tb:Me p)(ho:lk p i=o):wr (o.tg+1)=o.tg+1:=by
 have:0<=o.tg/\o.tg<9000000000000000000:=by
  rw[←ho];cases i with
  |none=>exact tb.BP 0 Zd Zd
  |some s=>exact tb.cell s 2
 exact Iy Zo Zo
theorem YC(h:BN p own)(hq:LQ p own)(hk:CS false p own k J c)(hs:Sem p own c x p')(hpc:J.pc≠-1)(ho:J.op.kind=6)(tb:Me p):FE p own k J x p':=by
 have hn:∀x,J.next x=J.insert x:=λx=>by unfold Xi.next;rw[if_pos (by simp[ho])]
 have hp:=hk.pc;have hp:J.pc=0\/J.pc=1\/J.pc=2\/J.pc=3\/J.pc=4\/J.pc=5\/J.pc=6\/J.pc=7:=Zo;rcases hp with hp|hp|hp|hp|hp|hp|hp|hp
 ·have hc:=hk.c0 hp;have hK:∀e:X3 p p',FE p own k J x p':=λe=>Dg h hq e (JZ (hk.st.al e) hp);cases hs<;>first|omega|exact hK (by assumption)
 ·have hc:=hk.u1 ho hp;subst hc;have hkind:AK.kind=8:=rfl;cases hs with
  |@alloc s _ hf h0 e hw hg hok=>
   have he:J.insert x=({J with node:=x.word,pc:=2},Yf (Xg x.word 0) (Y5 J.key)):=by unfold Xi.insert;simp[hp,hok]
   obtain⟨r1,r2,r3,r4,r5⟩:=OE (k:=k) h hq hf h0 e hw hg;exact⟨_,r1,r2,r3,by rw[hn,he];exact li_u2 (J:={J with node:=x.word,pc:=2}) (hk.st.A9 r3) ho rfl r4 ⟨_,rfl⟩,r5⟩
  |Kg _ e hok=>
   have he:J.insert x=J.done 4 0:=by unfold Xi.insert;simp[hp,hok]
   exact Dg h hq e (by rw[hn,he];exact I9 (J:=(J.done 4 0).1) (hk.st.al e) rfl rfl)
  |_=>omega
 ·obtain⟨v,hc⟩:=hk.u2 ho hp;subst hc;have he:J.insert x=({J with pc:=3},Yf (Xg J.node 1) (Y5 J.op.val)):=by unfold Xi.insert;simp[hp]
  obtain⟨r1,r2,r3,r4,_⟩:=G9 h hq (hk.un ho Zo) hs;exact⟨_,r1,r2,r3,by rw[hn,he];exact li_u3 (J:={J with pc:=3}) (hk.st.A9 r3) ho rfl r4 ⟨_,rfl⟩,λ_=>Iff.rfl⟩
 ·obtain⟨v,hc⟩:=hk.u3 ho hp;subst hc;have he:J.insert x=(J.An 4).BK x:=by unfold Xi.insert;simp[hp]
  obtain⟨r1,r2,r3,r4,_⟩:=G9 h hq (hk.un ho Zo) hs;exact⟨_,r1,r2,r3,by rw[hn,he];exact SD (J:=J.An 4) (hk.st.A9 r3) ho rfl r4 rfl (EZ (hk.st.A9 r3)),λ_=>Iff.rfl⟩
 ·obtain⟨W,hw,hkW⟩:=hk.u4 ho hp;have hu:=hk.un ho Zo;have he:J.insert x=J.BK x:=by unfold Xi.insert;simp[hp]
  obtain⟨own',a1,a2,a3,a4,a5,a6⟩:=Hu h hq hkW hs tb;exact⟨own',a1,a2,a3,by rw[hn,he];exact SD (hk.st.A9 a3) ho hp ⟨(a6 _ hu.1).1,by rw[(a6 _ hu.1).2];exact hu.2⟩ hw a4,a5⟩
 ·have hc:=hk.u5 ho hp;subst hc;have he:J.insert x=J.done 3 0:=by unfold Xi.insert;simp[hp]
  obtain⟨r1,r2,r3,r4⟩:=QS h hq (hk.un ho Zo) hs;exact⟨_,r1,r2,r3,by rw[hn,he];exact I9 (J:=(J.done 3 0).1) (hk.st.A9 r3) rfl rfl,r4⟩
 ·have hc:=hk.u6 ho hp;subst hc;obtain⟨W,hw,hE⟩:=hk.ue ho Zo;have he:J.insert x=({J with pc:=7},Xx (BF J.walk) (Xs J.walk) (BC (Xs J.walk) J.node)):=by unfold Xi.insert;simp[hp]
  obtain⟨r1,r2,r3,r4,r5⟩:=G9 h hq (hk.un ho Zo) hs;exact⟨_,r1,r2,r3,by rw[hn,he];exact li_u7 (J:={J with pc:=7}) (hk.st.A9 r3) ho rfl r4 hw (hE.A9 r3) ⟨rfl,by show((p'.slot J.node.sl).cell 2).sl=_;rw[r5];rfl,by show((p'.slot J.node.sl).cell 2).gn=_;rw[r5];rfl⟩,λ_=>Iff.rfl⟩
 ·obtain⟨hc,h1,h2⟩:=hk.u7 ho hp;subst hc;have hu:=hk.un ho Zo;obtain⟨W,hw,hE⟩:=hk.ue ho Zo;rw[hw] at hs h1 h2;rcases Ic hq hE.pv hE.um hE.sn hs with⟨hok,e⟩|⟨hok,e,hi,hl,_⟩
  ·have he:J.insert x=(J.An 4).BK x:=by unfold Xi.insert;simp[hp,hok]
   exact Dg h hq e (by rw[hn,he];exact SD (J:=J.An 4) (hk.st.al e) ho rfl (aO hu e) rfl (EZ (hk.st.al e)))
  ·have he:J.insert x=J.done 1 0:=by unfold Xi.insert;simp[hp,hok]
   obtain⟨r1,r2,r3⟩:=Lu h hq e hi hl hE.um hE.Ay hu.1 ⟨h1,h2⟩ ⟨rfl,hu.2.symm,ZN tb hl⟩;refine⟨_,r1,r2,r3,by rw[hn,he];exact I9 (J:=(J.done 1 0).1) (hk.st.A9 r3) rfl rfl,λt=>?_⟩;rw[X2];by_cases e':t=J.node.sl
   ·rw[if_pos e',e',hu.1];simp
   ·rw[if_neg e']
theorem gN{d n:Xd}(h:BN p own)(hq:LQ p own)(h0:d.sl≠0)(hd:PD p own d)(hpn:PD p own n)(hm:n.mark=false)(hsn:R7 p own (Xg d 2) n)(tb:Me p)(hs:Sem p own (Xx (Xg d 2) n (Bg n)) x p'):
  (x.ok=false/\X3 p p')\/(x.ok=true/\BN p' own/\LQ p' own/\Bs k Ie p own p' own/\(p'.slot d.sl).cell 2=Bg n/\Lv p own d.sl d.gn/\own d.sl=.chain):=by
 rcases Ic hq (Jw h0 hd) hm hsn hs with e|⟨hok,e,hi,hl,hv⟩
 ·exact Or.inl e
 ·right;have e0:Hl (Xg d 2)=some d.sl:=if_neg h0;rw[e0] at e hi hl;have hi:own d.sl=.chain:=hi;have hl':(p.slot d.sl).cell 2=n:=hl;have hr:=h.mark (k:=k) (ce:=Ie) e hi (by rw[hl'];rfl) (by rw[hl'];rfl) (by rw[hl'];exact ZN tb hl) ⟨rfl,by rw[hl'];exact hm⟩;refine⟨hok,hr.1,hq.put e hr.2 (λh=>hpn h) (λt a1 a2=>Or.inl ⟨a1,a2⟩) (λt a1 a2 a3=>Or.inl ⟨a1,a2,a3⟩),hr.2,?_,hv.resolve_left h0,hi⟩;rw[e.slot,if_pos rfl];show Ah (p.slot d.sl).cell 2 (Bg n) 2=_;exact Xy ..
theorem YB(h:BN p own)(hq:LQ p own)(hk:CS false p own k J c)(hs:Sem p own c x p')(hpc:J.pc≠-1)(ho:J.op.kind=7)(tb:Me p):FE p own k J x p':=by
 have hn:∀x,J.next x=J.Am x:=λx=>by unfold Xi.next;rw[if_neg (by simp[ho]),if_pos (by simp[ho])]
 have ho6:J.op.kind≠6:=Zo;have hp:=hk.pc;have ht:=(hk.rt ho6).1;have hp:J.pc=0\/J.pc=1\/J.pc=2\/J.pc=3\/J.pc=4\/J.pc=5\/J.pc=6:=Zo;rcases hp with hp|hp|hp|hp|hp|hp|hp
 ·have hc:=hk.c0 hp;have hK:∀e:X3 p p',FE p own k J x p':=λe=>Dg h hq e (JZ (hk.st.al e) hp);cases hs<;>first|omega|exact hK (by assumption)
 ·obtain⟨W,hw,hkW⟩:=hk.r1 ho6 (Or.inl hp);have he:J.Am x=J.AT x:=by unfold Xi.Am;simp[hp]
  obtain⟨own',a1,a2,a3,a4,a5,_⟩:=Hu h hq hkW hs tb;exact⟨own',a1,a2,a3,by rw[hn,he];exact Lt (hk.st.A9 a3) ho6 hp hw a4,a5⟩
 ·obtain⟨W,hw,hE,hf⟩:=hk.r2 ho6 Zo Zo;have hc:=hk.rc ho6 hp;have he:J.Am x=({J with val:=x.word.nm,pc:=3},Xx (Xg (Xs J.walk) 2) (Cm J.walk) (Bg (Cm J.walk))):=by unfold Xi.Am;simp[hp]
  have hK:∀e:X3 p p',FE p own k J x p':=λe=>Dg h hq e (by rw[hn,he];exact li_r3 (J:={J with val:=x.word.nm,pc:=3}) (hk.st.al e) ho6 ho rfl hw (jP hE e) hf rfl);cases hs<;>first|omega|exact hK (by assumption)
 ·obtain⟨W,hw,hE,hf⟩:=hk.r2 ho6 Zo Zo;have hc:=hk.r3 ho6 hp;subst hc;rw[hw] at hs;obtain⟨f1,f2,f3,f4⟩:=hE.nx hf;rcases gN (k:=k) h hq f1 hE.Ay f2 f3 f4 tb hs with⟨hok,e⟩|⟨hok,r1,r2,r3,r4,r5,_⟩
  ·have he:J.Am x=(J.An 1).AT x:=by unfold Xi.Am;simp[hp,hok]
   exact Dg h hq e (by rw[hn,he];exact Lt (J:=J.An 1) (hk.st.al e) ho6 rfl rfl (EZ (hk.st.al e)))
  ·have he:J.Am x=({J with pc:=4},Xx (BF J.walk) (Xs J.walk) (BC (Xs J.walk) (Cm J.walk))):=by unfold Xi.Am;simp[hp,hok]
   exact⟨_,r1,r2,r3,by rw[hn,he];exact li_r4 (J:={J with pc:=4}) (hk.st.A9 r3) ho6 ho rfl hw (hE.A9 r3) hf ⟨rfl,λ_=>by show(p'.slot (Xs J.walk).sl).cell 2=Bg (Cm J.walk);rw[hw];exact r4⟩,λ_=>Iff.rfl⟩
 ·obtain⟨W,hw,hE,hf⟩:=hk.r2 ho6 Zo Zo;obtain⟨hc,hc2⟩:=hk.r4 ho6 hp;subst hc;rw[hw] at hs hc2;obtain⟨f1,f2,f3,f4⟩:=hE.nx hf;rcases Ic hq hE.pv hE.um hE.sn hs with⟨hok,e⟩|⟨hok,e,hi,hl,_⟩
  ·have he:J.Am x=(J.An 6).BI x:=by unfold Xi.Am;simp[hp,hok]
   exact Dg h hq e (by rw[hn,he];exact UU (J:=J.An 6) (hk.st.al e) ho rfl rfl (EZ (hk.st.al e)))
  ·have he:J.Am x=({J with pc:=5},AU (Xs J.walk)):=by unfold Xi.Am;simp[hp,hok]
   have hr:=Nb (k:=k) h hq e hi hl hE.um f1 hc2 rfl (show PD p own (Bg (Cm (some W))) from λh=>f2 h) ⟨rfl,rfl,ZN tb hl⟩;have hfr:=OQ (p:=p) (p':=p') (k:=k) (own:=own) (s:=W.Ay.sl) (by rw[hr.1];simp) (λt ht=>e.Av λe'=>by rw[e'] at hi;have hi:own t=.chain:=hi;rw[ht] at hi;cases hi) hr.1;refine⟨_,hr.2.2.1,hr.2.2.2.1,hr.2.2.2.2,?_,hfr.1⟩;rw[hn,he];refine xH (J:={J with pc:=5}) (hk.st.A9 hr.2.2.2.2) ho6 ho rfl hw (hE.A9 hr.2.2.2.2) hf ⟨rfl,λ_=>?_⟩;show Ah own (Xs (some W)).sl (.Bi k) (Xs J.walk).sl=_/\(p'.slot (Xs J.walk).sl).Ap=(Xs J.walk).gn;rw[hw];exact⟨Xy ..,hr.2.1⟩
 ·have hc:=(hk.r5 ho6 hp).1;subst hc;have hkind:(AU (Xs J.walk)).kind=10:=rfl;have he:J.Am x=J.done 1 J.val:=by unfold Xi.Am;simp[hp]
  cases hs with
  |calm _ e=>exact Dg h hq e (by rw[hn,he];exact I9 (J:=(J.done 1 J.val).1) (hk.st.al e) rfl rfl)
  |_=>omega
 ·obtain⟨W,hw,hkW⟩:=hk.r1 ho6 (Or.inr hp);have he:J.Am x=J.BI x:=by unfold Xi.Am;simp[hp]
  obtain⟨own',a1,a2,a3,a4,a5,_⟩:=Hu h hq hkW hs tb;exact⟨own',a1,a2,a3,by rw[hn,he];exact UU (hk.st.A9 a3) ho hp hw a4,a5⟩
theorem uV(h:BN p own)(hq:LQ p own)(hk:CS false p own k J c)(hs:Sem p own c x p')(hpc:J.pc≠-1)(h6:J.op.kind≠6)(h7:J.op.kind≠7)(tb:Me p):FE p own k J x p':=by
 have hn:∀x,J.next x=J.get x:=λx=>by unfold Xi.next;rw[if_neg (by simp[h6]),if_neg (by simp[h7])]
 have hp:=hk.pc;have ht:=(hk.rt h6).2 h7;have hp:J.pc=0\/J.pc=1\/J.pc=2:=Zo;rcases hp with hp|hp|hp
 ·have hc:=hk.c0 hp;have hK:∀e:X3 p p',FE p own k J x p':=λe=>Dg h hq e (JZ (hk.st.al e) hp);cases hs<;>first|omega|exact hK (by assumption)
 ·obtain⟨W,hw,hkW⟩:=hk.r1 h6 (Or.inl hp);have he:J.get x=J.AT x:=by unfold Xi.get;simp[hp]
  obtain⟨own',a1,a2,a3,a4,a5,_⟩:=Hu h hq hkW hs tb;exact⟨own',a1,a2,a3,by rw[hn,he];exact Lt (hk.st.A9 a3) h6 hp hw a4,a5⟩
 ·have hc:=hk.rc h6 hp;have he:J.get x=J.done 1 x.word.nm:=by unfold Xi.get;simp[hp]
  have hK:∀e:X3 p p',FE p own k J x p':=λe=>Dg h hq e (by rw[hn,he];exact I9 (J:=(J.done 1 x.word.nm).1) (hk.st.al e) rfl rfl);cases hs<;>first|omega|exact hK (by assumption)
theorem UT(h:BN p own)(hq:LQ p own)(hk:CS false p own k J c)(hs:Sem p own c x p')(hpc:J.pc≠-1)(tb:Me p):FE p own k J x p':=by
 by_cases h6:J.op.kind=6
 ·exact YC h hq hk hs hpc h6 tb
 ·by_cases h7:J.op.kind=7
  ·exact YB h hq hk hs hpc h7 tb
  ·exact uV h hq hk hs hpc h6 h7 tb
theorem QR(h:BN p own)(hq:LQ p own)(hk:CS true p own k J c)(hc:c.kind=10):
  own c.A1.sl=.Bi k/\(p.slot c.A1.sl).Ap=c.A1.gn/\BN p (Ah own c.A1.sl (.note (k+1000)))/\LQ p (Ah own c.A1.sl (.note (k+1000)))/\Bs k Ie p own p (Ah own c.A1.sl (.note (k+1000)))/\CS false p (Ah own c.A1.sl (.note (k+1000))) k J c:=by
 have hp:=hk.pc
 have hd:J.pc≠-1:=λe=>by have:=hk.dn.1 e;omega
 have fin:∀{s},own s=.Bi k->own J.node.sl=.fresh k/\(p.slot J.node.sl).Ap=J.node.gn->Ah own s (.note (k+1000)) J.node.sl=.fresh k/\(p.slot J.node.sl).Ap=J.node.gn:=λ{s} hs hu=>by
  rw[X2,if_neg λe=>by rw[e,hs] at hu;cases hu.1];exact hu
 by_cases ho:J.op.kind=6
 ·have hp:J.pc=0\/J.pc=1\/J.pc=2\/J.pc=3\/J.pc=4\/J.pc=5\/J.pc=6\/J.pc=7:=Zo;rcases hp with hp|hp|hp|hp|hp|hp|hp|hp
  ·have:=hk.c0 hp;omega
  ·rw[hk.u1 ho hp] at hc;cases hc
  ·obtain⟨v,e⟩:=hk.u2 ho hp;rw[e] at hc;cases hc
  ·obtain⟨v,e⟩:=hk.u3 ho hp;rw[e] at hc;cases hc
  ·obtain⟨W,hw,hkW⟩:=hk.u4 ho hp;obtain⟨b1,b2,b3⟩:=Kz hkW hc;obtain⟨r1,r2,r3⟩:=Gl h hq b2;exact⟨b2,b3,r1,r2,r3,xG (hk.st.A9 r3) ho hp (fin b2 (hk.un ho Zo)) hw (hkW.noted r3 b1)⟩
  ·rw[hk.u5 ho hp] at hc;cases hc
  ·rw[hk.u6 ho hp] at hc;cases hc
  ·rw[(hk.u7 ho hp).1] at hc;cases hc
 ·have ht:=(hk.rt ho).1;have hp:J.pc=0\/(J.pc=1\/J.pc=6)\/J.pc=2\/J.pc=3\/J.pc=4\/J.pc=5:=Zo;rcases hp with hp|hp|hp|hp|hp|hp
  ·have:=hk.c0 hp;omega
  ·obtain⟨W,hw,hkW⟩:=hk.r1 ho hp;obtain⟨b1,b2,b3⟩:=Kz hkW hc;obtain⟨r1,r2,r3⟩:=Gl h hq b2;have h7:J.pc=1\/(J.pc=6/\J.op.kind=7):=by
    rcases hp with hp|hp
    ·exact Or.inl hp
    ·exact Or.inr ⟨hp,Classical.byContradiction λhne=>by have:=(hk.rt ho).2 hne;omega⟩
   exact⟨b2,b3,r1,r2,r3,oW (hk.st.A9 r3) ho h7 hw (hkW.noted r3 b1)⟩
  ·have:=hk.rc ho hp;omega
  ·rw[hk.r3 ho hp] at hc;cases hc
  ·rw[(hk.r4 ho hp).1] at hc;cases hc
  ·obtain⟨e,hq5⟩:=hk.r5 ho hp;subst e;obtain⟨b2,b3⟩:=hq5 rfl;obtain⟨W,hw,hE,hf⟩:=hk.r2 ho Zo Zo;obtain⟨r1,r2,r3⟩:=Gl h hq b2;exact⟨b2,b3,r1,r2,r3,xH (hk.st.A9 r3) ho (Classical.byContradiction λhne=>by have:=(hk.rt ho).2 hne;omega) hp hw (hE.A9 r3) hf ⟨rfl,λe=>by cases e⟩⟩
end
structure Ek(b:Bool)(p:Pl)(own:Int->Tk)(k:Nat)(J:Xa)(c:Xf):Prop where
 pc:J.pc=-1\/(0<=J.pc/\J.pc<=15)
 dn:J.pc=-1↔c.kind=12
 c0:J.pc=0->c.kind=1
 c1:J.pc=1\/J.pc=9\/J.pc=12\/J.pc=14->c.kind=3
 c2:J.pc=2->c=X8 (DI J.Ai)
 bs:3<=J.pc->J.pc<=11->J.base.sl≠0/\PD p own J.base
 c3:J.pc=3->c=AK
 nd:4<=J.pc->J.pc<=8->own J.node.sl=.fresh k/\(p.slot J.node.sl).Ap=J.node.gn
 c4:J.pc=4->∃v,c=Yf (Xg J.node 0) v
 c5:J.pc=5->∃W,J.walk=some W/\EP b p own k W c
 sn:J.pc=6\/J.pc=9\/J.pc=10->J.sentinel.sl≠0/\PD p own J.sentinel
 c6:J.pc=6->c=GG J.node
 we:J.pc=7\/J.pc=8->∃W,J.walk=some W/\FT p own W
 c7:J.pc=7->c=Yf (Xg J.node 2) (AF (Xs J.walk))
 c8:J.pc=8->c=Xx (BF J.walk) (Xs J.walk) (BC (Xs J.walk) J.node)/\((p.slot J.node.sl).cell 2).sl=(Xs J.walk).sl/\((p.slot J.node.sl).cell 2).gn=(Xs J.walk).gn
 wB:J.pc=10->∃o,c=Xx (DI J.child) o (BC o J.sentinel)
 wA:J.pc=11->∃I,J.inner=some I/\I.pc≠-1/\CS b p own k I c
 vZ:J.pc=13->∃o z,c=Xx (root 17) o (Cx o z)
 vY:J.pc=15->∃o z,c=Xx (root 16) o (Cx o z)
section
variable{b:Bool}{p p':Pl}{own own':Int->Tk}{k a:Nat}{J:Xa}{W:Xq}{c:Xf}{x:Xj}{s:Int}
theorem Ek.A9(h:Ek b p own k J c)(e:Bs a Ie p own p' own')(ha:k≠a):Ek b p' own' k J c:=by
 refine⟨h.pc,h.dn,h.c0,h.c1,h.c2,λh1 h2=>⟨(h.bs h1 h2).1,(h.bs h1 h2).2.A9 e⟩,h.c3,λh1 h2=>?_,h.c4,λh1=>?_,λh1=>⟨(h.sn h1).1,(h.sn h1).2.A9 e⟩,h.c6,λh1=>?_,h.c7,λh1=>?_,h.wB,λh1=>?_,h.vZ,h.vY⟩
 ·obtain⟨q1,q2⟩:=h.nd h1 h2;obtain⟨r1,r2⟩:=e.fresh ha q1;exact⟨r1,by rw[r2];exact q2⟩
 ·obtain⟨W,q1,q2⟩:=h.c5 h1;exact⟨W,q1,q2.A9 e ha⟩
 ·obtain⟨W,q1,q2⟩:=h.we h1;exact⟨W,q1,q2.A9 e⟩
 ·obtain⟨r1,r2⟩:=e.fresh ha (h.nd Zo Zo).1;rw[r2];exact h.c8 h1
 ·obtain⟨I,q1,q2,q3⟩:=h.wA h1;exact⟨I,q1,q2,q3.A9 e ha⟩
theorem I2(hp:J.pc=-1)(hc:c.kind=12):Ek b p own k J c:=by
 refine⟨Or.inl hp,⟨λ_=>hc,λ_=>hp⟩,?_,?_,?_,?_,?_,?_,?_,?_,?_,?_,?_,?_,?_,?_,?_,?_,?_⟩<;>intros<;>omega
theorem N2(hp:J.pc=1\/J.pc=12\/J.pc=14)(hc:c.kind=3):Ek b p own k J c:=by
 refine⟨by omega,⟨λh=>by omega,λh=>by omega⟩,?_,?_,?_,?_,?_,?_,?_,?_,?_,?_,?_,?_,?_,?_,?_,?_,?_⟩<;>intros<;>omega
theorem va_2(hp:J.pc=2)(hc:c=X8 (DI J.Ai)):Ek b p own k J c:=by
 have hk:c.kind=3:=by rw[hc];rfl
 refine⟨by omega,⟨λh=>by omega,λh=>by omega⟩,?_,?_,?_,?_,?_,?_,?_,?_,?_,?_,?_,?_,?_,?_,?_,?_,?_⟩<;>intros<;>first|omega|exact hc
theorem va_13(hp:J.pc=13)(hc:∃o z,c=Xx (root 17) o (Cx o z)):Ek b p own k J c:=by
 have hk:c.kind=5:=by obtain⟨o,z,e⟩:=hc;rw[e];rfl
 refine⟨by omega,⟨λh=>by omega,λh=>by omega⟩,?_,?_,?_,?_,?_,?_,?_,?_,?_,?_,?_,?_,?_,?_,?_,?_,?_⟩<;>intros<;>first|omega|exact hc
theorem va_15(hp:J.pc=15)(hc:∃o z,c=Xx (root 16) o (Cx o z)):Ek b p own k J c:=by
 have hk:c.kind=5:=by obtain⟨o,z,e⟩:=hc;rw[e];rfl
 refine⟨by omega,⟨λh=>by omega,λh=>by omega⟩,?_,?_,?_,?_,?_,?_,?_,?_,?_,?_,?_,?_,?_,?_,?_,?_,?_⟩<;>intros<;>first|omega|exact hc
section
variable(bs:J.base.sl≠0/\PD p own J.base)
include bs
theorem va_3(hp:J.pc=3)(hc:c=AK):Ek b p own k J c:=by
 have hk:c.kind=8:=by rw[hc];rfl
 refine⟨by omega,⟨λh=>by omega,λh=>by omega⟩,?_,?_,?_,?_,?_,?_,?_,?_,?_,?_,?_,?_,?_,?_,?_,?_,?_⟩<;>intros<;>first|omega|exact bs|exact hc
theorem va_4(hp:J.pc=4)(hu:own J.node.sl=.fresh k/\(p.slot J.node.sl).Ap=J.node.gn)(hc:∃v,c=Yf (Xg J.node 0) v):Ek b p own k J c:=by
 have hk:c.kind=4:=by obtain⟨v,e⟩:=hc;rw[e];rfl
 refine⟨by omega,⟨λh=>by omega,λh=>by omega⟩,?_,?_,?_,?_,?_,?_,?_,?_,?_,?_,?_,?_,?_,?_,?_,?_,?_⟩<;>intros<;>first|omega|exact bs|exact hu|exact hc
theorem va_5(hp:J.pc=5)(hu:own J.node.sl=.fresh k/\(p.slot J.node.sl).Ap=J.node.gn)(hw:J.walk=some W)(hc:EP b p own k W c):Ek b p own k J c:=by
 have hk:=K2 hc;refine⟨by omega,⟨λh=>by omega,λh=>absurd h hk⟩,?_,?_,?_,?_,?_,?_,?_,?_,?_,?_,?_,?_,?_,?_,?_,?_,?_⟩<;>intros<;>first|omega|exact bs|exact hu|exact⟨W,hw,hc⟩
theorem va_6(hp:J.pc=6)(hu:own J.node.sl=.fresh k/\(p.slot J.node.sl).Ap=J.node.gn)(hs:J.sentinel.sl≠0/\PD p own J.sentinel)(hc:c=GG J.node):Ek b p own k J c:=by
 have hk:c.kind=9:=by rw[hc];rfl
 refine⟨by omega,⟨λh=>by omega,λh=>by omega⟩,?_,?_,?_,?_,?_,?_,?_,?_,?_,?_,?_,?_,?_,?_,?_,?_,?_⟩<;>intros<;>first|omega|exact bs|exact hu|exact hs|exact hc
theorem va_7(hp:J.pc=7)(hu:own J.node.sl=.fresh k/\(p.slot J.node.sl).Ap=J.node.gn)(hw:J.walk=some W)(he:FT p own W)(hc:c=Yf (Xg J.node 2) (AF (Xs J.walk))):Ek b p own k J c:=by
 have hk:c.kind=4:=by rw[hc];rfl
 refine⟨by omega,⟨λh=>by omega,λh=>by omega⟩,?_,?_,?_,?_,?_,?_,?_,?_,?_,?_,?_,?_,?_,?_,?_,?_,?_⟩<;>intros<;>first|omega|exact bs|exact hu|exact⟨W,hw,he⟩|exact hc
theorem va_8(hp:J.pc=8)(hu:own J.node.sl=.fresh k/\(p.slot J.node.sl).Ap=J.node.gn)(hw:J.walk=some W)(he:FT p own W)
  (hc:c=Xx (BF J.walk) (Xs J.walk) (BC (Xs J.walk) J.node)/\((p.slot J.node.sl).cell 2).sl=(Xs J.walk).sl/\((p.slot J.node.sl).cell 2).gn=(Xs J.walk).gn):Ek b p own k J c:=by
 have hk:c.kind=5:=by rw[hc.1];rfl
 refine⟨by omega,⟨λh=>by omega,λh=>by omega⟩,?_,?_,?_,?_,?_,?_,?_,?_,?_,?_,?_,?_,?_,?_,?_,?_,?_⟩<;>intros<;>first|omega|exact bs|exact hu|exact⟨W,hw,he⟩|exact hc
theorem va_9(hp:J.pc=9)(hs:J.sentinel.sl≠0/\PD p own J.sentinel)(hc:c.kind=3):Ek b p own k J c:=by
 refine⟨by omega,⟨λh=>by omega,λh=>by omega⟩,?_,?_,?_,?_,?_,?_,?_,?_,?_,?_,?_,?_,?_,?_,?_,?_,?_⟩<;>intros<;>first|omega|exact bs|exact hs|exact hc
theorem va_10(hp:J.pc=10)(hs:J.sentinel.sl≠0/\PD p own J.sentinel)(hc:∃o,c=Xx (DI J.child) o (BC o J.sentinel)):Ek b p own k J c:=by
 have hk:c.kind=5:=by obtain⟨v,e⟩:=hc;rw[e];rfl
 refine⟨by omega,⟨λh=>by omega,λh=>by omega⟩,?_,?_,?_,?_,?_,?_,?_,?_,?_,?_,?_,?_,?_,?_,?_,?_,?_⟩<;>intros<;>first|omega|exact bs|exact hs|exact hc
theorem wU{I:Xi}(hp:J.pc=11)(hi:J.inner=some I)(h1:I.pc≠-1)(hI:CS b p own k I c):Ek b p own k J c:=by
 have hk:c.kind≠12:=λh=>h1 (hI.dn.2 h);refine⟨by omega,⟨λh=>by omega,λh=>absurd h hk⟩,?_,?_,?_,?_,?_,?_,?_,?_,?_,?_,?_,?_,?_,?_,?_,?_,?_⟩<;>intros<;>first|omega|exact bs|exact⟨I,hi,h1,hI⟩
theorem ZD{I:Xi}(hp:J.pc=11)(hi:J.inner=some I)(hI:CS true p own k I c):Ek true p own k (J.Gb c).1 (J.Gb c).2:=by
 unfold Xa.Gb;cases hk:c.kind==12 with
 |false=>
  have hk:c.kind≠12:=by simpa using hk
  exact wU bs hp hi (λh=>hk (hI.dn.1 h)) hI
 |true=>
  simp only[Bool.not_true,cond_false];cases(!(c.BR.code==1)||J.op.kind==8) with
  |true=>exact I2 rfl rfl
  |false=>exact N2 (J:={J with answer:=c.BR,pc:=12}) (Or.inr (Or.inl rfl)) rfl
theorem NV:Ek true p own k J.perform.1 J.perform.2:=by
 unfold Xa.perform Xa.Ii;exact ZD (J:={J with pc:=11,inner:=some _}) bs rfl rfl (JZ (J:=Xi.from_ (Xg J.base 2) (UL J.op.key) J.op) (Jw bs.1 bs.2) rfl)
theorem K4:Ek true p own k J.Dr.1 J.Dr.2:=by
 unfold Xa.Dr;cases J.Ai==J.wanted with
 |true=>exact NV bs
 |false=>exact va_3 (J:={J with child:=II J.wanted J.Ai,pc:=3}) bs rfl rfl
theorem Tt(hp:J.pc=5)(hu:own J.node.sl=.fresh k/\(p.slot J.node.sl).Ap=J.node.gn)(hw:J.walk=some W)(hr:JH p own k (W.step x)):Ek true p own k (J.Cq x).1 (J.Cq x).2:=by
 have hs:CT J.walk x=(some (W.step x).1,(W.step x).2.1,(W.step x).2.2):=by rw[hw];rfl
 unfold Xa.Cq;simp only[hs];cases hb:(W.step x).2.2 with
 |true=>exact va_5 (J:={J with walk:=some (W.step x).1}) bs hp hu rfl (hr.1 hb)
 |false=>
  simp only[cond_false];have he:=hr.2 hb;cases hf:IV (some (W.step x).1) with
  |true=>exact va_6 (J:={J with walk:=some (W.step x).1,sentinel:=AF (Xs (some (W.step x).1)),pc:=6}) bs rfl hu ⟨(he.nx hf).1,λh=>he.Ay h⟩ rfl
  |false=>exact va_7 (J:={J with walk:=some (W.step x).1,pc:=7}) bs rfl hu rfl he rfl
theorem ZC(hu:own J.node.sl=.fresh k/\(p.slot J.node.sl).Ap=J.node.gn):Ek true p own k (J.An.Cq x).1 (J.An.Cq x).2:=
 Tt (J:=J.An) bs rfl hu rfl (EZ (Jw bs.1 bs.2))
end
theorem Vx{n:Int}(h0:0<=n)(h1:n<8):DI n=root (8+n):=by
 unfold DI;rw[Iy (n:=8+n) Zo Zo,Iy Zo Zo,Int.zero_add]
theorem LQ.root{r:Int}{w:Xd}(h:LQ p own)(e:KN p p' r w)(ev:Bs a Ie p own p' own)(hw:PD p own w):LQ p' own:=by
 refine h.A9 ev (λq h0 h1=>?_) (λs a1 a2=>Or.inl ⟨a1,a2,by rw[e.slot]⟩) (λs a1 a2 a3=>Or.inl ⟨a1,a2,a3⟩);rw[e.BP q h0 h1];by_cases hq:q=r
 ·rw[if_pos hq];exact Or.inr (hw.A9 ev)
 ·rw[if_neg hq];exact Or.inl rfl
theorem Mq{r:Int}{o w:Xd}(h:BN p own)(hq:LQ p own)(r0:r≠0)(r1:0<=r)(r2:r<24)(hw:PD p own w)(ht:w.tg=wr (o.tg+1))(tb:Me p)(hs:Sem p own (Xx (root r) o w) x p'):
  BN p' own/\LQ p' own/\Bs k Ie p own p' own:=by
 have hkind:(Xx (root r) o w).kind=5:=rfl
 cases hs with
 |FW _ e hok=>exact⟨h.alike e,hq.alike e,Bs.alike e⟩
 |D0 _ h0 hs e hok=>
  have e:KN p p' r w:=e
  have hb:=tb.BP r r1 r2
  have hs:=(NP (show AE (p.board r) o=true from hs)).2
  have hr:=h.root (a:=k) (ce:=Ie) e r0 (by rw[ht,hs];rw[hs] at hb;exact Iy Zo Zo)
  exact⟨hr.1,hq.root e hr.2 hw,hr.2⟩
 |D8 _ h0=>exact absurd rfl h0
 |_=>omega
end
def IN(p:Pl)(own:Int->Tk)(k:Nat)(J:Xa)(x:Xj)(p':Pl):Prop:=
 ∃own',BN p' own'/\LQ p' own'/\Bs k Ie p own p' own'/\Ek true p' own' k (J.next x).1 (J.next x).2/\∀s,own' s=.note k↔own s=.note k
section
variable{b:Bool}{p p':Pl}{own own':Int->Tk}{k a:Nat}{J:Xa}{W:Xq}{c:Xf}{x:Xj}{s:Int}
theorem En(h:BN p own)(hq:LQ p own)(e:X3 p p')(hk:Ek true p' own k (J.next x).1 (J.next x).2):IN p own k J x p':=⟨own,h.alike e,hq.alike e,Bs.alike e,hk,λ_=>Iff.rfl⟩
theorem kB(h:BN p own)(hq:LQ p own)(hk:Ek false p own k J c)(hs:Sem p own c x p')(hpc:J.pc≠-1)(tb:Me p)(b0:0<=J.Ai)(b1:J.Ai<8)(c0:0<=J.child)(c1:J.child<8):IN p own k J x p':=by
 have hp:=hk.pc;have hp:J.pc=0\/J.pc=1\/J.pc=2\/J.pc=3\/J.pc=4\/J.pc=5\/J.pc=6\/J.pc=7\/J.pc=8\/J.pc=9\/J.pc=10\/J.pc=11\/J.pc=12\/J.pc=13\/J.pc=14\/J.pc=15:=Zo;rcases hp with hp|hp|hp|hp|hp|hp|hp|hp|hp|hp|hp|hp|hp|hp|hp|hp
 ·have hc:=hk.c0 hp;have he:J.next x=({J with pc:=1},X8 (root 16)):=by unfold Xa.next;rw[hp];rfl
  have hK:∀e:X3 p p',IN p own k J x p':=λe=>En h hq e (by rw[he];exact N2 (J:={J with pc:=1}) (Or.inl rfl) rfl);cases hs<;>first|omega|exact hK (by assumption)
 ·have hc:=hk.c1 (Or.inl hp);have he:J.next x=J.Cn (Kq x.word.nm):=by unfold Xa.next;rw[hp];rfl
  have hK:∀e:X3 p p',IN p own k J x p':=λe=>En h hq e (by rw[he];exact va_2 rfl rfl);cases hs<;>first|omega|exact hK (by assumption)
 ·have hc:=hk.c2 hp;rw[Vx b0 b1] at hc;subst hc;have hkind:(X8 (root (8+J.Ai))).kind=3:=rfl;have he:J.next x=J.EO x:=by unfold Xa.next;rw[hp];rfl
  cases hs with
  |look _ e hx _=>
   have hx:x.word=p.board (8+J.Ai):=hx (Or.inl rfl);have hpd:PD p' own x.word:=by rw[hx];exact(hq.pdr _ Zo Zo).Nw e
   refine En h hq e ?_;rw[he];unfold Xa.EO;by_cases hz:x.word.sl=0
   ·rw[show(x.word.sl==0)=true from by simp[hz]];simp only[Bool.not_true,cond_false];cases J.Ai==0 with
    |true=>exact I2 rfl rfl
    |false=>exact va_2 rfl rfl
   ·rw[show(x.word.sl==0)=false from by simp[hz]];exact K4 (J:={J with base:=x.word}) ⟨hz,hpd⟩
  |_=>omega
 ·have hc:=hk.c3 hp;subst hc;obtain⟨bz,bp⟩:=hk.bs Zo Zo;have hkind:AK.kind=8:=rfl;cases hs with
  |@alloc s _ hf h0 e hw hg hok=>
   have he:J.next x=({J with node:=x.word,pc:=4},Yf (Xg x.word 0) (Y5 (Ds J.child))):=by unfold Xa.next Xa.Ak;rw[hp,hok];rfl
   obtain⟨r1,r2,r3,r4,r5⟩:=OE (k:=k) h hq hf h0 e hw hg;exact⟨_,r1,r2,r3,by rw[he];exact va_4 (J:={J with node:=x.word,pc:=4}) ⟨bz,bp.A9 r3⟩ rfl r4 ⟨_,rfl⟩,r5⟩
  |Kg _ e hok=>
   have he:J.next x=J.perform:=by unfold Xa.next Xa.Ak;rw[hp,hok];rfl
   exact En h hq e (by rw[he];exact NV ⟨bz,bp.Nw e⟩)
  |_=>omega
 ·obtain⟨v,hc⟩:=hk.c4 hp;subst hc;obtain⟨bz,bp⟩:=hk.bs Zo Zo;have he:J.next x=J.An.Cq x:=by unfold Xa.next Xa.Ak;rw[hp];rfl
  obtain⟨r1,r2,r3,r4,_⟩:=G9 h hq (hk.nd Zo Zo) hs;exact⟨_,r1,r2,r3,by rw[he];exact ZC ⟨bz,bp.A9 r3⟩ r4,λ_=>Iff.rfl⟩
 ·obtain⟨W,hw,hkW⟩:=hk.c5 hp;obtain⟨bz,bp⟩:=hk.bs Zo Zo;have hu:=hk.nd Zo Zo;have he:J.next x=J.Cq x:=by unfold Xa.next Xa.Ak;rw[hp];rfl
  obtain⟨own',a1,a2,a3,a4,a5,a6⟩:=Hu h hq hkW hs tb;exact⟨own',a1,a2,a3,by rw[he];exact Tt ⟨bz,bp.A9 a3⟩ hp ⟨(a6 _ hu.1).1,by rw[(a6 _ hu.1).2];exact hu.2⟩ hw a4,a5⟩
 ·have hc:=hk.c6 hp;subst hc;obtain⟨bz,bp⟩:=hk.bs Zo Zo;obtain⟨sz,sp⟩:=hk.sn (Or.inl hp);have he:J.next x=({J with pc:=9},X8 (DI J.child)):=by unfold Xa.next Xa.Ak;rw[hp];rfl
  obtain⟨r1,r2,r3,r4⟩:=QS h hq (hk.nd Zo Zo) hs;exact⟨_,r1,r2,r3,by rw[he];exact va_9 (J:={J with pc:=9}) ⟨bz,bp.A9 r3⟩ rfl ⟨sz,sp.A9 r3⟩ rfl,r4⟩
 ·have hc:=hk.c7 hp;subst hc;obtain⟨bz,bp⟩:=hk.bs Zo Zo;obtain⟨W,hw,hE⟩:=hk.we (Or.inl hp);have he:J.next x=({J with pc:=8},Xx (BF J.walk) (Xs J.walk) (BC (Xs J.walk) J.node)):=by unfold Xa.next Xa.Ak;rw[hp];rfl
  obtain⟨r1,r2,r3,r4,r5⟩:=G9 h hq (hk.nd Zo Zo) hs;exact⟨_,r1,r2,r3,by rw[he];exact va_8 (J:={J with pc:=8}) ⟨bz,bp.A9 r3⟩ rfl r4 hw (hE.A9 r3) ⟨rfl,by show((p'.slot J.node.sl).cell 2).sl=_;rw[r5];rfl,by show((p'.slot J.node.sl).cell 2).gn=_;rw[r5];rfl⟩,λ_=>Iff.rfl⟩
 ·obtain⟨hc,h1,h2⟩:=hk.c8 hp;subst hc;obtain⟨bz,bp⟩:=hk.bs Zo Zo;have hu:=hk.nd Zo Zo;obtain⟨W,hw,hE⟩:=hk.we (Or.inr hp);rw[hw] at hs h1 h2;rcases Ic hq hE.pv hE.um hE.sn hs with⟨hok,e⟩|⟨hok,e,hi,hl,_⟩
  ·have he:J.next x=J.An.Cq x:=by unfold Xa.next Xa.Ak;rw[hp,hok];rfl
   exact En h hq e (by rw[he];exact ZC ⟨bz,bp.Nw e⟩ (aO hu e))
  ·have he:J.next x=({J with sentinel:=J.node,pc:=9},X8 (DI J.child)):=by unfold Xa.next Xa.Ak;rw[hp,hok];rfl
   obtain⟨r1,r2,r3⟩:=Lu h hq e hi hl hE.um hE.Ay hu.1 ⟨h1,h2⟩ ⟨rfl,hu.2.symm,ZN tb hl⟩;refine⟨_,r1,r2,r3,?_,λt=>?_⟩
   ·rw[he];refine va_9 (J:={J with sentinel:=J.node,pc:=9}) ⟨bz,bp.A9 r3⟩ rfl ⟨λe'=>?_,λ_=>⟨?_,λ_=>?_⟩⟩ rfl
    ·have e':J.node.sl=0:=e';have:=hu.1;rw[e',h.zero] at this;cases this
    ·show J.node.gn<=(p'.slot J.node.sl).Ap;rw[(e.Ap _).1,hu.2];exact Int.le_refl _
    ·show(Ah own J.node.sl .chain J.node.sl).Ax=false;rw[Xy];rfl
   ·rw[X2];by_cases e':t=J.node.sl
    ·rw[if_pos e',e',hu.1];simp
    ·rw[if_neg e']
 ·have hc:=hk.c1 (Or.inr (Or.inl hp));obtain ⟨bz,bp⟩:=hk.bs Zo Zo;obtain ⟨sz,sp⟩:=hk.sn (Or.inr (Or.inl hp));have hK:∀ e:X3 p p',IN p own k J x p':=fun e=>En h hq e (by
   by_cases hz:x.word.sl=0
   ·have he:J.next x=({J with pc:=10},Xx (DI J.child) x.word (BC x.word J.sentinel)):=by unfold Xa.next Xa.Ak;rw[hp,hz];rfl
    rw[he];exact va_10 (J:={J with pc:=10}) ⟨bz,bp.Nw e⟩ rfl ⟨sz,sp.Nw e⟩ ⟨_,rfl⟩
   ·have he:J.next x=J.Iv:=by unfold Xa.next Xa.Ak;rw[hp,show(x.word.sl==0)=false from by simp[hz]];rfl
    rw[he];exact K4 (J:={J with base:=J.sentinel,Ai:=J.child}) ⟨sz,sp.Nw e⟩)
  cases hs<;>first|omega|exact hK (by assumption)
 ·obtain⟨o,hc⟩:=hk.wB hp;rw[Vx c0 c1] at hc;subst hc;obtain⟨sz,sp⟩:=hk.sn (Or.inr (Or.inr hp));have he:J.next x=J.Iv:=by unfold Xa.next Xa.Ak;rw[hp];rfl
  obtain⟨r1,r2,r3⟩:=Mq (k:=k) h hq Zo Zo Zo (show PD p own (BC o J.sentinel) from λh=>sp h) rfl tb hs;exact⟨_,r1,r2,r3,by rw[he];exact K4 (J:={J with base:=J.sentinel,Ai:=J.child}) ⟨sz,sp.A9 r3⟩,λ_=>Iff.rfl⟩
 ·obtain⟨I,hi,hI1,hI⟩:=hk.wA hp;obtain⟨bz,bp⟩:=hk.bs Zo Zo;have he:J.next x=Xa.Gb {J with inner:=some (I.next x).1} (I.next x).2:=by unfold Xa.next Xa.Ii;rw[hp,hi];rfl
  obtain⟨own',a1,a2,a3,a4,a5⟩:=UT h hq hI hs hI1 tb;exact⟨own',a1,a2,a3,by rw[he];exact ZD (J:={J with inner:=some (I.next x).1}) ⟨bz,bp.A9 a3⟩ hp rfl a4,a5⟩
 ·have hc:=hk.c1 (Or.inr (Or.inr (Or.inl hp)));have he:J.next x=J.GX x:=by unfold Xa.next;rw[hp];rfl
  have hK:∀e:X3 p p',IN p own k J x p':=λe=>En h hq e (by rw[he];exact va_13 rfl ⟨_,_,rfl⟩);cases hs<;>first|omega|exact hK (by assumption)
 ·obtain⟨o,z,hc⟩:=hk.vZ hp;subst hc;have he:J.next x=J.He x:=by unfold Xa.next;rw[hp];rfl
  obtain⟨r1,r2,r3⟩:=Mq (k:=k) h hq Zd Zd Zd (show PD p own (Cx o z) from λh=>absurd rfl h) rfl tb hs;refine⟨_,r1,r2,r3,?_,λ_=>Iff.rfl⟩;rw[he];unfold Xa.He;cases x.ok with
  |false=>exact N2 (Or.inr (Or.inl rfl)) rfl
  |true=>
   simp only[Bool.not_true,cond_false];cases J.op.kind==7 with
   |true=>exact I2 rfl rfl
   |false=>
    simp only[cond_false];cases J.size==8 with
    |true=>exact I2 rfl rfl
    |false=>
     simp only[cond_false];cases decide (J.count.nm<wr (2*J.size)) with
     |true=>exact I2 rfl rfl
     |false=>exact N2 (Or.inr (Or.inr rfl)) rfl
 ·have hc:=hk.c1 (Or.inr (Or.inr (Or.inr hp)));have he:J.next x=J.Dn x:=by unfold Xa.next;rw[hp];rfl
  have hK:∀ e:X3 p p',IN p own k J x p':=fun e=>En h hq e (by
   rw[he];unfold Xa.Dn;cases x.word.nm==J.size with
   |true=>exact va_15 rfl ⟨_,_,rfl⟩
   |false=>exact I2 rfl rfl)
  cases hs<;>first|omega|exact hK (by assumption)
 ·obtain⟨o,z,hc⟩:=hk.vY hp;subst hc;have he:J.next x=J.done J.answer:=by unfold Xa.next;rw[hp];rfl
  obtain⟨r1,r2,r3⟩:=Mq (k:=k) h hq Zd Zd Zd (show PD p own (Cx o z) from λh=>absurd rfl h) rfl tb hs;exact⟨_,r1,r2,r3,by rw[he];exact I2 rfl rfl,λ_=>Iff.rfl⟩
theorem cD(h:BN p own)(hq:LQ p own)(hk:Ek true p own k J c)(hc:c.kind=10):
  own c.A1.sl=.Bi k/\(p.slot c.A1.sl).Ap=c.A1.gn/\BN p (Ah own c.A1.sl (.note (k+1000)))/\LQ p (Ah own c.A1.sl (.note (k+1000)))/\Bs k Ie p own p (Ah own c.A1.sl (.note (k+1000)))/\Ek false p (Ah own c.A1.sl (.note (k+1000))) k J c:=by
 have hp:=hk.pc
 have hd:J.pc≠-1:=λe=>by have:=hk.dn.1 e;omega
 have hp:J.pc=0\/(J.pc=1\/J.pc=9\/J.pc=12\/J.pc=14)\/J.pc=2\/J.pc=3\/J.pc=4\/J.pc=5\/J.pc=6\/J.pc=7\/J.pc=8\/J.pc=10\/J.pc=11\/J.pc=13\/J.pc=15:=Zo
 rcases hp with hp|hp|hp|hp|hp|hp|hp|hp|hp|hp|hp|hp|hp
 ·have:=hk.c0 hp;omega
 ·have:=hk.c1 hp;omega
 ·rw[hk.c2 hp] at hc;cases hc
 ·rw[hk.c3 hp] at hc;cases hc
 ·obtain⟨v,e⟩:=hk.c4 hp;rw[e] at hc;cases hc
 ·obtain⟨W,hw,hkW⟩:=hk.c5 hp;obtain⟨bz,bp⟩:=hk.bs Zo Zo;have hu:=hk.nd Zo Zo;obtain⟨b1,b2,b3⟩:=Kz hkW hc;obtain⟨r1,r2,r3⟩:=Gl h hq b2;refine⟨b2,b3,r1,r2,r3,va_5 ⟨bz,bp.A9 r3⟩ hp ?_ hw (hkW.noted r3 b1)⟩;rw[X2,if_neg λe=>by rw[e,b2] at hu;cases hu.1];exact hu
 ·rw[hk.c6 hp] at hc;cases hc
 ·rw[hk.c7 hp] at hc;cases hc
 ·rw[(hk.c8 hp).1] at hc;cases hc
 ·obtain⟨v,e⟩:=hk.wB hp;rw[e] at hc;cases hc
 ·obtain⟨I,hi,hI1,hI⟩:=hk.wA hp;obtain⟨bz,bp⟩:=hk.bs Zo Zo;obtain⟨a1,a2,a3,a4,a5,a6⟩:=QR h hq hI hc;exact⟨a1,a2,a3,a4,a5,wU ⟨bz,bp.A9 a5⟩ hp hi hI1 a6⟩
 ·obtain⟨o,z,e⟩:=hk.vZ hp;rw[e] at hc;cases hc
 ·obtain⟨o,z,e⟩:=hk.vY hp;rw[e] at hc;cases hc
end
inductive Du where
 |Th|used|held (k:Nat)
 deriving DecidableEq
structure SG where
 own:Int->Tk
 d:Int->Du
 e:Int->Du
def SI:Tk->Du->Du->Bool->Int->Prop
 |.chain,d,e,m,n=>d≠.Th/\(e=.Th↔m=false)/\(n=0->d≠.used/\e≠.used)/\(n≠0->(d=.used/\e≠.used)\/(d≠.used/\e=.used))
 |.note _,d,e,m,_=>m=true/\d=.used/\e=.used
 |.Bi _,_,_,_,_=>False
 |_,d,e,_,_=>∀k,d≠.held k/\e≠.held k
def Qg:Int->Xd->Xd->Prop:=λf o n=>(2<=f/\f<=4/\o.mark=false)\/(f=7/\o.nm=0/\n.nm≠0)
structure SQ(p:Pl)(g:SG):Prop where
 hb:KO p g.own
 pdr:∀r,0<=r->r<24->PD p g.own (p.board r)
 pd:∀s f,g.own s≠.free->(g.own s).Ax=false->2<=f->f<=4->PD p g.own ((p.slot s).cell f)
 si:∀s,SI (g.own s) (g.d s) (g.e s) ((p.slot s).cell 2).mark ((p.slot s).cell 7).nm
structure Ed(a:Nat)(p:Pl)(g:SG)(p':Pl)(g':SG):Prop where
 ev:Bs a Qg p g.own p' g'.own
 d:∀s j,j≠a->(g.d s=.held j↔g'.d s=.held j)
 e:∀s j,j≠a->(g.e s=.held j↔g'.e s=.held j)
structure VH(p p':Pl)(a:Yj)(w:Xd):Prop where
 BP:∀q,0<=q->q<24->p'.board q=if a.sl=0/\q=a.fd then w else p.board q
 slot:∀t,p'.slot t=if a.sl≠0/\t=a.sl then{p.slot t with cell:=Ah (p.slot t).cell a.fd w} else p.slot t
def VP(p:Pl)(own:Int->Tk)(a:Yj):Prop:=(a.sl=0/\0<=a.fd/\a.fd<24)\/(a.sl≠0/\2<=a.fd/\a.fd<=4/\PD p own ⟨a.sl,a.gn,0,0,false⟩)
section
variable{b:Bool}{p p':Pl}{own own':Int->Tk}{k:Nat}{c:Xf}{x:Xj}{s f:Int}{w o:Xd}{a:Yj}{g g':SG}{ce:Int->Xd->Xd->Prop}
theorem VH.Ap(e:VH p p' a w)(t:Int):(p'.slot t).Ap=(p.slot t).Ap/\(p'.slot t).used=(p.slot t).used:=by
 rw[e.slot];by_cases h:a.sl≠0/\t=a.sl
 ·rw[if_pos h];exact⟨rfl,rfl⟩
 ·rw[if_neg h];exact⟨rfl,rfl⟩
theorem VH.cell(e:VH p p' a w)(t f:Int):(p'.slot t).cell f=if a.sl≠0/\t=a.sl/\f=a.fd then w else(p.slot t).cell f:=by
 rw[e.slot];by_cases h:a.sl≠0/\t=a.sl
 ·rw[if_pos h];show Ah (p.slot t).cell a.fd w f=_;rw[X2];by_cases hf:f=a.fd
  ·rw[if_pos hf,if_pos ⟨h.1,h.2,hf⟩]
  ·rw[if_neg hf,if_neg λh'=>hf h'.2.2]
 ·rw[if_neg h,if_neg λh'=>h ⟨h'.1,h'.2.1⟩]
theorem VH.A9(e:VH p p' a w)(h0:a.sl≠0->own a.sl≠.free/\(own a.sl).Ax=false/\ce a.fd ((p.slot a.sl).cell a.fd) w)(htg:w.tg=(p.get a).tg+1)
  (ho:∀t,own' t=own t\/((own t=.fresh k\/own t=.chain\/own t=.Bi k)/\(own' t=.chain\/own' t=.Bi k\/∃m,own' t=.note m))):Bs k ce p own p' own':=by
 refine Bs.of (λr r0 r1=>?_) (λt=>(e.Ap t).1) (λt j hj hf=>?_) (λt h1 hf f=>?_) ho
 ·rw[e.BP r r0 r1];by_cases h:a.sl=0/\r=a.fd
  ·rw[if_pos h];right;rw[htg];unfold Pl.get;rw[show(a.sl==0)=true from by simp[h.1],h.2];rfl
  ·rw[if_neg h];exact Or.inl rfl
 ·by_cases h:a.sl≠0/\t=a.sl
  ·have:=(h0 h.1).2.1;rw[←h.2,hf] at this;cases this
  ·rw[e.slot,if_neg h]
 ·rw[e.cell];by_cases h:a.sl≠0/\t=a.sl/\f=a.fd
  ·rw[if_pos h];right;have:=(h0 h.1).2.2;rw[AM h.1] at htg;rw[h.2.1,h.2.2];exact⟨this,htg⟩
  ·rw[if_neg h];exact Or.inl rfl
theorem Z3{c w:Xd}(h:AE c w=true):c.nm=w.nm/\c.mark=w.mark:=by
 unfold AE at h;simp only[Bool.and_eq_true,beq_iff_eq] at h;exact⟨h.2.2.1,h.2.2.2⟩
theorem LP(hs:Sem p own (Xx a o w) x p'):(x.ok=false/\X3 p p'/\(a.sl=0\/Lv p own a.sl a.gn->AE (p.get a) o=false))\/(x.ok=true/\VH p p' a w/\AE (p.get a) o=true/\(a.sl=0\/Lv p own a.sl a.gn)):=by
 have hkind:(Xx a o w).kind=5:=rfl;cases hs with
 |FW _ e hok hw=>exact Or.inl ⟨hok,e,hw⟩
 |D0 _ h0 hw e hok=>
  have h0:a.sl=0:=h0;have e:KN p p' a.fd w:=e;refine Or.inr ⟨hok,⟨λq q0 q1=>?_,λt=>by rw[e.slot,if_neg λh=>h.1 h0]⟩,?_,Or.inl h0⟩
  ·rw[e.BP q q0 q1];by_cases hq:q=a.fd
   ·rw[if_pos hq,if_pos ⟨h0,hq⟩]
   ·rw[if_neg hq,if_neg λh=>hq h.2]
  ·unfold Pl.get;rw[show(a.sl==0)=true from by simp[h0]];exact hw
 |D8 _ h0 hl hw e hok=>
  have h0:a.sl≠0:=h0;have e:IQ p p' a.sl a.fd w:=e;refine Or.inr ⟨hok,⟨λq q0 q1=>by rw[e.BP q q0 q1,if_neg λh=>h0 h.1],λt=>?_⟩,by rw[AM h0];exact hw,Or.inr hl⟩;rw[e.slot];by_cases ht:t=a.sl
  ·rw[if_pos ht,if_pos ⟨h0,ht⟩,ht]
  ·rw[if_neg ht,if_neg λh=>ht h.2]
 |_=>omega
theorem Ed.same(e:Bs k Qg p g.own p' own'):Ed k p g p' ⟨own',g.d,g.e⟩:=⟨e,λ_ _ _=>Iff.rfl,λ_ _ _=>Iff.rfl⟩
theorem SQ.A5(h:SQ p g)(hb:KO p' g'.own)(ev:Bs k Qg p g.own p' g'.own)(hr:∀r,0<=r->r<24->p'.board r=p.board r\/PD p' g'.own (p'.board r))
  (hp:∀s f,g'.own s≠.free->(g'.own s).Ax=false->2<=f->f<=4->(g.own s≠.free/\(g.own s).Ax=false/\(p'.slot s).cell f=(p.slot s).cell f)\/PD p' g'.own ((p'.slot s).cell f))
  (hs:∀s,SI (g'.own s) (g'.d s) (g'.e s) ((p'.slot s).cell 2).mark ((p'.slot s).cell 7).nm):SQ p' g':=by
 refine⟨hb,λr r0 r1=>?_,λs f a1 a2 f0 f1=>?_,hs⟩
 ·rcases hr r r0 r1 with e|e
  ·rw[e];exact(h.pdr r r0 r1).A9 ev
  ·exact e
 ·rcases hp s f a1 a2 f0 f1 with⟨b1,b2,e⟩|e
  ·rw[e];exact(h.pd s f b1 b2 f0 f1).A9 ev
  ·exact e
theorem SQ.alike(h:SQ p g)(e:X3 p p'):SQ p' g:=
 h.A5 (k:=0) (h.hb.alike e) (Bs.alike e) (λr r0 r1=>Or.inl (e.BP r r0 r1)) (λs f a1 a2 _ _=>Or.inl ⟨a1,a2,by rw[e.slot]⟩) λs=>by rw[e.slot];exact h.si s
theorem Ed.alike(e:X3 p p'):Ed k p g p' g:=⟨Bs.alike e,λ_ _ _=>Iff.rfl,λ_ _ _=>Iff.rfl⟩
theorem SQ.duty(h:SQ p g)(hd:g.d s=.held k\/g.e s=.held k):g.own s=.chain:=by
 have hs:=h.si s;generalize g.own s=t at*;cases t with
 |chain=>rfl
 |Bi _=>exact hs.elim
 |note _=>rcases hd with hd|hd<;>(rw[hd] at hs;first|exact absurd hs.2.1 Zs|exact absurd hs.2.2 Zs)
 |_=>rcases hd with hd|hd<;>first|exact absurd hd (hs k).1|exact absurd hd (hs k).2
theorem SQ.look(h:SQ p g)(hd:VP p g.own a)(e:X3 p p')(hx:a.sl=0\/Lv p g.own a.sl a.gn->w=p.get a)(hn:¬(a.sl=0\/Lv p g.own a.sl a.gn)->w=Y5 (-1)):PD p' g.own w:=by
 refine PD.Nw (p:=p) ?_ e;by_cases hl:a.sl=0\/Lv p g.own a.sl a.gn
 ·rw[hx hl];rcases hd with⟨h0,h1,h2⟩|⟨h0,h1,h2,hp⟩
  ·unfold Pl.get;rw[show(a.sl==0)=true from by simp[h0]];exact h.pdr _ h1 h2
  ·have hl:=hl.resolve_left h0;rw[AM h0];exact h.pd _ _ hl.1 ((hp h0).2 hl) h1 h2
 ·rw[hn hl];exact λh=>absurd rfl h
theorem SQ.link(h:SQ p g)(e:VH p p' a w)(ha:VP p g.own a)(hl:a.sl=0\/Lv p g.own a.sl a.gn)(hm:(p.get a).mark=false)(hw:w.mark=false)(hp:PD p g.own w)(ev:Bs k Qg p g.own p' g.own):SQ p' g:=by
 refine h.A5 (h.hb.A5 (λt=>(e.Ap t).2) λ_=>Iff.rfl) ev (λr r0 r1=>?_) (λs f a1 a2 _ _=>?_) λs=>?_
 ·rw[e.BP r r0 r1];by_cases hq:a.sl=0/\r=a.fd
  ·rw[if_pos hq];exact Or.inr (hp.A9 ev)
  ·rw[if_neg hq];exact Or.inl rfl
 ·rw[e.cell];by_cases hq:a.sl≠0/\s=a.sl/\f=a.fd
  ·rw[if_pos hq];exact Or.inr (hp.A9 ev)
  ·rw[if_neg hq];exact Or.inl ⟨a1,a2,rfl⟩
 ·have hs:=h.si s;have h7:(p'.slot s).cell 7=(p.slot s).cell 7:=by
   rw[e.cell,if_neg];rintro⟨q1,_,q3⟩;rcases ha with⟨q,_⟩|⟨_,_,q,_⟩
   ·exact q1 q
   ·omega
  have h2:((p'.slot s).cell 2).mark=((p.slot s).cell 2).mark:=by
   rw[e.cell];by_cases hq:a.sl≠0/\s=a.sl/\2=a.fd
   ·rw[if_pos hq,hw];rw[AM hq.1,←hq.2.1,←hq.2.2] at hm;rw[hm]
   ·rw[if_neg hq]
  rw[h7,h2];exact hs
theorem VP.Iv(ha:VP p own a)(hl:a.sl=0\/Lv p own a.sl a.gn)(h0:a.sl≠0):own a.sl≠.free/\(own a.sl).Ax=false:=by
 rcases ha with⟨q,_⟩|⟨_,_,_,hp⟩
 ·exact absurd q h0
 ·have hl:=hl.resolve_left h0;exact⟨hl.1,(hp h0).2 hl⟩
theorem VP.A9{j:Nat}(h:VP p own a)(e:Bs j ce p own p' own'):VP p' own' a:=h.imp id λh=>⟨h.1,h.2.1,h.2.2.1,h.2.2.2.A9 e⟩
theorem tgA(tb:Me p)(ha:a.sl=0->0<=a.fd/\a.fd<24)(hs:AE (p.get a) o=true):wr (o.tg+1)=(p.get a).tg+1:=by
 have h1:=(NP hs).2;have:0<=(p.get a).tg/\(p.get a).tg<9000000000000000000:=by
  by_cases h0:a.sl=0
  ·unfold Pl.get;rw[show(a.sl==0)=true from by simp[h0]];exact tb.BP _ (ha h0).1 (ha h0).2
  ·rw[AM h0];exact tb.cell _ _
 rw[←h1];exact Iy Zo Zo
theorem VP.fd(ha:VP p own a):(a.sl=0->0<=a.fd/\a.fd<24)/\0<=a.fd/\(a.sl≠0->2<=a.fd/\a.fd<=4):=by
 rcases ha with⟨h0,h1,h2⟩|⟨h0,h1,h2,_⟩
 ·exact⟨λ_=>⟨h1,h2⟩,h1,λh=>absurd h0 h⟩
 ·exact⟨λh=>absurd h h0,by omega,λ_=>⟨h1,h2⟩⟩
theorem Om(h:SQ p g)(ha:VP p g.own a)(ho:o.mark=false)(hw:w.mark=false)(hp:PD p g.own w)(ht:w.tg=wr (o.tg+1))(tb:Me p)(hs:Sem p g.own (Xx a o w) x p'):
  SQ p' g/\Ed k p g p' g/\∀s j,g.own s=.fresh j->p'.slot s=p.slot s:=by
 rcases LP hs with⟨_,e,_⟩|⟨_,e,hsm,hl⟩
 ·exact⟨h.alike e,Ed.alike e,λs _ _=>by rw[e.slot]⟩
 ·have hm:(p.get a).mark=false:=by rw[(Z3 hsm).2];exact ho
  have ev:Bs k Qg p g.own p' g.own:=e.A9 (λh0=>⟨(ha.Iv hl h0).1,(ha.Iv hl h0).2,Or.inl ⟨(ha.fd.2.2 h0).1,(ha.fd.2.2 h0).2,by rw[←AM h0];exact hm⟩⟩) (by rw[ht];exact tgA tb ha.fd.1 hsm) λ_=>Or.inl rfl;refine⟨h.link e ha hl hm hw hp ev,⟨ev,λ_ _ _=>Iff.rfl,λ_ _ _=>Iff.rfl⟩,λs j hf=>?_⟩;rw[e.slot,if_neg];rintro⟨q1,q2⟩;have:=(ha.Iv hl q1).2;rw[←q2,hf] at this;cases this
end
end Go.Proofs.YtaipogljokblkaaGreatDoor
