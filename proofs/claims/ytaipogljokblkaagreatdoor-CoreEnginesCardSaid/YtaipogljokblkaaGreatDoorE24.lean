/- Core: JC, CSteS, JS, JD. -/
import Derived.Test.YtaipogljokblkaaGreatDoorE21
import Derived.Test.YtaipogljokblkaaGreatDoorE01
import Derived.Test.YtaipogljokblkaaGreatDoorE09
import Derived.Test.YtaipogljokblkaaGreatDoorE19
import Derived.Test.YtaipogljokblkaaGreatDoorE23
import Derived.Test.YtaipogljokblkaaGreatDoorE12
import Derived.Test.YtaipogljokblkaaGreatDoorE11
set_option linter.all false
set_option maxRecDepth 100000
set_option maxHeartbeats 8000000
namespace Go.Proofs.YtaipogljokblkaaGreatDoor
open Go Go.RowKit
set_option linter.unusedSimpArgs false
set_option linter.unusedVariables false
set_option linter.unusedSectionVars false
section
variable{J:Xa}{x:Xj}{c:Xf}
theorem LU(J:Xa)(c:Xf):(J.F9 c).1.walk=J.walk/\(J.F9 c).1.inner=J.inner:=by
 unfold Xa.F9;cases h1:(!(c.kind==12)) with
 |true=>exact⟨rfl,rfl⟩
 |false=>
  cases h2:(!(c.A5.code==1)||J.op.kind==8) with
  |true=>simp only[h2,cond_true,cond_false];exact⟨rfl,rfl⟩
  |false=>simp only[h2,cond_true,cond_false];exact⟨trivial,trivial⟩
theorem WZ(J:Xa)(c:Xf)(o:Option Xh)(a b:Value):(Xa.F9 {J with inner:=o} c).1.l a b=(J.F9 c).1.l a b/\(Xa.F9 {J with inner:=o} c).2=(J.F9 c).2:=by
 unfold Xa.F9;cases h1:(!(c.kind==12)) with
 |true=>exact⟨rfl,rfl⟩
 |false=>
  cases h2:(!(c.A5.code==1)||J.op.kind==8) with
  |true=>simp only[h2,cond_true,cond_false];exact⟨rfl,rfl⟩
  |false=>simp only[h2,cond_true,cond_false];exact⟨rfl,trivial⟩
theorem Xl(J:Xa)(x:Xj):(J.Jy x).1.walk=J.walk:=by
 unfold Xa.Jy;cases h:J.inner with
 |none=>rfl
 |some I=>exact(LU _ _).1
theorem KP(J:Xa):J.perform.1.walk=J.walk:=by
 unfold Xa.perform;exact Xl _ _
theorem Ld(J:Xa):J.Ch.1.walk=J.walk:=by
 unfold Xa.Ch;cases(J.Am==J.wanted)
 ·rfl
 ·exact KP J
theorem TQ(J:Xa):J.Vg.1.walk=J.walk:=by unfold Xa.Vg;exact Ld _
theorem O8(hs:x.word.sl=0):(J.EF x).1.walk=J.walk/\(J.EF x).1.inner=J.inner:=by
 unfold Xa.EF;rw[show(!(x.word.sl==0))=false from by simp[hs]];cases(J.Am==0)<;>exact⟨rfl,rfl⟩
theorem OF:(J.Ih x).1.walk=J.walk/\(J.Ih x).1.inner=J.inner:=by
 unfold Xa.Ih;cases(!x.ok)
 ·cases(J.op.kind==7)
  ·cases(J.size==8)
   ·cases(decide (J.count.nm<wr (2*J.size)))<;>exact⟨rfl,rfl⟩
   ·exact⟨rfl,rfl⟩
  ·exact⟨rfl,rfl⟩
 ·exact⟨rfl,rfl⟩
theorem KL:(J.DD x).1.walk=J.walk/\(J.DD x).1.inner=J.inner:=by
 unfold Xa.DD;cases(x.word.nm==J.size)<;>exact⟨rfl,rfl⟩
theorem IR(J:Xa)(x:Xj):(J.Dn x).1.inner=J.inner:=by
 unfold Xa.Dn;simp only;cases(DH J.walk x).2.2
 ·cases(JY (DH J.walk x).1)<;>rfl
 ·rfl
theorem Ge(h:J.pc=4\/J.pc=5\/J.pc=7\/J.pc=8):(J.Al x).1.inner=J.inner:=by
 unfold Xa.Al;rcases h with h|h|h|h<;>rw[h]
 ·exact IR J.Au x
 ·exact IR J x
 ·rfl
 ·cases hx:x.ok
  ·exact IR J.Au x
  ·rfl
theorem YC:(J.EF x).1.walk=J.walk:=by
 unfold Xa.EF;cases(!(x.word.sl==0))
 ·cases(J.Am==0)<;>rfl
 ·exact Ld _
end
section
variable{w:World}{g:Nat}{Fw Fi:List Nat}{pw pi:Option Go.Addr}{J:Xa}
theorem kA(x:Xj)(hb:Bk w g 186 (J.l (.pointer pw) (.pointer pi)).toArray)(hw:Dh w (.pointer pw) J.walk Fw)(hi:FT w (.pointer pi) J.inner Fi)(hn:(g::(Fw++Fi)).Nodup)(h:J.pc=11)(hI:∃I,J.inner=some I):
  Calls Tryz.prog 176 #[.pointer (some ⟨g,0,none⟩),.agg x.l.toArray] w (IE (λw F=>MF w g (J.next x).1 F) (Yk (J.next x).2) (g::(Fw++Fi)) w):=by
 obtain⟨I,hI⟩:=hI
 rw[hI] at hi
 obtain⟨gi,F1,hq,rfl,hl⟩:=hi
 obtain rfl:pi=some ⟨gi,0,none⟩:=by injection hq
 have e1:J.next x=Xa.F9 {J with inner:=some (I.next x).1} (I.next x).2:=by rw[n11 h];unfold Xa.Jy;rw[hI]
 rw[e1]
 obtain⟨hg1,hn1⟩:=List.nodup_cons.1 hn
 have hq:=bU (Φ:=zL gi I (I.next x).1) (F:=fun b=>b∈gi :: F1) J pw ⟨gi,0,none⟩ x (I.next x).2 g w (by rw [DB h];exact hb) (fun w F hP hbd=>by
  obtain⟨Fl,h1,h2⟩:=(show ∃Fl,JX w gi I Fl/\∀b,F b↔b∈Fl from hP);refine(ZE I x gi Fl w h1).mono λen w' hp=>?_;obtain⟨F',p1,p2,p3,p4⟩:=hp;have p5:=p2.lt;obtain⟨⟨q,F2,rfl,_⟩,_⟩:=id p2;exact⟨p1,RE p4 (λb hb=>(h2 b).2 hb) ⟨λb=>b∈gi::F2,⟨F2,p2,λb=>Iff.rfl⟩,λb hb=>(p3 b hb).imp (h2 b).2 id,p5⟩⟩) ⟨gi::F1,hl,λb=>Iff.rfl⟩ (λhm=>hg1 (List.mem_append.2 (Or.inr hm))) hl.lt
 rw[DB h] at hq
 refine hq.mono λen w' hp=>?_
 obtain⟨p1,p2,p3,F',p4,p5,p6,p7⟩:=hp
 obtain⟨F2,p8,p9⟩:=(show ∃F2,JX w' gi (I.next x).1 (gi::F2)/\∀b,F' b↔b∈gi::F2 from p4)
 obtain⟨i1,i2⟩:=WZ J (I.next x).2 (some (I.next x).1) (.pointer pw) (.pointer (some ⟨gi,0,none⟩))
 have Ax:∀b∈Fw,w'.heap[b]?=w.heap[b]?:=λb hm=>p3.Ax b (hw.lt b hm) λhx=>by
  rcases hx with rfl|hx
  ·exact hg1 (List.mem_append.2 (Or.inl hm))
  ·exact(List.nodup_append.1 hn1).2.2 b hm b hx rfl
 refine⟨g::(Fw++gi::F2),by rw[i2];exact p1,⟨pw,some ⟨gi,0,none⟩,Fw,gi::F2,rfl,by rw[i1];exact p2,?_,?_,?_⟩,λb hm=>?_,⟨p3.os,p3.tape,p3.output,p3.size,λb hb hf=>p3.Ax b hb λhx=>hf (hx.elim (λe=>by rw[e];simp) λe=>by simp only[List.mem_cons,List.mem_append] at e ⊢;exact Or.inr (Or.inr e))⟩⟩
 ·rw[(LU _ _).1];exact hw.same Ax
 ·rw[(LU _ _).2];exact⟨gi,F2,rfl,rfl,p8⟩
 ·refine List.nodup_cons.2 ⟨λhm=>?_,List.nodup_append.2 ⟨(List.nodup_append.1 hn1).1,p8.2,λa ha b hb hab=>?_⟩⟩
  ·rcases List.mem_append.1 hm with hm|hm
   ·exact hg1 (List.mem_append.2 (Or.inl hm))
   ·exact p5 ((p9 g).2 hm)
  ·subst hab;rcases p7 a ((p9 a).2 hb) with h1|h1
   ·exact(List.nodup_append.1 hn1).2.2 a ha a h1 rfl
   ·have:=hw.lt a ha;omega
 ·simp only[List.mem_cons,List.mem_append] at hm ⊢;rcases hm with rfl|hm|hm
  ·exact Or.inl (Or.inl rfl)
  ·exact Or.inl (Or.inr (Or.inl hm))
  ·rcases p7 b ((p9 b).2 (by simp only[List.mem_cons];exact hm)) with h1|h1
   ·exact Or.inl (Or.inr (Or.inr (by simpa only[List.mem_cons] using h1)))
   ·exact Or.inr h1
theorem rT(J:Xa)(x:Xj)(g:Nat)(F:List Nat)(w:World)(h:MF w g J F)(ok:xG J):
  Calls Tryz.prog 176 #[.pointer (some ⟨g,0,none⟩),.agg x.l.toArray] w (IE (λw F=>MF w g (J.next x).1 F) (Yk (J.next x).2) F w):=by
 obtain⟨pw,pi,Fw,Fi,rfl,hb,hw,hi,hn⟩:=h
 have hgl:=hb.lt
 have hg0:[g].Nodup:=by simp
 rcases ok.pc with h|h|h|h|h|h|h|h|h|h|h|h|h|h|h|h
 ·rw[n0 h];exact(kC J pw pi x g w (by rw[DB h];exact hb)).mono λen w' hp=>BQ hw hi hn rfl rfl hp.1 hp.2.1 hp.2.2
 ·rw[n1 h];by_cases h2:x.word.nm=2
  ·have e:J.sized x=Xa.Ck ({J with pc:=1}:Xa) 2:=by rw[DB h];unfold Xa.sized;rw[h2];rfl
   rw[e];have hq:=V3 J pw pi x g w (by rw[DB h];exact hb) ok.k0 ok.k1;rw[xK h2] at hq;exact hq.mono λen w' hp=>BQ hw hi hn rfl rfl hp.1 hp.2.1 hp.2.2
  by_cases h4:x.word.nm=4
  ·have e:J.sized x=Xa.Ck ({J with pc:=1}:Xa) 4:=by rw[DB h];unfold Xa.sized;rw[h4];rfl
   rw[e];have hq:=Vz J pw pi x g w (by rw[DB h];exact hb) ok.k0 ok.k1;rw[xK h4] at hq;exact hq.mono λen w' hp=>BQ hw hi hn rfl rfl hp.1 hp.2.1 hp.2.2
  by_cases h8:x.word.nm=8
  ·have e:J.sized x=Xa.Ck ({J with pc:=1}:Xa) 8:=by rw[DB h];unfold Xa.sized;rw[h8];rfl
   rw[e];have hq:=Vx J pw pi x g w (by rw[DB h];exact hb) ok.k0 ok.k1;rw[xK h8] at hq;exact hq.mono λen w' hp=>BQ hw hi hn rfl rfl hp.1 hp.2.1 hp.2.2
  ·have z2:(x.word.nm==2)=false:=by simp[h2]
   have z4:(x.word.nm==4)=false:=by simp[h4]
   have z8:(x.word.nm==8)=false:=by simp[h8]
   have e:J.sized x=Xa.Ck ({J with pc:=1}:Xa) 1:=by rw[DB h];unfold Xa.sized Cf;rw[z2,z4,z8];rfl
   rw[e];exact(V5 J pw pi x g w (by rw[DB h];exact hb) ok.k0 ok.k1 z2 z4 z8).mono λen w' hp=>BQ hw hi hn rfl rfl hp.1 hp.2.1 hp.2.2
 ·rw[n2 h];by_cases hs:x.word.sl=0
  ·have hq:=jU J pw pi x g w (by rw[DB h];exact hb) ok.b0 ok.b1;rw[DB h,x_sl hs] at hq;exact hq.mono λen w' hp=>BQ hw hi hn (O8 hs).1 (O8 hs).2 hp.1 hp.2.1 hp.2.2
  ·have hs':(x.word.sl==0)=false:=by simp[hs]
   have hk:=Eq.refl J.op.kind;have hq:=rQ _ ok.kind J pw pi x g w ok.w0 ok.w1 ok.k0 ok.k1 (by unfold wR;rw[Mi h hk];exact hb) (ok.way h) hs';rw[Mi h hk] at hq;exact hq.mono λen w' hp=>YO hw hi hgl hn YC hp
 ·rw[nC (Or.inl h)];cases ho:x.ok with
  |true=>
   have hq:=jR J pw pi x g w (by rw[DB h];exact hb) ok.c0 ok.c1;rw[DB h,xJ ho] at hq;exact hq.mono λen w' hp=>BQ hw hi hn (by unfold Xa.Al;rw[h,ho];rfl) (by unfold Xa.Al;rw[h,ho];rfl) hp.1 hp.2.1 hp.2.2
  |false=>
   have e:(J.Al x).1.walk=J.walk:=by unfold Xa.Al;rw[h,ho];exact KP J
   have hk:=Eq.refl J.op.kind;have hq:=rP _ ok.kind J pw pi x g w ok.w0 ok.w1 ok.k0 ok.k1 (by unfold wR;rw[Mi h hk];exact hb);rw[Mi h hk,xJ ho] at hq;exact hq.mono λen w' hp=>YO hw hi hgl hn e hp
 ·rw[nC (Or.inr (Or.inl h))];have hq:=jP J pw pi x g w (by rw[DB h];exact hb) hg0 ok.c0 ok.c1;rw[DB h] at hq;exact hq.mono λen w' hp=>K9 hw hi hn (Ge (Or.inl h)) Zs Zs hp
 ·rw[nC (Or.inr (Or.inr (Or.inl h)))];obtain⟨W,hW⟩:=ok.walk (Or.inl h);rw[hW] at hw;obtain⟨g2,hpw,rfl,hb2⟩:=hw;obtain rfl:pw=some ⟨g2,0,none⟩:=by injection hpw
  have hq:=jN J W pi x g g2 w (by rw[YS h hW];exact hb) hb2 (by have:=hn;simp only[List.cons_append,List.nil_append,List.nodup_cons,List.mem_cons] at this ⊢;simp;exact λe=>this.1 (Or.inl e));rw[YS h hW] at hq;exact hq.mono λen w' hp=>K9 (pw:=some ⟨g2,0,none⟩) (Fw:=[g2]) (by rw[hW];exact⟨g2,rfl,rfl,hb2⟩) hi hn (Ge (Or.inr (Or.inl h))) Zs Zs hp
 ·rw[nC (Or.inr (Or.inr (Or.inr (Or.inl h))))];have hq:=jL J pw pi x g w (by rw[DB h];exact hb) ok.c0 ok.c1;rw[DB h] at hq;exact hq.mono λen w' hp=>BQ hw hi hn (by unfold Xa.Al;rw[h];rfl) (by unfold Xa.Al;rw[h];rfl) hp.1 hp.2.1 hp.2.2
 ·rw[nC (Or.inr (Or.inr (Or.inr (Or.inr (Or.inl h)))))];obtain⟨W,hW⟩:=ok.walk (Or.inr h);rw[hW] at hw;obtain⟨g2,hpw,rfl,hb2⟩:=hw;obtain rfl:pw=some ⟨g2,0,none⟩:=by injection hpw
  have hq:=jJ J W pi x g g2 w (by rw[YS h hW];exact hb) hb2 (by have:=hn;simp only[List.cons_append,List.nil_append,List.nodup_cons,List.mem_cons] at this ⊢;simp;exact λe=>this.1 (Or.inl e));rw[YS h hW] at hq;exact hq.mono λen w' hp=>K9 (pw:=some ⟨g2,0,none⟩) (Fw:=[g2]) (by rw[hW];exact⟨g2,rfl,rfl,hb2⟩) hi hn (Ge (Or.inr (Or.inr (Or.inl h)))) Zs Zs hp
 ·rw[nC (Or.inr (Or.inr (Or.inr (Or.inr (Or.inr (Or.inl h))))))];cases ho:x.ok with
  |true=>
   have hq:=jH J pw pi x g w (by rw[DB h];exact hb) ok.c0 ok.c1;rw[DB h,xJ ho] at hq;exact hq.mono λen w' hp=>BQ hw hi hn (by unfold Xa.Al;rw[h,ho];rfl) (by unfold Xa.Al;rw[h,ho];rfl) hp.1 hp.2.1 hp.2.2
  |false=>
   have hq:=aZ J pw pi x g w (by rw[DB h];exact hb) hg0 ok.c0 ok.c1 ho;rw[DB h] at hq;exact hq.mono λen w' hp=>K9 hw hi hn (Ge (Or.inr (Or.inr (Or.inr h)))) Zs Zs hp
 ·rw[nC (Or.inr (Or.inr (Or.inr (Or.inr (Or.inr (Or.inr (Or.inl h)))))))];by_cases hs:x.word.sl=0
  ·have hq:=jE J pw pi x g w (by rw[DB h];exact hb) ok.c0 ok.c1;rw[DB h,x_sl hs] at hq;exact hq.mono λen w' hp=>BQ hw hi hn (by unfold Xa.Al;rw[h,hs];rfl) (by unfold Xa.Al;rw[h,hs];rfl) hp.1 hp.2.1 hp.2.2
  ·have hs':(x.word.sl==0)=false:=by simp[hs]
   have e:(J.Al x).1.walk=J.walk:=by unfold Xa.Al;rw[h,hs'];exact TQ J
   have hk:=Eq.refl J.op.kind;have hq:=rO _ ok.kind J pw pi x g w ok.w0 ok.w1 ok.k0 ok.k1 (by unfold wR;rw[Mi h hk];exact hb) (ok.wayc (Or.inl h)) hs';rw[Mi h hk] at hq;exact hq.mono λen w' hp=>YO hw hi hgl hn e hp
 ·rw[nC (Or.inr (Or.inr (Or.inr (Or.inr (Or.inr (Or.inr (Or.inr h)))))))];have e:(J.Al x).1.walk=J.walk:=by unfold Xa.Al;rw[h];exact TQ J
  have hk:=Eq.refl J.op.kind;have hq:=iT _ ok.kind J pw pi x g w ok.w0 ok.w1 ok.k0 ok.k1 (by unfold wR;rw[Mi h hk];exact hb) (ok.wayc (Or.inr h));rw[Mi h hk] at hq;exact hq.mono λen w' hp=>YO hw hi hgl hn e hp
 ·exact kA x hb hw hi hn h (ok.inner h)
 ·rw[n12 h];have hq:=bS J pw pi x g w (by rw[DB h];exact hb);rw[DB h] at hq;exact hq.mono λen w' hp=>BQ hw hi hn rfl rfl hp.1 hp.2.1 hp.2.2
 ·rw[n13 h];have hq:=bQ J pw pi x g w (by rw[DB h];exact hb);rw[DB h] at hq;exact hq.mono λen w' hp=>BQ hw hi hn OF.1 OF.2 hp.1 hp.2.1 hp.2.2
 ·rw[n14 h];have hq:=bO J pw pi x g w (by rw[DB h];exact hb);rw[DB h] at hq;exact hq.mono λen w' hp=>BQ hw hi hn KL.1 KL.2 hp.1 hp.2.1 hp.2.2
 ·rw[n15 h];have hq:=bM J pw pi x g w (by rw[DB h];exact hb);rw[DB h] at hq;exact hq.mono λen w' hp=>BQ hw hi hn rfl rfl hp.1 hp.2.1 hp.2.2
end
def kM(J:Xc)(C:Xd)(x:Xj):Env:=Il [J.ii,C.ii,x.ii,(Xd.step C x).1.ii,(Xd.step C x).2.1.ii,(Xd.step (Xd.new J.op.key) x).1.ii,(Xd.step (Xd.new J.op.key) x).2.1.ii,(Xd.step (Xd.new (wr (J.op.key+1))) x).1.ii,(Xd.step (Xd.new (wr (J.op.key+1))) x).2.1.ii,(EV C J.level).ii,(EV C (wr (J.level+1))).ii] [J.bb,C.bb,x.bb,(Xd.step C x).1.bb,(Xd.step C x).2.1.bb,[(Xd.step C x).2.2],(Xd.step (Xd.new J.op.key) x).1.bb,(Xd.step (Xd.new J.op.key) x).2.1.bb,[(Xd.step (Xd.new J.op.key) x).2.2],(Xd.step (Xd.new (wr (J.op.key+1))) x).1.bb,(Xd.step (Xd.new (wr (J.op.key+1))) x).2.1.bb,[(Xd.step (Xd.new (wr (J.op.key+1))) x).2.2,(EV C J.level).cur.mark,(EV C (wr (J.level+1))).cur.mark]]
def sR:St:=⟨[],[(1,191,(ct [vs 0 9,[.bool (.var 0)],vs 9 4,[.bool (.var 1)],vs 13 8,[.ptr 3 0],vs 21 4,[.bool (.var 2)],vs 25 3])),(3,284,(ct [vs 28 9,[.bool (.var 3)],vs 37 4,[.bool (.var 4)],vs 41 11,[.bool (.var 5)],vs 52 6,[.bool (.var 6)],vs 58 8,[.bool (.var 7)],vs 66 7,[.bool (.var 8)],vs 73 7,[.bool (.var 9)],vs 80 4,[.bool (.var 10)]]))],[],10,0⟩
def cG:List SV:=[.c (.ptr 1 0),.agg ((ct [vs 84 4,[.bool (.var 11),.bool (.var 12)]]))]
def yH:List Xv:=[⟨true,206,284,(ct [vs 28 9,[.bool (.var 3)],vs 37 4,[.bool (.var 4)],vs 41 11,[.bool (.var 5)],vs 52 6,[.bool (.var 6)],vs 58 8,[.bool (.var 7)],vs 66 7,[.bool (.var 8)],vs 73 7,[.bool (.var 9)],vs 80 4,[.bool (.var 10)]]),[.agg ((ct [vs 84 4,[.bool (.var 11),.bool (.var 12)]]))],.IU [(true,(ct [vs 144 8,[.bool (.var 21)],vs 152 4,[.bool (.var 22)],vs 156 4])),(false,[.bool (.var 23)])],(ct [vs 88 9,[.bool (.var 13)],vs 97 4,[.bool (.var 14)],vs 101 11,[.bool (.var 15)],vs 112 6,[.bool (.var 16)],vs 118 8,[.bool (.var 17)],vs 126 7,[.bool (.var 18)],vs 133 7,[.bool (.var 19)],vs 140 4,[.bool (.var 20)]])⟩,⟨true,206,284,(ct [zs 9,[.bool (.lit false)],zs 4,[.bool (.lit false)],zs 11,[.bool (.lit false),.int (.var 18)],zs 5,[.bool (.lit false)],zs 8,[.bool (.lit false)],zs 7,[.bool (.lit false)],zs 7,[.bool (.lit false)],zs 4,[.bool (.lit false)]]),[.agg ((ct [vs 84 4,[.bool (.var 11),.bool (.var 12)]]))],.IU [(true,(ct [vs 216 8,[.bool (.var 32)],vs 224 4,[.bool (.var 33)],vs 228 4])),(false,[.bool (.var 34)])],(ct [vs 160 9,[.bool (.var 24)],vs 169 4,[.bool (.var 25)],vs 173 11,[.bool (.var 26)],vs 184 6,[.bool (.var 27)],vs 190 8,[.bool (.var 28)],vs 198 7,[.bool (.var 29)],vs 205 7,[.bool (.var 30)],vs 212 4,[.bool (.var 31)]])⟩,⟨true,206,284,(ct [zs 9,[.bool (.lit false)],zs 4,[.bool (.lit false)],zs 11,[.bool (.lit false),.int (.add (.var 18) (.lit 1))],zs 5,[.bool (.lit false)],zs 8,[.bool (.lit false)],zs 7,[.bool (.lit false)],zs 7,[.bool (.lit false)],zs 4,[.bool (.lit false)]]),[.agg ((ct [vs 84 4,[.bool (.var 11),.bool (.var 12)]]))],.IU [(true,(ct [vs 288 8,[.bool (.var 43)],vs 296 4,[.bool (.var 44)],vs 300 4])),(false,[.bool (.var 45)])],(ct [vs 232 9,[.bool (.var 35)],vs 241 4,[.bool (.var 36)],vs 245 11,[.bool (.var 37)],vs 256 6,[.bool (.var 38)],vs 262 8,[.bool (.var 39)],vs 270 7,[.bool (.var 40)],vs 277 7,[.bool (.var 41)],vs 284 4,[.bool (.var 42)]])⟩,⟨true,208,284,(ct [vs 28 9,[.bool (.var 3)],vs 37 4,[.bool (.var 4)],vs 41 11,[.bool (.var 5)],vs 52 6,[.bool (.var 6)],vs 58 8,[.bool (.var 7)],vs 66 7,[.bool (.var 8)],vs 73 7,[.bool (.var 9)],vs 80 4,[.bool (.var 10)]]),[.c (.int (.var 25))],.IU [(true,vs 304 3),(true,(ct [vs 307 4,[.bool (.var 46)]]))],(ct [vs 28 9,[.bool (.var 3)],vs 37 4,[.bool (.var 4)],vs 41 11,[.bool (.var 5)],vs 52 6,[.bool (.var 6)],vs 58 8,[.bool (.var 7)],vs 66 7,[.bool (.var 8)],vs 73 7,[.bool (.var 9)],vs 80 4,[.bool (.var 10)]])⟩,⟨true,208,284,(ct [vs 28 9,[.bool (.var 3)],vs 37 4,[.bool (.var 4)],vs 41 11,[.bool (.var 5)],vs 52 6,[.bool (.var 6)],vs 58 8,[.bool (.var 7)],vs 66 7,[.bool (.var 8)],vs 73 7,[.bool (.var 9)],vs 80 4,[.bool (.var 10)]]),[.c (.int (.add (.var 25) (.lit 1)))],.IU [(true,vs 311 3),(true,(ct [vs 314 4,[.bool (.var 47)]]))],(ct [vs 28 9,[.bool (.var 3)],vs 37 4,[.bool (.var 4)],vs 41 11,[.bool (.var 5)],vs 52 6,[.bool (.var 6)],vs 58 8,[.bool (.var 7)],vs 66 7,[.bool (.var 8)],vs 73 7,[.bool (.var 9)],vs 80 4,[.bool (.var 10)]])⟩]
theorem kN(J:Xc)(C:Xd)(x:Xj)(g1 g2:Nat)(w:World)(h1:Bk w g1 191 (({J with Ab:=some C}:Xc).l (.pointer (some ⟨g2,0,none⟩))).toArray)(h2:Bk w g2 284 (C.l).toArray)(hnd:[g1,g2].Nodup)(hC:LvOk C):Calls Tryz.prog 195 #[.pointer (some ⟨g1,0,none⟩),.agg x.l.toArray] w λen w'=>FF (λw q F1=>BI w q (Xc.next {J with Ab:=some C} x).1.Ab F1) 191 (λq=>(Xc.next {J with Ab:=some C} x).1.l q) (Yk (Xc.next {J with Ab:=some C} x).2) g1 [g1,g2] w en w':=by
 refine p2 (kM J C x) yH 60 sR cG 23 191 284 (Xc.next {J with Ab:=some C} x) (λr=>Yk r.2) (λr q=>r.1.l q) (λr=>r.1.Ab.map λW=>W.l.toArray) (λr w q F1=>BI w q r.1.Ab F1) (Ys (BW Tryz.func206 λg w hB=>Da C x g w (hC) hB) (Ys (BW Tryz.func206 λg w hB=>Da (Xd.new J.op.key) x g w (Or.inl rfl) hB) (Ys (BW Tryz.func206 λg w hB=>Da (Xd.new (wr (J.op.key+1))) x g w (Or.inl rfl) hB) (Ys (BW Tryz.func208 λg w hB=>PN C J.level g w hB) (Ys (BW Tryz.func208 λg w hB=>PN C (wr (J.level+1)) g w hB) Xu))))) BY (bl2 (Yw h1 Zk) (Yw h2 Zk)) hnd (λ_ _ h=>FC h) (λ_ _ _ _ h hb=>FB h hb) ?_;refine Dr (kK _ _) ?_;exact vS3
structure xH(J:Xc):Prop where
 Ab:∀C,J.Ab=some C->LvOk C
 none_:J.Ab=none->(J.pc=0/\(J.op.kind=6\/J.op.kind=7\/J.op.kind=8))\/(J.op.kind=6/\(J.pc=1\/J.pc=2\/J.pc=3\/J.pc=4))
theorem sQ(J:Xc)(x:Xj)(g:Nat)(F:List Nat)(w:World)(h:UX w g J F)(ok:xH J):
  Calls Tryz.prog 195 #[.pointer (some ⟨g,0,none⟩),.agg x.l.toArray] w (IE (λw F=>UX w g (J.next x).1 F) (Yk (J.next x).2) F w):=by
 obtain⟨⟨q,F1,rfl,hb,hw⟩,hn⟩:=h
 cases hW:J.Ab with
 |none=>
  rw[hW] at hw
  obtain⟨rfl,rfl⟩:=hw
  have e:∀{k n:Int},J.pc=n->J.op.kind=k->({J with pc:=n,op:={J.op with kind:=k},Ab:=none}:Xc)=J:=λh1 h2=>by
   cases J;rename_i op _ _ _ _ _;cases op;simp only at hW h1 h2;subst hW;subst h1;subst h2;rfl
  rcases ok.none_ hW with⟨h0,hk|hk|hk⟩|⟨hk,h0|h0|h0|h0⟩
  ·have hq:=Tg J x g w (by rw[e h0 hk];exact hb) Zs;rw[e h0 hk] at hq;exact hq
  ·have hq:=Te J x g w (by rw[e h0 hk];exact hb) Zs;rw[e h0 hk] at hq;exact hq
  ·have hq:=Tc J x g w (by rw[e h0 hk];exact hb) Zs;rw[e h0 hk] at hq;exact hq
  ·have hq:=Ta J x g w (by rw[e h0 hk];exact hb) Zs;rw[e h0 hk] at hq;exact hq
  ·have hq:=SY J x g w (by rw[e h0 hk];exact hb) Zs;rw[e h0 hk] at hq;exact hq
  ·have hq:=SW J x g w (by rw[e h0 hk];exact hb) Zs;rw[e h0 hk] at hq;exact hq
  ·have hq:=SR J x g w (by rw[e h0 hk];exact hb) Zs;rw[e h0 hk] at hq;exact hq
 |some C=>
  rw[hW] at hw
  obtain⟨g2,rfl,rfl,hb2⟩:=hw
  have e:({J with Ab:=some C}:Xc)=J:=by cases J;simp only at hW;subst hW;rfl
  have hq:=kN J C x g g2 w (by rw[e];exact hb) hb2 hn (ok.Ab C hW)
  rw[e] at hq
  exact hq
def Lt(w:World)(v:Value)(J:Xx)(F:List Nat):Prop:=
 match J with
 |.pile J=>∃g,v=.iface 127 (.pointer (some ⟨g,0,none⟩))/\F=[g]/\Bk w g 175 J.l.toArray
 |.XK J=>∃g,v=.iface 130 (.pointer (some ⟨g,0,none⟩))/\F=[g]/\Bk w g 179 J.l.toArray
 |.lit J=>∃g,v=.iface 133 (.pointer (some ⟨g,0,none⟩))/\JX w g J F
 |.K2 J=>∃g,v=.iface 136 (.pointer (some ⟨g,0,none⟩))/\MF w g J F
 |.FJ J=>∃g,v=.iface 139 (.pointer (some ⟨g,0,none⟩))/\UX w g J F
def Xx.Ok:Xx->Prop
 |.K2 J=>xG J
 |.FJ J=>xH J
 |_=>True
section
variable{w w':World}{v:Value}{J:Xx}{F:List Nat}
theorem Lt.same(h:Lt w v J F)(hs:∀b∈F,w'.heap[b]?=w.heap[b]?):Lt w' v J F:=by
 cases J with
 |pile J=>obtain⟨g,rfl,rfl,hb⟩:=h;exact⟨g,rfl,rfl,hb.same (hs g Zs)⟩
 |XK J=>obtain⟨g,rfl,rfl,hb⟩:=h;exact⟨g,rfl,rfl,hb.same (hs g Zs)⟩
 |lit J=>obtain⟨g,rfl,hb⟩:=h;exact⟨g,rfl,hb.same hs⟩
 |K2 J=>obtain⟨g,rfl,hb⟩:=h;exact⟨g,rfl,hb.same hs⟩
 |FJ J=>obtain⟨g,rfl,hb⟩:=h;exact⟨g,rfl,hb.same hs⟩
theorem Lt.lt(h:Lt w v J F):∀b∈F,b<w.heap.size:=by
 cases J with
 |pile J=>obtain⟨g,rfl,rfl,hb⟩:=h;intro b hm;rw[List.mem_singleton.1 hm];exact hb.lt
 |XK J=>obtain⟨g,rfl,rfl,hb⟩:=h;intro b hm;rw[List.mem_singleton.1 hm];exact hb.lt
 |lit J=>obtain⟨g,rfl,hb⟩:=h;exact hb.lt
 |K2 J=>obtain⟨g,rfl,hb⟩:=h;exact hb.lt
 |FJ J=>obtain⟨g,rfl,hb⟩:=h;exact hb.lt
theorem Lt.val(h:Lt w v J F):v.oneCell'=true/\zF v=false:=by
 cases J with
 |pile J=>obtain⟨g,rfl,_⟩:=h;exact⟨rfl,rfl⟩
 |XK J=>obtain⟨g,rfl,_⟩:=h;exact⟨rfl,rfl⟩
 |lit J=>obtain⟨g,rfl,_⟩:=h;exact⟨rfl,rfl⟩
 |K2 J=>obtain⟨g,rfl,_⟩:=h;exact⟨rfl,rfl⟩
 |FJ J=>obtain⟨g,rfl,_⟩:=h;exact⟨rfl,rfl⟩
end
section
variable(a:Addr)(x:Value)(w:World)
theorem fF:(callMethod (.iface 127 (.pointer (some a))) "Next" #[x]).run Tryz.prog w=.ok (.enter 135 #[.pointer (some a),x]) w:=Zk
theorem nL:(callMethod (.iface 130 (.pointer (some a))) "Next" #[x]).run Tryz.prog w=.ok (.enter 145 #[.pointer (some a),x]) w:=Zk
theorem nK:(callMethod (.iface 133 (.pointer (some a))) "Next" #[x]).run Tryz.prog w=.ok (.enter 154 #[.pointer (some a),x]) w:=Zk
theorem nI:(callMethod (.iface 136 (.pointer (some a))) "Next" #[x]).run Tryz.prog w=.ok (.enter 176 #[.pointer (some a),x]) w:=Zk
theorem nJ:(callMethod (.iface 139 (.pointer (some a))) "Next" #[x]).run Tryz.prog w=.ok (.enter 195 #[.pointer (some a),x]) w:=Zk
end
theorem HU{v:Value}{x:Value}{f':Nat}{a':Array Value}{w:World}{Q:Ending->World->Prop}(h1:(callMethod v "Next" #[x]).run Tryz.prog w=.ok (.enter f' a') w)(h2:Calls Tryz.prog f' a' w Q):AI Tryz.prog Dl #[v,x] w Q:=by
 unfold AI;rw[if_pos rfl];exact⟨v,f',a',rfl,h1,h2⟩
theorem nZ(J:Xx)(x:Xj)(v:Value)(F:List Nat)(w:World)(h:Lt w v J F)(ok:J.Ok):
  AI Tryz.prog Dl #[v,.agg x.l.toArray] w (IE (λw F=>Lt w v (J.next x).1 F) (Yk (J.next x).2) F w):=by
 cases J with
 |pile J=>
  obtain⟨g,rfl,rfl,hb⟩:=h
  exact HU (fF _ _ _) ((mL J x g w hb).mono λen w' hp=>⟨[g],hp.1,⟨g,rfl,rfl,hp.2.1⟩,λb hb=>Or.inl hb,hp.2.2⟩)
 |XK J=>
  obtain⟨g,rfl,rfl,hb⟩:=h
  exact HU (nL _ _ _) ((vH J x g w hb).mono λen w' hp=>⟨[g],hp.1,⟨g,rfl,rfl,hp.2.1⟩,λb hb=>Or.inl hb,hp.2.2⟩)
 |lit J=>
  obtain⟨g,rfl,hb⟩:=h
  exact HU (nK _ _ _) ((ZE J x g F w hb).mono λen w' hp=>by obtain⟨F',p1,p2,p3,p4⟩:=hp;exact⟨F',p1,⟨g,rfl,p2⟩,p3,p4⟩)
 |K2 J=>
  obtain⟨g,rfl,hb⟩:=h
  exact HU (nI _ _ _) ((rT J x g F w hb ok).mono λen w' hp=>by obtain⟨F',p1,p2,p3,p4⟩:=hp;exact⟨F',p1,⟨g,rfl,p2⟩,p3,p4⟩)
 |FJ J=>
  obtain⟨g,rfl,hb⟩:=h
  exact HU (nJ _ _ _) ((sQ J x g F w hb ok).mono λen w' hp=>by obtain⟨F',p1,p2,p3,p4⟩:=hp;exact⟨F',p1,⟨g,rfl,p2⟩,p3,p4⟩)
end Go.Proofs.YtaipogljokblkaaGreatDoor
