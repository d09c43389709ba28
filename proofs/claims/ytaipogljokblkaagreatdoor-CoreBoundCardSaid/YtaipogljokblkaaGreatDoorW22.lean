/- Core: JC, CSteS, JS, JD. -/
import Derived.Test.YtaipogljokblkaaGreatDoorW19
import Derived.Test.YtaipogljokblkaaGreatDoorW01
import Derived.Test.YtaipogljokblkaaGreatDoorW09
import Derived.Test.YtaipogljokblkaaGreatDoorW18
import Derived.Test.YtaipogljokblkaaGreatDoorW21
import Derived.Test.YtaipogljokblkaaGreatDoorW12
import Derived.Test.YtaipogljokblkaaGreatDoorW10
set_option linter.all false
set_option maxRecDepth 100000
set_option maxHeartbeats 8000000
namespace Go.Proofs.YtaipogljokblkaaGreatDoor
open Go Go.RowKit
set_option linter.unusedSimpArgs false
set_option linter.unusedVariables false
set_option linter.unusedSectionVars false
section
variable{J:Xa}{x:Xj}{c:Xf}
theorem MC(J:Xa)(c:Xf):(J.Gb c).1.walk=J.walk/\(J.Gb c).1.inner=J.inner:=by
 unfold Xa.Gb;cases h1:(!(c.kind==12)) with
 |true=>exact⟨rfl,rfl⟩
 |false=>
  cases h2:(!(c.BR.code==1)||J.op.kind==8) with
  |true=>simp only[h2,cond_true,cond_false];exact⟨rfl,rfl⟩
  |false=>simp only[h2,cond_true,cond_false];exact⟨trivial,trivial⟩
theorem YM(J:Xa)(c:Xf)(o:Option Xi)(a b:Value):(Xa.Gb {J with inner:=o} c).1.l a b=(J.Gb c).1.l a b/\(Xa.Gb {J with inner:=o} c).2=(J.Gb c).2:=by
 unfold Xa.Gb;cases h1:(!(c.kind==12)) with
 |true=>exact⟨rfl,rfl⟩
 |false=>
  cases h2:(!(c.BR.code==1)||J.op.kind==8) with
  |true=>simp only[h2,cond_true,cond_false];exact⟨rfl,rfl⟩
  |false=>simp only[h2,cond_true,cond_false];exact⟨rfl,trivial⟩
theorem YN(J:Xa)(x:Xj):(J.Ii x).1.walk=J.walk:=by
 unfold Xa.Ii;cases h:J.inner with
 |none=>rfl
 |some I=>exact(MC _ _).1
theorem Lm(J:Xa):J.perform.1.walk=J.walk:=by
 unfold Xa.perform;exact YN _ _
theorem LF(J:Xa):J.Dr.1.walk=J.walk:=by
 unfold Xa.Dr;cases(J.Ai==J.wanted)
 ·rfl
 ·exact Lm J
theorem U4(J:Xa):J.Iv.1.walk=J.walk:=by unfold Xa.Iv;exact LF _
theorem Pv(hs:x.word.sl=0):(J.EO x).1.walk=J.walk/\(J.EO x).1.inner=J.inner:=by
 unfold Xa.EO;rw[show(!(x.word.sl==0))=false from by simp[hs]];cases(J.Ai==0)<;>exact⟨rfl,rfl⟩
theorem P9:(J.He x).1.walk=J.walk/\(J.He x).1.inner=J.inner:=by
 unfold Xa.He;cases(!x.ok)
 ·cases(J.op.kind==7)
  ·cases(J.size==8)
   ·cases(decide (J.count.nm<wr (2*J.size)))<;>exact⟨rfl,rfl⟩
   ·exact⟨rfl,rfl⟩
  ·exact⟨rfl,rfl⟩
 ·exact⟨rfl,rfl⟩
theorem Li:(J.Dn x).1.walk=J.walk/\(J.Dn x).1.inner=J.inner:=by
 unfold Xa.Dn;cases(x.word.nm==J.size)<;>exact⟨rfl,rfl⟩
theorem Jg(J:Xa)(x:Xj):(J.Cq x).1.inner=J.inner:=by
 unfold Xa.Cq;simp only;cases(CT J.walk x).2.2
 ·cases(IV (CT J.walk x).1)<;>rfl
 ·rfl
theorem Gp(h:J.pc=4\/J.pc=5\/J.pc=7\/J.pc=8):(J.Ak x).1.inner=J.inner:=by
 unfold Xa.Ak;rcases h with h|h|h|h<;>rw[h]
 ·exact Jg J.An x
 ·exact Jg J x
 ·rfl
 ·cases hx:x.ok
  ·exact Jg J.An x
  ·rfl
theorem Zq:(J.EO x).1.walk=J.walk:=by
 unfold Xa.EO;cases(!(x.word.sl==0))
 ·cases(J.Ai==0)<;>rfl
 ·exact LF _
end
section
variable{w:World}{g:Nat}{Fw Fi:List Nat}{pw pi:Option Go.Addr}{J:Xa}
theorem lA(x:Xj)(hb:Bk w g 186 (J.l (.pointer pw) (.pointer pi)).toArray)(hw:Dt w (.pointer pw) J.walk Fw)(hi:Gf w (.pointer pi) J.inner Fi)(hn:(g::(Fw++Fi)).Nodup)(h:J.pc=11)(hI:∃I,J.inner=some I):
  Calls Tryz.prog 176 #[.pointer (some ⟨g,0,none⟩),.agg x.l.toArray] w (IR (λw F=>Nx w g (J.next x).1 F) (Yn (J.next x).2) (g::(Fw++Fi)) w):=by
 obtain⟨I,hI⟩:=hI
 rw[hI] at hi
 obtain⟨gi,F1,hq,rfl,hl⟩:=hi
 obtain rfl:pi=some ⟨gi,0,none⟩:=by injection hq
 have e1:J.next x=Xa.Gb {J with inner:=some (I.next x).1} (I.next x).2:=by rw[n11 h];unfold Xa.Ii;rw[hI]
 rw[e1]
 obtain⟨hg1,hn1⟩:=List.nodup_cons.1 hn
 have hq:=dC (Φ:=zT gi I (I.next x).1) (F:=fun b=>b∈gi :: F1) J pw ⟨gi,0,none⟩ x (I.next x).2 g w (by rw [DL h];exact hb) (fun w F hP hbd=>by
  obtain⟨Fl,h1,h2⟩:=(show ∃Fl,Km w gi I Fl/\∀b,F b↔b∈Fl from hP);refine(aR I x gi Fl w h1).mono λen w' hp=>?_;obtain⟨F',p1,p2,p3,p4⟩:=hp;have p5:=p2.lt;obtain⟨⟨q,F2,rfl,_⟩,_⟩:=id p2;exact⟨p1,S9 p4 (λb hb=>(h2 b).2 hb) ⟨λb=>b∈gi::F2,⟨F2,p2,λb=>Iff.rfl⟩,λb hb=>(p3 b hb).imp (h2 b).2 id,p5⟩⟩) ⟨gi::F1,hl,λb=>Iff.rfl⟩ (λhm=>hg1 (List.mem_append.2 (Or.inr hm))) hl.lt
 rw[DL h] at hq
 refine hq.mono λen w' hp=>?_
 obtain⟨p1,p2,p3,F',p4,p5,p6,p7⟩:=hp
 obtain⟨F2,p8,p9⟩:=(show ∃F2,Km w' gi (I.next x).1 (gi::F2)/\∀b,F' b↔b∈gi::F2 from p4)
 obtain⟨i1,i2⟩:=YM J (I.next x).2 (some (I.next x).1) (.pointer pw) (.pointer (some ⟨gi,0,none⟩))
 have Av:∀b∈Fw,w'.heap[b]?=w.heap[b]?:=λb hm=>p3.Av b (hw.lt b hm) λhx=>by
  rcases hx with rfl|hx
  ·exact hg1 (List.mem_append.2 (Or.inl hm))
  ·exact(List.nodup_append.1 hn1).2.2 b hm b hx rfl
 refine⟨g::(Fw++gi::F2),by rw[i2];exact p1,⟨pw,some ⟨gi,0,none⟩,Fw,gi::F2,rfl,by rw[i1];exact p2,?_,?_,?_⟩,λb hm=>?_,⟨p3.os,p3.tape,p3.output,p3.size,λb hb hf=>p3.Av b hb λhx=>hf (hx.elim (λe=>by rw[e];simp) λe=>by simp only[List.mem_cons,List.mem_append] at e ⊢;exact Or.inr (Or.inr e))⟩⟩
 ·rw[(MC _ _).1];exact hw.same Av
 ·rw[(MC _ _).2];exact⟨gi,F2,rfl,rfl,p8⟩
 ·refine List.nodup_cons.2 ⟨λhm=>?_,List.nodup_append.2 ⟨(List.nodup_append.1 hn1).1,p8.2,λa ha b hb hab=>?_⟩⟩
  ·rcases List.mem_append.1 hm with hm|hm
   ·exact hg1 (List.mem_append.2 (Or.inl hm))
   ·exact p5 ((p9 g).2 hm)
  ·subst hab;rcases p7 a ((p9 a).2 hb) with h1|h1
   ·exact(List.nodup_append.1 hn1).2.2 a ha a h1 rfl
   ·have:=hw.lt a ha;omega
 ·simp only[List.mem_cons,List.mem_append] at hm ⊢;rcases hm with rfl|hm|hm
  ·exact Or.inl (Or.inl rfl)
  ·exact Or.inl (Or.inr (Or.inl hm))
  ·rcases p7 b ((p9 b).2 (by simp only[List.mem_cons];exact hm)) with h1|h1
   ·exact Or.inl (Or.inr (Or.inr (by simpa only[List.mem_cons] using h1)))
   ·exact Or.inr h1
theorem sI(J:Xa)(x:Xj)(g:Nat)(F:List Nat)(w:World)(h:Nx w g J F)(ok:xQ J):
  Calls Tryz.prog 176 #[.pointer (some ⟨g,0,none⟩),.agg x.l.toArray] w (IR (λw F=>Nx w g (J.next x).1 F) (Yn (J.next x).2) F w):=by
 obtain⟨pw,pi,Fw,Fi,rfl,hb,hw,hi,hn⟩:=h
 have hgl:=hb.lt
 have hg0:[g].Nodup:=by simp
 rcases ok.pc with h|h|h|h|h|h|h|h|h|h|h|h|h|h|h|h
 ·rw[n0 h];exact(lC J pw pi x g w (by rw[DL h];exact hb)).mono λen w' hp=>Cb hw hi hn rfl rfl hp.1 hp.2.1 hp.2.2
 ·rw[n1 h];by_cases h2:x.word.nm=2
  ·have e:J.sized x=Xa.Cn ({J with pc:=1}:Xa) 2:=by rw[DL h];unfold Xa.sized;rw[h2];rfl
   rw[e];have hq:=Wf J pw pi x g w (by rw[DL h];exact hb) ok.k0 ok.k1;rw[xW h2] at hq;exact hq.mono λen w' hp=>Cb hw hi hn rfl rfl hp.1 hp.2.1 hp.2.2
  by_cases h4:x.word.nm=4
  ·have e:J.sized x=Xa.Cn ({J with pc:=1}:Xa) 4:=by rw[DL h];unfold Xa.sized;rw[h4];rfl
   rw[e];have hq:=Wd J pw pi x g w (by rw[DL h];exact hb) ok.k0 ok.k1;rw[xW h4] at hq;exact hq.mono λen w' hp=>Cb hw hi hn rfl rfl hp.1 hp.2.1 hp.2.2
  by_cases h8:x.word.nm=8
  ·have e:J.sized x=Xa.Cn ({J with pc:=1}:Xa) 8:=by rw[DL h];unfold Xa.sized;rw[h8];rfl
   rw[e];have hq:=Wb J pw pi x g w (by rw[DL h];exact hb) ok.k0 ok.k1;rw[xW h8] at hq;exact hq.mono λen w' hp=>Cb hw hi hn rfl rfl hp.1 hp.2.1 hp.2.2
  ·have z2:(x.word.nm==2)=false:=by simp[h2]
   have z4:(x.word.nm==4)=false:=by simp[h4]
   have z8:(x.word.nm==8)=false:=by simp[h8]
   have e:J.sized x=Xa.Cn ({J with pc:=1}:Xa) 1:=by rw[DL h];unfold Xa.sized Kq;rw[z2,z4,z8];rfl
   rw[e];exact(Wh J pw pi x g w (by rw[DL h];exact hb) ok.k0 ok.k1 z2 z4 z8).mono λen w' hp=>Cb hw hi hn rfl rfl hp.1 hp.2.1 hp.2.2
 ·rw[n2 h];by_cases hs:x.word.sl=0
  ·have hq:=kU J pw pi x g w (by rw[DL h];exact hb) ok.b0 ok.b1;rw[DL h,x_sl hs] at hq;exact hq.mono λen w' hp=>Cb hw hi hn (Pv hs).1 (Pv hs).2 hp.1 hp.2.1 hp.2.2
  ·have hs':(x.word.sl==0)=false:=by simp[hs]
   have hk:=Eq.refl J.op.kind;have hq:=sF _ ok.kind J pw pi x g w ok.w0 ok.w1 ok.k0 ok.k1 (by unfold wT;rw[MO h hk];exact hb) (ok.way h) hs';rw[MO h hk] at hq;exact hq.mono λen w' hp=>ZF hw hi hgl hn Zq hp
 ·rw[nC (Or.inl h)];cases ho:x.ok with
  |true=>
   have hq:=kS J pw pi x g w (by rw[DL h];exact hb) ok.c0 ok.c1;rw[DL h,xV ho] at hq;exact hq.mono λen w' hp=>Cb hw hi hn (by unfold Xa.Ak;rw[h,ho];rfl) (by unfold Xa.Ak;rw[h,ho];rfl) hp.1 hp.2.1 hp.2.2
  |false=>
   have e:(J.Ak x).1.walk=J.walk:=by unfold Xa.Ak;rw[h,ho];exact Lm J
   have hk:=Eq.refl J.op.kind;have hq:=sE _ ok.kind J pw pi x g w ok.w0 ok.w1 ok.k0 ok.k1 (by unfold wT;rw[MO h hk];exact hb);rw[MO h hk,xV ho] at hq;exact hq.mono λen w' hp=>ZF hw hi hgl hn e hp
 ·rw[nC (Or.inr (Or.inl h))];have hq:=kQ J pw pi x g w (by rw[DL h];exact hb) hg0 ok.c0 ok.c1;rw[DL h] at hq;exact hq.mono λen w' hp=>KX hw hi hn (Gp (Or.inl h)) Zs Zs hp
 ·rw[nC (Or.inr (Or.inr (Or.inl h)))];obtain⟨W,hW⟩:=ok.walk (Or.inl h);rw[hW] at hw;obtain⟨g2,hpw,rfl,hb2⟩:=hw;obtain rfl:pw=some ⟨g2,0,none⟩:=by injection hpw
  have hq:=kO J W pi x g g2 w (by rw[ZH h hW];exact hb) hb2 (by have:=hn;simp only[List.cons_append,List.nil_append,List.nodup_cons,List.mem_cons] at this ⊢;simp;exact λe=>this.1 (Or.inl e));rw[ZH h hW] at hq;exact hq.mono λen w' hp=>KX (pw:=some ⟨g2,0,none⟩) (Fw:=[g2]) (by rw[hW];exact⟨g2,rfl,rfl,hb2⟩) hi hn (Gp (Or.inr (Or.inl h))) Zs Zs hp
 ·rw[nC (Or.inr (Or.inr (Or.inr (Or.inl h))))];have hq:=kM J pw pi x g w (by rw[DL h];exact hb) ok.c0 ok.c1;rw[DL h] at hq;exact hq.mono λen w' hp=>Cb hw hi hn (by unfold Xa.Ak;rw[h];rfl) (by unfold Xa.Ak;rw[h];rfl) hp.1 hp.2.1 hp.2.2
 ·rw[nC (Or.inr (Or.inr (Or.inr (Or.inr (Or.inl h)))))];obtain⟨W,hW⟩:=ok.walk (Or.inr h);rw[hW] at hw;obtain⟨g2,hpw,rfl,hb2⟩:=hw;obtain rfl:pw=some ⟨g2,0,none⟩:=by injection hpw
  have hq:=kK J W pi x g g2 w (by rw[ZH h hW];exact hb) hb2 (by have:=hn;simp only[List.cons_append,List.nil_append,List.nodup_cons,List.mem_cons] at this ⊢;simp;exact λe=>this.1 (Or.inl e));rw[ZH h hW] at hq;exact hq.mono λen w' hp=>KX (pw:=some ⟨g2,0,none⟩) (Fw:=[g2]) (by rw[hW];exact⟨g2,rfl,rfl,hb2⟩) hi hn (Gp (Or.inr (Or.inr (Or.inl h)))) Zs Zs hp
 ·rw[nC (Or.inr (Or.inr (Or.inr (Or.inr (Or.inr (Or.inl h))))))];cases ho:x.ok with
  |true=>
   have hq:=kI J pw pi x g w (by rw[DL h];exact hb) ok.c0 ok.c1;rw[DL h,xV ho] at hq;exact hq.mono λen w' hp=>Cb hw hi hn (by unfold Xa.Ak;rw[h,ho];rfl) (by unfold Xa.Ak;rw[h,ho];rfl) hp.1 hp.2.1 hp.2.2
  |false=>
   have hq:=cH J pw pi x g w (by rw[DL h];exact hb) hg0 ok.c0 ok.c1 ho;rw[DL h] at hq;exact hq.mono λen w' hp=>KX hw hi hn (Gp (Or.inr (Or.inr (Or.inr h)))) Zs Zs hp
 ·rw[nC (Or.inr (Or.inr (Or.inr (Or.inr (Or.inr (Or.inr (Or.inl h)))))))];by_cases hs:x.word.sl=0
  ·have hq:=kF J pw pi x g w (by rw[DL h];exact hb) ok.c0 ok.c1;rw[DL h,x_sl hs] at hq;exact hq.mono λen w' hp=>Cb hw hi hn (by unfold Xa.Ak;rw[h,hs];rfl) (by unfold Xa.Ak;rw[h,hs];rfl) hp.1 hp.2.1 hp.2.2
  ·have hs':(x.word.sl==0)=false:=by simp[hs]
   have e:(J.Ak x).1.walk=J.walk:=by unfold Xa.Ak;rw[h,hs'];exact U4 J
   have hk:=Eq.refl J.op.kind;have hq:=sD _ ok.kind J pw pi x g w ok.w0 ok.w1 ok.k0 ok.k1 (by unfold wT;rw[MO h hk];exact hb) (ok.wayc (Or.inl h)) hs';rw[MO h hk] at hq;exact hq.mono λen w' hp=>ZF hw hi hgl hn e hp
 ·rw[nC (Or.inr (Or.inr (Or.inr (Or.inr (Or.inr (Or.inr (Or.inr h)))))))];have e:(J.Ak x).1.walk=J.walk:=by unfold Xa.Ak;rw[h];exact U4 J
  have hk:=Eq.refl J.op.kind;have hq:=jW _ ok.kind J pw pi x g w ok.w0 ok.w1 ok.k0 ok.k1 (by unfold wT;rw[MO h hk];exact hb) (ok.wayc (Or.inr h));rw[MO h hk] at hq;exact hq.mono λen w' hp=>ZF hw hi hgl hn e hp
 ·exact lA x hb hw hi hn h (ok.inner h)
 ·rw[n12 h];have hq:=dA J pw pi x g w (by rw[DL h];exact hb);rw[DL h] at hq;exact hq.mono λen w' hp=>Cb hw hi hn rfl rfl hp.1 hp.2.1 hp.2.2
 ·rw[n13 h];have hq:=cY J pw pi x g w (by rw[DL h];exact hb);rw[DL h] at hq;exact hq.mono λen w' hp=>Cb hw hi hn P9.1 P9.2 hp.1 hp.2.1 hp.2.2
 ·rw[n14 h];have hq:=cW J pw pi x g w (by rw[DL h];exact hb);rw[DL h] at hq;exact hq.mono λen w' hp=>Cb hw hi hn Li.1 Li.2 hp.1 hp.2.1 hp.2.2
 ·rw[n15 h];have hq:=cU J pw pi x g w (by rw[DL h];exact hb);rw[DL h] at hq;exact hq.mono λen w' hp=>Cb hw hi hn rfl rfl hp.1 hp.2.1 hp.2.2
end
def lN(J:Xc)(C:Xe)(x:Xj):Env:=Ix [J.ii,C.ii,x.ii,(Xe.step C x).1.ii,(Xe.step C x).2.1.ii,(Xe.step (Xe.new J.op.key) x).1.ii,(Xe.step (Xe.new J.op.key) x).2.1.ii,(Xe.step (Xe.new (wr (J.op.key+1))) x).1.ii,(Xe.step (Xe.new (wr (J.op.key+1))) x).2.1.ii,(Fk C J.level).ii,(Fk C (wr (J.level+1))).ii] [J.bb,C.bb,x.bb,(Xe.step C x).1.bb,(Xe.step C x).2.1.bb,[(Xe.step C x).2.2],(Xe.step (Xe.new J.op.key) x).1.bb,(Xe.step (Xe.new J.op.key) x).2.1.bb,[(Xe.step (Xe.new J.op.key) x).2.2],(Xe.step (Xe.new (wr (J.op.key+1))) x).1.bb,(Xe.step (Xe.new (wr (J.op.key+1))) x).2.1.bb,[(Xe.step (Xe.new (wr (J.op.key+1))) x).2.2,(Fk C J.level).Ay.mark,(Fk C (wr (J.level+1))).Ay.mark]]
def tG:St:=⟨[],[(1,191,(ct [vs 0 9,[.bool (.var 0)],vs 9 4,[.bool (.var 1)],vs 13 8,[.ptr 3 0],vs 21 4,[.bool (.var 2)],vs 25 3])),(3,284,(ct [vs 28 9,[.bool (.var 3)],vs 37 4,[.bool (.var 4)],vs 41 11,[.bool (.var 5)],vs 52 6,[.bool (.var 6)],vs 58 8,[.bool (.var 7)],vs 66 7,[.bool (.var 8)],vs 73 7,[.bool (.var 9)],vs 80 4,[.bool (.var 10)]]))],[],10,0⟩
def dL:List SV:=[.c (.ptr 1 0),.agg ((ct [vs 84 4,[.bool (.var 11),.bool (.var 12)]]))]
def yQ:List Xu:=[⟨true,206,284,(ct [vs 28 9,[.bool (.var 3)],vs 37 4,[.bool (.var 4)],vs 41 11,[.bool (.var 5)],vs 52 6,[.bool (.var 6)],vs 58 8,[.bool (.var 7)],vs 66 7,[.bool (.var 8)],vs 73 7,[.bool (.var 9)],vs 80 4,[.bool (.var 10)]]),[.agg ((ct [vs 84 4,[.bool (.var 11),.bool (.var 12)]]))],.Jj [(true,(ct [vs 144 8,[.bool (.var 21)],vs 152 4,[.bool (.var 22)],vs 156 4])),(false,[.bool (.var 23)])],(ct [vs 88 9,[.bool (.var 13)],vs 97 4,[.bool (.var 14)],vs 101 11,[.bool (.var 15)],vs 112 6,[.bool (.var 16)],vs 118 8,[.bool (.var 17)],vs 126 7,[.bool (.var 18)],vs 133 7,[.bool (.var 19)],vs 140 4,[.bool (.var 20)]])⟩,⟨true,206,284,(ct [zs 9,[.bool (.lit false)],zs 4,[.bool (.lit false)],zs 11,[.bool (.lit false),.int (.var 18)],zs 5,[.bool (.lit false)],zs 8,[.bool (.lit false)],zs 7,[.bool (.lit false)],zs 7,[.bool (.lit false)],zs 4,[.bool (.lit false)]]),[.agg ((ct [vs 84 4,[.bool (.var 11),.bool (.var 12)]]))],.Jj [(true,(ct [vs 216 8,[.bool (.var 32)],vs 224 4,[.bool (.var 33)],vs 228 4])),(false,[.bool (.var 34)])],(ct [vs 160 9,[.bool (.var 24)],vs 169 4,[.bool (.var 25)],vs 173 11,[.bool (.var 26)],vs 184 6,[.bool (.var 27)],vs 190 8,[.bool (.var 28)],vs 198 7,[.bool (.var 29)],vs 205 7,[.bool (.var 30)],vs 212 4,[.bool (.var 31)]])⟩,⟨true,206,284,(ct [zs 9,[.bool (.lit false)],zs 4,[.bool (.lit false)],zs 11,[.bool (.lit false),.int (.add (.var 18) (.lit 1))],zs 5,[.bool (.lit false)],zs 8,[.bool (.lit false)],zs 7,[.bool (.lit false)],zs 7,[.bool (.lit false)],zs 4,[.bool (.lit false)]]),[.agg ((ct [vs 84 4,[.bool (.var 11),.bool (.var 12)]]))],.Jj [(true,(ct [vs 288 8,[.bool (.var 43)],vs 296 4,[.bool (.var 44)],vs 300 4])),(false,[.bool (.var 45)])],(ct [vs 232 9,[.bool (.var 35)],vs 241 4,[.bool (.var 36)],vs 245 11,[.bool (.var 37)],vs 256 6,[.bool (.var 38)],vs 262 8,[.bool (.var 39)],vs 270 7,[.bool (.var 40)],vs 277 7,[.bool (.var 41)],vs 284 4,[.bool (.var 42)]])⟩,⟨true,208,284,(ct [vs 28 9,[.bool (.var 3)],vs 37 4,[.bool (.var 4)],vs 41 11,[.bool (.var 5)],vs 52 6,[.bool (.var 6)],vs 58 8,[.bool (.var 7)],vs 66 7,[.bool (.var 8)],vs 73 7,[.bool (.var 9)],vs 80 4,[.bool (.var 10)]]),[.c (.int (.var 25))],.Jj [(true,vs 304 3),(true,(ct [vs 307 4,[.bool (.var 46)]]))],(ct [vs 28 9,[.bool (.var 3)],vs 37 4,[.bool (.var 4)],vs 41 11,[.bool (.var 5)],vs 52 6,[.bool (.var 6)],vs 58 8,[.bool (.var 7)],vs 66 7,[.bool (.var 8)],vs 73 7,[.bool (.var 9)],vs 80 4,[.bool (.var 10)]])⟩,⟨true,208,284,(ct [vs 28 9,[.bool (.var 3)],vs 37 4,[.bool (.var 4)],vs 41 11,[.bool (.var 5)],vs 52 6,[.bool (.var 6)],vs 58 8,[.bool (.var 7)],vs 66 7,[.bool (.var 8)],vs 73 7,[.bool (.var 9)],vs 80 4,[.bool (.var 10)]]),[.c (.int (.add (.var 25) (.lit 1)))],.Jj [(true,vs 311 3),(true,(ct [vs 314 4,[.bool (.var 47)]]))],(ct [vs 28 9,[.bool (.var 3)],vs 37 4,[.bool (.var 4)],vs 41 11,[.bool (.var 5)],vs 52 6,[.bool (.var 6)],vs 58 8,[.bool (.var 7)],vs 66 7,[.bool (.var 8)],vs 73 7,[.bool (.var 9)],vs 80 4,[.bool (.var 10)]])⟩]
theorem lO(J:Xc)(C:Xe)(x:Xj)(g1 g2:Nat)(w:World)(h1:Bk w g1 191 (({J with Ab:=some C}:Xc).l (.pointer (some ⟨g2,0,none⟩))).toArray)(h2:Bk w g2 284 (C.l).toArray)(hnd:[g1,g2].Nodup)(hC:LvOk C):Calls Tryz.prog 195 #[.pointer (some ⟨g1,0,none⟩),.agg x.l.toArray] w λen w'=>FU (λw q F1=>BU w q (Xc.next {J with Ab:=some C} x).1.Ab F1) 191 (λq=>(Xc.next {J with Ab:=some C} x).1.l q) (Yn (Xc.next {J with Ab:=some C} x).2) g1 [g1,g2] w en w':=by
 refine p2 (lN J C x) yQ 60 tG dL 23 191 284 (Xc.next {J with Ab:=some C} x) (λr=>Yn r.2) (λr q=>r.1.l q) (λr=>r.1.Ab.map λW=>W.l.toArray) (λr w q F1=>BU w q r.1.Ab F1) (Yr (Ch Tryz.func206 λg w hB=>Dj C x g w (hC) hB) (Yr (Ch Tryz.func206 λg w hB=>Dj (Xe.new J.op.key) x g w (Or.inl rfl) hB) (Yr (Ch Tryz.func206 λg w hB=>Dj (Xe.new (wr (J.op.key+1))) x g w (Or.inl rfl) hB) (Yr (Ch Tryz.func208 λg w hB=>QI C J.level g w hB) (Yr (Ch Tryz.func208 λg w hB=>QI C (wr (J.level+1)) g w hB) Xt))))) Ci (bl2 (Yu h1 Zk) (Yu h2 Zk)) hnd (λ_ _ h=>FP h) (λ_ _ _ _ h hb=>FN h hb) ?_;refine D9 (lJ _ _) ?_;exact vS3
structure xR(J:Xc):Prop where
 Ab:∀C,J.Ab=some C->LvOk C
 none_:J.Ab=none->(J.pc=0/\(J.op.kind=6\/J.op.kind=7\/J.op.kind=8))\/(J.op.kind=6/\(J.pc=1\/J.pc=2\/J.pc=3\/J.pc=4))
theorem tF(J:Xc)(x:Xj)(g:Nat)(F:List Nat)(w:World)(h:VD w g J F)(ok:xR J):
  Calls Tryz.prog 195 #[.pointer (some ⟨g,0,none⟩),.agg x.l.toArray] w (IR (λw F=>VD w g (J.next x).1 F) (Yn (J.next x).2) F w):=by
 obtain⟨⟨q,F1,rfl,hb,hw⟩,hn⟩:=h
 cases hW:J.Ab with
 |none=>
  rw[hW] at hw
  obtain⟨rfl,rfl⟩:=hw
  have e:∀{k n:Int},J.pc=n->J.op.kind=k->({J with pc:=n,op:={J.op with kind:=k},Ab:=none}:Xc)=J:=λh1 h2=>by
   cases J;rename_i op _ _ _ _ _;cases op;simp only at hW h1 h2;subst hW;subst h1;subst h2;rfl
  rcases ok.none_ hW with⟨h0,hk|hk|hk⟩|⟨hk,h0|h0|h0|h0⟩
  ·have hq:=TR J x g w (by rw[e h0 hk];exact hb) Zs;rw[e h0 hk] at hq;exact hq
  ·have hq:=TP J x g w (by rw[e h0 hk];exact hb) Zs;rw[e h0 hk] at hq;exact hq
  ·have hq:=TN J x g w (by rw[e h0 hk];exact hb) Zs;rw[e h0 hk] at hq;exact hq
  ·have hq:=TL J x g w (by rw[e h0 hk];exact hb) Zs;rw[e h0 hk] at hq;exact hq
  ·have hq:=TI J x g w (by rw[e h0 hk];exact hb) Zs;rw[e h0 hk] at hq;exact hq
  ·have hq:=TG J x g w (by rw[e h0 hk];exact hb) Zs;rw[e h0 hk] at hq;exact hq
  ·have hq:=TE J x g w (by rw[e h0 hk];exact hb) Zs;rw[e h0 hk] at hq;exact hq
 |some C=>
  rw[hW] at hw
  obtain⟨g2,rfl,rfl,hb2⟩:=hw
  have e:({J with Ab:=some C}:Xc)=J:=by cases J;simp only at hW;subst hW;rfl
  have hq:=lO J C x g g2 w (by rw[e];exact hb) hb2 hn (ok.Ab C hW)
  rw[e] at hq
  exact hq
def Mb(w:World)(v:Value)(J:Yz)(F:List Nat):Prop:=
 match J with
 |.pile J=>∃g,v=.iface 127 (.pointer (some ⟨g,0,none⟩))/\F=[g]/\Bk w g 175 J.l.toArray
 |.Ti J=>∃g,v=.iface 130 (.pointer (some ⟨g,0,none⟩))/\F=[g]/\Bk w g 179 J.l.toArray
 |.lit J=>∃g,v=.iface 133 (.pointer (some ⟨g,0,none⟩))/\Km w g J F
 |.RF J=>∃g,v=.iface 136 (.pointer (some ⟨g,0,none⟩))/\Nx w g J F
 |.RW J=>∃g,v=.iface 139 (.pointer (some ⟨g,0,none⟩))/\VD w g J F
def Yz.Ok:Yz->Prop
 |.RF J=>xQ J
 |.RW J=>xR J
 |_=>True
section
variable{w w':World}{v:Value}{J:Yz}{F:List Nat}
theorem Mb.same(h:Mb w v J F)(hs:∀b∈F,w'.heap[b]?=w.heap[b]?):Mb w' v J F:=by
 cases J with
 |pile J=>obtain⟨g,rfl,rfl,hb⟩:=h;exact⟨g,rfl,rfl,hb.same (hs g Zs)⟩
 |Ti J=>obtain⟨g,rfl,rfl,hb⟩:=h;exact⟨g,rfl,rfl,hb.same (hs g Zs)⟩
 |lit J=>obtain⟨g,rfl,hb⟩:=h;exact⟨g,rfl,hb.same hs⟩
 |RF J=>obtain⟨g,rfl,hb⟩:=h;exact⟨g,rfl,hb.same hs⟩
 |RW J=>obtain⟨g,rfl,hb⟩:=h;exact⟨g,rfl,hb.same hs⟩
theorem Mb.lt(h:Mb w v J F):∀b∈F,b<w.heap.size:=by
 cases J with
 |pile J=>obtain⟨g,rfl,rfl,hb⟩:=h;intro b hm;rw[List.mem_singleton.1 hm];exact hb.lt
 |Ti J=>obtain⟨g,rfl,rfl,hb⟩:=h;intro b hm;rw[List.mem_singleton.1 hm];exact hb.lt
 |lit J=>obtain⟨g,rfl,hb⟩:=h;exact hb.lt
 |RF J=>obtain⟨g,rfl,hb⟩:=h;exact hb.lt
 |RW J=>obtain⟨g,rfl,hb⟩:=h;exact hb.lt
theorem Mb.val(h:Mb w v J F):v.oneCell'=true/\zP v=false:=by
 cases J with
 |pile J=>obtain⟨g,rfl,_⟩:=h;exact⟨rfl,rfl⟩
 |Ti J=>obtain⟨g,rfl,_⟩:=h;exact⟨rfl,rfl⟩
 |lit J=>obtain⟨g,rfl,_⟩:=h;exact⟨rfl,rfl⟩
 |RF J=>obtain⟨g,rfl,_⟩:=h;exact⟨rfl,rfl⟩
 |RW J=>obtain⟨g,rfl,_⟩:=h;exact⟨rfl,rfl⟩
end
section
variable(a:Addr)(x:Value)(w:World)
theorem gK:(callMethod (.iface 127 (.pointer (some a))) "Next" #[x]).run Tryz.prog w=.ok (.enter 135 #[.pointer (some a),x]) w:=Zk
theorem oN:(callMethod (.iface 130 (.pointer (some a))) "Next" #[x]).run Tryz.prog w=.ok (.enter 145 #[.pointer (some a),x]) w:=Zk
theorem oM:(callMethod (.iface 133 (.pointer (some a))) "Next" #[x]).run Tryz.prog w=.ok (.enter 154 #[.pointer (some a),x]) w:=Zk
theorem oK:(callMethod (.iface 136 (.pointer (some a))) "Next" #[x]).run Tryz.prog w=.ok (.enter 176 #[.pointer (some a),x]) w:=Zk
theorem oL:(callMethod (.iface 139 (.pointer (some a))) "Next" #[x]).run Tryz.prog w=.ok (.enter 195 #[.pointer (some a),x]) w:=Zk
end
theorem Ij{v:Value}{x:Value}{f':Nat}{a':Array Value}{w:World}{Q:Ending->World->Prop}(h1:(callMethod v "Next" #[x]).run Tryz.prog w=.ok (.enter f' a') w)(h2:Calls Tryz.prog f' a' w Q):AL Tryz.prog Dy #[v,x] w Q:=by
 unfold AL;rw[if_pos rfl];exact⟨v,f',a',rfl,h1,h2⟩
theorem oY(J:Yz)(x:Xj)(v:Value)(F:List Nat)(w:World)(h:Mb w v J F)(ok:J.Ok):
  AL Tryz.prog Dy #[v,.agg x.l.toArray] w (IR (λw F=>Mb w v (J.next x).1 F) (Yn (J.next x).2) F w):=by
 cases J with
 |pile J=>
  obtain⟨g,rfl,rfl,hb⟩:=h
  exact Ij (gK _ _ _) ((nP J x g w hb).mono λen w' hp=>⟨[g],hp.1,⟨g,rfl,rfl,hp.2.1⟩,λb hb=>Or.inl hb,hp.2.2⟩)
 |Ti J=>
  obtain⟨g,rfl,rfl,hb⟩:=h
  exact Ij (oN _ _ _) ((vW J x g w hb).mono λen w' hp=>⟨[g],hp.1,⟨g,rfl,rfl,hp.2.1⟩,λb hb=>Or.inl hb,hp.2.2⟩)
 |lit J=>
  obtain⟨g,rfl,hb⟩:=h
  exact Ij (oM _ _ _) ((aR J x g F w hb).mono λen w' hp=>by obtain⟨F',p1,p2,p3,p4⟩:=hp;exact⟨F',p1,⟨g,rfl,p2⟩,p3,p4⟩)
 |RF J=>
  obtain⟨g,rfl,hb⟩:=h
  exact Ij (oK _ _ _) ((sI J x g F w hb ok).mono λen w' hp=>by obtain⟨F',p1,p2,p3,p4⟩:=hp;exact⟨F',p1,⟨g,rfl,p2⟩,p3,p4⟩)
 |RW J=>
  obtain⟨g,rfl,hb⟩:=h
  exact Ij (oL _ _ _) ((tF J x g F w hb ok).mono λen w' hp=>by obtain⟨F',p1,p2,p3,p4⟩:=hp;exact⟨F',p1,⟨g,rfl,p2⟩,p3,p4⟩)
end Go.Proofs.YtaipogljokblkaaGreatDoor
