/- Core: EaQ, EaR. -/
import Derived.Test.YtaipogljokblkaaGreatDoorE44
import Derived.Test.YtaipogljokblkaaGreatDoorE01
set_option linter.all false
set_option maxRecDepth 100000
set_option maxHeartbeats 8000000
namespace Go.Proofs.YtaipogljokblkaaGreatDoor
open Go Go.RowKit
set_option linter.unusedSimpArgs false
set_option linter.unusedVariables false
set_option linter.unusedSectionVars false
theorem Es{n:Int}(h0:-1000<=n)(h1:n<=1000):wr n=n:=by
 show IntKind.i64.wrap n=n;unfold IntKind.wrap;simp[IntKind.bits,IntKind.signed];omega
section
variable{v v' v2:Vw}{s m:Int}
theorem wL.more(hs:s≠0){g:Int}(hm:0<=m){x:Xe}(h:wL (v.put ⟨s,g,2+(m+1)⟩ x) v' s m)(hx:x.sl=(v.cell s (2+(m+1))).sl/\x.gn=(v.cell s (2+(m+1))).gn/\x.mark=true):wL v v' s (m+1):=by
 have hp:∀t f,¬(t=s/\f=2+(m+1))->(v.put ⟨s,g,2+(m+1)⟩ x).cell t f=v.cell t f:=λt f e=>Yb t f e;have hat:(v.put ⟨s,g,2+(m+1)⟩ x).cell s (2+(m+1))=x:=EU (w:=⟨s,g,0,0,false⟩) hs;refine⟨h.held.trans B9,h.As.trans AD,h.root.trans ?_,λt f e=>?_,λf f0 f1=>?_⟩
 ·unfold Vw.put;rw[if_neg hs]
 ·rw[h.cell t f λe'=>e ⟨e'.1,e'.2.1,by omega⟩,hp t f λe'=>e ⟨e'.1,by omega,by omega⟩]
 ·by_cases e:f=2+(m+1)
  ·subst e;rw[h.cell s _ λe'=>by omega,hat];exact hx
  ·have:=h.mark f f0 Zo;rw[hp s f λe'=>e e'.2] at this;exact this
theorem wL.one(hs:s≠0){g:Int}{x:Xe}(hx:x.sl=(v.cell s 2).sl/\x.gn=(v.cell s 2).gn/\x.mark=true):wL v (v.put ⟨s,g,2⟩ x) s 0:=by
 refine⟨B9,AD,by unfold Vw.put;rw[if_neg hs],λt f e=>Yb t f λe'=>e ⟨e'.1,by have h2:f=2:=e'.2;omega,by have h2:f=2:=e'.2;omega⟩,λf f0 f1=>?_⟩;obtain rfl:f=2:=Zo;rw[show(v.put ⟨s,g,2⟩ x).cell s 2=x from EU (w:=⟨s,g,0,0,false⟩) hs];exact hx
end
def PF(J:Xc)(r:Xd × Xf × Bool):Xx × Xf:=
 if r.2.2 then(.FJ {J with Ab:=some r.1},r.2.1) else(.FJ {J with Ab:=some r.1,M5:=2,pc:=101},Yv (Xg J.node 7))
theorem Zw{J:Xc}{C:Xd}(h:J.Ab=some C)(x:Xj):(Xx.FJ (J.KM x).1,(J.KM x).2)=PF J (C.step x):=by
 unfold Xc.KM PF Xc.part;rw[h];unfold AH;simp only;generalize C.step x=r;obtain⟨C1,c,b⟩:=r;cases b<;>rfl
def U2(J:Xc)(r:Xd × Xf × Bool):Xx × Xf:=
 if r.2.2 then(.FJ {J with Ab:=some r.1},r.2.1) else(.FJ {J with Ab:=some r.1,pc:=104},EC J.node)
theorem oR{J:Xc}{C:Xd}(h:J.Ab=some C)(x:Xj):(Xx.FJ (J.fin x).1,(J.fin x).2)=U2 J (C.step x):=by
 unfold Xc.fin U2;rw[h];unfold AH;simp only;generalize C.step x=r;obtain⟨C1,c,b⟩:=r;cases b<;>rfl
section
variable{Q:Yu->Vw->Prop}{al n:Nat}{op:A3}
theorem P9{s g ky vl tl val:Int}(hky:0<=ky/\ky<=255){cl:Option Xd}{last:Xf}{M5:Int}:∀(m:Nat),m<3->∀(pc:Int) (v:Vw),v.Rf ⟨s,g,0,0,false⟩->(∀k:Int,0<=k->k<=m->(v.cell s (2+k)).mark=false)->
  (∀v' x,wL v v' s m->Yc Q al n v' (PF ⟨6,last,⟨7,ky,vl,tl⟩,some (Xd.new (ky+1)),⟨s,g,0,0,false⟩,0,M5,val⟩ ((Xd.new (ky+1)).step x)).1 (PF ⟨6,last,⟨7,ky,vl,tl⟩,some (Xd.new (ky+1)),⟨s,g,0,0,false⟩,0,M5,val⟩ ((Xd.new (ky+1)).step x)).2)->
  Yc Q al (n+2*(m+1)) v (.FJ (Xc.look ⟨pc,last,⟨7,ky,vl,tl⟩,cl,⟨s,g,0,0,false⟩,m,M5,val⟩).1) (Xc.look ⟨pc,last,⟨7,ky,vl,tl⟩,cl,⟨s,g,0,0,false⟩,m,M5,val⟩).2
 |0,_,pc,v,hr,hm,fin=>by
  have hs0:s≠0:=hr.1;have e1:=hm 0 Zd Zd;unfold Xc.look;simp only[show wr (2+((0:Nat):Int))=2 from rfl];refine .ld (Yd hr Zd Zd) (Yp hs0) ?_;simp only[Xx.next,Xc.next,Xc.A6,show((4:Int)==-1)=false from rfl,show decide ((101:Int)<=4)=false from rfl,show decide ((9:Int)<=4)=false from rfl,show((7:Int)==6)=false from rfl,show((7:Int)==7)=true from rfl,show((4:Int)==0)=false from rfl,show((4:Int)==1)=false from rfl,show((4:Int)==2)=false from rfl,show((4:Int)==3)=false from rfl,show((4:Int)==4)=true from rfl,cond_true,cond_false,Bool.false_and,show(v.cell s 2).mark=false from e1,Bool.not_false,show wr (2+((0:Nat):Int))=2 from rfl];refine .sw (Yd hr Zd Zd) (Yp hs0) (Yx _) rfl ?_;have:=fin (v.put ⟨s,g,2⟩ (Ff (v.cell s 2))) ⟨v.cell s 2,true⟩ (wL.one hs0 ⟨rfl,rfl,rfl⟩);rw[←Zw (J:=⟨6,last,⟨7,ky,vl,tl⟩,some (Xd.new (ky+1)),⟨s,g,0,0,false⟩,0,M5,val⟩) rfl] at this;rw[←Es (n:=ky+1) Zo Zo] at this;exact this
 |m+1,h3,pc,v,hr,hm,fin=>by
  have hs0:s≠0:=hr.1;have e1:=hm (m+1) Zo Zo;have hw:wr (2+((m+1:Nat):Int))=2+((m:Int)+1):=by rw[Es Zo Zo];omega
  have hw2:wr (((m+1:Nat):Int)-1)=(m:Int):=by rw[Es Zo Zo];omega
  unfold Xc.look;simp only[hw];refine .more (n:=n+2*(m+1)+1+1) (a:=al) (.ld (Yd hr Zo Zo) (Yp hs0) ?_) (Nat.le_refl _) Zo;simp only[Xx.next,Xc.next,Xc.A6,show((4:Int)==-1)=false from rfl,show decide ((101:Int)<=4)=false from rfl,show decide ((9:Int)<=4)=false from rfl,show((7:Int)==6)=false from rfl,show((7:Int)==7)=true from rfl,show((4:Int)==0)=false from rfl,show((4:Int)==1)=false from rfl,show((4:Int)==2)=false from rfl,show((4:Int)==3)=false from rfl,show((4:Int)==4)=true from rfl,cond_true,cond_false,Bool.false_and,show(v.cell s (2+((m:Int)+1))).mark=false from e1,Bool.not_false,hw];refine .sw (Yd hr Zo Zo) (Yp hs0) (Yx _) rfl ?_;simp only[Xx.next,Xc.next,Xc.A6,show((5:Int)==-1)=false from rfl,show decide ((101:Int)<=5)=false from rfl,show decide ((9:Int)<=5)=false from rfl,show((7:Int)==6)=false from rfl,show((7:Int)==7)=true from rfl,show((5:Int)==0)=false from rfl,show((5:Int)==1)=false from rfl,show((5:Int)==2)=false from rfl,show((5:Int)==3)=false from rfl,show((5:Int)==4)=false from rfl,show((5:Int)==5)=true from rfl,cond_true,cond_false,Bool.false_and,Bool.not_true,show decide ((0:Int)<((m+1:Nat):Int))=true from decide_eq_true Zo,hw2];refine P9 hky m Zo 5 _ (Cl.2 hr) (λk k0 k1=>?_) λv' x hv=>fin v' x (hv.more hs0 Zo ⟨rfl,rfl,rfl⟩);rw[Yb s (2+k) λe=>by have:=e.2;simp only[Xg] at this;omega];exact hm k k0 Zo
theorem QP{v:Vw}{L:List (Int × Int)}(op:A3)(x:Xj)(hk:op.kind=7)(hky:0<=op.key/\op.key<=255)(h:UY v L):
  Yc (λa v'=>a=(Ca L op.key op).1/\UY v' (Ca L op.key op).2) 0 (27*L.length+300) v (.FJ ((Xc.new op).next x).1) ((Xc.new op).next x).2:=by
 obtain⟨kp,l,h1,rfl⟩:=h
 obtain⟨k,ky,vl,tl⟩:=op
 obtain rfl:k=7:=hk
 have hky:0<=ky/\ky<=255:=hky
 have hlen:(Bi v (l 0)).length=(l 0).length:=List.length_map ..
 rw[hlen]
 have e0:(Xx.FJ ((Xc.new ⟨7,ky,vl,tl⟩).next x).1,((Xc.new ⟨7,ky,vl,tl⟩).next x).2)=Pa {Xc.new ⟨7,ky,vl,tl⟩ with pc:=1} 6 ((Xd.new ky).step x):=ML (J:={Xc.new ⟨7,ky,vl,tl⟩ with pc:=1,Ab:=some (Xd.new ky)}) rfl x 6
 show Yc _ _ _ _ (Xx.FJ ((Xc.new ⟨7,ky,vl,tl⟩).next x).1,((Xc.new ⟨7,ky,vl,tl⟩).next x).2).1 (Xx.FJ ((Xc.new ⟨7,ky,vl,tl⟩).next x).1,((Xc.new ⟨7,ky,vl,tl⟩).next x).2).2
 rw[e0]
 refine .more (n:=18*(l 0).length+222+9*(l 0).length+71) (a:=0) (GA (n:=18*(l 0).length+222) (S:=λC=>.FJ {Xc.new ⟨7,ky,vl,tl⟩ with pc:=1,Ab:=some C}) (K:=Pa {Xc.new ⟨7,ky,vl,tl⟩ with pc:=1} 6) (λC x=>ML (J:={Xc.new ⟨7,ky,vl,tl⟩ with pc:=1,Ab:=some C}) rfl x 6) (λC c _=>rfl) h1.DM (λh=>absurd rfl h) x λC v' ce=>?_) (Nat.le_refl _) Zo
 obtain rfl:v'=v:=ce.JW.same rfl
 obtain⟨pre,post,f1,f2,f3⟩:=ce.Uz
 rw[ZB h1.DM Zd Zd] at f1
 have hkp:∀t∈l 0,(v'.cell t 0).nm=kp t:=h1.DM.key 0 Zd Zd
 have lo:∀t∈pre,(v'.cell t 0).nm<ky:=λt ht=>by rw[hkp t (by rw[f1];simp[ht])];exact f2 t ht
 rcases f3 with⟨s,r,rfl,g1,g2⟩|⟨g1,g2⟩
 ·have hs:s∈l 0:=by rw[f1];simp
  have hs0:=h1.DM.held Zd Zd hs;obtain⟨t1,t2,t3⟩:=h1.ht s hs;unfold Pa;rw[g2];simp only[Bool.false_eq_true,if_false,hs0.1];have hr:v'.Rf ⟨s,v'.As s,0,0,false⟩:=⟨hs0.1,hs0.2,rfl⟩;refine .more (n:=18*(l 0).length+200+1+1) (a:=0) (.ld (Yd hr Zd Zd) (Yp hs0.1) ?_) (Nat.le_refl _) Zo;have hw:wr ((v'.cell s 6).nm-1)=(v'.cell s 6).nm-1:=Es Zo Zo;simp only[Xx.next,Xc.next,Xc.A6,Xc.new,Xc.zero,show((2:Int)==-1)=false from rfl,show decide ((101:Int)<=2)=false from rfl,show decide ((9:Int)<=2)=false from rfl,show((7:Int)==6)=false from rfl,show((7:Int)==7)=true from rfl,show((2:Int)==0)=false from rfl,show((2:Int)==1)=false from rfl,show((2:Int)==2)=true from rfl,cond_true,cond_false,Bool.false_and,decide_eq_false (show ¬(v'.cell s 6).nm<1 by omega),decide_eq_false (show ¬3<(v'.cell s 6).nm by omega),hw];refine .ld (Yd hr Zd Zd) (Yp hs0.1) ?_;obtain⟨m,hm⟩:∃m:Nat,(v'.cell s 6).nm-1=(m:Int):=⟨((v'.cell s 6).nm-1).toNat,by omega⟩;have hmem:∀k,0<=k->k<3->(s∈l k↔k<=(m:Int)):=λk k0 k3=>by
   rw[h1.lv k k0 k3 s];exact⟨λh=>by omega,λh=>⟨hs,by omega⟩⟩
  rw[hm];simp only[Xx.next,Xc.next,Xc.A6,show((3:Int)==-1)=false from rfl,show decide ((101:Int)<=3)=false from rfl,show decide ((9:Int)<=3)=false from rfl,show((7:Int)==6)=false from rfl,show((7:Int)==7)=true from rfl,show((3:Int)==0)=false from rfl,show((3:Int)==1)=false from rfl,show((3:Int)==2)=false from rfl,show((3:Int)==3)=true from rfl,cond_true,cond_false,Bool.false_and];refine .more (n:=18*(l 0).length+190+2*(m+1)) (a:=0) (P9 (n:=18*(l 0).length+190) hky m Zo 3 v' hr (λk k0 k1=>?_) λv2 x2 hv=>?_) (Nat.le_refl _) Zo
  ·have hk3:k<3:=Zo;have:=h1.DM.WL k k0 hk3 s ((hmem k k0 hk3).2 k1);cases hc:(v'.cell s (2+k)).mark with
   |false=>rfl
   |true=>exact absurd (this.1 hc) hs0.1
  ·have htw:=hv.DM h1.DM hs hmem Zo;have hcell:∀t f,¬(2<=f/\f<5)->v2.cell t f=v'.cell t f:=λt f hf=>hv.cell t f λe=>hf ⟨e.2.1,by omega⟩;refine .more (n:=9*(l 0).length+115+9*(l 0).length+71) (a:=0) (GA (n:=9*(l 0).length+115) (S:=λC=>.FJ ⟨6,Xf.zero,⟨7,ky,vl,tl⟩,some C,⟨s,v'.As s,0,0,false⟩,0,0,(v'.cell s 1).nm⟩) (K:=PF ⟨6,Xf.zero,⟨7,ky,vl,tl⟩,some (Xd.new (ky+1)),⟨s,v'.As s,0,0,false⟩,0,0,(v'.cell s 1).nm⟩) (λC x=>Zw (J:=⟨6,Xf.zero,⟨7,ky,vl,tl⟩,some C,⟨s,v'.As s,0,0,false⟩,0,0,(v'.cell s 1).nm⟩) rfl x) (λC c _=>rfl) htw (λ_=>by rw[g1]) x2 λC v3 ce=>?_) (Nat.le_refl _) Zo;have hr3:v3.Rf ⟨s,v'.As s,0,0,false⟩:=⟨hs0.1,by rw[ce.JW.held,hv.held];exact hs0.2,by rw[ce.JW.As,hv.As]⟩;have c3:∀t f,¬(2<=f/\f<5)->v3.cell t f=v'.cell t f:=λt f hf=>(ce.JW.cell t f hf).trans (hcell t f hf);unfold PF;simp only[Bool.false_eq_true,if_false];refine .more (n:=41+9*(l 0).length+71+1) (a:=0) (.ld (Yd hr3 Zd Zd) (Yp hs0.1) ?_) (Nat.le_refl _) Zo;rw[show v3.cell s 7=v'.cell s 7 from c3 s 7 Zo];have hcl:IL v3 0 kp (Iz s l):=ce.DM.clean λk _ _ hm=>(Ji.1 hm).2 rfl;have e3:∀(C0:Option Xd),((Xx.FJ ⟨101,Xf.zero,⟨7,ky,vl,tl⟩,C0,⟨s,v'.As s,0,0,false⟩,0,2,(v'.cell s 1).nm⟩).next ⟨v'.cell s 7,true⟩)=U2 ⟨103,Xf.zero,⟨7,ky,vl,tl⟩,some (Xd.new (ky+1)),⟨s,v'.As s,0,0,false⟩,0,2,(v'.cell s 1).nm⟩ ((Xd.new (ky+1)).step ⟨v'.cell s 7,true⟩):=λC0=>by
    rw[←oR (J:=⟨103,Xf.zero,⟨7,ky,vl,tl⟩,some (Xd.new (ky+1)),⟨s,v'.As s,0,0,false⟩,0,2,(v'.cell s 1).nm⟩) rfl];simp only[Xx.next,Xc.next,Xc.finish,Xc.Au,show((101:Int)==-1)=false from rfl,show decide ((101:Int)<=101)=true from rfl,show((101:Int)==101)=true from rfl,cond_true,cond_false,t3,show((1:Int)==0)=false from rfl,Es (n:=ky+1) Zo Zo]
   rw[e3];have hll:(Iz s l 0).length<=(l 0).length:=List.length_filter_le ..;refine .more (n:=41+9*(Iz s l 0).length+71) (a:=0) (GA (n:=41) (b:=ky+1) (S:=λC=>.FJ ⟨103,Xf.zero,⟨7,ky,vl,tl⟩,some C,⟨s,v'.As s,0,0,false⟩,0,2,(v'.cell s 1).nm⟩) (K:=U2 ⟨103,Xf.zero,⟨7,ky,vl,tl⟩,some (Xd.new (ky+1)),⟨s,v'.As s,0,0,false⟩,0,2,(v'.cell s 1).nm⟩) (λC x=>oR (J:=⟨103,Xf.zero,⟨7,ky,vl,tl⟩,some C,⟨s,v'.As s,0,0,false⟩,0,2,(v'.cell s 1).nm⟩) rfl x) (λC c _=>rfl) hcl (λh=>absurd rfl h) _ λC v4 ce4=>?_) (Nat.le_refl _) Zo;obtain rfl:v4=v3:=ce4.JW.same rfl;unfold U2;simp only[Bool.false_eq_true,if_false];refine .more (n:=0+40) (a:=0) (.rt hr3 ?_) (Nat.le_refl _) Zo;refine .dn ⟨?_,kp,Iz s l,⟨?_,λt ht=>?_,λk k0 k3 t=>?_⟩,?_⟩
   ·rw[f1,Dt lo (by rw[hkp s hs];exact g1)];rfl
   ·refine⟨λk k0 k3=>(hcl.ch k k0 k3).drop λhm=>(Ji.1 hm).2 rfl,hcl.m0,hcl.WL,hcl.sub,hcl.key,hcl.OT⟩
   ·obtain⟨a1,a2⟩:=Ji.1 ht;show 1<=(v4.cell t 6).nm/\(v4.cell t 6).nm<=3/\(v4.cell t 7).nm=1;rw[c3 t 6 Zo,c3 t 7 Zo];exact h1.ht t a1
   ·show t∈Iz s l k↔t∈Iz s l 0/\k<(v4.cell t 6).nm;rw[c3 t 6 Zo,Ji,Ji,h1.lv k k0 k3 t];exact⟨λh=>⟨⟨h.1.1,h.2⟩,h.1.2⟩,λh=>⟨⟨h.1.1,h.2⟩,h.1.2⟩⟩
   ·rw[f1,Dt lo (by rw[hkp s hs];exact g1)];have hnd:=h1.DM.nd (k:=0) Zd Zd;rw[f1] at hnd;have e5:Iz s l 0=pre++r:=by
     unfold Iz;rw[f1,List.filter_append,List.filter_cons_of_neg Zs];have q1:List.filter (λt=>decide (t≠s)) pre=pre:=List.filter_eq_self.2 λt ht=>decide_eq_true λe=>(List.nodup_append.1 hnd).2.2 t ht s (List.mem_cons_self ..) e;have q2:List.filter (λt=>decide (t≠s)) r=r:=List.filter_eq_self.2 λt ht=>decide_eq_true λe=>(List.nodup_cons.1 (List.nodup_append.1 hnd).2.1).1 (e▸ht);rw[q1,q2]
    rw[e5];exact Fb λt _=>⟨c3 t 0 Zo,c3 t 1 Zo⟩
 ·unfold Pa;rw[g2];simp only[Bool.false_eq_true,if_false,show Xe.zero.sl=0 from rfl,if_true];have no:∀s r,post=s::r->ky<(v'.cell s 0).nm:=λs r e=>by rw[hkp s (by rw[f1,e];simp)];exact g1 s r e
  refine .dn ⟨?_,⟨kp,l,h1,?_⟩⟩
  ·rw[f1,Fs lo no];rfl
  ·rw[f1,Fs lo no];rfl
end
def Uq(J:Xc)(r:Xd × Xf × Bool):Xx × Xf:=
 if r.2.2 then(.FJ {J with Ab:=some r.1},r.2.1) else
 if r.1.found.sl=0 then(.FJ (Xc.Kt {J with Ab:=some r.1} 0).1,(Xc.Kt {J with Ab:=some r.1} 0).2) else(.FJ {J with Ab:=some r.1,pc:=6},Kg J.node)
theorem ZI{J:Xc}{C:Xd}(h:J.Ab=some C)(x:Xj):(Xx.FJ (J.Jt x).1,(J.Jt x).2)=Uq J (C.step x):=by
 unfold Xc.Jt Uq;rw[h];unfold AH DN;simp only;generalize C.step x=r;obtain⟨C1,c,b⟩:=r;cases b with
 |true=>rfl
 |false=>
  simp only[cond_false,Bool.false_eq_true,if_false];by_cases e:C1.found.sl=0
  ·rw[if_pos e,show(C1.found.sl==0)=true from by simp[e]];rfl
  ·rw[if_neg e,show(C1.found.sl==0)=false from by simp[e]];rfl
structure iF(v3 v:Vw)(s g b T:Int)(kp:Int->Int)(l0 l:Int->List Int)(C:Xd)(k:Int):Prop where
 DM:IL v 0 kp l
 rf:v.Rf ⟨s,g,0,0,false⟩
 key:(v.cell s 0).nm=b/\kp s=b
 up:∀j,k<=j->j<3->rF v kp (l j) (C.E9 j) b j
 nx:∀j,k<=j->j<T->v.cell s (2+j)=Yt (C.E9 j).cur
 mem:∀j,0<=j->j<3->∀t,t∈l j↔t∈l0 j\/(t=s/\j<k)
 nin:∀j,0<=j->j<3->s∉l0 j
 ne:∀j,0<=j->j<3->∀t∈l0 j,kp t≠b
 oth:∀t f,¬(2<=f/\f<5)->v.cell t f=v3.cell t f
 ini:∀j,k<=j->j<3->l j=l0 j
 fst:0<k->∃p q,l 0=p++s::q/\l0 0=p++q/\(∀t∈p,kp t<b)/\∀t∈q,b<kp t
section
variable{Q:Yu->Vw->Prop}{al n:Nat}{v3 v:Vw}{s g b T k ky vl:Int}{kp:Int->Int}{l0 l:Int->List Int}{C:Xd}
theorem iF.step(h:iF v3 v s g b T kp l0 l C k)(k0:0<=k)(kT:k<T)(T3:T<=3):v.Ad (C.E9 k).prev/\v.get (C.E9 k).prev=(C.E9 k).cur/\v.cell s (2+k)=Yt (C.E9 k).cur/\∃l',iF v3 (v.put (C.E9 k).prev (En (C.E9 k).cur ⟨s,g,0,0,false⟩)) s g b T kp l0 l' C (k+1):=by
 have k3:k<3:=Zo;obtain⟨pre,post,e1,e2,e3,e4,e5⟩:=h.up k (Int.le_refl _) k3;have hs0:s≠0:=h.rf.1;have hsl:s∉l k:=λhm=>((h.mem k k0 k3 s).1 hm).elim (h.nin k k0 k3) λe=>absurd e.2 (Int.lt_irrefl _);have hnx:=h.nx k (Int.le_refl _) kT;have hz:(0:Int)∉pre:=λhm=>h.DM.zero k0 k3 (by rw[e1];exact List.mem_append_left _ hm);have hat:=h.DM.at_ k0 k3 e1;rw[←e2,←e3] at hat;have hnd:=h.DM.nd k0 k3;rw[e1] at hnd;have hlt:∀t∈post,b<kp t:=λt ht=>by
  have h1:=e5 t ht;have hm:t∈l k:=by rw[e1];exact List.mem_append_right _ ht
  have h2:t∈l0 k:=((h.mem k k0 k3 t).1 hm).elim id λe=>absurd e.2 (Int.lt_irrefl _);have:=h.ne k k0 k3 t h2;omega
 have hsn:¬(s=(HJ v k pre).sl/\2+k=(HJ v k pre).fd):=λe=>by
  rcases @CJ v k pre with⟨e',_⟩|e'
  ·rw[e'] at e;exact hs0 e.1
  ·exact hsl (by rw[e1,e.1];exact List.mem_append_left _ e'.1)
 have hx:CU (v.put (HJ v k pre) (En (C.E9 k).cur ⟨s,g,0,0,false⟩)) (2+k) (En (C.E9 k).cur ⟨s,g,0,0,false⟩) (s :: post):=⟨rfl,Cl.2 (h.rf.ref rfl rfl),by
  rw[Yb s (2+k) hsn,hnx];refine(CU.put hat (Or.inr λhm=>?_)).ref rfl rfl;rcases @CJ v k pre with⟨e,_⟩|e
  ·rw[e] at hm;exact(hat.held _ hm).1 rfl
  ·exact(List.nodup_append.1 hnd).2.2 _ e.1 _ hm rfl⟩
 have hsrt:=h.DM.OT k k0 k3;rw [e1] at hsrt;obtain ⟨q1,q2,q3⟩:=List.pairwise_append.1 hsrt;have ht:=h.DM.splice (r:=s :: post) k0 k3 e1 hz hx rfl (fun t ht=>by
  rcases List.mem_cons.1 ht with rfl|ht
  ·exact⟨⟨λhm=>(by rw[hnx] at hm;cases hm),λe=>absurd e hs0⟩,λhm=>hsl (by rw[e1];exact List.mem_append_left _ hm),λhk=>(h.mem (k-1) Zo Zo t).2 (Or.inr ⟨rfl,by omega⟩),h.key.1.trans h.key.2.symm⟩
  ·have hm:t∈l k:=by rw[e1];exact List.mem_append_right _ ht
   exact ⟨h.DM.WL k k0 k3 t hm,fun hm'=>(List.nodup_append.1 hnd).2.2 t hm' t ht rfl,fun hk=>by
    have:=h.DM.sub (k - 1) Zo Zo t;rw [show k - 1+1 = k by omega] at this;exact this hm,h.DM.key k k0 k3 t hm⟩) (List.pairwise_append.2 ⟨q1,List.pairwise_cons.2 ⟨fun t ht=>by rw [h.key.2];exact hlt t ht,q2⟩,fun t ht u hu=>by
   rcases List.mem_cons.1 hu with rfl|hu
   ·rw[h.key.2];exact e4 t ht
   ·exact q3 t ht u hu⟩) λhk t ht=>by
  have:=h.DM.sub k k0 hk t ht;rw[e1] at this;rcases List.mem_append.1 this with h|h
  ·exact List.mem_append_left _ h
  ·exact List.mem_append_right _ (List.mem_cons_of_mem _ h)
 rw[←e2] at ht;have ek:Ap l k (pre++s::post) k=pre++s::post:=by rw[X2,if_pos rfl]
 have eu:∀j,j≠k->Ap l k (pre++s::post) j=l j:=λj hj=>by rw[X2,if_neg hj]
 have hcell:∀t f,f≠2+k->(v.put (C.E9 k).prev (En (C.E9 k).cur ⟨s,g,0,0,false⟩)).cell t f=v.cell t f:=λt f hf=>by
  rw[e2];rcases @CJ v k pre with⟨e,_⟩|e
  ·rw[e];rfl
  ·exact Yb t f λe'=>hf (by have:=e.2.1;omega)
 refine⟨by rw[e2];exact h.DM.ad k0 k3 e1,e3.symm,hnx,Ap l k (pre++s::post),ht,Cl.2 h.rf,⟨by rw[hcell s 0 Zo];exact h.key.1,h.key.2⟩,λj j1 j2=>?_,λj j1 j2=>?_,λj j1 j2 t=>?_,h.nin,h.ne,λt f hf=>?_,λj j1 j2=>(eu j Zo).trans (h.ini j Zo j2),λ_=>?_⟩
 ·rw[e2];exact(h.up j Zo j2).put h.DM k0 k3 Zo j2 Zo hz (eu j Zo)
 ·rw[hcell s (2+j) Zo];exact h.nx j Zo j2
 ·by_cases hj:j=k
  ·subst hj;rw[ek];have:=h.mem j j1 j2 t;rw[e1] at this;constructor
   ·intro hm;rcases List.mem_append.1 hm with hm|hm
    ·exact Or.inl ((this.1 (List.mem_append_left _ hm)).elim id λe=>absurd e.2 (Int.lt_irrefl _))
    ·rcases List.mem_cons.1 hm with rfl|hm
     ·exact Or.inr ⟨rfl,by omega⟩
     ·exact Or.inl ((this.1 (List.mem_append_right _ hm)).elim id λe=>absurd e.2 (Int.lt_irrefl _))
   ·rintro(hm|⟨rfl,_⟩)
    ·rcases List.mem_append.1 (this.2 (Or.inl hm)) with h|h
     ·exact List.mem_append_left _ h
     ·exact List.mem_append_right _ (List.mem_cons_of_mem _ h)
    ·simp
  ·rw[eu j hj,h.mem j j1 j2 t];constructor
   ·rintro(h|⟨h,h2⟩)
    ·exact Or.inl h
    ·exact Or.inr ⟨h,by omega⟩
   ·rintro(h|⟨h,h2⟩)
    ·exact Or.inl h
    ·exact Or.inr ⟨h,by omega⟩
 ·rw[hcell t f Zo];exact h.oth t f hf
 ·by_cases hk:k=0
  ·subst hk;refine⟨pre,post,ek,?_,e4,hlt⟩;rw[←h.ini 0 (Int.le_refl _) Zd];exact e1
  ·rw[eu 0 λe=>hk e.symm];exact h.fst Zo
end
end Go.Proofs.YtaipogljokblkaaGreatDoor
