/- Core: EaS, EaD, EbA, EbB. -/
import Derived.Test.YtaipogljokblkaaGreatDoorE45
import Derived.Test.YtaipogljokblkaaGreatDoorE01
import Derived.Test.YtaipogljokblkaaGreatDoorE40
import Derived.Test.YtaipogljokblkaaGreatDoorE42
import Derived.Test.YtaipogljokblkaaGreatDoorE37
import Derived.Test.YtaipogljokblkaaGreatDoorE43
set_option linter.all false
set_option maxRecDepth 100000
set_option maxHeartbeats 8000000
namespace Go.Proofs.YtaipogljokblkaaGreatDoor
open Go Go.RowKit
set_option linter.unusedSimpArgs false
set_option linter.unusedVariables false
set_option linter.unusedSectionVars false
structure StF(v v':Vw)(s k T:Int)(C:Xd):Prop where
 held:v'.held=v.held
 As:v'.As=v.As
 root:v'.root=v.root
 cell:∀t f,¬(t=s/\2+k<=f/\f<2+T)->v'.cell t f=v.cell t f
 nx:∀j,k<=j->j<T->v'.cell s (2+j)=Yt (C.E9 j).cur
theorem LF{C:Xd}{k:Int}(k0:0<=k)(k3:k<3):EV C k=C.E9 k:=by
 unfold EV;rw[if_neg (by simp;omega),if_neg (by simp;omega)]
section
variable{Q:Yu->Vw->Prop}{al n:Nat}{s g ky vl:Int}{C:Xd}{last:Xf}
theorem Qg{T:Nat}(T3:T<=3):∀(m k:Nat),k+m=T->∀(pc lv:Int) (v:Vw),v.Rf ⟨s,g,0,0,false⟩->
  (∀v',StF v v' s k T C->Yc Q al n v' (.FJ ⟨8,last,⟨6,ky,vl,T⟩,some C,⟨s,g,0,0,false⟩,T,0,0⟩) (Y6 (C.E9 0).prev (C.E9 0).cur (En (C.E9 0).cur ⟨s,g,0,0,false⟩)))->
  Yc Q al (n+m) v (.FJ (Xc.Kt ⟨pc,last,⟨6,ky,vl,T⟩,some C,⟨s,g,0,0,false⟩,lv,0,0⟩ k).1) (Xc.Kt ⟨pc,last,⟨6,ky,vl,T⟩,some C,⟨s,g,0,0,false⟩,lv,0,0⟩ k).2
 |0,k,hk,pc,lv,v,hr,fin=>by
  obtain rfl:k=T:=Zo;unfold Xc.Kt;simp only[show decide ((k:Int)<(k:Int))=false from decide_eq_false Zo,cond_false,Bh,LF (C:=C) (k:=0) Zd Zd];exact fin v ⟨rfl,rfl,rfl,λ_ _ _=>rfl,λj j1 j2=>by omega⟩
 |m+1,k,hk,pc,lv,v,hr,fin=>by
  have hs0:s≠0:=hr.1;have hw:wr (2+(k:Int))=2+k:=Es Zo Zo;have hw2:wr ((k:Int)+1)=((k+1:Nat):Int):=by rw[Es Zo Zo];omega
  unfold Xc.Kt;simp only[show decide ((k:Int)<(T:Int))=true from decide_eq_true Zo,cond_true,Bh,LF (C:=C) (k:=k) Zo Zo,hw];refine .st (Yd hr Zo Zo) rfl ?_;simp only[Xx.next,Xc.next,Xc.insert,show((7:Int)==-1)=false from rfl,show decide ((101:Int)<=7)=false from rfl,show decide ((9:Int)<=7)=false from rfl,show((6:Int)==6)=true from rfl,show((7:Int)==0)=false from rfl,show((7:Int)==1)=false from rfl,show((7:Int)==2)=false from rfl,show((7:Int)==3)=false from rfl,show((7:Int)==6)=false from rfl,show((7:Int)==8)=false from rfl,show((7:Int)==4)=false from rfl,show((7:Int)==5)=false from rfl,show((7:Int)==7)=true from rfl,cond_true,cond_false,Bool.and_false,hw2];refine Qg T3 m (k+1) Zo 7 k _ (Cl.2 hr) λv' hv=>fin v' ⟨hv.held.trans B9,hv.As.trans AD,hv.root.trans ?_,λt f e=>?_,λj j1 j2=>?_⟩
  ·rw[BC hs0]
  ·rw[hv.cell t f λe'=>e ⟨e'.1,by omega,e'.2.2⟩];exact Yb t f λe'=>e ⟨e'.1,by have h2:f=2+(k:Int):=e'.2;omega,by have h2:f=2+(k:Int):=e'.2;omega⟩
  ·by_cases hj:j=k
   ·subst hj;rw[hv.cell s (2+k) λe'=>by omega];exact EU (w:=⟨s,g,0,0,false⟩) hs0
   ·exact hv.nx j Zo j2
theorem Up{T:Nat}(T3:T<=3){v3:Vw}{b:Int}{kp:Int->Int}{l0:Int->List Int}:∀(m k:Nat),k+m=T->1<=k->∀(pc:Int) (v:Vw) (l:Int->List Int),iF v3 v s g b T kp l0 l C k->
  (∀v' l',iF v3 v' s g b T kp l0 l' C T->Yc Q al n v' (.FJ ⟨101,last,⟨6,ky,vl,T⟩,some C,⟨s,g,0,0,false⟩,T,1,0⟩) (Yv (Xg ⟨s,g,0,0,false⟩ 7)))->
  Yc Q al (n+2*m) v (.FJ (Xc.link ⟨pc,last,⟨6,ky,vl,T⟩,some C,⟨s,g,0,0,false⟩,k,0,0⟩).1) (Xc.link ⟨pc,last,⟨6,ky,vl,T⟩,some C,⟨s,g,0,0,false⟩,k,0,0⟩).2
 |0,k,hk,k1,pc,v,l,hp,fin=>by
  obtain rfl:k=T:=Zo;unfold Xc.link Xc.part;simp only[show decide ((k:Int)<=(k:Int))=true from decide_eq_true Zo,cond_true];exact fin v l hp
 |m+1,k,hk,k1,pc,v,l,hp,fin=>by
  have hs0:s≠0:=hp.rf.1;have hw:wr (2+(k:Int))=2+k:=Es Zo Zo;have hw2:wr ((k:Int)+1)=((k+1:Nat):Int):=by rw[Es Zo Zo];omega
  obtain⟨i1,i2,i3,l',i4⟩:=hp.step Zo Zo Zo;unfold Xc.link;simp only[show decide ((T:Int)<=(k:Int))=false from decide_eq_false Zo,cond_false,hw];refine .more (n:=n+2*m+1+1) (a:=al) (.ld (Yd hp.rf Zo Zo) ((Yp hs0).trans i3) ?_) (Nat.le_refl _) Zo;simp only[Xx.next,Xc.next,Xc.raise,show((9:Int)==-1)=false from rfl,show decide ((101:Int)<=9)=false from rfl,show decide ((9:Int)<=9)=true from rfl,show((6:Int)==6)=true from rfl,show((9:Int)==9)=true from rfl,cond_true,cond_false,Bool.and_true,Bh,LF (C:=C) (k:=k) Zo Zo,show(Yt (C.E9 k).cur).mark=false from rfl,show Vm (Yt (C.E9 k).cur) (C.E9 k).cur=true by simp[Vm,Yt],Bool.not_true];refine .sw i1 i2 (Yx _) rfl ?_;simp only[Xx.next,Xc.next,Xc.raise,show((11:Int)==-1)=false from rfl,show decide ((101:Int)<=11)=false from rfl,show decide ((9:Int)<=11)=true from rfl,show((6:Int)==6)=true from rfl,show((11:Int)==9)=false from rfl,show((11:Int)==10)=false from rfl,show((11:Int)==11)=true from rfl,cond_true,cond_false,Bool.and_true,hw2];exact Up T3 m (k+1) Zo Zo 11 _ l' (by have:=i4;rwa [show(k:Int)+1=((k+1:Nat):Int) by omega] at this) fin
theorem QQ{v:Vw}{L:List (Int × Int)}(op:A3)(x:Xj)(hk:op.kind=6)(hT:1<=op.Ah/\op.Ah<=3)(h:UY v L):
  Yc (λa v'=>a=(Ca L op.key op).1/\UY v' (Ca L op.key op).2) 1 (9*L.length+110) v (.FJ ((Xc.new op).next x).1) ((Xc.new op).next x).2:=by
 obtain⟨kp,l,h1,rfl⟩:=h
 obtain⟨k,ky,vl,tl⟩:=op
 obtain rfl:k=6:=hk
 obtain⟨T,rfl⟩:∃T:Nat,tl=(T:Int):=⟨tl.toNat,by have:=hT.1;simp only at this;omega⟩
 have hT:1<=(T:Int)/\(T:Int)<=3:=hT
 have hlen:(Bi v (l 0)).length=(l 0).length:=List.length_map ..
 rw[hlen]
 simp only[Xc.next,Xc.insert,Xc.new,Xc.zero,show((0:Int)==-1)=false from rfl,show decide ((101:Int)<=0)=false from rfl,show decide ((9:Int)<=0)=false from rfl,show((6:Int)==6)=true from rfl,show((0:Int)==0)=true from rfl,cond_true,cond_false,Bool.and_false]
 refine .more (n:=26+9*(l 0).length+71+1+1+1+2) (a:=0+1) (.al λs g s0 hs=>?_) (Nat.le_refl _) Zo
 have hn:=MK (v:=v) (g:=g) s0
 simp only[Xx.next,Xc.next,Xc.insert,show((1:Int)==-1)=false from rfl,show decide ((101:Int)<=1)=false from rfl,show decide ((9:Int)<=1)=false from rfl,show((6:Int)==6)=true from rfl,show((1:Int)==0)=false from rfl,show((1:Int)==1)=true from rfl,cond_true,cond_false,Bool.and_false,Bool.not_true]
 refine .st (Yd hn Zd Zd) rfl ?_
 simp only[Xx.next,Xc.next,Xc.insert,show((2:Int)==-1)=false from rfl,show decide ((101:Int)<=2)=false from rfl,show decide ((9:Int)<=2)=false from rfl,show((6:Int)==6)=true from rfl,show((2:Int)==0)=false from rfl,show((2:Int)==1)=false from rfl,show((2:Int)==2)=true from rfl,cond_true,cond_false,Bool.and_false,Bool.not_true]
 refine .st (Iw.2 (Yd hn Zd Zd)) rfl ?_
 simp only[Xx.next,Xc.next,Xc.insert,show((3:Int)==-1)=false from rfl,show decide ((101:Int)<=3)=false from rfl,show decide ((9:Int)<=3)=false from rfl,show((6:Int)==6)=true from rfl,show((3:Int)==0)=false from rfl,show((3:Int)==1)=false from rfl,show((3:Int)==2)=false from rfl,show((3:Int)==3)=true from rfl,cond_true,cond_false,Bool.and_false,Bool.not_true]
 refine .st (Iw.2 (Iw.2 (Yd hn Zd Zd))) rfl ?_
 have e0:=ZI (J:=⟨5,Xf.zero,⟨6,ky,vl,T⟩,some (Xd.new ky),⟨s,g,0,0,false⟩,0,0,0⟩) rfl ⟨.zero,true⟩
 simp only[Xx.next,Xc.next,Xc.insert,Xc.Au,show((4:Int)==-1)=false from rfl,show decide ((101:Int)<=4)=false from rfl,show decide ((9:Int)<=4)=false from rfl,show((6:Int)==6)=true from rfl,show((4:Int)==0)=false from rfl,show((4:Int)==1)=false from rfl,show((4:Int)==2)=false from rfl,show((4:Int)==3)=false from rfl,show((4:Int)==6)=false from rfl,show((4:Int)==8)=false from rfl,show((4:Int)==4)=true from rfl,cond_true,cond_false,Bool.and_false,Bool.not_true]
 have e1:∀{Q:Yu->Vw->Prop} {a n:Nat} {v:Vw} {A:Xc} {c:Xf} {R:Xx × Xf},(Xx.FJ A,c)=R->Yc Q a n v R.1 R.2->Yc Q a n v (.FJ A) c:=λe h=>by subst e;exact h
 refine e1 e0 ?_
 show Yc _ _ _ ((((v.take s g).put (Xg ⟨s,g,0,0,false⟩ 0) (Yy ky)).put (Xg ⟨s,g,0,0,false⟩ 1) (Yy vl)).put (Xg ⟨s,g,0,0,false⟩ 6) (Yy T)) _ _
 generalize hv3:(((v.take s g).put (Xg ⟨s,g,0,0,false⟩ 0) (Yy ky)).put (Xg ⟨s,g,0,0,false⟩ 1) (Yy vl)).put (Xg ⟨s,g,0,0,false⟩ 6) (Yy T)=v3
 have hls:∀t∈l 0,t≠s:=λt ht e=>hs (e▸(h1.DM.held Zd Zd ht).2)
 have k3:∀t,t≠s->v3.cell t=v.cell t:=λt ht=>by
  rw[←hv3];funext u;rw[Yb t u λe=>ht e.1,Yb t u λe=>ht e.1,Yb t u λe=>ht e.1,ER ht]
 have r3:v3.Rf ⟨s,g,0,0,false⟩:=by rw[←hv3];exact Cl.2 (Cl.2 (Cl.2 hn))
 have h3:∀t,v.held t->v3.held t/\(t≠s->v3.As t=v.As t):=λt ht=>by
  rw[←hv3,B9,B9,B9,AD,AD,AD];exact⟨Or.inr ht,λe=>by show Ap v.As s g t=_;rw[X2,if_neg e]⟩
 have root3:v3.root=v.root:=by rw[←hv3,BC s0,BC s0,BC s0];rfl
 have c30:v3.cell s 0=Yy ky:=by
  rw[←hv3,Yb s 0 λe=>absurd e.2 (by show(0:Int)≠6;decide),Yb s 0 λe=>absurd e.2 (by show(0:Int)≠1;decide)];exact EU (w:=⟨s,g,0,0,false⟩) s0
 have c31:v3.cell s 1=Yy vl:=by
  rw[←hv3,Yb s 1 λe=>absurd e.2 (by show(1:Int)≠6;decide)];exact EU (w:=⟨s,g,0,0,false⟩) s0
 have c36:v3.cell s 6=Yy T:=by rw[←hv3];exact EU (w:=⟨s,g,0,0,false⟩) s0
 have c37:v3.cell s 7=.zero:=by
  rw[←hv3,Yb s 7 λe=>absurd e.2 (by show(7:Int)≠6;decide),Yb s 7 λe=>absurd e.2 (by show(7:Int)≠1;decide),Yb s 7 λe=>absurd e.2 (by show(7:Int)≠0;decide)];exact Nr
 clear hv3 hn e0
 have kpo:∀t∈l 0,Ap kp s ky t=kp t:=λt ht=>by rw[X2,if_neg (hls t ht)]
 have kps:Ap kp s ky s=ky:=by rw[X2,if_pos rfl]
 have t3:IL v3 0 (Ap kp s ky) l:=h1.DM.same (λk _ _=>by rw[root3]) (λt ht=>⟨(h3 t (h1.DM.held Zd Zd ht).2).1,(h3 t (h1.DM.held Zd Zd ht).2).2 (hls t ht),λf _=>by rw[k3 t (hls t ht)]⟩) kpo
 have hc3:Bi v3 (l 0)=Bi v (l 0):=Fb λt ht=>by rw[k3 t (hls t ht)];exact⟨rfl,rfl⟩
 have hsn:∀k,0<=k->k<3->s∉l k:=λk k0 k3' hm=>hls s (h1.DM.KC k0 k3' hm) rfl
 refine GA (n:=26) (S:=λC=>.FJ ⟨5,Xf.zero,⟨6,ky,vl,T⟩,some C,⟨s,g,0,0,false⟩,0,0,0⟩) (K:=Uq ⟨5,Xf.zero,⟨6,ky,vl,T⟩,some (Xd.new ky),⟨s,g,0,0,false⟩,0,0,0⟩) (λC x=>ZI (J:=⟨5,Xf.zero,⟨6,ky,vl,T⟩,some C,⟨s,g,0,0,false⟩,0,0,0⟩) rfl x) (λC c _=>rfl) t3 (λh=>absurd rfl h) _ λC v' ce=>?_
 obtain rfl:v'=v3:=ce.JW.same rfl
 have hup:∀j,0<=j->j<3->rF v' (Ap kp s ky) (l j) (C.E9 j) ky j:=λj j0 j3=>by
  have:=ce.up j j0 j3;rwa [ZB t3 j0 j3] at this
 obtain⟨pre,post,f1,f2,f3⟩:=ce.Uz
 rw[ZB t3 Zd Zd] at f1
 have hkp:∀t∈l 0,(v'.cell t 0).nm=Ap kp s ky t:=t3.key 0 Zd Zd
 have lo:∀t∈pre,(v'.cell t 0).nm<ky:=λt ht=>by rw[hkp t (by rw[f1];simp[ht])];exact f2 t ht
 rcases f3 with⟨u,r,rfl,g1,g2⟩|⟨g1,g2⟩
 ·have hu:u∈l 0:=by rw[f1];simp
  have hu0:=t3.held Zd Zd hu;unfold Uq;rw[g2];simp only[Bool.false_eq_true,if_false,hu0.1];refine .more (n:=25+1) (a:=0) (.dr r3 ?_) (Nat.le_refl _) Zo;refine .dn ⟨?_,Ap kp s ky,l,⟨?_,λt ht=>?_,λk k0 k3' t=>?_⟩,?_⟩
  ·rw[←hc3,f1,Dt lo (by rw[hkp u hu];exact g1)];rfl
  ·exact⟨λk k0 k3'=>(t3.ch k k0 k3').drop (hsn k k0 k3'),t3.m0,t3.WL,t3.sub,t3.key,t3.OT⟩
  ·show 1<=(v'.cell t 6).nm/\(v'.cell t 6).nm<=3/\(v'.cell t 7).nm=1;rw[k3 t (hls t ht)];exact h1.ht t ht
  ·show t∈l k↔t∈l 0/\k<(v'.cell t 6).nm;rw[h1.lv k k0 k3' t];constructor
   ·rintro⟨h,h'⟩;exact⟨h,by rw[k3 t (hls t h)];exact h'⟩
   ·rintro⟨h,h'⟩;exact⟨h,by rw[k3 t (hls t h)] at h';exact h'⟩
  ·show Bi v' (l 0)=_;rw[←hc3,f1,Dt lo (by rw[hkp u hu];exact g1)];rfl
 ·unfold Uq;rw[g2];simp only[Bool.false_eq_true,if_false,show Xe.zero.sl=0 from rfl,if_true];have no:∀u r,post=u::r->ky<(v'.cell u 0).nm:=λu r e=>by rw[hkp u (by rw[f1,e];simp)];exact g1 u r e
  refine .more (n:=23+T) (a:=0) (Qg (n:=23) (T:=T) Zo T 0 Zo 5 0 v' r3 λv4 hv=>?_) (Nat.le_refl _) Zo;have hne:∀j,0<=j->j<3->∀t∈l j,Ap kp s ky t≠ky:=λj j0 j3 t ht=>by
   have hm:=t3.KC j0 j3 ht;rw[f1] at hm;rcases List.mem_append.1 hm with hm|hm
   ·have:=f2 t hm;omega
   ·cases post with
    |nil=>cases hm
    |cons u r=>
     have h5:=g1 u r rfl;rcases List.mem_cons.1 hm with rfl|hm
     ·omega
     ·have hsr:=t3.OT 0 Zd Zd;rw[f1] at hsr;have:=(List.pairwise_cons.1 (List.pairwise_append.1 hsr).2.1).1 t hm;omega
  have k4:∀t f,¬(2<=f/\f<5)->v4.cell t f=v'.cell t f:=λt f hf=>hv.cell t f λe=>hf ⟨by omega,by omega⟩;have i0:iF v' v4 s g ky T (Ap kp s ky) l l C 0:=by
   refine⟨t3.same (λk _ _=>by rw[hv.root]) (λt ht=>⟨by rw[hv.held];exact(t3.held Zd Zd ht).2,by rw[hv.As],λf _=>hv.cell t f λe=>hls t ht e.1⟩) λ_ _=>rfl,⟨s0,by rw[hv.held];exact r3.2.1,by rw[hv.As];exact r3.2.2⟩,⟨by rw[k4 s 0 Zo,c30];rfl,kps⟩,λj j0 j3=>?_,λj j0 jT=>hv.nx j j0 jT,λj j0 j3 t=>⟨Or.inl,λh=>h.elim id λe=>by omega⟩,hsn,hne,k4,λ_ _ _=>rfl,λh=>absurd h Zd⟩;obtain⟨p,q,e1,e2,e3,e4,e5⟩:=hup j j0 j3;refine⟨p,q,e1,e2.trans (RH hv.As).symm,?_,e4,e5⟩;rw[e3];rcases @CJ v' j p with⟨e,_⟩|e
   ·rw[e2,e,BU,BU,hv.root]
   ·have hm:(HJ v' j p).sl∈l 0:=t3.KC j0 j3 (by rw[e1];exact List.mem_append_left _ e.1);have hz:=(t3.held Zd Zd hm).1;rw[e2];unfold Vw.get;rw[if_neg hz,if_neg hz,hv.cell _ _ λe'=>hls _ hm e'.1]
  obtain⟨j1,j2,j3,l',j4⟩:=i0.step Zd Zo Zo;refine .more (n:=22+1) (a:=0) (.sw j1 j2 (Yx _) rfl ?_) (Nat.le_refl _) Zo;obtain⟨m,hm⟩:∃m,1+m=T:=⟨T-1,by omega⟩;refine .more (n:=18+2*m) (a:=0) (Up (n:=18) (T:=T) Zo m 1 hm Zd 8 _ l' j4 λv5 l5 i5=>?_) (Nat.le_refl _) Zo;have c57:v5.cell s 7=.zero:=(i5.oth s 7 Zo).trans c37;refine .more (n:=0+1+1) (a:=0) (.ld (Yd i5.rf Zd Zd) ((Yp s0).trans c57) ?_) (Nat.le_refl _) Zo;simp only[Xx.next,Xc.next,Xc.finish,show((101:Int)==-1)=false from rfl,show decide ((101:Int)<=101)=true from rfl,show((101:Int)==101)=true from rfl,cond_true,cond_false,show(Xe.zero.nm==0)=true from rfl];refine .sw (Yd i5.rf Zd Zd) ((Yp s0).trans c57) (Yx _) rfl ?_;obtain⟨p,q,q1,q2,q3,q4⟩:=i5.fst Zo;have hpq:p=pre/\q=post:=by
   have w1:=GL (q:=λt=>decide (Ap kp s ky t<ky)) (p:=p) (r:=q) (λt ht=>decide_eq_true (q3 t ht)) λt r e=>decide_eq_false (by have:=q4 t (by rw[e];simp);omega);have w2:=GL (q:=λt=>decide (Ap kp s ky t<ky)) (p:=pre) (r:=post) (λt ht=>decide_eq_true (f2 t ht)) λt r e=>decide_eq_false (by have:=g1 t r e;omega);rw[←q2] at w1;rw[←f1] at w2;exact⟨w1.1.symm.trans w2.1,w1.2.symm.trans w2.2⟩
  obtain⟨rfl,rfl⟩:=hpq;have k5:∀t f,f≠7->¬(2<=f/\f<5)->(v5.put (Xg ⟨s,g,0,0,false⟩ 7) (BP .zero 1)).cell t f=v'.cell t f:=λt f h7 hf=>(Yb t f λe=>h7 e.2).trans (i5.oth t f hf);have k57:∀t,t≠s->(v5.put (Xg ⟨s,g,0,0,false⟩ 7) (BP .zero 1)).cell t 7=v'.cell t 7:=λt h7=>(Yb t 7 λe=>h7 e.1).trans (i5.oth t 7 Zo);have ks7:(v5.put (Xg ⟨s,g,0,0,false⟩ 7) (BP .zero 1)).cell s 7=BP .zero 1:=EU (w:=⟨s,g,0,0,false⟩) s0;refine .dn ⟨?_,Ap kp s ky,l5,⟨i5.DM.same (λk _ _=>by rw[BC s0]) (λt ht=>⟨by rw[B9];exact(i5.DM.held Zd Zd ht).2,by rw[AD],λf hf=>Yb t f λe=>by have:f=7:=e.2;omega⟩) λ_ _=>rfl,λt ht=>?_,λk k0 k3' t=>?_⟩,?_⟩
  ·rw[←hc3,f1,Fs lo no];rfl
  ·by_cases e:t=s
   ·subst e;rw[ks7,k5 t 6 Zd Zo,c36];exact⟨hT.1,hT.2,rfl⟩
   ·rw[k57 t e,k5 t 6 Zd Zo,k3 t e];exact h1.ht t (((i5.mem 0 Zd Zd t).1 ht).elim id λh=>absurd h.1 e)
  ·rw[k5 t 6 Zd Zo,i5.mem k k0 k3' t,i5.mem 0 Zd Zd t];by_cases e:t=s
   ·subst e;rw[c36];exact⟨λh=>⟨Or.inr ⟨rfl,by omega⟩,h.elim (λh=>absurd h (hsn k k0 k3')) λh=>h.2⟩,λh=>Or.inr ⟨rfl,h.2⟩⟩
   ·rw[k3 t e,h1.lv k k0 k3' t];exact⟨λh=>h.elim (λh=>⟨Or.inl h.1,h.2⟩) λh=>absurd h.1 e,λh=>h.1.elim (λh'=>Or.inl ⟨h',h.2⟩) λh'=>absurd h'.1 e⟩
  ·rw[q1,←hc3,f1,Fs lo no];show _=Bi v' p++(ky,vl)::Bi v' q;have cs:∀y:List Int,Bi (v5.put (Xg ⟨s,g,0,0,false⟩ 7) (BP .zero 1)) y=Bi v' y:=λy=>Fb λt _=>⟨k5 t 0 Zd Zo,k5 t 1 Zd Zo⟩;rw[cs,EE];show _++((v'.cell s 0).nm,(v'.cell s 1).nm)::_=_;rw[c30,c31];rfl
end
def qX(v:Vw)(L:List Int):Prop:=∃(l:List Int) (t:Int),CU v 2 (v.root 0) (l++[t])/\(l++[t]).Nodup/\(v.root 1).sl=t/\v.Rf (v.root 1)/\(l++[t]).tail.map (λs=>(v.cell s 1).nm)=L
def gI(L:List Int)(op:A3):Yu × List Int:=
 if op.kind=4 then(⟨1,0⟩,L++[op.val]) else match L with
 |[]=>(⟨2,0⟩,[])
 |x::r=>(⟨1,x⟩,r)
theorem Sa{v:Vw}{L:List Int}(op:A3)(x:Xj)(hk:op.kind=4)(h:qX v L):
  Yc (λa v'=>a=(gI L op).1/\qX v' (gI L op).2) 1 30 v (.XK ((Xt.new op).next x).1) ((Xt.new op).next x).2:=by
 obtain⟨l,t,h1,h2,h3,h4,h5⟩:=h
 obtain⟨k,ky,vl,tl⟩:=op
 obtain rfl:k=4:=hk
 refine .more (n:=0+1+1+5+5+5+1+2) (a:=0+1) ?_ (Nat.le_refl _) Zd
 simp[Xx.next,Xt.next,Xt.enqueue,Xt.dequeue,Xt.done,Xt.new,Xt.zero]
 refine .al λs g s0 hs=>?_
 simp[Xx.next,Xt.next,Xt.enqueue,Xt.dequeue,Xt.done,Xt.new,Xt.zero]
 have hm:∀u∈l++[t],u≠s:=λu hu e=>hs (by rw[←e];exact(h1.held u hu).2)
 have ht0:t≠0:=(h1.held t Zs).1
 have hts:t≠s:=hm t Zs
 have hn:=MK (v:=v) (g:=g) s0
 refine .st (Yd hn Zd Zd) rfl ?_
 simp[Xx.next,Xt.next,Xt.enqueue,Xt.dequeue,Xt.done,Xt.new,Xt.zero]
 generalize hv1:(v.take s g).put (Xg ⟨s,g,0,0,false⟩ 1) (Yy vl)=v1
 have c1:CU v1 2 (v1.root 0) (l++[t]):=by subst hv1;rw[show((v.take s g).put (Xg ⟨s,g,0,0,false⟩ 1) (Yy vl)).root=v.root from by rw[BC s0];rfl];exact(h1.take hs).put (Or.inl (by show(1:Int)≠2;decide))
 have r1:v1.root 1=v.root 1:=by subst hv1;rw[BC s0];rfl
 have f1:v1.Rf (v1.root 1):=by rw[r1];subst hv1;exact Cl.2 (h4.take hs)
 have n1:v1.Rf ⟨s,g,0,0,false⟩:=by subst hv1;exact Cl.2 hn
 have e1:∀u,u≠s->v1.cell u=v.cell u:=λu hu=>by subst hv1;rw[BC s0];show Ap _ _ _ u=_;rw[X2,if_neg hu];exact ER hu
 have e2:v1.cell s 2=.zero/\v1.cell s 1=Yy vl:=by subst hv1;exact⟨by rw[Yb s 2 λe=>absurd e.2 (by show(2:Int)≠1;decide)];exact Nr,EU (w:=⟨s,g,0,0,false⟩) s0⟩
 have z1:(v1.cell t 2).sl=0:=by
  have:=CU.at_ (v:=v1) (a:=root 0) (pre:=l++[t]) (post:=[]) (by rw[List.append_nil];exact c1);rw[GP,Cx ht0] at this;exact this
 clear hv1 h1 h4 hn
 have t1:(v1.root 1).sl=t:=by rw[r1];exact h3
 have g1:(v1.root 1).gn=v1.As t:=by rw[←t1];exact f1.2.2
 refine .pr (AY Zd Zd) rfl ?_
 simp[Xx.next,Xt.next,Xt.enqueue,Xt.dequeue,Xt.done,Xt.new,Xt.zero]
 refine .ld (Yd f1 Zd Zd) (Yp f1.1) ?_
 simp[Xx.next,Xt.next,Xt.enqueue,Xt.dequeue,Xt.done,Xt.new,Xt.zero]
 refine .ld (AY Zd Zd) rfl ?_
 simp[Xx.next,Xt.next,Xt.enqueue,Yx,BU,t1,z1]
 refine .sw (Yd f1 Zd Zd) (Yp f1.1) (by rw[t1];exact Yx _) rfl ?_
 simp[Xx.next,Xt.next,Xt.enqueue,Xt.dequeue,Xt.done,Xt.new,Xt.zero]
 have la:EZ 2 v1.As (root 0) (l++[t])=Xg (v1.root 1) 2:=by rw[GP];unfold Xg;rw[t1,g1]
 have c2:=I7 (v:=v1) (x:=En (v1.cell t 2) ⟨s,g,0,0,false⟩) (l:=[s]) (a:=root 0) (pre:=l++[t]) (post:=[]) (f:=2) (by rw [List.append_nil];exact c1) (by rw [List.append_nil];exact h2) (fun h=>absurd rfl h) ⟨rfl,Cl.2 (n1.ref rfl rfl),by
  rw[la,Yb s 2 λe=>hts (by rw[←t1];exact e.1.symm),e2.1];rfl⟩
 rw[la] at c2
 generalize hv2:v1.put (Xg (v1.root 1) 2) (En (v1.cell t 2) ⟨s,g,0,0,false⟩)=v2 at c2 ⊢
 have r2:v2.root=v1.root:=by rw[←hv2,BC f1.1]
 have e3:∀u,v2.cell u 1=v1.cell u 1:=λu=>by rw[←hv2];exact Yb u 1 λe=>absurd e.2 (by show(1:Int)≠2;decide)
 have n2:v2.Rf ⟨s,g,0,0,false⟩:=by rw[←hv2];exact Cl.2 n1
 refine .sw (AY Zd Zd) rfl (by rw[BU,r2];exact Yx _) Gx ?_
 simp[Xx.next,Xt.next,Xt.enqueue,Xt.dequeue,Xt.done,Xt.new,Xt.zero]
 refine .dn ⟨rfl,l++[t],s,?_,?_,?_,?_,?_⟩
 ·have c3:CU v2 2 (v2.root 0) (l++[t]++[s]):=c2;exact(c3.put0 (b:=root 1) rfl (x:=En (v1.root 1) ⟨s,g,0,0,false⟩)).ref (by simp[X2]) (by simp[X2])
 ·exact List.nodup_append.2 ⟨h2,by simp,λu hu z hz e=>hm u hu (by rw[e];simpa using hz)⟩
 ·simp[X2];rfl
 ·exact n2.ref (by simp[X2];rfl) (by simp[X2];rfl)
 ·show List.map (λs=>(v2.cell s 1).nm) (l++[t]++[s]).tail=L++[vl];have e5:(l++[t]++[s]).tail=(l++[t]).tail++[s]:=by cases l<;>rfl
  rw[e5,List.map_append,←h5];congr 1
  ·exact List.map_congr_left λu hu=>by rw[e3,e1 u (hm u (List.mem_of_mem_tail hu))]
  ·show[(v2.cell s 1).nm]=[vl];rw[e3,e2.2];rfl
theorem Sb{v:Vw}{L:List Int}(op:A3)(x:Xj)(hk:op.kind=5)(h:qX v L):
  Yc (λa v'=>a=(gI L op).1/\qX v' (gI L op).2) 0 80 v (.XK ((Xt.new op).next x).1) ((Xt.new op).next x).2:=by
 obtain⟨l,t,h1,h2,h3,h4,h5⟩:=h
 obtain⟨k,ky,vl,tl⟩:=op
 obtain rfl:k=5:=hk
 refine .more (n:=0+40+1+5+5+5+5+5) (a:=0) ?_ (Nat.le_refl _) Zd
 simp[Xx.next,Xt.next,Xt.enqueue,Xt.dequeue,Xt.done,Xt.new,Xt.zero]
 refine .pr (AY Zd Zd) rfl ?_
 simp[Xx.next,Xt.next,Xt.enqueue,Xt.dequeue,Xt.done,Xt.new,Xt.zero]
 refine .ld (AY Zd Zd) rfl ?_
 simp[Xx.next,Xt.next,Xt.enqueue,Xt.dequeue,Xt.done,Xt.new,Xt.zero]
 cases l with
 |nil=>
  obtain⟨e,hr,h1⟩:=h1
  have h1:(v.cell t 2).sl=0:=h1
  refine .pr (Yd hr Zd Zd) (Yp hr.1) ?_
  simp[Xx.next,Xt.next,Xt.enqueue,Xt.dequeue,Xt.done,Xt.new,Xt.zero]
  refine .ld (AY Zd Zd) rfl ?_
  simp[Xx.next,Xt.next,Xt.dequeue,Xt.done,Yx,BU,e,h1]
  obtain rfl:[]=L:=h5
  exact .dn ⟨rfl,[],t,⟨e,hr,h1⟩,h2,h3,h4,rfl⟩
 |cons d l=>
  obtain⟨rfl,hr,h1⟩:=h1
  have h1:CU v 2 (v.cell (v.root 0).sl 2) (l++[t]):=h1
  obtain⟨n1,n2⟩:=List.nodup_cons.1 h2
  have hd:¬(v.root 0).sl=(v.root 1).sl:=λe=>n1 (by rw[e,h3];simp)
  obtain⟨u,m,hum⟩:∃u m,l++[t]=u::m:=by cases l with
   |nil=>exact⟨t,[],rfl⟩
   |cons a b=>exact⟨a,b++[t],rfl⟩
  have hu:v.Rf (v.cell (v.root 0).sl 2)/\(v.cell (v.root 0).sl 2).sl=u:=by rw[hum] at h1;exact⟨h1.2.1,h1.1⟩
  have hx:(v.cell u 1).nm::m.map (λs=>(v.cell s 1).nm)=L:=by
   rw[←h5];show _=List.map _ (l++[t]);rw[hum];rfl
  refine .pr (Yd hr Zd Zd) (Yp hr.1) ?_
  simp[Xx.next,Xt.next,Xt.enqueue,Xt.dequeue,Xt.done,Xt.new,Xt.zero]
  refine .ld (AY Zd Zd) rfl ?_
  simp[Xx.next,Xt.next,Xt.dequeue,Xt.done,Yx,BU,hd,hu.1.1]
  refine .ld (Yd hu.1 Zd Zd) (Yp hu.1.1) ?_
  simp[Xx.next,Xt.next,Xt.enqueue,Xt.dequeue,Xt.done,Xt.new,Xt.zero]
  refine .sw (AY Zd Zd) rfl (Yx _) Gx ?_
  simp[Xx.next,Xt.next,Xt.enqueue,Xt.dequeue,Xt.done,Xt.new,Xt.zero]
  refine .rt (w:=v.root 0) hr ?_
  simp[Xx.next,Xt.next,Xt.enqueue,Xt.dequeue,Xt.done,Xt.new,Xt.zero]
  subst hx
  refine .dn ⟨by show _=(⟨1,_⟩:Yu);rw[hu.2],l,t,?_,n2,?_,?_,?_⟩
  ·have h6:CU ({v with root:=Ap v.root 0 (En (v.root 0) (v.cell (v.root 0).sl 2))} |>.drop (v.root 0).sl) 2 (v.cell (v.root 0).sl 2) (l++[t]):=h1.same λz hz=>⟨⟨λe=>n1 (e▸hz),(h1.held z hz).2⟩,rfl,rfl⟩;exact h6.ref (by simp[Vw.drop,X2];rfl) (by simp[Vw.drop,X2];rfl)
  ·simp[Vw.drop,X2,h3]
  ·have h7:({v with root:=Ap v.root 0 (En (v.root 0) (v.cell (v.root 0).sl 2))} |>.drop (v.root 0).sl).Rf (v.root 1):=⟨h4.1,⟨λe=>hd e.symm,h4.2.1⟩,h4.2.2⟩;exact h7.ref (by simp[Vw.drop,X2]) (by simp[Vw.drop,X2])
  ·show List.map (λs=>(v.cell s 1).nm) (l++[t]).tail=m.map _;rw[hum];rfl
structure SS where
 q:List Int
 C:VC
def Rel(st:Int)(m:Nat)(v:Vw)(X:SS):Prop:=
 (st=1/\Vd v X.q)\/(st=2/\qX v X.q)\/(st=3/\LisR v X.C.L/\X.C.L.length<=m)\/(st=4/\Ea v X.C/\X.C.L.length+IG X.C.B<=m+7)\/(st=5/\UY v X.C.L/\X.C.L.length<=m)
def spec(st:Int)(X:SS)(op:A3):Yu × SS:=
 if st=1 then((PP X.q op).1,{X with q:=(PP X.q op).2}) else if st=2 then((gI X.q op).1,{X with q:=(gI X.q op).2}) else
 if st=4 then((Vt X.C op).1,{X with C:=(Vt X.C op).2}) else((Ca X.C.L op.key op).1,{X with C:={X.C with L:=(Ca X.C.L op.key op).2}})
def Qw(m:Nat):Nat:=36*(m+7)+300
theorem Gt{Q Q':Yu->Vw->Prop}{a n:Nat}{v:Vw}{J:Xx}{c:Xf}(h:Yc Q a n v J c)(hQ:∀x v,Q x v->Q' x v):Yc Q' a n v J c:=by
 induction h with
 |done hk h=>exact .done hk (hQ _ _ h)
 |look hk ha _ ih=>exact .look hk ha ih
 |eG hk hi ha _ ih=>exact .eG hk hi ha ih
 |store hk ha _ ih=>exact .store hk ha ih
 |swap hk ha hs _ ih=>exact .swap hk ha hs ih
 |hold hk hi _ ih=>exact .hold hk hi ih
 |alloc hk _ ih=>exact .alloc hk λs g h1 h2=>ih s g h1 h2
 |drop hk hr _ ih=>exact .drop hk hr ih
 |retire hk hr _ ih=>exact .retire hk hr ih
theorem kO{st:Int}{m:Nat}{v:Vw}{X:SS}{op:A3}(h:Rel st m v X)(ho:Sm st op)(x:Xj):
  Yc (λa v'=>a=(spec st X op).1/\Rel st (m+1) v' (spec st X op).2) 4 (Qw m) v ((Xx.new st op).next x).1 ((Xx.new st op).next x).2:=by
 obtain⟨k,key,val,Ah⟩:=op
 simp only[Sm] at ho
 unfold Qw
 rcases h with⟨rfl,h⟩|⟨rfl,h⟩|⟨rfl,h,hl⟩|⟨rfl,h,hl⟩|⟨rfl,h,hl⟩
 ·have ho:=ho.resolve_right Zo;by_cases hk:k=1
  ·exact(Gt (NE ⟨k,key,val,Ah⟩ x hk h) λa v h=>⟨h.1,Or.inl ⟨rfl,h.2⟩⟩).more Zo Zo
  ·exact(Gt (Pd ⟨k,key,val,Ah⟩ x (show k=2\/k=3 by omega) h) λa v h=>⟨h.1,Or.inl ⟨rfl,h.2⟩⟩).more Zo Zo
 ·have ho:=(ho.resolve_left Zo).resolve_right Zo;by_cases hk:k=4
  ·exact(Gt (Sa ⟨k,key,val,Ah⟩ x hk h) λa v h=>⟨h.1,Or.inr (Or.inl ⟨rfl,h.2⟩)⟩).more Zo Zo
  ·exact(Gt (Sb ⟨k,key,val,Ah⟩ x (show k=5 by omega) h) λa v h=>⟨h.1,Or.inr (Or.inl ⟨rfl,h.2⟩)⟩).more Zo Zo
 ·have hk:k=6\/k=7\/k=8:=Zo;have hlen:=Jl (L:=X.C.L) (key:=key) (op:=⟨k,key,val,Ah⟩);exact(Gt (nO ⟨k,key,val,Ah⟩ x hk h) λa v h=>⟨h.1,Or.inr (Or.inr (Or.inl ⟨rfl,h.2,Nat.le_trans hlen Zo⟩))⟩).more Zo Zo
 ·have hk:k=6\/k=7\/k=8:=Zo;have hlen:=jC (C:=X.C) (op:=⟨k,key,val,Ah⟩) (show 0<=key/\key<256 by omega);exact(Gt (iY ⟨k,key,val,Ah⟩ x hk (show 0<=key/\key<256 by omega) h) λa v h=>⟨h.1,Or.inr (Or.inr (Or.inr (Or.inl ⟨rfl,h.2,Nat.le_trans hlen Zo⟩)))⟩).more Zo Zo
 ·have ho:=((ho.resolve_left Zo).resolve_left Zo).resolve_left Zo;have hlen:=Jl (L:=X.C.L) (key:=key) (op:=⟨k,key,val,Ah⟩);have fin:∀{a n:Nat},a<=4->n<=36*(m+7)+300->Yc (λa v'=>a=(Ca X.C.L key ⟨k,key,val,Ah⟩).1/\UY v' (Ca X.C.L key ⟨k,key,val,Ah⟩).2) a n v (.FJ ((Xc.new ⟨k,key,val,Ah⟩).next x).1) ((Xc.new ⟨k,key,val,Ah⟩).next x).2->Yc (λa v'=>a=(spec 5 X ⟨k,key,val,Ah⟩).1/\Rel 5 (m+1) v' (spec 5 X ⟨k,key,val,Ah⟩).2) 4 (36*(m+7)+300) v ((Xx.new 5 ⟨k,key,val,Ah⟩).next x).1 ((Xx.new 5 ⟨k,key,val,Ah⟩).next x).2:=λha hn hs=>
   (Gt hs λa v h=>⟨h.1,Or.inr (Or.inr (Or.inr (Or.inr ⟨rfl,h.2,Nat.le_trans hlen Zo⟩)))⟩).more ha hn
  by_cases h6:k=6
  ·exact fin Zo Zo (QQ ⟨k,key,val,Ah⟩ x h6 (show 1<=Ah/\Ah<=3 by omega) h)
  ·by_cases h7:k=7
   ·exact fin Zo Zo (QP ⟨k,key,val,Ah⟩ x h7 (show 0<=key/\key<=255 by omega) h)
   ·exact fin Zo Zo (QR ⟨k,key,val,Ah⟩ x (show k=8 by omega) h)
inductive AT(F:Nat->MV->Pl->Prop):Nat->MV->Pl->Prop
 |fin {b V p} (h0:V.Ae=0) (h:F b V p):AT F b V p
 |Lv {b V p} (hd:V.Ae≠0) (h0:V.M.R.step=0) (h:AT F b V.GC p):AT F b V p
 |Bu {b V p} (hd:V.Ae≠0) (h0:V.M.R.step≠0) (hl:V.M.ns.length<=b+1) (h:AT F b {V with M:=V.M.Av (p.act V.M.R.BN).2} (p.act V.M.R.BN).1):AT F (b+1) V p
section
variable{F:Nat->MV->Pl->Prop}{P:Nat->MR->Pl->Prop}{b a0 n0:Nat}{V:MV}{M:MR}{p:Pl}{e:Int}{v:Vw}{J:Xx}{c:Xf}
theorem Zm(h:RT P b M p):∀{V:MV},V.M=M->V.Ae≠0->(∀b' M' p',M'.R.step=0->P b' M' p'->AT F b' {V with M:=M'} p')->AT F b V p:=by
 induction h with
 |@z b M p h0 h=>
  intro V hM hd hF;have:=hF b M p h0 h;subst hM;exact this
 |@s b M p h0 hl _ ih=>
  intro V hM hd hF;subst hM;exact .Bu hd h0 hl (ih (V:={V with M:=V.M.Av (p.act V.M.R.BN).2}) rfl hd hF)
def post(V:MV)(J:Xx)(c:Xf):MV:=
 bif !(c.kind==12) then MV.Aj {V with BF:=some J} 2 c else MV.Aj {V with BF:=some J,A5:=c.A5} 3 AP
theorem LZ{J:Xx}(hj:V.BF=some J)(hd:V.Ae=1\/V.Ae=2){x:Xj}(hx:V.M.R.AF=x):V.GC=post V (J.next x).1 (J.next x).2:=by
 unfold MV.GC post;rw[show(V.Ae==1||V.Ae==2)=true by rcases hd with h|h<;>simp[h],hj,hx];rfl
theorem mE(h:c.kind≠12):post V J c=MV.Aj {V with BF:=some J} 2 c:=by unfold post;rw[show(c.kind==12)=false by simp[h]];rfl
theorem sU{Q:Yu->Vw->Prop}{a n:Nat}(he:qW e)(h:Yc Q a n v J c):∀(V:MV) (p:Pl) (b:Nat),EI e V.M p v (a+a0) b->n0+9+n+V.M.ns.length<=b->
  (∀(V':MV) (p':Pl) (v':Vw) (b':Nat),Q V'.A5 v'->V'.Ae=0->EI e V'.M p' v' a0 b'->n0+V'.M.ns.length<=b'->F b' V' p')->AT F b (post V J c) p:=by
 have next:∀{x:Xj} {v':Vw} {a' n' m:Nat} {V:MV} {p:Pl} {b:Nat} {J:Xx} {c:Xf} (hc:c.kind≠12),n0+9+n'<=m->RT (PE e m v' a' x) b (V.M.Aj c) p->
   (∀(V:MV) (p:Pl) (b:Nat),EI e V.M p v' a' b->n0+9+n'+V.M.ns.length<=b->AT F b (post V (J.next x).1 (J.next x).2) p)->AT F b (post V J c) p:=λ{x v' a' n' m V p b J c} hc hm hr ih=>by
  rw[mE hc]
  refine Zm hr (V:=MV.Aj {V with BF:=some J} 2 c) rfl (by show(2:Int)≠0;decide) λb' M' p' h0 hp=>?_
  refine .Lv (by show(2:Int)≠0;decide) h0 ?_
  rw[LZ (J:=J) rfl (Or.inr rfl) hp.2.2]
  exact ih _ p' b' hp.2.1 (by have:=hp.1;show n0+9+n'+M'.ns.length<=b';omega)
 induction h with
 |@done a n v J c hk hq=>
  intro V p b hE hb hF
  have e1:post V J c=MV.Aj {V with BF:=some J,A5:=c.A5} 3 AP:=by unfold post;rw[hk];rfl
  rw[e1]
  obtain⟨m,rfl⟩:∃m,b=m+9+V.M.ns.length:=⟨b-9-V.M.ns.length,by omega⟩
  refine Zm (XU hE) (V:=MV.Aj {V with BF:=some J,A5:=c.A5} 3 AP) rfl (by show(3:Int)≠0;decide) λb' M' p' h0 hp=>?_
  refine .Lv (by show(3:Int)≠0;decide) h0 ?_
  refine .fin rfl ?_
  exact hF _ p' v b' hq rfl ⟨hp.2.1.s,hp.2.1.h,hp.2.1.m.le Zo (Nat.le_refl _)⟩ (by have:=hp.1;show n0+M'.ns.length<=b';omega)
 |@look a n v J c hk ha _ ih=>
  intro V p b hE hb hF
  obtain⟨m,rfl⟩:∃m,b=m+1+V.M.ns.length:=⟨b-1-V.M.ns.length,by omega⟩
  exact next (n':=n) (m:=m) Zo Zo (gU hE hk ha) λV p b h1 h2=>ih V p b h1 h2 hF
 |@eG a n v J c hk hi ha _ ih=>
  intro V p b hE hb hF
  obtain⟨m,rfl⟩:∃m,b=m+5+V.M.ns.length:=⟨b-5-V.M.ns.length,by omega⟩
  exact next (n':=n) (m:=m) Zo Zo (gT hE he hk hi ha) λV p b h1 h2=>ih V p b h1 h2 hF
 |@store a n v J c hk ha _ ih=>
  intro V p b hE hb hF
  obtain⟨m,rfl⟩:∃m,b=m+1+V.M.ns.length:=⟨b-1-V.M.ns.length,by omega⟩
  exact next (n':=n) (m:=m) Zo Zo (XT hE hk ha) λV p b h1 h2=>ih V p b h1 h2 hF
 |@swap a n v J c hk ha hs _ ih=>
  intro V p b hE hb hF
  obtain⟨m,rfl⟩:∃m,b=m+1+V.M.ns.length:=⟨b-1-V.M.ns.length,by omega⟩
  exact next (n':=n) (m:=m) Zo Zo (gS hE hk ha hs) λV p b h1 h2=>ih V p b h1 h2 hF
 |@hold a n v J c hk hi _ ih=>
  intro V p b hE hb hF
  obtain⟨m,rfl⟩:∃m,b=m+1+V.M.ns.length:=⟨b-1-V.M.ns.length,by omega⟩
  exact next (n':=n) (m:=m) Zo Zo (gV hE hk hi) λV p b h1 h2=>ih V p b h1 h2 hF
 |@alloc a n v J c hk _ ih=>
  intro V p b hE hb hF
  obtain⟨m,rfl⟩:∃m,b=m+2+V.M.ns.length:=⟨b-2-V.M.ns.length,by omega⟩
  rw[mE Zo]
  refine Zm (XW (a:=a+a0) (by rw[Nat.add_right_comm] at hE;exact hE) hk) (V:=MV.Aj {V with BF:=some J} 2 c) rfl (by show(2:Int)≠0;decide) λb' M' p' h0 hp=>?_
  obtain⟨s,g,s0,hs,hp⟩:=hp
  refine .Lv (by show(2:Int)≠0;decide) h0 ?_
  rw[LZ (J:=J) rfl (Or.inr rfl) hp.2.2]
  exact ih s g s0 hs _ p' b' hp.2.1 (by have:=hp.1;show n0+9+n+M'.ns.length<=b';omega) hF
 |@drop a n v J c hk hr _ ih=>
  intro V p b hE hb hF
  obtain⟨m,rfl⟩:∃m,b=m+1+V.M.ns.length:=⟨b-1-V.M.ns.length,by omega⟩
  exact next (n':=n) (m:=m) Zo Zo (gW hE hk hr) λV p b h1 h2=>ih V p b h1 h2 hF
 |@retire a n v J c hk hr _ ih=>
  intro V p b hE hb hF
  obtain⟨m,rfl⟩:∃m,b=m+40+V.M.ns.length:=⟨b-40-V.M.ns.length,by omega⟩
  exact next (n':=n) (m:=m) Zo Zo (UN hE he hk hr) λV p b h1 h2=>ih V p b h1 h2 hF
theorem op_at{st:Int}{m:Nat}{X:SS}{op:A3}(he:qW e)(hR:Rel st m v X)(ho:Sm st op)(hst:V.st=st)(hE:EI e V.M p v (4+a0) b)(hb:n0+11+Qw m+V.M.ns.length<=b)
  (hF:∀(V':MV) (p':Pl) (v':Vw) (b':Nat),V'.A5=(spec st X op).1->Rel st (m+1) v' (spec st X op).2->V'.Ae=0->EI e V'.M p' v' a0 b'->n0+V'.M.ns.length<=b'->F b' V' p'):
  AT F b (MV.Aj {V with op:=op,BF:=some (Xx.new V.st op),A5:=.zero} 1 AB) p:=by
 obtain⟨m',rfl⟩:∃m',b=m'+2+V.M.ns.length:=⟨b-2-V.M.ns.length,by omega⟩
 refine Zm (XV hE) (V:=MV.Aj {V with op:=op,BF:=some (Xx.new V.st op),A5:=.zero} 1 AB) rfl (by show(1:Int)≠0;decide) λb' M' p' h0 hp=>?_
 refine .Lv (by show(1:Int)≠0;decide) h0 ?_
 rw[LZ (J:=Xx.new V.st op) rfl (Or.inl rfl) hp.2.2,hst]
 exact sU (a0:=a0) (n0:=n0) he (kO hR ho ⟨.zero,true⟩) _ p' b' hp.2.1 (by have:=hp.1;show n0+9+Qw m+M'.ns.length<=b';omega) λV' p' v' b' hq=>hF V' p' v' b' hq.1 hq.2
end
end Go.Proofs.YtaipogljokblkaaGreatDoor
