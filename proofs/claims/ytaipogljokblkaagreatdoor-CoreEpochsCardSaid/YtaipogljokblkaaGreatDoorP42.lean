/- Core: FcE, FcF, FcG. -/
import Derived.Test.YtaipogljokblkaaGreatDoorP41
set_option linter.all false
set_option maxRecDepth 100000
set_option maxHeartbeats 8000000
namespace Go.Proofs.YtaipogljokblkaaGreatDoor
open Go Go.RowKit
section
variable{v v':Vw}{g g':EG}{a k:Nat}{s l m f y t b:Int}{w x c n:Xe}{p ad:Yc}{T:Option Int}{s0 s1 s2:Zv}{C:Xb}{cl:Xi}{S:Xb->Xz}{K:Xb × Xi × Bool->Xz × Xi}{Q:Vw->EG->Xz->Xi->Prop}{I:Vw->EG->Prop}
def Ru:nk v g p<=(g.LL 0).length:=by
 unfold nk;split
 ·exact Nat.le_refl _
 ·exact jy ..
def Ti:nk v g (root l)=(g.LL 0).length:=rfl
def wy(D:Jn v g)(B:AA 5 v g)(L:g.A k≠none)(i:Zn 5 l)(M:WT v g k l b p)(H:c.sl≠0)(N:v.get p=c)(O:c.mark=false)(J:(v.cell c.sl (2+l)).mark=false):nk v g (Xh c (2+l))+1<=nk v g p:=by
 subst N;obtain⟨P,post,E,R,j⟩:=D.li.at_ B L i M.1 O;have d:=B.at_ i E;rw[R] at d;cases post with
 |nil=>exact absurd d H
 |cons u r=>
  have e:(v.get p).sl=u:=d.1;have F:(v.get p).sl∈g.LL l:=by rw[E,e];simp
  have o:=(D.dwn B i (B.pb l i _ F).2 J 0 (hJ 0) i.1).1;unfold nk;rw[fw (show ¬(Xh (v.get p) (2+l)).sl=0 from H)];rcases j with⟨j,_⟩|⟨j,q,U⟩
  ·rw[ga j];have:=filter_lt (p:=λ_=>true) (q:=λs=>decide ((v.cell (Xh (v.get p) (2+l)).sl 0).nm<(v.cell s 0).nm)) (s:=(v.get p).sl) (λ_ _=>rfl) rfl (gz (Int.lt_irrefl _)) (g.LL 0) o;rwa [show(g.LL 0).filter (λ_=>true)=g.LL 0 from List.filter_eq_self.2 λ_ _=>rfl] at this
  ·rw[fw j];have z:=D.li.so l i;rw[E,U] at z;have G:(v.cell p.sl 0).nm<(v.cell (v.get p).sl 0).nm:=by
    rcases(kj.1 z).2.2 p.sl Zs u (g6 ..) with q|⟨_,q⟩
    ·rw[e];exact q
    ·rw[←e,J] at q;cases q
   refine filter_lt (s:=(v.get p).sl) (λs h=>?_) (g5 G) (gz (Int.lt_irrefl _)) (g.LL 0) o;have h:=iz h;have h:(v.cell (v.get p).sl 0).nm<(v.cell s 0).nm:=h;exact g5 Zo
def OV(h:DH 5 v g k l p)(ha:DH 5 v g k m ad)(i:m≠l):(v.put p x).get ad=v.get ad:=by
 rw[DA,fw];rintro⟨d,e⟩;rcases h with q|⟨q,j,_⟩<;>rcases ha with r|⟨r,o,_⟩
 ·rw[q,r] at e;exact i e
 ·rw[q] at d;exact r d
 ·rw[r] at d;exact q d.symm
 ·rw[j,o] at e;omega
def qg(j:0<=l/\l<3)(d:DH 5 v g k l p)(e:Mh v g k b l T s1 s2):Ie (v.put p x) s0 s1 s2 (l+1)=Ie v s0 s1 s2 (l+1):=by
 have i:l<1->sB (v.put p x) s1=sB v s1:=λq=>by unfold sB;rw[OV d (e.1 q).1.pv.1 Zo]
 have h:l<2->sB (v.put p x) s2=sB v s2:=λq=>by unfold sB;rw[OV d (e.2 q).1.pv.1 Zo]
 have:l=0\/l=1\/l=2:=Zo;rcases this with rfl|rfl|rfl
 ·unfold Ie;rw[i Zd,h Zd];rfl
 ·unfold Ie;rw[h Zd];rfl
 ·rfl
def LD(v:Vw)(g:EG)(p:Yc)(c:Xe)(l:Int)(s0 s1 s2:Zv):Nat:=
 if v.get p=c then 3*nk v g p+4*l.toNat+(if Ie v s0 s1 s2 (l+1)=true then 0 else 3*(g.LL 0).length+18) else 6*(g.LL 0).length+31
def zL(d:0<=l/\l<3):LD v g p c l s0 s1 s2<=6*(g.LL 0).length+31:=by
 have:=@Ru v g p;unfold LD;split
 ·split<;>omega
 ·exact Nat.le_refl _
def Kx{pc:Int}{la:Xi}{q:Int}{B:Nat}(hg:AA 5 v g)(hs:Jn v g)(hA:g.A k≠none)(hK:∀(C:Xb) (c:Xi),c.kind≠12->K (C,c,true)=(S C,c))(hl:0<=l/\l<3)(P:TO v g k b T)(E:Mh v g k b l T s1 s2)(D:JX v g k b l ⟨p,c⟩)(U:QL g T l)(hq:c.sl≠0->(v.cell c.sl 0).nm=q)
  (V:LD v g p c l s0 s1 s2<=B)
  (go:∀d c',d.DC=b->Fy v g k T d c'->CH v g d<=B->Q v g (S d) c')
  (fin:∀d,za v g k T b d->(if Ie v d.s0 d.s1 d.s2 0=true then 0 else 3*(g.LL 0).length+18)<=B->Q v g (K (d,Xi.zero,false)).1 (K (d,Xi.zero,false)).2):
  Q v g (K (Xb.lower ⟨pc,la,⟨p,c⟩,b,l,n,q,s0,s1,s2,.zero⟩)).1 (K (Xb.lower ⟨pc,la,⟨p,c⟩,b,l,n,q,s0,s1,s2,.zero⟩)).2:=by
 have kp:=λW a i=>hK W (Xg a i) (by show(6:Int)≠12;decide)
 have kh:=λW i j=>hK W (Yt i j) (by show(7:Int)≠12;decide)
 have ae:=@Ru v g p
 by_cases X:l=0
 ·subst X;have J:∀m,0<=m->m<3->QL g T m:=λm m0 m3=>by
   have:m=0\/m=1\/m=2:=Zo;rcases this with rfl|rfl|rfl
   ·exact U
   ·exact(E.1 Zd).2
   ·exact(E.2 Zd).2
  have hM:(if Ie v ⟨p,c⟩ s1 s2 0=true then 0 else 3*(g.LL 0).length+18)<=B:=by
   refine gb ?_ V;unfold LD;by_cases o:v.get p=c
   ·have:Ie v ⟨p,c⟩ s1 s2 0=Ie v s0 s1 s2 (0+1):=by simp[Ie,sB,o]
    rw[ga o,this];split<;>omega
   ·rw[fw o];split<;>omega
  by_cases F:c.sl≠0/\q=b
  ·have:Xb.lower ⟨pc,la,⟨p,c⟩,b,0,n,q,s0,s1,s2,.zero⟩=(⟨-1,la,⟨p,c⟩,b,0,n,q,⟨p,c⟩,s1,s2,Yx c⟩,Xi.zero,false):=by simp[Xb.lower,Xb.EW,F.1,F.2]
   rw[this];exact fin _ ⟨rfl,D,(E.1 Zd).1,(E.2 Zd).1,J,P,db ⟨rfl,F.1,(hq F.1).trans F.2⟩⟩ hM
  ·have:Xb.lower ⟨pc,la,⟨p,c⟩,b,0,n,q,s0,s1,s2,.zero⟩=(⟨-1,la,⟨p,c⟩,b,0,n,q,⟨p,c⟩,s1,s2,.zero⟩,Xi.zero,false):=by
    by_cases G:c.sl=0
    ·simp[Xb.lower,Xb.EW,G]
    ·simp[Xb.lower,Xb.EW,G,show ¬q=b from λe=>F ⟨G,e⟩]
   rw[this];refine fin _ ⟨rfl,D,(E.1 Zd).1,(E.2 Zd).1,J,P,fq ⟨rfl,λG=>?_⟩⟩ hM;have Y:=D.ge G;have h2:=hq G;have Y:b<=(v.cell c.sl 0).nm:=Y;have:q≠b:=λe=>F ⟨G,e⟩;show b<(v.cell c.sl 0).nm;omega
 ·have Z:l=1\/l=2:=Zo;have L:∀t1 t2,((l=1/\t1=⟨p,c⟩/\t2=s2)\/(l=2/\t1=s1/\t2=⟨p,c⟩))->Mh v g k b (l-1) T t1 t2/\Ie v s0 t1 t2 l=(sB v ⟨p,c⟩&&Ie v s0 s1 s2 (l+1)):=λt1 t2 h=>by
   rcases h with⟨rfl,rfl,rfl⟩|⟨rfl,rfl,rfl⟩
   ·exact⟨⟨λ_=>⟨D,U⟩,λ_=>E.2 Zd⟩,by simp[Ie]⟩
   ·exact⟨⟨λq=>absurd q Zd,λ_=>⟨D,U⟩⟩,by simp[Ie]⟩
  obtain⟨t1,t2,ht,M⟩:∃t1 t2,((l=1/\t1=⟨p,c⟩/\t2=s2)\/(l=2/\t1=s1/\t2=⟨p,c⟩))/\Xb.lower ⟨pc,la,⟨p,c⟩,b,l,n,q,s0,s1,s2,.zero⟩=if p.sl==0 then(⟨2,la,⟨root (l-1),c⟩,b,l-1,n,q,s0,t1,t2,.zero⟩,Xg (root (l-1)) (3*(l-1)+1),true) else(⟨9,la,⟨⟨p.sl,p.gn,2+(l-1)⟩,c⟩,b,l-1,n,q,s0,t1,t2,.zero⟩,Yt (3*(l-1)+2) (3*(l-1)+5),true):=by
   rcases Z with rfl|rfl
   ·exact⟨_,_,fq ⟨rfl,rfl,rfl⟩,rfl⟩
   ·exact⟨_,_,db ⟨rfl,rfl,rfl⟩,rfl⟩
  obtain⟨N,r⟩:=L t1 t2 ht;rw[M];have R:sB v ⟨p,c⟩=decide (v.get p=c):=rfl;have u:l-1+1=l:=Zo;by_cases mM:p.sl=0
  ·rw[ga (by simp[mM]),kp];have O:(v.get (root (l-1))).mark=false:=hs.rm (l-1) ⟨Zo,by show l-1<3;omega⟩;refine go _ _ rfl (.c2 ⟨Zo,Zo⟩ P N ⟨fq rfl,λq=>absurd rfl q⟩) (gb ?_ V);have z:nk v g p=(g.LL 0).length:=ga mM;unfold LD;by_cases o:v.get p=c
   ·simp[CH,O,Ti,u,r,R,o,z];omega
   ·simp[CH,O,Ti,u,r,R,o];omega
  ·rw[fw (by simp[mM]),kh];obtain⟨Y,h2,h3,h4⟩:=D.pv.1.resolve_left λe=>mM (iy Yc.sl e);have H:=D.pv.2 mM;have z:nk v g ⟨p.sl,p.gn,2+(l-1)⟩=nk v g p:=rfl;refine go _ _ rfl (.c9 ⟨Zo,Zo⟩ P N ⟨db ⟨mM,rfl,H.2 (l-1) Zo Zo,h4⟩,λ_=>⟨H.1,λm m0 m1=>H.2 m m0 (by have m1:m<=l-1:=m1;omega)⟩⟩) (gb ?_ V);unfold LD;by_cases o:v.get p=c
   ·have aa:(v.cell p.sl (2+l)).mark=false:=by rw[←E3 h2 mM,o];exact D.um
    have ab:(v.get ⟨p.sl,p.gn,2+(l-1)⟩).mark=false:=by
     rw[BW mM];exact(hs.dwn hg hl (hg.Lc hA h3).1 aa (l-1) Zo Zo).2
    simp[CH,ab,z,u,r,R,o];omega
   ·simp[CH,z,u,r,R,o];split<;>omega
def Fo{la:Xi}{q:Int}(e:Jn v g)(h:TO v g k b T):Fy v g k T ⟨2,la,⟨root 2,c⟩,b,2,n,q,s0,s1,s2,.zero⟩ (Xg (root 2) 7)/\CH v g ⟨2,la,⟨root 2,c⟩,b,2,n,q,s0,s1,s2,.zero⟩=3*(g.LL 0).length+12:=by
 have d:(v.get (root 2)).mark=false:=e.rm 2 kT;exact⟨.c2 (l:=2) ⟨Zd,Zd⟩ h ⟨λq=>absurd q Zd,λq=>absurd q Zd⟩ ⟨fq rfl,λq=>absurd rfl q⟩,by simp[CH,d,Ti,Ie]⟩
def lJ(J:AA 5 v g)(hs:Jn v g)(H:g.A k≠none)(tb:Mu v)(hS:∀(C:Xb) (x:Xr),(S C).next x=K (C.step x))(hK:∀(C:Xb) (c:Xi),c.kind≠12->K (C,c,true)=(S C,c))(N:I v g)(iE:∀v' g',Mt (k+1) v g v' g'->CSt v g v' g'->I v' g')
  (go:∀v' g' M c',M.DC=C.DC->Fy v' g' k T M c'->I v' g'->(g'.LL 0).length<=(g.LL 0).length->CH v' g' M+wt cl+EY v' g'<=CH v g C+EY v g->Q v' g' (S M) c')
  (fin:∀v' g' M,za v' g' k T C.DC M->I v' g'->(g'.LL 0).length<=(g.LL 0).length->(if Ie v' M.s0 M.s1 M.s2 0=true then 0 else 3*(g'.LL 0).length+18)+wt cl+EY v' g'<=CH v g C+EY v g->Q v' g' (K (M,Xi.zero,false)).1 (K (M,Xi.zero,false)).2)
  (h:Fy v g k T C cl):Mv 5 N7 k Q v g (S C) cl:=by
 have R:=λW a i=>hK W (Xg a i) (by show(6:Int)≠12;decide)
 have U:=λW a=>hK W (Xm a) (by show(3:Int)≠12;decide)
 have V:=λW i j=>hK W (Yt i j) (by show(7:Int)≠12;decide)
 have X:=λW a o n=>hK W (Xp a o n) (by show(5:Int)≠12;decide)
 cases h with
 |@c2 la p c b l n q s0 s1 s2 F G L D=>
  have r:Zn 5 l:=F
  refine .pr (D.1.mP J H r) ?_
  rw[hS]
  have an:=@Ru v g p
  by_cases u:(v.get p).mark=true
  ·obtain⟨a1,a2⟩:=Fo (la:=la) (q:=q) (c:=c) (n:=n) (s0:=s0) (s1:=s1) (s2:=s2) hs G;simp[Xb.step,Xb.again,Xb.enter,Xb.behind,Xb.on,R,U,V,X,u];refine go _ _ _ _ rfl a1 N (Nat.le_refl _) ?_;rw[a2];(simp[CH,wt,Yt,Xm,Xp,Xg,u]<;>exact Zq)
  ·have u:(v.get p).mark=false:=by simpa using u
   by_cases O:(v.get p).sl=0
   ·simp[Xb.step,Xb.again,Xb.enter,Xb.behind,Xb.on,R,U,V,X,u,O];refine Kx (B:=3*nk v g p+4*l.toNat+3+(if Ie v s0 s1 s2 (l+1)=true then 0 else 3*(g.LL 0).length+18)) J hs H hK F G L ⟨D,D.1.word J H r,u,.refl,λq=>absurd O q⟩ (T5 hs J H r D u (fq O) G) (λq=>absurd O q) ?_ (λM c' e h Y=>go _ _ _ _ e h N (Nat.le_refl _) ?_) λM h Y=>fin _ _ _ h N (Nat.le_refl _) ?_
    ·unfold LD;rw[ga rfl];omega
    ·refine gb (iq (iq Y _) _) ?_;(simp[CH,wt,Yt,Xm,Xp,Xg,u]<;>exact Zq)
    ·refine gb (iq (iq Y _) _) ?_;(simp[CH,wt,Yt,Xm,Xp,Xg,u]<;>exact Zq)
   ·simp[Xb.step,Xb.again,Xb.enter,Xb.behind,Xb.on,R,U,V,X,u,O];refine go _ _ _ _ rfl (.c3 F G L D ⟨O,u,D.1.word J H r,.refl⟩) N (Nat.le_refl _) ?_;(simp[CH,wt,Yt,Xm,Xp,Xg,u]<;>exact Zq)
 |@c3 la p c b l n q s0 s1 s2 F G L D z=>
  have r:Zn 5 l:=F
  have ah:DH 5 v g k l (Xh c (2+l)):=z.2.2.1.lk z.1
  refine .pr (ah.mP J H r) ?_
  rw[hS,Y3 z.1]
  have hw:=ah.word J H r
  rw[Y3 z.1] at hw
  have ao:=(z.2.2.1 z.1).1
  simp[Xb.step,Xb.again,Xb.enter,Xb.behind,Xb.on,R,U,V,X,]
  refine go _ _ _ _ rfl (.c4 F G L D z ⟨hw,.refl,λ_=>rfl,λu=>hs.sfd J H r ao u,λu hz hb=>T5 hs J H r ⟨ah,λ_=>⟨hb,λm m0 m1=>hs.sfd J H r ao u m m0 m1⟩⟩ (by rw[Y3 z.1];exact u) (fq (by rw[Y3 z.1];exact hz)) G⟩) N (Nat.le_refl _) ?_
  by_cases E:v.get p=c
  ·(simp[CH,wt,Yt,Xm,Xp,Xg,E]<;>exact Zq)
  ·(simp[CH,wt,Yt,Xm,Xp,Xg,E]<;>exact Zq)
 |@c4 la p c b l n q s0 s1 s2 F G L D z Z=>
  refine .ld (z.2.2.1.AJ z.1 J H Zd Zd) ?_
  rw[hS,Y3 z.1]
  simp[Xb.step,Xb.again,Xb.enter,Xb.behind,Xb.on,R,U,V,X,]
  refine go _ _ _ _ rfl (.c5 F G L D z Z rfl) N (Nat.le_refl _) ?_
  by_cases E:v.get p=c
  ·(simp[CH,wt,Yt,Xm,Xp,Xg,E]<;>exact Zq)
  ·(simp[CH,wt,Yt,Xm,Xp,Xg,E]<;>exact Zq)
 |@c5 la p c b l n q s0 s1 s2 F G L D z Z hq=>
  have r:Zn 5 l:=F
  have an:=@Ru v g p
  refine .ld (D.1.mP J H r) ?_
  rw[hS]
  by_cases P:B7 (v.get p) c=true
  ·have E:=z.2.2.2.same P;by_cases u:n.mark=true
   ·have d:=Z.fz u;simp[Xb.step,Xb.again,Xb.enter,Xb.behind,Xb.on,R,U,V,X,P,u];refine go _ _ _ _ rfl (.c6 F G L D z Z u) N (Nat.le_refl _) ?_;(simp[CH,wt,Yt,Xm,Xp,Xg,E,d]<;>exact Zq)
   ·have u:n.mark=false:=by simpa using u
    by_cases hk:b<=q
    ·simp[Xb.step,Xb.again,Xb.enter,Xb.behind,Xb.on,R,U,V,X,P,u,hk];have au:(v.get p).mark=false:=by rw[E];exact z.2.1
     refine Kx (B:=CH v g ⟨5,la,⟨p,c⟩,b,l,n,q,s0,s1,s2,.zero⟩-1) J hs H hK F G L ⟨D,z.2.2.1,z.2.1,z.2.2.2,λ_=>by show b<=(v.cell c.sl 0).nm;rw[hq];exact hk⟩ (T5 hs J H r D au (db (by rw[E,hq];exact hk)) G) (λ_=>hq) ?_ (λM c' e h Y=>go _ _ _ _ e h N (Nat.le_refl _) ?_) λM h Y=>fin _ _ _ h N (Nat.le_refl _) ?_
     ·by_cases d:v.cell c.sl (2+l)=n
      ·unfold LD;rw[ga E];simp[CH,E,d]
      ·refine gb (zL F) ?_;simp[CH,E,d];omega
     ·refine gb (iq (iq Y _) _) ?_;by_cases d:v.cell c.sl (2+l)=n
      ·(simp[CH,wt,Yt,Xm,Xp,Xg,E,d]<;>exact Zq)
      ·(simp[CH,wt,Yt,Xm,Xp,Xg,E,d]<;>exact Zq)
     ·refine gb (iq (iq Y _) _) ?_;by_cases d:v.cell c.sl (2+l)=n
      ·(simp[CH,wt,Yt,Xm,Xp,Xg,E,d]<;>exact Zq)
      ·(simp[CH,wt,Yt,Xm,Xp,Xg,E,d]<;>exact Zq)
    ·simp[Xb.step,Xb.again,Xb.enter,Xb.behind,Xb.on,R,U,V,X,P,u,hk];have af:v.get (Xh c (2+l))=v.cell c.sl (2+l):=Y3 z.1;refine go _ _ _ _ rfl (.c7 F G L z.1 ⟨z.2.2.1.lk z.1,λ_=>⟨by show(v.cell c.sl 0).nm<b;rw[hq];omega,Z.dw u⟩⟩ Z u) N (Nat.le_refl _) ?_;by_cases d:v.cell c.sl (2+l)=n
     ·have:=wy hs J H r D z.1 E z.2.1 (by rw[d];exact u);(simp[CH,wt,Yt,Xm,Xp,Xg,E,d,af]<;>exact Zq)
     ·(simp[CH,wt,Yt,Xm,Xp,Xg,E,d,af]<;>exact Zq)
  ·have E:v.get p≠c:=λe=>P (by rw[e];exact GF _);obtain⟨a1,a2⟩:=Fo (la:=la) (q:=q) (c:=c) (n:=n) (s0:=s0) (s1:=s1) (s2:=s2) hs G;simp[Xb.step,Xb.again,Xb.enter,Xb.behind,Xb.on,R,U,V,X,P];refine go _ _ _ _ rfl a1 N (Nat.le_refl _) ?_;rw[a2];(simp[CH,wt,Yt,Xm,Xp,Xg,E]<;>exact Zq)
 |@c6 la p c b l n q s0 s1 s2 F G L D z Z u=>
  have r:Zn 5 l:=F
  refine .sw (D.1.mP J H r) (λP=>?_) λE=>?_
  ·have E:=z.2.2.2.same P;have d:=Z.fz u;obtain⟨L',l1,k1,k2,k3,k4,k5,k6⟩:=YM (k:=k) J hs H tb r D.1 z.1 z.2.1 E (by rw[d];exact u);rw[d] at k1 k2 k3 k4 k5 k6;have ag:k≠k+1:=Zo;have e1:Mt (k+1) v g (v.put p (A4 c n)) (g.Ej l L'):=⟨J,k1.eg,hs,k1.si,k2 _,k3 _⟩;have ai:=iE _ _ e1 k4;have aa:(v.put p (A4 c n)).get p=A4 c n:=by rw[DA,ga ⟨rfl,rfl⟩]
   have ap:(g.Ej l L').A k≠none:=H;have aq:=L.A3 G e1 ag H;have aj:=G.A3 e1 ag;have ak:=D.A3 e1 ag H;have av:=Z.wr.A3 e1.e ag J k1.eg H;have al:=qg (x:=A4 c n) (s0:=s0) F D.1 L;have ab:((g.Ej l L').LL 0).length<=(g.LL 0).length:=by
    show(Ar g.LL l L' 0).length<=_;rw[X9];split
    ·rename_i e;rw[e];exact l1.length_le
    ·exact Nat.le_refl _
   have ax:nk (v.put p (A4 c n)) (g.Ej l L') p<=nk v g p:=by
    have aw:∀s,(v.put p (A4 c n)).cell s 0=v.cell s 0:=λs=>(k6 s).1;have ar:((g.Ej l L').LL 0).Sublist (g.LL 0):=by
     show(Ar g.LL l L' 0).Sublist _;rw[X9];split
     ·rename_i e;rw[e];exact l1
     ·exact qd _
    unfold nk;split
    ·exact ab
    ·simp only[aw];exact(ar.filter _).length_le
   refine⟨_,k1,?_⟩;rw[hS];by_cases O:n.sl=0
   ·have am:(A4 c n).sl=0:=O;simp[Xb.step,Xb.again,Xb.enter,Xb.behind,Xb.on,R,U,V,X,am];refine Kx (B:=LD (v.put p (A4 c n)) (g.Ej l L') p (A4 c n) l s0 s1 s2) k1.eg k1.si ap hK F aj aq ⟨ak,λq=>absurd O q,rfl,by show IC ((v.put p (A4 c n)).get p) _;rw[aa];exact .refl,λq=>absurd O q⟩ (T5 k1.si k1.eg ap r ak (by rw[aa];rfl) (fq (by rw[aa];exact O)) aj) (λq=>absurd O q) (Nat.le_refl _) (λM c' e h Y=>go _ _ _ _ e h ai ab ?_) λM h Y=>fin _ _ _ h ai ab ?_
    ·refine gb (iq (iq Y _) _) ?_;unfold LD;rw[ga aa,al];(simp[CH,wt,Yt,Xm,Xp,Xg,E]<;>exact Zq)
    ·refine gb (iq (iq Y _) _) ?_;unfold LD;rw[ga aa,al];(simp[CH,wt,Yt,Xm,Xp,Xg,E]<;>exact Zq)
   ·have am:¬(A4 c n).sl=0:=O;simp[Xb.step,Xb.again,Xb.enter,Xb.behind,Xb.on,R,U,V,X,am];refine go _ _ _ _ rfl (.c8 F aj aq ak ⟨O,rfl,av,by rw[aa];exact .refl⟩) ai ab ?_;(simp[CH,wt,Yt,Xm,Xp,Xg,E,aa,al]<;>exact Zq)
  ·obtain⟨a1,a2⟩:=Fo (la:=la) (q:=q) (c:=c) (n:=n) (s0:=s0) (s1:=s1) (s2:=s2) hs G;rw[hS];simp[Xb.step,Xb.again,Xb.enter,Xb.behind,Xb.on,R,U,V,X,];refine go _ _ _ _ rfl a1 N (Nat.le_refl _) ?_;rw[a2];(simp[CH,wt,Yt,Xm,Xp,Xg,E]<;>exact Zq)
 |@c7 la c b l n q s0 s1 s2 F G L O D Z u=>
  have r:Zn 5 l:=F
  have an:=@Ru v g (Xh c (2+l))
  have af:v.get (Xh c (2+l))=v.cell c.sl (2+l):=Y3 O
  refine .hold rfl (by show 0<=3*l+2/\3*l+2<9;omega) ?_
  rw[hS]
  by_cases ae:n.sl=0
  ·simp[Xb.step,Xb.again,Xb.enter,Xb.behind,Xb.on,R,U,V,X,ae];refine Kx (B:=LD v g (Xh c (2+l)) n l s0 s1 s2) J hs H hK F G L ⟨D,Z.wr,u,by show IC (v.get (Xh c (2+l))) n;rw[af];exact Z.sn,λq=>absurd ae q⟩ (Z.en u ae (D.2 O).1) (λq=>absurd ae q) (Nat.le_refl _) (λM c' e h Y=>go _ _ _ _ e h N (Nat.le_refl _) ?_) λM h Y=>fin _ _ _ h N (Nat.le_refl _) ?_
   ·refine gb (iq (iq Y _) _) ?_;unfold LD;by_cases d:v.get (Xh c (2+l))=n
    ·(simp[CH,wt,Yt,Xm,Xp,Xg,d]<;>exact Zq)
    ·(simp[CH,wt,Yt,Xm,Xp,Xg,d]<;>exact Zq)
   ·refine gb (iq (iq Y _) _) ?_;unfold LD;by_cases d:v.get (Xh c (2+l))=n
    ·(simp[CH,wt,Yt,Xm,Xp,Xg,d]<;>exact Zq)
    ·(simp[CH,wt,Yt,Xm,Xp,Xg,d]<;>exact Zq)
  ·simp[Xb.step,Xb.again,Xb.enter,Xb.behind,Xb.on,R,U,V,X,ae];refine go _ _ _ _ rfl (.c8 F G L D ⟨ae,u,Z.wr,by rw[af];exact Z.sn⟩) N (Nat.le_refl _) ?_;(simp[CH,wt,Yt,Xm,Xp,Xg,]<;>exact Zq)
 |@c8 la p c b l n q s0 s1 s2 F G L D z=>
  refine .hold rfl (by show 0<=3*l+1/\3*l+1<9;omega) ?_
  rw[hS]
  simp[Xb.step,Xb.again,Xb.enter,Xb.behind,Xb.on,R,U,V,X,]
  refine go _ _ _ _ rfl (.c3 F G L D z) N (Nat.le_refl _) ?_
  (simp[CH,wt,Yt,Xm,Xp,Xg,]<;>exact Zq)
 |@c9 la p c b l n q s0 s1 s2 F G L D=>
  refine .hold rfl (by show 0<=3*l+2/\3*l+2<9;omega) ?_
  rw[hS]
  simp[Xb.step,Xb.again,Xb.enter,Xb.behind,Xb.on,R,U,V,X,]
  refine go _ _ _ _ rfl (.c2 ⟨F.1,Zo⟩ G L D) N (Nat.le_refl _) ?_
  (simp[CH,wt,Yt,Xm,Xp,Xg,]<;>exact Zq)
end
structure mI(v:Vw)(g:EG)(k:Nat)(nd:Xe)(o:AV)(q:Int):Prop where
 du:g.du nd.sl 0=some k
 n0:nd.sl≠0
 gn:nd.gn=v.AB nd.sl
 ky:(v.cell nd.sl 0).nm=o.key
 ht:(v.cell nd.sl 6).nm=o.Al
 lv:1<=q/\q<=o.Al
 lk:∀m,0<=m->m<3->(g.Cm m nd.sl↔m<q)
structure r9(v:Vw)(g:EG)(k:Nat)(nd:Xe)(o:AV):Prop where
 n0:nd.sl≠0
 sf:g.Sf k 0 nd.sl
 gn:nd.gn=v.AB nd.sl
 ky:(v.cell nd.sl 0).nm=o.key
structure zl(v:Vw)(nd:Xe)(lv:Int):Prop where
 l0:0<=lv
 lh:lv<(v.cell nd.sl 6).nm
 h3:(v.cell nd.sl 6).nm<=3
 up:∀j,lv<j->j<(v.cell nd.sl 6).nm->(v.cell nd.sl (2+j)).mark=true
structure ud(v:Vw)(g:EG)(k:Nat)(nd:Xe)(o:AV)(b:Int):Prop where
 b2:b=1\/b=2
 du:g.du nd.sl (b-1)=some k
 n0:nd.sl≠0
 gn:nd.gn=v.AB nd.sl
 ky:(v.cell nd.sl 0).nm=o.key
structure Qr(v:Vw)(g:EG)(k:Nat)(b:Int)(C:Xb):Prop where
 p0:JX v g k b 0 C.s0
 p1:JX v g k b 1 C.s1
 p2:JX v g k b 2 C.s2
def O6(o:AV):Prop:=o.kind=6/\(1<=o.Al/\o.Al<=3)/\0<=o.key/\o.key<=255
def O7(o:AV):Prop:=o.kind=7/\0<=o.key/\o.key<=255
inductive DX(v:Vw)(g:EG)(k:Nat):Xa->Xi->Prop
 |d {J c} (h:c.kind=12):DX v g k J c
 |i1 {la o C nd lv b x} (ho:O6 o):DX v g k ⟨1,la,o,C,nd,lv,b,x⟩ Xu
 |i2 {la o C nd lv b x} (ho:O6 o) (hw:Ew v g k nd) (hz:eP v nd.sl 0 0):DX v g k ⟨2,la,o,C,nd,lv,b,x⟩ (Xq (Xh nd 0) (Y6 o.key))
 |i3 {la o C nd lv b x} (ho:O6 o) (hw:Ew v g k nd) (hz:eP v nd.sl o.key 0):DX v g k ⟨3,la,o,C,nd,lv,b,x⟩ (Xq (Xh nd 1) (Y6 o.val))
 |i4 {la o C nd lv b x} (ho:O6 o) (hw:Ew v g k nd) (hz:eP v nd.sl o.key 0):DX v g k ⟨4,la,o,C,nd,lv,b,x⟩ (Xq (Xh nd 6) (Y6 o.Al))
 |i5 {la o nd lv b x C c} (ho:O6 o) (hw:Ew v g k nd) (hz:eP v nd.sl o.key o.Al) (hC:Fy v g k none C c) (hb:C.DC=o.key):DX v g k ⟨5,la,o,some C,nd,lv,b,x⟩ c
 |i6 {la o C nd lv b x} (ho:O6 o) (hw:Ew v g k nd):DX v g k ⟨6,la,o,C,nd,lv,b,x⟩ (Yi nd)
 |i7 {la o nd lv b x C} (ho:O6 o) (hw:Ew v g k nd) (hz:eP v nd.sl o.key o.Al) (hC:Qr v g k o.key C) (hn:C.s0.As.sl≠0->o.key<(v.cell C.s0.As.sl 0).nm) (hl:0<=lv/\lv<o.Al) (hst:0<lv->v.cell nd.sl 2=Yx C.s0.As):DX v g k ⟨7,la,o,some C,nd,lv,b,x⟩ (Xq (Xh nd (2+lv)) (Yx (Za (some C) lv).As))
 |i8 {la o nd lv b x C} (ho:O6 o) (hw:Ew v g k nd) (hz:eP v nd.sl o.key o.Al) (hC:Qr v g k o.key C) (hn:C.s0.As.sl≠0->o.key<(v.cell C.s0.As.sl 0).nm) (hst:v.cell nd.sl 2=Yx C.s0.As):DX v g k ⟨8,la,o,some C,nd,lv,b,x⟩ (Xp C.s0.prev C.s0.As (A4 C.s0.As nd))
 |j9 {la o nd lv b x C} (ho:O6 o) (hI:mI v g k nd o lv) (hl:lv<o.Al) (hC:Qr v g k o.key C):DX v g k ⟨9,la,o,some C,nd,lv,b,x⟩ (Xm (Xh nd (2+lv)))
 |C' {la o nd lv b x C y} (ho:O6 o) (hI:mI v g k nd o lv) (hl:lv<o.Al) (hC:Qr v g k o.key C) (hy:y.mark=false) (hc:v.cell nd.sl (2+lv)=y\/(v.cell nd.sl (2+lv)).mark=true) (hr:(C.BU lv).As.sl≠0->Rl v lv nd.sl (C.BU lv).As.sl):DX v g k ⟨10,la,o,some C,nd,lv,b,x⟩ (Xp (Xh nd (2+lv)) y (A4 y (C.BU lv).As))
 |zg {la o nd lv b x C} (ho:O6 o) (hI:mI v g k nd o lv) (hl:lv<o.Al) (hC:Qr v g k o.key C) (hc:(v.cell nd.sl (2+lv)).sl=(C.BU lv).As.sl/\(v.cell nd.sl (2+lv)).gn=(C.BU lv).As.gn) (hr:(C.BU lv).As.sl≠0->Rl v lv nd.sl (C.BU lv).As.sl):DX v g k ⟨11,la,o,some C,nd,lv,b,x⟩ (Xp (C.BU lv).prev (C.BU lv).As (A4 (C.BU lv).As nd))
 |zf {la o nd lv b x C c} (ho:O6 o) (hI:mI v g k nd o lv) (hl:lv<o.Al) (hC:Fy v g k none C c) (hb:C.DC=o.key):DX v g k ⟨12,la,o,some C,nd,lv,b,x⟩ c
 |r1 {la o nd lv b x C c} (ho:O7 o) (hC:Fy v g k none C c) (hb:C.DC=o.key):DX v g k ⟨1,la,o,some C,nd,lv,b,x⟩ c
 |r2 {la o C nd lv b x} (ho:O7 o) (hR:r9 v g k nd o):DX v g k ⟨2,la,o,C,nd,lv,b,x⟩ (Xm (Xh nd 6))
 |r3 {la o C nd lv b x} (ho:O7 o) (hR:r9 v g k nd o) (hL:zl v nd lv):DX v g k ⟨3,la,o,C,nd,lv,b,x⟩ (Xm (Xh nd 1))
 |r4 {la o C nd lv b x} (ho:O7 o) (hR:r9 v g k nd o) (hL:zl v nd lv):DX v g k ⟨4,la,o,C,nd,lv,b,x⟩ (Xm (Xh nd (2+lv)))
 |r5 {la o C nd lv b x y} (ho:O7 o) (hR:r9 v g k nd o) (hL:zl v nd lv) (hy:y.mark=false) (hs:IC (v.cell nd.sl (2+lv)) y):DX v g k ⟨5,la,o,C,nd,lv,b,x⟩ (Xp (Xh nd (2+lv)) y (Zc y))
 |r6 {la o nd lv b x C c} (ho:O7 o) (hD:ud v g k nd o 2) (hC:Fy v g k none C c) (hb:C.DC=o.key+1):DX v g k ⟨6,la,o,some C,nd,lv,b,x⟩ c
 |p1 {la o C nd lv b x} (ho:O6 o\/O7 o) (hD:ud v g k nd o b):DX v g k ⟨101,la,o,C,nd,lv,b,x⟩ (Xm (Xh nd 7))
 |p2 {la o C nd lv b x y} (ho:O6 o\/O7 o) (hD:ud v g k nd o b) (hy:y.nm=0) (hc:v.cell nd.sl 7=y\/(v.cell nd.sl 7).nm≠0):DX v g k ⟨102,la,o,C,nd,lv,b,x⟩ (Xp (Xh nd 7) y (Y5 y b))
 |p3 {la o nd lv b x C c} (ho:O6 o\/O7 o) (h0:nd.sl≠0) (hg:nd.gn=v.AB nd.sl) (hq:Qg v g k nd.sl) (hC:Fy v g k (some nd.sl) C c):DX v g k ⟨103,la,o,some C,nd,lv,b,x⟩ c
 |p4 {la o C nd lv b x} (ho:O6 o\/O7 o) (h0:nd.sl≠0) (hg:nd.gn=v.AB nd.sl) (hq:Qg v g k nd.sl) (hn:∀l,Zn 5 l->nd.sl∉g.LL l):DX v g k ⟨104,la,o,C,nd,lv,b,x⟩ (Xk nd)
 |g1 {la o nd lv b x C c} (ho:o.kind≠6/\o.kind≠7) (hC:Fy v g k none C c):DX v g k ⟨1,la,o,some C,nd,lv,b,x⟩ c
 |g2 {la o C nd lv b x} (ho:o.kind≠6/\o.kind≠7) (h0:nd.sl≠0) (hw:WR v g k 0 nd):DX v g k ⟨2,la,o,C,nd,lv,b,x⟩ (Xm (Xh nd 1))
def C0(J:Xa):Nat:=if J.op.kind=6/\1<=J.pc/\J.pc<=8 then 1 else 0
def GA(v:Vw)(g:EG)(o:Option Xb)(l:Int):Nat:=match o with|none=>0|some C=>if Ie v C.s0 C.s1 C.s2 l=true then 0 else 3*(g.LL 0).length+18
def Bq(v:Vw)(g:EG)(o:Option Xb):Nat:=match o with|none=>0|some C=>CH v g C
def Y9(v:Vw)(g:EG)(J:Xa)(c:Xi):Nat:=
 let N:=3*(g.LL 0).length
 let w:=8*(3-J.level).toNat
 if J.pc=-1 then 0
 else if J.pc=101 then N+26 else if J.pc=102 then N+25 else if J.pc=103 then Bq v g J.Ab+12 else if J.pc=104 then 12
 else if J.op.kind=6 then
  (if J.pc = 1 then 2*N+68 else if J.pc = 2 then 2*N+67 else if J.pc = 3 then 2*N+66 else if J.pc = 4 then 2*N+65
  else if J.pc=5 then Bq v g J.Ab+N+52 else if J.pc=6 then 1
  else if J.pc=7 then N+49+(3-J.level).toNat+GA v g J.Ab 0 else if J.pc=8 then N+49+GA v g J.Ab 0
  else if J.pc=9 then(if(v.cell J.node.sl (2+J.level)).mark=true then N+27 else w+N+26+GA v g J.Ab J.level)
  else if J.pc=10 then(if(v.cell J.node.sl (2+J.level)).mark=true then N+28 else w+N+25+GA v g J.Ab J.level)
  else if J.pc=11 then w+N+24+GA v g J.Ab J.level
  else if J.pc=12 then Bq v g J.Ab+w+N+26 else 0)
 else if J.op.kind=7 then
  (if J.pc = 1 then Bq v g J.Ab+2*N+61 else if J.pc = 2 then 2*N+61 else if J.pc = 3 then 2*N+60
  else if J.pc=4 then 2*N+38+7*(J.level+1).toNat
  else if J.pc=5 then(if v.get c.AJ=c.AU then 2*N+44+7*J.level.toNat else 2*N+46+7*J.level.toNat)
  else if J.pc=6 then Bq v g J.Ab+N+26 else 0)
 else(if J.pc=1 then Bq v g J.Ab+1 else if J.pc=2 then 1 else 0)
section
variable{v v':Vw}{g g':EG}{a k:Nat}{s l m f y t b lv:Int}{w x c n nd:Xe}{p ad:Yc}{T:Option Int}{C:Xb}{cl:Xi}{J:Xa}{o:AV}
def eP.same(h:eP v s y t)(e:v'.cell s=v.cell s):eP v' s y t:=by
 obtain⟨d,i,j,q⟩:=h;exact⟨by rw[e];exact d,by rw[e];exact i,by rw[e];exact j,by rw[e];exact q⟩
def Qr.A3(h:Qr v g k b C)(e:Mt a v g v' g')(d:k≠a)(i:g.A k≠none):Qr v' g' k b C:=⟨h.p0.A3 e d i,h.p1.A3 e d i,h.p2.A3 e d i⟩
def Qr.at_(h:Qr v g k b C)(d:0<=l)(e:l<3):JX v g k b l (C.BU l):=by
 have:l=0\/l=1\/l=2:=Zo;rcases this with rfl|rfl|rfl
 ·exact h.p0
 ·exact h.p1
 ·exact h.p2
def Mt.dfz(e:Mt a v g v' g')(d:k≠a){i:Int}(h:g.du s i=some k)(j:f<2\/5<=f/\f≠7):v'.cell s f=v.cell s f:=((e.DJ d h).2 f).resolve_right λq=>by
 rcases q with q|q<;>omega
def mI.A3(h:mI v g k nd o lv)(e:Mt a v g v' g')(d:k≠a):mI v' g' k nd o lv:=by
 have z:=e.x.du _ _ _ d h.du;have i:=(e.Cc.du _ _ _ z).2;refine⟨z,h.n0,by rw[(e.DJ d h.du).1];exact h.gn,by rw[e.dfz d h.du (fq Zd)];exact h.ky,by rw[e.dfz d h.du (db Zd)];exact h.ht,h.lv,λm j u=>⟨λq=>jk λA=>?_,λq=>e.e.lk m _ ((h.lk m j u).2 q) (by rw[i.1];simp)⟩⟩;exact(e.x.nl _ k d h.du i.2 m j u λr=>A ((h.lk m j u).1 r)).1 q
def mI.ref(h:mI v g k nd o lv)(e:Mt a v g v' g')(d:k≠a)(i:lv<=m/\m<3):Nlk (v.cell nd.sl (2+m)) (v'.cell nd.sl (2+m)):=by
 have j:=h.lv;exact(e.x.nl _ k d h.du (e.Cc.du _ _ _ (e.x.du _ _ _ d h.du)).2.2 m Zo i.2 λr=>by have:=(h.lk m Zo i.2).1 r;omega).2
def r9.A3(h:r9 v g k nd o)(e:Mt a v g v' g')(d:k≠a)(i:g.A k≠none):r9 v' g' k nd o:=
 ⟨h.n0,e.e.sf k d 0 _ h.sf,by rw[(e.e.cell d e.hg e.Br i h.sf).1];exact h.gn,by rw[e.fz d i h.sf (fq Zd)];exact h.ky⟩
def Mt.mk_(e:Mt a v g v' g')(d:k≠a)(h:g.A k≠none)(i:g.Sf k m s)(r:0<=l)(u:l<3)(j:(v.cell s (2+l)).mark=true):v'.cell s (2+l)=v.cell s (2+l):=((e.e.cell d e.hg e.Br h i).2 (2+l)).resolve_right λq=>by
 rcases q.1 with q|q
 ·rw[j] at q;cases q.2.2
 ·omega
def zl.A3(h:zl v nd lv)(q:r9 v g k nd o)(e:Mt a v g v' g')(r:k≠a)(u:g.A k≠none):zl v' nd lv:=by
 have d:=e.fz r u q.sf (f:=6) (db Zd);refine⟨h.l0,by rw[d];exact h.lh,by rw[d];exact h.h3,λj z i=>?_⟩;rw[d] at i;have B:=h.h3;have D:=h.l0;rw[e.mk_ r u q.sf Zo Zo (h.up j z i)];exact h.up j z i
def ud.A3(h:ud v g k nd o b)(e:Mt a v g v' g')(d:k≠a):ud v' g' k nd o b:=⟨h.b2,e.x.du _ _ _ d h.du,h.n0,by rw[(e.DJ d h.du).1];exact h.gn,by rw[e.dfz d h.du (fq Zd)];exact h.ky⟩
def qN(h:c.sl≠0->Rl v l nd.sl c.sl)(u:mI v g k nd o lv)(z:WR v g k l c)(e:Mt a v g v' g')(i:k≠a)(j:g.A k≠none)(B:0<=l)(D:l<3):c.sl≠0->Rl v' l nd.sl c.sl:=λr=>by
 have d:=(z r).1;unfold Rl;rw[e.dfz i u.du (fq Zd),e.fz i j d (fq Zd)];exact(h r).imp id λq=>⟨q.1,by rw[e.mk_ i j d B D q.2];exact q.2⟩
def mI.l3(h:mI v g k nd o lv)(d:O6 o)(e:lv<o.Al):0<=lv/\lv<3:=by have:=h.lv;have:=d.2.1;omega
def DX.A3(h:DX v g k J cl)(e:Mt a v g v' g')(j:k≠a)(z:g.A k≠none):DX v' g' k J cl:=by
 have I:∀{w},Ew v g k w->Ew v' g' k w:=λh=>(h.A3 e.e j).1;have N:∀{w y t},Ew v g k w->eP v w.sl y t->eP v' w.sl y t:=λh B=>B.same (h.A3 e.e j).2;have X:∀{w},Ew v g k w->v'.cell w.sl=v.cell w.sl:=λh=>(h.A3 e.e j).2;have cl:∀{T C c},Fy v g k T C c->Fy v' g' k T C c:=λh=>h.A3 e j z;have Q:∀{b C},Qr v g k b C->Qr v' g' k b C:=λh=>h.A3 e j z;have Y:∀{b C y},Qr v g k b C->(C.s0.As.sl≠0->y<(v.cell C.s0.As.sl 0).nm)->(C.s0.As.sl≠0->y<(v'.cell C.s0.As.sl 0).nm):=λh K H=>by
  rw[e.fz j z (h.p0.wr H).1 (fq Zd)];exact K H
 cases h with
 |d h=>exact .d h
 |i1 i=>exact .i1 i
 |i2 i u B=>exact .i2 i (I u) (N u B)
 |i3 i u B=>exact .i3 i (I u) (N u B)
 |i4 i u B=>exact .i4 i (I u) (N u B)
 |i5 i u B r L=>exact .i5 i (I u) (N u B) (cl r) L
 |i6 i u=>exact .i6 i (I u)
 |i7 i u B r K D M=>exact .i7 i (I u) (N u B) (Q r) (Y r K) D λq=>by rw[X u];exact M q
 |i8 i u B r K M=>exact .i8 i (I u) (N u B) (Q r) (Y r K) (by rw[X u];exact M)
 |j9 i E D r=>exact .j9 i (E.A3 e j) D (Q r)
 |C' i E D r R O V=>
  have F:=E.l3 i D;refine .C' i (E.A3 e j) D (Q r) R ?_ (qN V E (r.at_ F.1 F.2).wr e j z F.1 F.2);rcases E.ref e j ⟨hJ _,F.2⟩ with q|q
  ·rw[q];exact O
  ·exact db q.1
 |zg i E D r O V=>
  have F:=E.l3 i D;refine .zg i (E.A3 e j) D (Q r) ?_ (qN V E (r.at_ F.1 F.2).wr e j z F.1 F.2);rcases E.ref e j ⟨hJ _,F.2⟩ with q|q
  ·rw[q];exact O
  ·rw[q.2.1,q.2.2];exact O
 |zf i E D r L=>exact .zf i (E.A3 e j) D (cl r) L
 |r1 i r L=>exact .r1 i (cl r) L
 |r2 i G=>exact .r2 i (G.A3 e j z)
 |r3 i G S=>exact .r3 i (G.A3 e j z) (S.A3 G e j z)
 |r4 i G S=>exact .r4 i (G.A3 e j z) (S.A3 G e j z)
 |r5 i G S R Z=>exact .r5 i (G.A3 e j z) (S.A3 G e j z) R (Z.up (((e.e.cell j e.hg e.Br z G.sf).2 _).imp id λq=>q.2))
 |r6 i P r L=>exact .r6 i (P.A3 e j) (cl r) L
 |p1 i P=>exact .p1 i (P.A3 e j)
 |@p2 la o C nd lv b x y i P R O=>
  refine .p2 i (P.A3 e j) R ?_;rcases(e.DJ j P.du).2 7 with q|q|q
  ·rw[q];exact O
  ·omega
  ·exact db q.2.2
 |p3 i H W U r=>
  obtain⟨r1,r2,r3⟩:=U.A3 e j;exact .p3 i H (by rw[r3];exact W) r1 (cl r)
 |p4 i H W U K=>
  obtain⟨r1,r2,r3⟩:=U.A3 e j;exact .p4 i H (by rw[r3];exact W) r1 λl D=>U.gone e j (K l D)
 |g1 i r=>exact .g1 i (cl r)
 |g2 i H u=>exact .g2 i H (u.A3 e.e j e.hg e.Br z)
end
def TQ(v:Vw)(g:EG)(k:Nat)(J:Xa)(c:Xi)(v':Vw)(g':EG)(h:Xz)(e:Xi):Prop:=
 ∃d,h=.N8 d/\DX v' g' k d e/\(g'.LL 0).length+C0 d<=(g.LL 0).length+C0 J/\Y9 v' g' d e+wt c+EY v' g'<=Y9 v g J c+EY v g
def Dx(f:Xa->Xa × Xi)(J:Xa)(r:Xb × Xi × Bool):Xz × Xi:=
 bif r.2.2 then(.N8 {J with Ab:=some r.1},r.2.1) else(.N8 (f {J with Ab:=some r.1}).1,(f {J with Ab:=some r.1}).2)
section
variable{v v':Vw}{g g':EG}{a k:Nat}{s l m f y t b lv:Int}{w x c n nd:Xe}{p ad:Yc}{T:Option Int}{C:Xb}{cl:Xi}{J:Xa}{o:AV}{S s0 s1 s2:Zv}
def JX.mL(h:JX v g k b m S)(i:∀l s,g.Sf k l s->g'.Sf k l s)(d:v'.AB=v.AB)(u:∀s,g.Sf k m s->v'.cell s 0=v.cell s 0)(r:v'.get S.prev=v.get S.prev\/(v'.get S.prev).tg=(v.get S.prev).tg+1):JX v' g' k b m S:=by
 refine⟨⟨?_,λq=>?_⟩,λq=>⟨i _ _ (h.wr q).1,by rw[d];exact(h.wr q).2⟩,h.um,h.sn.up r,λq=>by rw[u _ (h.wr q).1];exact h.ge q⟩
 ·rcases h.pv.1 with q|⟨q,z,A,B⟩
  ·exact fq q
  ·exact db ⟨q,z,i _ _ A,by rw[d];exact B⟩
 ·obtain⟨D,E⟩:=h.pv.2 q;have F:g.Sf k m S.prev.sl:=(h.pv.1.resolve_left λe=>q (by rw[e];rfl)).2.2.1;exact⟨by rw[u _ F];exact D,λj G H=>i _ _ (E j G H)⟩
def Qr.mL(h:Qr v g k b C)(e:∀l s,g.Sf k l s->g'.Sf k l s)(d:v'.AB=v.AB)(j:∀l s,g.Sf k l s->v'.cell s 0=v.cell s 0)(i:∀a,v'.get a=v.get a\/(v'.get a).tg=(v.get a).tg+1\/∀m,¬DH 5 v g k m a):Qr v' g' k b C:=by
 have r:∀{m S},JX v g k b m S->v'.get S.prev=v.get S.prev\/(v'.get S.prev).tg=(v.get S.prev).tg+1:=λ{m S} h=>by
  rcases i S.prev with q|q|q
  ·exact fq q
  ·exact db q
  ·exact absurd h.pv.1 (q m)
 exact⟨h.p0.mL e d (j 0) (r h.p0),h.p1.mL e d (j 1) (r h.p1),h.p2.mL e d (j 2) (r h.p2)⟩
def tN(d:x.tg=(v.get p).tg+1)(a:Yc):(v.put p x).get a=v.get a\/((v.put p x).get a).tg=(v.get a).tg+1:=by
 rw[DA];split
 ·rename_i e;right;rw[d];unfold Vw.get;rw[e.1,e.2]
 ·exact fq rfl
def T3(d:l<=0->v'.get s0.prev=v.get s0.prev)(e:l<=1->v'.get s1.prev=v.get s1.prev)(h:l<=2->v'.get s2.prev=v.get s2.prev):Ie v' s0 s1 s2 l=Ie v s0 s1 s2 l:=by
 have i:(decide (0<l)||sB v' s0)=(decide (0<l)||sB v s0):=by
  by_cases q:0<l
  ·simp[q]
  ·unfold sB;rw[d Zo]
 have j:(decide (1<l)||sB v' s1)=(decide (1<l)||sB v s1):=by
  by_cases q:1<l
  ·simp[q]
  ·unfold sB;rw[e Zo]
 have r:(decide (2<l)||sB v' s2)=(decide (2<l)||sB v s2):=by
  by_cases q:2<l
  ·simp[q]
  ·unfold sB;rw[h Zo]
 unfold Ie;rw[i,j,r]
def aK{d:Int}(h:Ie v s0 s1 s2 l=true)(r:l<=d):Ie v s0 s1 s2 d=true:=by
 unfold Ie at h ⊢;simp only[gm,ka,jh] at h ⊢;obtain⟨e,i,j⟩:=h;exact⟨e.imp (λq=>Zo) id,i.imp (λq=>Zo) id,j.imp (λq=>Zo) id⟩
def tP(d:0<=l)(e:l<3)(h:v.get (C.BU l).prev≠(C.BU l).As):Ie v C.s0 C.s1 C.s2 l=false:=by
 have:l=0\/l=1\/l=2:=Zo;rcases this with rfl|rfl|rfl
 ·have h:v.get C.s0.prev≠C.s0.As:=h;simp[Ie,sB,h]
 ·have h:v.get C.s1.prev≠C.s1.As:=h;simp[Ie,sB,h]
 ·have h:v.get C.s2.prev≠C.s2.As:=h;simp[Ie,sB,h]
def Ew.A5(e:Ew v g k w)(i:AA 5 v g)(j:g.A k≠none){m:Int}(h:DH 5 v g k m ad):(v.put (Xh w f) x).get ad=v.get ad:=by
 rw[DA,fw];rintro⟨d,_⟩;rcases h with q|⟨_,_,q,_⟩
 ·rw[q] at d;exact e.1 d.symm
 ·exact e.Cm i m (by rw[←show ad.sl=w.sl from d];exact(i.Lc j q).1)
def Qr.own(h:Qr v g k b C)(i:Ew v g k w)(d:AA 5 v g)(j:g.A k≠none):Qr (v.put (Xh w f) x) g k b C/\∀l,Ie (v.put (Xh w f) x) C.s0 C.s1 C.s2 l=Ie v C.s0 C.s1 C.s2 l:=by
 have r:∀l s,g.Sf k l s->(v.put (Xh w f) x).cell s 0=v.cell s 0:=λl s q=>Yv s 0 λe=>i.Cm d l (by rw[←show s=w.sl from e.1];exact(d.Lc j q).1);refine⟨⟨h.p0.mL (λ_ _ q=>q) Y0 (r 0) (fq (i.A5 d j h.p0.pv.1)),h.p1.mL (λ_ _ q=>q) Y0 (r 1) (fq (i.A5 d j h.p1.pv.1)),h.p2.mL (λ_ _ q=>q) Y0 (r 2) (fq (i.A5 d j h.p2.pv.1))⟩,λl=>T3 (λ_=>i.A5 d j h.p0.pv.1) (λ_=>i.A5 d j h.p1.pv.1) λ_=>i.A5 d j h.p2.pv.1⟩
def rB{j:Type}{R:j->j->Prop}{a b:j}:∀{l:List j},l.Pairwise R->a∈l->b∈l->a≠b->R a b\/R b a
 |c::r,h,ha,u,z=>by
  obtain⟨A,B⟩:=mw.1 h;rcases gf.1 ha with e|i
  ·rcases gf.1 u with q|d
   ·exact absurd (e.trans q.symm) z
   ·rw[e];exact fq (A b d)
  ·rcases gf.1 u with q|d
   ·rw[q];exact db (A a i)
   ·exact rB B i d z
def ws(d:Jn v g)(B:AA 5 v g)(z:g.Cm 0 s)(j:g.Cm l t)(h:Zn 5 l)(u:(v.cell s 2).mark=false)(D:(v.cell s 0).nm=(v.cell t 0).nm)(A:s≠t):(v.cell t (2+l)).mark=true:=by
 have e:=d.low h.1 j 0 (hJ 0) h.1;have i:=(d.li.un 0 s z).resolve_left (by rw[show(2:Int)+0=2 from rfl,u];simp);have:(v.cell t 2).mark=true:=by
  rcases d.li.un 0 t e with q|q
  ·exact q
  ·rcases rB (d.li.so 0 VW) i q A with r|r
   ·rcases r with r|r
    ·omega
    ·exact r.2
   ·rcases r with r|r
    ·omega
    ·have:=r.2;rw[show(2:Int)+0=2 from rfl,u] at this;cases this
 exact d.all e this l h.1 (d.ht l t j).1
def KU(d:0<=l)(e:l<3):Za (some C) l=C.BU l:=by
 show FD C l=_;unfold FD;rw[fw (by simp;omega),fw (by simp;omega)]
def Kf{f:Xa->Xa × Xi}{R:Nat->Nat}{I:Vw->EG->Prop}(D:AA 5 v g)(E:Jn v g)(F:g.A k≠none)(G:Mu v)
  (H:∀(C:Xb) (x:Xr),({J with Ab:=some C}:Xa).next x=(bif (C.step x).2.2 then({J with Ab:=some (C.step x).1},(C.step x).2.1) else f {J with Ab:=some (C.step x).1}))
  (z:∀v g C c,Y9 v g {J with Ab:=some C} c=CH v g C+R (g.LL 0).length)(B:∀m n,m<=n->R m<=R n)(L:I v g)(M:∀v' g',Mt (k+1) v g v' g'->CSt v g v' g'->I v' g')
  (go:∀v' g' d u,d.DC=C.DC->Fy v' g' k T d u->I v' g'->DX v' g' k {J with Ab:=some d} u)
  (fin:∀v' g' d,za v' g' k T C.DC d->I v' g'->∃i q,f {J with Ab:=some d}=(i,q)/\DX v' g' k i q/\C0 i<=C0 J/\Y9 v' g' i q<=GA v' g' (some d) 0+R (g'.LL 0).length)
  (h:Fy v g k T C cl):Mv 5 N7 k (TQ v g k {J with Ab:=some C} cl) v g (.N8 {J with Ab:=some C}) cl:=by
 refine lJ (S:=λC=>.N8 {J with Ab:=some C}) (K:=Dx f J) (I:=I) D E F G (λC x=>?_) (λC c _=>rfl) L M (λv' g' d u e N j r O=>?_) (λv' g' d P j r O=>?_) h
 ·show(Xz.N8 (({J with Ab:=some C}:Xa).next x).1,(({J with Ab:=some C}:Xa).next x).2)=_;rw[H];unfold Dx;cases(C.step x).2.2<;>rfl
 ·refine⟨_,rfl,go v' g' d u e N j,iq r _,?_⟩;rw[z,z];have:=B _ _ r;omega
 ·obtain⟨i,q,e,f1,f2,f3⟩:=fin v' g' d P j;show TQ v g k {J with Ab:=some C} cl v' g' (.N8 (f {J with Ab:=some d}).1) (f {J with Ab:=some d}).2;rw[e];refine⟨i,rfl,f1,Nat.add_le_add r f2,?_⟩;show Y9 v' g' i q+wt cl+EY v' g'<=_;rw[z];have:=B _ _ r;unfold GA at f3;simp only[] at f3;omega
end
