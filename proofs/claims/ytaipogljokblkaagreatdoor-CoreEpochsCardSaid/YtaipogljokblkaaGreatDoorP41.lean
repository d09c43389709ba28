/- Core: FcC, FcD. -/
import Derived.Test.YtaipogljokblkaaGreatDoorP40
set_option linter.all false
set_option maxRecDepth 100000
set_option maxHeartbeats 8000000
namespace Go.Proofs.YtaipogljokblkaaGreatDoor
open Go Go.RowKit
section
variable{v v':Vw}{g g':EG}{a k:Nat}{s l m f y t b:Int}{w x c n:Xe}{p ad:Yc}{L M pre post:List Int}
def oR(G:AA 5 v g)(u:Jn v g)(Q:Mu v)(D:w.sl≠0)(U:b=1\/b=2)(H:g.du w.sl (b-1)=some k)(I:(v.cell w.sl 7).nm=0):
  Good 5 N7 k v g (v.put (Xh w 7) (Y5 (v.cell w.sl 7) b)) (g.EL w.sl (b-1) none)/\EY (v.put (Xh w 7) (Y5 (v.cell w.sl 7) b)) (g.EL w.sl (b-1) none)=EY v g:=by
 obtain⟨_,ho,J⟩:=u.du _ _ _ H
 have K:=G.lo 0 _ J
 have V:(v.put (Xh w 7) (Y5 (v.cell w.sl 7) b)).root=v.root:=Hz D
 have o:∀s e,(s≠w.sl\/e≠7)->(v.put (Xh w 7) (Y5 (v.cell w.sl 7) b)).cell s e=v.cell s e:=λs e h=>Yv s e λq=>by
  rcases h with h|h
  ·exact h q.1
  ·exact h q.2
 have N:(v.put (Xh w 7) (Y5 (v.cell w.sl 7) b)).cell w.sl 7=Y5 (v.cell w.sl 7) b:=Dk D
 have A:(Y5 (v.cell w.sl 7) b).nm=b:=by show wr ((v.cell w.sl 7).nm+b)=b;rw[I,FK Zo Zo];omega
 have O:(Y5 (v.cell w.sl 7) b).tg=(v.cell w.sl 7).tg+1:=FK (by have:=Q.ce w.sl 7;omega) (by have:=Q.ce w.sl 7;omega)
 have E:=G.yU (x:=Y5 (v.cell w.sl 7) b) (gn:=w.gn) (f:=7) D λl z e _=>by have:l<3:=z.2;omega
 have R:Ev k Je v g (v.put (Xh w 7) (Y5 (v.cell w.sl 7) b)) g:=NU D (db ⟨K.2.2.2,db ⟨rfl,I,by rw[A];omega⟩,O⟩)
 have r:∀l,l<3->∀s,(v.put (Xh w 7) (Y5 (v.cell w.sl 7) b)).cell s (2+l)=v.cell s (2+l):=λl S s=>o s _ (db Zo)
 have B:∀t j,(g.EL w.sl (b-1) none).du t j=if t=w.sl/\j=b-1 then none else g.du t j:=λ_ _=>rfl
 have E:AA 5 (v.put (Xh w 7) (Y5 (v.cell w.sl 7) b)) g:=E
 generalize W:v.put (Xh w 7) (Y5 (v.cell w.sl 7) b)=v' at*
 refine⟨⟨E.EL,⟨⟨λl z=>?_,λl s d=>?_⟩,by rw[V];exact u.rm,λs d j X T F=>?_,u.bu,λl s z=>by rw[o s 6 (db Zd)];exact u.ht l s z,λs i j q=>?_,λs q d=>?_⟩,R.EL,⟨λs i j F q=>?_,λs i q1 q2 Y=>?_,λ_ _ h=>fq h,λs j _ _ E l R Z h4=>⟨h4,by rw[r l Z];exact fq rfl⟩⟩,rfl,λ_ _ h=>h⟩,?_⟩
 ·refine mh (λ{p q} h=>?_) (u.li.so l z);unfold Rl;rw[o p 0 (db Zd),o q 0 (db Zd),r l z.2];exact h
 ·have:l<3:=(G.lo l s d).1.2;rw[r l this];exact u.li.un l s d
 ·rw[o s 6 (db Zd)] at T;have:=(u.ht 0 s d).2;rw[r j Zo] at F;rw[r (j+1) Zo];exact u.td s d j X T F
 ·rw[B] at q;by_cases e:s=w.sl/\i=b-1
  ·rw[ga e] at q;cases q
  ·rw[fw e] at q;exact u.du s i j q
 ·rw[B,B];have q:g.own s=.DJ:=q;have d:g.Cm 0 s:=d;have C:=u.dn s q d;rw[o s 2 (db Zd)];by_cases e:s=w.sl
  ·subst e;rw[N,A];refine⟨λq=>Zo,λ_=>?_⟩;have P:=C.1 I;rcases U with rfl|rfl
   ·rw[ga ⟨rfl,Zo⟩,fw λq=>Zo];exact fq ⟨rfl,P.2⟩
   ·rw[fw λq=>Zo,ga ⟨rfl,Zo⟩];exact db ⟨P.1,rfl,P.2.2 (by rw[show(1:Int)=2-1 by omega,H];simp)⟩
  ·rw[fw λq=>e q.1,fw λq=>e q.1,o s 7 (fq e)];exact C
 ·rw[B,fw]
  ·exact q
  ·rintro⟨rfl,rfl⟩;rw[H] at q;injection q with q;exact F q.symm
 ·rw[B];split
  ·rfl
  ·exact Y
 ·exact ZE rfl λl s _ S=>by rw[r l S]
def xS(B:AA 5 v g)(r:Jn v g)(K:Mu v)(C:Zn 5 l)(A:w.sl≠0)(H:g.du w.sl 0=some k)(N:¬g.Cm l w.sl)(O:v.cell w.sl (2+l)=c)(I:c.mark=false):
  Good 5 N7 k v g (v.put (Xh w (2+l)) (A4 c n)) g/\EY (v.put (Xh w (2+l)) (A4 c n)) g=EY v g:=by
 subst O
 obtain⟨_,Y,D⟩:=r.du _ _ _ H
 have E:=B.lo 0 _ D
 have Z:l<3:=C.2
 have l0:=C.1
 have P:(v.put (Xh w (2+l)) (A4 (v.cell w.sl (2+l)) n)).root=v.root:=Hz A
 have d:∀s e,(s≠w.sl\/e≠2+l)->(v.put (Xh w (2+l)) (A4 (v.cell w.sl (2+l)) n)).cell s e=v.cell s e:=λs e h=>Yv s e λq=>by
  rcases h with h|h
  ·exact h q.1
  ·exact h q.2
 have F:(v.put (Xh w (2+l)) (A4 (v.cell w.sl (2+l)) n)).cell w.sl (2+l)=A4 (v.cell w.sl (2+l)) n:=Dk A
 have Q:AA 5 (v.put (Xh w (2+l)) (A4 (v.cell w.sl (2+l)) n)) g:=B.yU (gn:=w.gn) A λm o e q=>absurd (by rw[show l=m by omega];exact q) N
 have R:Ev k Je v g (v.put (Xh w (2+l)) (A4 (v.cell w.sl (2+l)) n)) g:=NU A (db ⟨E.2.2.2,O2 (b:=0) C _ _ I,Gk (K.ce _ _)⟩)
 have i:wC v (v.put (Xh w (2+l)) (A4 (v.cell w.sl (2+l)) n)):=fun s=>⟨d s 0 (db Zo),fun m S T=>by
  by_cases e:s=w.sl/\2+m=2+l
  ·rw[e.1,e.2,F,I];rfl
  ·rw[d s (2+m) (by by_cases J:s=w.sl;exact db λU=>e ⟨J,U⟩;exact fq J)]⟩
 generalize V:v.put (Xh w (2+l)) (A4 (v.cell w.sl (2+l)) n)=v' at*
 have G:Mq 5 v' g:=⟨fun m o=>mh (Rl.xf i o) (r.li.so m o),fun m s u=>by
  have z:=xi (B.lo m s u).1;rw[(i s).2 m z.1 z.2];exact r.li.un m s u⟩
 refine⟨⟨Q,r.xf G (by rw[P];exact r.rm) i (λs=>⟨d s 6 (db Zo),d s 7 (db Zo)⟩) rfl rfl (λ_ _ h=>h) λ_ _ h=>fq h,R,⟨λ_ _ _ _ h=>h,λ_ _ _ _ h=>h,λ_ _ h=>fq h,λs j W q _ m S T X=>⟨X,?_⟩⟩,rfl,λ_ _ h=>h⟩,?_⟩
 ·have e:s≠w.sl:=λe=>by rw[e,H] at q;injection q with q;exact W q.symm
  rw[d s _ (fq e)];exact fq rfl
 ·exact ZE rfl λl s=>(i s).2 l
def oS(E:AA 5 v g)(d:Jn v g)(o:Qg v g k s)(F:∀l,Zn 5 l->s∉g.LL l):
  ∃z,Good 5 N7 k v g v z/\z.own s=.Cv k/\z.LL=g.LL:=by
 obtain⟨G,O,P,q4⟩:=o
 obtain⟨H,I⟩:=E.Cv (a:=k) (ce:=Je) G F
 have u:∀t,(g.GR s (.Cv k)).own t=if t=s then Tq.Cv k else g.own t:=λt=>X9 _ _ _ _
 have r:∀t j,(((g.GR s (.Cv k)).EL s 0 none).EL s 1 none).du t j=if t=s/\j=1 then none else if t=s/\j=0 then none else g.du t j:=λ_ _=>rfl
 have B:∀i j,g.du s i=some j->j=k:=λi j q=>by
  rcases(d.du s i j q).1 with rfl|rfl
  ·rcases q4 with q4|q4
   ·rw[q4.1] at q;injection q with q;exact q.symm
   ·rw[q4.1] at q;cases q
  ·rcases q4 with q4|q4
   ·rw[q4.2] at q;cases q
   ·rw[q4.2] at q;injection q with q;exact q.symm
 refine⟨((g.GR s (.Cv k)).EL s 0 none).EL s 1 none,⟨H.EL.EL,⟨⟨d.li.so,d.li.un⟩,d.rm,d.td,d.bu,d.ht,λt i j q=>?_,λt q A=>?_⟩,I.EL.EL,⟨λt i j C q=>?_,λt i _ _ q=>?_,λ_ _ h=>fq h,λt j _ _ _ m R S J=>⟨J,fq rfl⟩⟩,rfl,λ_ _ h=>h⟩,(u s).trans (ga rfl),rfl⟩
 ·rw[r] at q;split at q
  ·cases q
  ·rename_i K;split at q
   ·cases q
   ·rename_i N;have o:=d.du t i j q;have e:t≠s:=λe=>by
     rcases o.1 with h|h
     ·exact N ⟨e,h⟩
     ·exact K ⟨e,h⟩
    exact⟨o.1,(u t).trans ((fw e).trans o.2.1),o.2.2⟩
 ·have e:t≠s:=λe=>by
   have D:=q;rw[show(((g.GR s (.Cv k)).EL s 0 none).EL s 1 none).own t=(g.GR s (.Cv k)).own t from rfl,u,ga e] at D;cases D
  rw[show(((g.GR s (.Cv k)).EL s 0 none).EL s 1 none).own t=(g.GR s (.Cv k)).own t from rfl,u,fw e] at q;rw[r,r,fw λq=>e q.1,fw λq=>e q.1,fw λq=>e q.1,fw λq=>e q.1];exact d.dn t q A
 ·rw[r,fw,fw]
  ·exact q
  ·rintro⟨rfl,rfl⟩;exact C (B _ _ q)
  ·rintro⟨rfl,rfl⟩;exact C (B _ _ q)
 ·rw[r];split
  ·rfl
  ·split
   ·rfl
   ·exact q
structure eP(v:Vw)(s y t:Int):Prop where
 ky:(v.cell s 0).nm=y
 ht:(v.cell s 6).nm=t
 dn:(v.cell s 7).nm=0
 um:∀m,0<=m->m<3->(v.cell s (2+m)).mark=false
def xR(K:AA 5 v g)(r:Jn v g)(hA:g.A k≠none)(tb:Mu v)(N:WT v g k 0 y p)(F:Ew v g k w)(z:eP v w.sl y t)(ht:1<=t/\t<=3)(hu:c.mark=false)(hc:v.cell w.sl 2=Yx c)(he:v.get p=c)(hn:c.sl≠0->y<(v.cell c.sl 0).nm):
  ∃g',Good 5 N7 k v g (v.put p (A4 c w)) g'/\EY (v.put p (A4 c w)) g'=EY v g/\(g'.LL 0).length=(g.LL 0).length+1/\g'.du w.sl 0=some k/\(∀l,g'.Cm l w.sl↔l=0):=by
 have R:Zn 5 0:=VW
 subst he
 have c1:=iy Xe.sl hc
 have c2:=iy Xe.gn hc
 have B:=F.Cm K
 obtain⟨pre,post,S,u1,u2,u3,u4⟩:=OT (ce:=Je) (w:=w) K r.li hA tb R N.1 hu F.1 (fq F.2.1) (λq=>B 0 (K.pb 0 R _ q).2) F.2.2 ⟨c1,λ_=>c2⟩ (λq=>by rw[z.ky];exact(N.2 q).1) (λq=>fq (by rw[z.ky];exact hn q)) (O2 (b:=0) R)
 have I:=λs f=>N.1.oc (x:=A4 (v.get p) w) K hA s f
 have T:=N.1.rm (x:=A4 (v.get p) w) r.rm rfl
 have C:(g.link 0 w.sl (pre++w.sl::post)).LL=Ar g.LL 0 (pre++w.sl::post):=rfl
 have U:∀t,(g.link 0 w.sl (pre++w.sl::post)).own t=if t=w.sl then Tq.DJ else g.own t:=λt=>X9 _ _ _ _
 have o:∀l t,(g.link 0 w.sl (pre++w.sl::post)).Cm l t↔g.Cm l t\/(l=0/\t=w.sl):=λ_ _=>j3
 have d:∀s m,0<=m->m<3->((v.put p (A4 (v.get p) w)).cell s (2+m)).mark=(v.cell s (2+m)).mark:=λs m=>(u4 s).2 m
 have D:∀s f,5<=f->(v.put p (A4 (v.get p) w)).cell s f=v.cell s f:=λs f hf=>(I s f).resolve_right λq=>Zo
 have J:∀s,((v.put p (A4 (v.get p) w)).cell s 2).mark=(v.cell s 2).mark:=λs=>(u4 s).2 0 Zd Zd
 have E:∀i,g.du w.sl i=none:=λi=>by
  cases q:g.du w.sl i with
  |none=>rfl
  |some j=>have:=(r.du _ _ _ q).2.1;rw[F.2.1] at this;cases this
 have H:∀t j,((g.link 0 w.sl (pre++w.sl::post)).EL w.sl 0 (some k)).du t j=if t=w.sl/\j=0 then some k else g.du t j:=λ_ _=>rfl
 generalize aa:v.put p (A4 (v.get p) w)=v' at*
 generalize hG:g.link 0 w.sl (pre++w.sl::post)=G at*
 have V:G.A=g.A:=by rw[←hG];rfl
 have W:∀l s,g.Sf k l s->G.Sf k l s:=by rw[←hG];exact λ_ _ h=>fq h
 refine⟨G.EL w.sl 0 (some k),⟨u1.EL,⟨⟨u3.so,u3.un⟩,T,λs q m O X u=>?_,λl s l0 q=>?_,λl s q=>?_,λs i j q=>?_,λs q Y=>?_⟩,u2.EL,⟨λs i j hj q=>?_,λs i P Z q3=>?_,λl s q=>?_,λs j _ P Z l l0 l3 q4=>?_⟩,V,W⟩,?_,?_,by rw[H,ga ⟨rfl,rfl⟩],λl=>?_⟩
 ·have h3:s=w.sl\/g.Cm 0 s:=((o 0 s).1 q).symm.imp (λq=>q.2) id;rw[D s 6 Zd] at X;rcases h3 with rfl|h3
  ·rw[z.ht] at X;rw[d w.sl m O Zo,z.um m O Zo] at u;cases u
  ·have:=(r.ht 0 s h3).2;rw[d s m O Zo] at u;rw[d s (m+1) Zo Zo];exact r.td s h3 m O X u
 ·rcases(o _ s).1 q with q|⟨q,_⟩
  ·exact(o l s).2 (fq (r.bu l s l0 q))
  ·omega
 ·rw[D s 6 Zd];rcases(o _ s).1 q with q|⟨q,Z⟩
  ·exact r.ht l s q
  ·rw[Z,z.ht];omega
 ·rw[H] at q;by_cases e:s=w.sl/\i=0
  ·rw[e.1];exact⟨fq e.2,(U _).trans (ga rfl),(o 0 _).2 (db ⟨rfl,rfl⟩)⟩
  ·rw[fw e] at q;obtain⟨r1,r2,r3⟩:=r.du s i j q;refine⟨r1,(U _).trans ?_,(o 0 _).2 (fq r3)⟩;split
   ·rfl
   ·exact r2
 ·rw[H,H,fw (show ¬(s=w.sl/\(1:Int)=0) by simp),J,D s 7 Zd];by_cases e:s=w.sl
  ·rw[ga ⟨e,rfl⟩,e,E,show(v.cell w.sl 2).mark=false from z.um 0 Zd Zd,z.dn];exact⟨λ_=>⟨by simp,by simp⟩,λq=>absurd rfl q⟩
  ·rw[fw λq=>e q.1];have q:G.own s=.DJ:=q;rw[U,fw e] at q;exact r.dn s q (((o 0 s).1 Y).resolve_right λq=>e q.2)
 ·rw[H,fw]
  ·exact q
  ·rintro⟨rfl,rfl⟩;rw[E] at q;cases q
 ·rw[H,fw]
  ·exact q3
  ·rintro⟨rfl,_⟩;exact B 0 P
 ·have q:s∈G.LL l:=q;rw[C,X9] at q;by_cases e:l=0
  ·rw[ga e] at q;by_cases Q:s=w.sl
   ·right;left;rw[Q];exact F.2.1
   ·left;rw[e,S];rcases gy.1 q with q|q
    ·exact g8 _ q
    ·exact jq _ ((gf.1 q).resolve_left Q)
  ·rw[fw e] at q;exact fq q
 ·have e:s≠w.sl:=λe=>by rw[e,E] at P;cases P
  refine⟨λq=>q4 (((o l s).1 q).resolve_right λq=>e q.2),?_⟩;rcases I s (2+l) with q|⟨q,q5,_⟩
  ·rw[q];exact fq rfl
  ·exact absurd (by rw[show l=0 by omega];exact q5) q4
 ·show 5*(Dm v' 0 (G.LL 0)+Dm v' 1 (G.LL 1)+Dm v' 2 (G.LL 2))=EY v g;unfold EY;have e0:Dm v' 0 (pre++w.sl::post)=Dm v 0 (pre++post):=by
   rw[EB (v:=v) λs _=>d s 0 Zd Zd,Ix,Ix,Iw,fw (by rw[z.um 0 Zd Zd];simp)];rfl
  have e1:Dm v' 1 (g.LL 1)=Dm v 1 (g.LL 1):=EB λs _=>d s 1 Zd Zd;have Q:Dm v' 2 (g.LL 2)=Dm v 2 (g.LL 2):=EB λs _=>d s 2 Zd Zd;rw[C,X9,X9,X9,ga rfl,fw Zd,fw Zd,e0,e1,Q,S]
 ·show(G.LL 0).length=_;rw[C,X9,ga rfl,S];simp;omega
 ·show G.Cm l w.sl↔_;rw[o];exact⟨λq=>q.elim (λq=>absurd q (B l)) λq=>q.1,λq=>db ⟨q,rfl⟩⟩
def xT(E:AA 5 v g)(u:Jn v g)(J:g.A k≠none)(Q:Mu v)(z:Zn 5 l)(F:0<l)(B:WT v g k l y p)(R:w.sl≠0)(S:w.gn=v.AB w.sl)(G:g.du w.sl 0=some k)(T:(v.cell w.sl 0).nm=y)(U:l<(v.cell w.sl 6).nm)(V:¬g.Cm l w.sl)(o:g.Cm (l-1) w.sl)(W:c.mark=false)(X:(v.cell w.sl (2+l)).sl=c.sl/\(c.sl≠0->(v.cell w.sl (2+l)).gn=c.gn))(Y:v.get p=c)(Z:c.sl≠0->Rl v l w.sl c.sl):
  ∃g',Good 5 N7 k v g (v.put p (A4 c w)) g'/\EY (v.put p (A4 c w)) g'<=EY v g+5/\g'.LL 0=g.LL 0/\g'.du=g.du/\(∀m,g'.Cm m w.sl↔g.Cm m w.sl\/m=l)/\(∀s f,(v.put p (A4 c w)).cell s f=v.cell s f\/(f=2+l/\g.Cm l s)):=by
 subst Y
 obtain⟨_,K,aa⟩:=u.du _ _ _ G
 have l3:l<3:=z.2
 obtain⟨pre,post,N,u1,u2,u3,u4⟩:=OT (ce:=Je) (w:=w) E u.li J Q z B.1 W R (db K) (λq=>V (E.pb l z _ q).2) S X (λq=>by rw[T];exact(B.2 q).1) Z (O2 (b:=0) z)
 have d:=λs f=>B.1.oc (x:=A4 (v.get p) w) E J s f
 have H:=B.1.rm (x:=A4 (v.get p) w) u.rm rfl
 have r:(g.link l w.sl (pre++w.sl::post)).LL=Ar g.LL l (pre++w.sl::post):=rfl
 have hO:(g.link l w.sl (pre++w.sl::post)).own=g.own:=by
  funext t;show Ar g.own w.sl Tq.DJ t=_;rw[X9];split
  ·rename_i e;rw[e,K]
  ·rfl
 have i:∀m t,(g.link l w.sl (pre++w.sl::post)).Cm m t↔g.Cm m t\/(m=l/\t=w.sl):=λ_ _=>j3
 have I:=u.xf u3 H u4 (λs=>⟨(d s 6).resolve_right λq=>Zo,(d s 7).resolve_right λq=>Zo⟩) hO rfl (λm s q=>(i m s).2 (fq q)) λm s q=>((i m s).1 q).imp id λq=>by
  obtain⟨rfl,rfl⟩:=q;exact⟨F,U,o⟩
 refine⟨g.link l w.sl (pre++w.sl::post),⟨u1,I,u2,⟨λ_ _ _ _ h=>h,λ_ _ _ _ h=>h,λm s q=>?_,λs j C D q2 m m0 m3 O=>?_⟩,rfl,λ_ _ h=>fq h⟩,?_,(X9 _ _ _ _).trans (fw Zo),rfl,λm=>?_,λs f=>(d s f).imp id λq=>⟨q.1,q.2.1⟩⟩
 ·rw[r,X9] at q;by_cases e:m=l
  ·rw[ga e] at q;by_cases P:s=w.sl
   ·right;right;rw[P];exact G
   ·left;rw[e,N];rcases gy.1 q with q|q
    ·exact g8 _ q
    ·exact jq _ ((gf.1 q).resolve_left P)
  ·rw[fw e] at q;exact fq q
 ·have e:s≠w.sl:=λe=>by rw[e,G] at D;injection D with D;exact C D.symm
  refine⟨λq=>O (((i m s).1 q).resolve_right λq=>e q.2),?_⟩;rcases d s (2+m) with q|⟨q,q5,_⟩
  ·rw[q];exact fq rfl
  ·exact absurd (by rw[show m=l by omega];exact q5) O
 ·have o:∀j,Zn 5 j->Dm (v.put p (A4 (v.get p) w)) j ((g.link l w.sl (pre++w.sl::post)).LL j)<=Dm v j (g.LL j)+if j=l then 1 else 0:=λj C=>by
   rw[EB (v:=v) λs _=>(u4 s).2 j C.1 (by have:=C.2;exact this),r,X9];by_cases e:j=l
   ·rw[ga e,ga e,e,N,Ix,Ix,Iw];split<;>omega
   ·rw[fw e,fw e];exact l5 ..
  have a0:=o 0 VW;have a1:=o 1 tG;have a2:=o 2 kT;unfold EY;have:l=1\/l=2:=Zo;rcases this with rfl|rfl<;>simp only[Int.reduceEq,↓reduceIte,l9] at a0 a1 a2<;>omega
 ·rw[i];exact⟨λq=>q.imp id λq=>q.1,λq=>q.imp id λq=>⟨q,rfl⟩⟩
end
def ug(v:Vw)(g:EG)(k:Nat)(l:Int)(p:Yc)(c:Xe):Prop:=c.sl≠0/\c.mark=false/\WR v g k l c/\IC (v.get p) c
structure yv(v:Vw)(g:EG)(k:Nat)(l b:Int)(T:Option Int)(c n:Xe):Prop where
 wr:WR v g k l n
 sn:IC (v.cell c.sl (2+l)) n
 fz:n.mark=true->v.cell c.sl (2+l)=n
 dw:n.mark=false->∀m,0<=m->m<=l->g.Sf k m c.sl
 en:n.mark=false->n.sl=0->(v.cell c.sl 0).nm<b->QL g T l
structure JX(v:Vw)(g:EG)(k:Nat)(b m:Int)(S:Zv):Prop where
 pv:WT v g k m b S.prev
 wr:WR v g k m S.As
 um:S.As.mark=false
 sn:IC (v.get S.prev) S.As
 ge:S.As.sl≠0->b<=(v.cell S.As.sl 0).nm
def Mh(v:Vw)(g:EG)(k:Nat)(b l:Int)(T:Option Int)(s1 s2:Zv):Prop:=(l<1->JX v g k b 1 s1/\QL g T 1)/\(l<2->JX v g k b 2 s2/\QL g T 2)
inductive Fy(v:Vw)(g:EG)(k:Nat)(T:Option Int):Xb->Xi->Prop
 |c2 {la p c b l n q s0 s1 s2} (hl:0<=l/\l<3) (hT:TO v g k b T) (hU:Mh v g k b l T s1 s2) (hp:WT v g k l b p):Fy v g k T ⟨2,la,⟨p,c⟩,b,l,n,q,s0,s1,s2,.zero⟩ (Xg p (3*l+1))
 |c3 {la p c b l n q s0 s1 s2} (hl:0<=l/\l<3) (hT:TO v g k b T) (hU:Mh v g k b l T s1 s2) (hp:WT v g k l b p) (hc:ug v g k l p c):Fy v g k T ⟨3,la,⟨p,c⟩,b,l,n,q,s0,s1,s2,.zero⟩ (Xg (Xh c (2+l)) (3*l))
 |c4 {la p c b l n q s0 s1 s2} (hl:0<=l/\l<3) (hT:TO v g k b T) (hU:Mh v g k b l T s1 s2) (hp:WT v g k l b p) (hc:ug v g k l p c) (hn:yv v g k l b T c n):Fy v g k T ⟨4,la,⟨p,c⟩,b,l,n,q,s0,s1,s2,.zero⟩ (Xm (Xh c 0))
 |c5 {la p c b l n q s0 s1 s2} (hl:0<=l/\l<3) (hT:TO v g k b T) (hU:Mh v g k b l T s1 s2) (hp:WT v g k l b p) (hc:ug v g k l p c) (hn:yv v g k l b T c n) (hq:(v.cell c.sl 0).nm=q):Fy v g k T ⟨5,la,⟨p,c⟩,b,l,n,q,s0,s1,s2,.zero⟩ (Xm p)
 |c6 {la p c b l n q s0 s1 s2} (hl:0<=l/\l<3) (hT:TO v g k b T) (hU:Mh v g k b l T s1 s2) (hp:WT v g k l b p) (hc:ug v g k l p c) (hn:yv v g k l b T c n) (hm:n.mark=true):Fy v g k T ⟨6,la,⟨p,c⟩,b,l,n,q,s0,s1,s2,.zero⟩ (Xp p c (A4 c n))
 |c7 {la c b l n q s0 s1 s2} (hl:0<=l/\l<3) (hT:TO v g k b T) (hU:Mh v g k b l T s1 s2) (h0:c.sl≠0) (hp:WT v g k l b (Xh c (2+l))) (hn:yv v g k l b T c n) (hm:n.mark=false):Fy v g k T ⟨7,la,⟨Xh c (2+l),c⟩,b,l,n,q,s0,s1,s2,.zero⟩ (Yt (3*l+2) (3*l+1))
 |c8 {la p c b l n q s0 s1 s2} (hl:0<=l/\l<3) (hT:TO v g k b T) (hU:Mh v g k b l T s1 s2) (hp:WT v g k l b p) (hc:ug v g k l p c):Fy v g k T ⟨8,la,⟨p,c⟩,b,l,n,q,s0,s1,s2,.zero⟩ (Yt (3*l+1) (3*l))
 |c9 {la p c b l n q s0 s1 s2} (hl:0<=l/\l<2) (hT:TO v g k b T) (hU:Mh v g k b l T s1 s2) (hp:WT v g k l b p):Fy v g k T ⟨9,la,⟨p,c⟩,b,l,n,q,s0,s1,s2,.zero⟩ (Yt (3*l+2) (3*l+5))
structure za(v:Vw)(g:EG)(k:Nat)(T:Option Int)(b:Int)(C:Xb):Prop where
 bd:C.DC=b
 p0:JX v g k b 0 C.s0
 p1:JX v g k b 1 C.s1
 p2:JX v g k b 2 C.s2
 en:∀l,0<=l->l<3->QL g T l
 tk:TO v g k b T
 fd:(C.found=.zero/\(C.s0.As.sl≠0->b<(v.cell C.s0.As.sl 0).nm))\/(C.found=Yx C.s0.As/\C.s0.As.sl≠0/\(v.cell C.s0.As.sl 0).nm=b)
def nk(v:Vw)(g:EG)(p:Yc):Nat:=if p.sl=0 then(g.LL 0).length else((g.LL 0).filter λs=>decide ((v.cell p.sl 0).nm<(v.cell s 0).nm)).length
def sB(v:Vw)(S:Zv):Bool:=decide (v.get S.prev=S.As)
def Ie(v:Vw)(s0 s1 s2:Zv)(l:Int):Bool:=(decide (0<l)||sB v s0)&&((decide (1<l)||sB v s1)&&(decide (2<l)||sB v s2))
def CH(v:Vw)(g:EG)(C:Xb):Nat:=
 let N:=3*(g.LL 0).length
 let d:=if Ie v C.s0 C.s1 C.s2 (C.level+1)=true then 0 else N+18
 let a:=3*nk v g C.spot.prev+4*C.level.toNat
 if C.pc=2\/C.pc=9 then(if(v.get C.spot.prev).mark=false then a+4+d else N+13+d)
 else if C.pc=3\/C.pc=8 then(if v.get C.spot.prev=C.spot.As then a+3+d else 2*N+33)
 else if C.pc=4 then(if v.get C.spot.prev=C.spot.As then(if v.cell C.spot.As.sl (2+C.level)=C.next then a+2+d else 2*N+35) else 2*N+32)
 else if C.pc=5 then(if v.get C.spot.prev=C.spot.As then(if v.cell C.spot.As.sl (2+C.level)=C.next then a+1+d else 2*N+34) else 2*N+31)
 else if C.pc=6 then(if v.get C.spot.prev=C.spot.As then a+d else 2*N+31)
 else if C.pc=7 then(if v.get C.spot.prev=C.next then a+3+d else 2*N+33)
 else 0
section
variable{v v':Vw}{g g':EG}{a k:Nat}{s l m f y t b:Int}{w x c n:Xe}{p ad:Yc}{T:Option Int}{s0 s1 s2 S:Zv}{C:Xb}{cl:Xi}
structure Mt(a:Nat)(v:Vw)(g:EG)(v':Vw)(g':EG):Prop where
 hg:AA 5 v g
 Br:AA 5 v' g'
 hs:Jn v g
 Cc:Jn v' g'
 e:Ev a Je v g v' g'
 x:WL a v g v' g'
def Mt.fz(e:Mt a v g v' g')(d:k≠a)(h:g.A k≠none)(i:g.Sf k l s)(j:f<2\/5<=f/\f≠7):v'.cell s f=v.cell s f:=((e.e.cell d e.hg e.Br h i).2 f).resolve_right λq=>by
 rcases q.1 with q|q<;>omega
def Mt.DJ(e:Mt a v g v' g')(o:k≠a){i:Int}(d:g.du s i=some k):v'.AB s=v.AB s/\∀f,v'.cell s f=v.cell s f\/Je f (v.cell s f) (v'.cell s f):=by
 obtain⟨_,h,u⟩:=e.hs.du s i k d;obtain⟨_,r,z⟩:=e.Cc.du s i k (e.x.du s i k o d);have:=e.e.pc s (by rw[h];simp) (λj=>by rw[h];simp) (by rw[r];simp);exact⟨this.1,λf=>(this.2.2 f).imp id λq=>q.1⟩
def Qg.A3(h:Qg v g k s)(e:Mt a v g v' g')(j:k≠a):Qg v' g' k s/\(v'.cell s 0).nm=(v.cell s 0).nm/\v'.AB s=v.AB s:=by
 obtain⟨H,u,o,d⟩:=h;obtain⟨i,z⟩:∃i,g.du s i=some k:=d.elim (λq=>⟨0,q.1⟩) λq=>⟨1,q.2⟩;obtain⟨B,A⟩:=e.DJ j z;obtain⟨_,D,E⟩:=e.Cc.du s i k (e.x.du s i k j z);have F:v'.cell s 2=v.cell s 2:=(A 2).resolve_right λq=>by
  rcases q with q|q
  ·rw[o] at q;cases q.2.2
  ·omega
 have G:v'.cell s 0=v.cell s 0:=(A 0).resolve_right λq=>by rcases q with q|q<;>omega
 refine⟨⟨D,E,by rw[F];exact o,?_⟩,by rw[G],B⟩;rcases d with⟨d,r⟩|⟨d,r⟩
 ·exact fq ⟨e.x.du s 0 k j d,e.x.dn s 1 u o r⟩
 ·exact db ⟨e.x.dn s 0 u o d,e.x.du s 1 k j r⟩
def TO.A3(h:TO v g k b T)(e:Mt a v g v' g')(d:k≠a):TO v' g' k b T:=λs i=>by
 obtain⟨j,o⟩:=h s i;obtain⟨q,r,_⟩:=j.A3 e d;exact⟨q,by rw[r];exact o⟩
def Qg.gone(h:Qg v g k s)(e:Mt a v g v' g')(i:k≠a)(j:s∉g.LL l):s∉g'.LL l:=λq=>by
 obtain⟨o,r,u,d⟩:=h;rcases e.x.ll l s q with q|q|q
 ·exact j q
 ·rw[o] at q;cases q
 ·rcases d with⟨d,_⟩|⟨d,_⟩
  ·rw[d] at q;injection q with q;exact i q
  ·rw[d] at q;cases q
def QL.A3(h:QL g T l)(i:TO v g k b T)(e:Mt a v g v' g')(j:k≠a):QL g' T l:=λs d=>(i s d).1.gone e j (h s d)
def WT.A3(h:WT v g k l b ad)(e:Mt a v g v' g')(i:k≠a)(j:g.A k≠none):WT v' g' k l b ad:=by
 refine⟨h.1.A3 e.e i e.hg e.Br j,λd=>?_⟩;rcases h.1 with q|⟨_,_,q,_⟩
 ·rw[q] at d;exact absurd rfl d
 ·rw[e.fz i j q (fq Zd)];exact⟨(h.2 d).1,λm o r=>e.e.sf k i m _ ((h.2 d).2 m o r)⟩
def ug.A3(h:ug v g k l ad c)(ha:WT v g k l b ad)(e:Mt a v g v' g')(d:k≠a)(i:g.A k≠none):ug v' g' k l ad c:=⟨h.1,h.2.1,h.2.2.1.A3 e.e d e.hg e.Br i,ha.1.Fp e.e d e.hg e.Br i h.2.2.2⟩
def yv.A3(h:yv v g k l b T c n)(D:c.sl≠0)(E:WR v g k l c)(F:TO v g k b T)(e:Mt a v g v' g')(j:k≠a)(o:g.A k≠none):yv v' g' k l b T c n:=by
 have d:=(E D).1;have r:=(e.e.cell j e.hg e.Br o d).2 (2+l);refine⟨h.wr.A3 e.e j e.hg e.Br o,h.sn.up (r.imp id λq=>q.2),λi=>?_,λi m G H=>e.e.sf k j m _ (h.dw i m G H),λi I u=>?_⟩
 ·have z:=h.fz i;rcases r with q|q
  ·rw[q];exact z
  ·have B:=(e.hg.lo l _ (e.hg.Lc o d).1).1.2;have B:l<3:=B;rcases q.1 with q|q
   ·rw[z,i] at q;cases q.2.2
   ·omega
 ·rw[e.fz j o d (fq Zd)] at u;exact(h.en i I u).A3 F e j
def JX.A3(h:JX v g k b m S)(e:Mt a v g v' g')(d:k≠a)(i:g.A k≠none):JX v' g' k b m S:=
 ⟨h.pv.A3 e d i,h.wr.A3 e.e d e.hg e.Br i,h.um,h.pv.1.Fp e.e d e.hg e.Br i h.sn,λj=>by rw[e.fz d i (h.wr j).1 (fq Zd)];exact h.ge j⟩
def Mh.A3(h:Mh v g k b l T s1 s2)(i:TO v g k b T)(e:Mt a v g v' g')(d:k≠a)(j:g.A k≠none):Mh v' g' k b l T s1 s2:=
 ⟨λq=>⟨(h.1 q).1.A3 e d j,(h.1 q).2.A3 i e d⟩,λq=>⟨(h.2 q).1.A3 e d j,(h.2 q).2.A3 i e d⟩⟩
def eS(d:c.sl≠0)(h:DH 5 v g k l (Xh c (2+l))):WR v g k l c:=λ_=>by
 rcases h with q|⟨_,_,e,i⟩
 ·exact absurd (iy Yc.sl q) d
 ·exact⟨e,i⟩
def Fy.A3(h:Fy v g k T C cl)(e:Mt a v g v' g')(d:k≠a)(j:g.A k≠none):Fy v' g' k T C cl:=by
 cases h with
 |c2 r i u o=>exact .c2 r (i.A3 e d) (u.A3 i e d j) (o.A3 e d j)
 |c3 r i u o q=>exact .c3 r (i.A3 e d) (u.A3 i e d j) (o.A3 e d j) (q.A3 o e d j)
 |c4 r i u o q z=>exact .c4 r (i.A3 e d) (u.A3 i e d j) (o.A3 e d j) (q.A3 o e d j) (z.A3 q.1 q.2.2.1 i e d j)
 |c5 r i u o q z E=>exact .c5 r (i.A3 e d) (u.A3 i e d j) (o.A3 e d j) (q.A3 o e d j) (z.A3 q.1 q.2.2.1 i e d j) (by rw[e.fz d j (q.2.2.1 q.1).1 (fq Zd)];exact E)
 |c6 r i u o q z B=>exact .c6 r (i.A3 e d) (u.A3 i e d j) (o.A3 e d j) (q.A3 o e d j) (z.A3 q.1 q.2.2.1 i e d j) B
 |c7 r i u D o z B=>exact .c7 r (i.A3 e d) (u.A3 i e d j) D (o.A3 e d j) (z.A3 D (eS D o.1) i e d j) B
 |c8 r i u o q=>exact .c8 r (i.A3 e d) (u.A3 i e d j) (o.A3 e d j) (q.A3 o e d j)
 |c9 r i u o=>exact .c9 r (i.A3 e d) (u.A3 i e d j) (o.A3 e d j)
end
