/- Core: FaI, FcA, FcB, FaJ, FaK, FaL. -/
import Derived.Test.YtaipogljokblkaaGreatDoorP39
set_option linter.all false
set_option maxRecDepth 100000
set_option maxHeartbeats 8000000
namespace Go.Proofs.YtaipogljokblkaaGreatDoor
open Go Go.RowKit
def Rl(v:Vw)(l x y:Int):Prop:=(v.cell x 0).nm<(v.cell y 0).nm\/((v.cell x 0).nm=(v.cell y 0).nm/\(v.cell y (2+l)).mark=true)
structure Mq(st:Int)(v:Vw)(g:EG):Prop where
 so:∀l,Zn st l->(g.LL l).Pairwise (Rl v l)
 un:∀l s,g.Cm l s->(v.cell s (2+l)).mark=true\/s∈g.LL l
def wC(v v':Vw):Prop:=∀s,v'.cell s 0=v.cell s 0/\∀l,0<=l->l<3->(v'.cell s (2+l)).mark=(v.cell s (2+l)).mark
section
variable{st:Int}{v v':Vw}{g g':EG}{a k:Nat}{s l f:Int}{w x As:Xe}{ad:Yc}{ce:Int->Xe->Xe->Prop}{pre post L:List Int}
def xi(h:Zn st l):0<=l/\l<3:=⟨h.1,by have:=h.2;have b:xh st<=3:=(by unfold xh;split<;>omega);omega⟩
def Rl.xf(h:wC v v')(b:Zn st l){x y:Int}(c:Rl v l x y):Rl v' l x y:=by
 unfold Rl;rw[(h x).1,(h y).1,(h y).2 l (xi b).1 (xi b).2];exact c
def Mq.at_(h:Mq st v g)(d:AA st v g)(m:g.A k≠none)(n:Zn st l)(ha:DH st v g k l ad)(e:(v.get ad).mark=false):∃pre post,g.LL l=pre++post/\El st v l pre=ad/\(ad.sl=0/\pre=[]\/ad.sl≠0/\∃p,pre=p++[ad.sl]):=by
 rcases ha with rfl|⟨i,b,o,j⟩
 ·exact⟨[],g.LL l,rfl,rfl,fq ⟨rfl,rfl⟩⟩
 ·have r:=(d.Lc m o).1;have t:v.get ad=v.cell ad.sl (2+l):=by unfold Vw.get;rw[fw i,b]
  rw[t] at e;have c:=(h.un l _ r).resolve_left (by rw[e];simp);obtain⟨p,q,u,z,y,B⟩:=d.nxt n c;refine⟨p++[ad.sl],q,by rw[u];simp,?_,db ⟨i,p,rfl⟩⟩;rw[y];obtain⟨C,D,E⟩:=ad;simp only at b j;rw[b,j]
def E3(b:ad.fd=f)(c:ad.sl≠0):v.get ad=v.cell ad.sl f:=by unfold Vw.get;rw[fw c,b]
def VP(d:AA st v g)(b:Zn st l)(h:g.LL l=pre++post)(i:(v.get (El st v l pre)).mark=false)(o:x.mark=false):wC v (v.put (El st v l pre) x):=λs=>by
 have p:=xi b;refine⟨Ga d b h λq=>Zo,λm t u=>?_⟩;by_cases e:s∈pre/\2+m=2+l
 ·rcases @J8 st v l pre with⟨q,r⟩|q
  ·rw[r] at e;cases e.1
  ·have z:=d.zero b (s:=(El st v l pre).sl) (by rw[h];exact g8 _ q.1);by_cases c:s=(El st v l pre).sl
   ·have j:s≠0:=by rw[c];exact z
    have n:=DA (v:=v) ⟨s,0,2+m⟩ (El st v l pre) x;rw[BW j,BW j,ga ⟨c,e.2.trans q.2.1.symm⟩] at n;rw[n,o];rw[E3 q.2.1 z] at i;rw[c,e.2];exact i.symm
   ·rw[Yv s _ λq=>c q.1]
 ·rw[Ga d b h e]
def Mu.get(b:Mu v)(ad:Yc):0<=(v.get ad).tg/\(v.get ad).tg<9000000000000000000:=by
 unfold Vw.get;split
 ·exact b.rt _
 ·exact b.ce _ _
def OS(n:AA st v g)(D:Mq st v g)(J:g.A k≠none)(K:Mu v)(C:Zn st l)(ha:DH st v g k l ad)(E:(v.get ad).mark=false)(M:(v.get ad).sl≠0)(N:(v.cell (v.get ad).sl (2+l)).mark=true)(F:∀c y:Xe,c.mark=false->ce (2+l) c y):
  ∃pre post,g.LL l=pre++(v.get ad).sl::post/\(ad.sl=0/\pre=[]\/ad.sl≠0/\∃p,pre=p++[ad.sl])/\AA st (v.put ad (A4 (v.get ad) (v.cell (v.get ad).sl (2+l)))) (g.Ej l (pre++post))/\(∀a,Ev a ce v g (v.put ad (A4 (v.get ad) (v.cell (v.get ad).sl (2+l)))) (g.Ej l (pre++post)))/\Mq st (v.put ad (A4 (v.get ad) (v.cell (v.get ad).sl (2+l)))) (g.Ej l (pre++post))/\wC v (v.put ad (A4 (v.get ad) (v.cell (v.get ad).sl (2+l)))):=by
 obtain⟨pre,O,j,o,I⟩:=D.at_ n J C ha E
 have d:=n.at_ C j
 rw[o] at d
 cases O with
 |nil=>exact absurd d M
 |cons u post=>
  obtain rfl:(v.get ad).sl=u:=d.1
  have h:=fun a=>n.unlink (a:=a) (ce:=ce) (x:=A4 (v.get ad) (v.cell (v.get ad).sl (2+l))) C j ⟨rfl,rfl⟩ (by rw [o];exact Gk (K.get ad)) fun s r P=>F _ _ (by
   rcases I with⟨_,q⟩|⟨q,_⟩
   ·rw[q] at r;cases r
   ·rcases ha with G|⟨_,G,_⟩
    ·rw[G] at q;exact absurd rfl q
    ·rw[P,o,←E3 G q];exact E)
  have b:=VP (x:=A4 (v.get ad) (v.cell (v.get ad).sl (2+l))) n C j (by rw[o];exact E) rfl
  rw[o] at h b
  refine⟨pre,post,j,I,(h 0).1,λa=>(h a).2,⟨λm t=>?_,λm s r=>?_⟩,b⟩
  ·show(Ar g.LL l (pre++post) m).Pairwise _;have H:=D.so m t;rw[X9];refine mh (Rl.xf b t) ?_;by_cases e:m=l
   ·rw[ga e];rw[e,j] at H;rw[e];exact H.sublist (oo (oz ..) _)
   ·rw[fw e];exact H
  ·have z:=xi (n.lo m s r).1;rw[(b s).2 m z.1 z.2];refine(Classical.em _).imp id λB=>?_;have i:=(D.un m s r).resolve_left B;show s∈Ar g.LL l (pre++post) m;rw[X9];by_cases e:m=l
   ·rw[ga e];rw[e,j] at i;rcases gy.1 i with q|q
    ·exact g8 _ q
    ·refine jq _ ((gf.1 q).resolve_left λq=>B (by rw[q,e];exact N))
   ·rw[fw e];exact i
def VR(o:AA st v g)(n:Mq st v g)(c:w.sl≠0)(r:Zn st l)(t:x.sl=(v.cell w.sl (2+l)).sl/\x.gn=(v.cell w.sl (2+l)).gn)(u:x.mark=true)(y:x.tg=(v.cell w.sl (2+l)).tg+1)(z:∀k,g.own w.sl≠.Dl k)(d:ce (2+l) (v.cell w.sl (2+l)) x):
  AA st (v.put (Xh w (2+l)) x) g/\(∀a,Ev a ce v g (v.put (Xh w (2+l)) x) g)/\Mq st (v.put (Xh w (2+l)) x) g:=by
 have A:=xi r
 have i:∀s m,(v.put (Xh w (2+l)) x).cell s m=if s=w.sl/\m=2+l then x else v.cell s m:=λs m=>by
  by_cases e:s=w.sl/\m=2+l
  ·rw[ga e,e.1,e.2];exact Dk c
  ·rw[fw e];exact Yv s m e
 have b:∀s m,(v.cell s (2+m)).mark=true->((v.put (Xh w (2+l)) x).cell s (2+m)).mark=true:=λs m h=>by
  rw[i];split
  ·exact u
  ·exact h
 refine⟨o.yU c λ_ _ _ _=>t,λa=>NU c (db ⟨z,d,y⟩),λm j=>?_,λm s B=>?_⟩
 ·refine mh (λ{p q} h=>?_) (n.so m j);unfold Rl;rw[i p 0,i q 0,fw λe=>Zo,fw λe=>Zo];exact h.imp id λh=>⟨h.1,b _ _ h.2⟩
 ·exact(n.un m s B).imp (b s m) id
def OT(E:AA st v g)(J:Mq st v g)(R:g.A k≠none)(S:Mu v)(I:Zn st l)(ha:DH st v g k l ad)(K:(v.get ad).mark=false)(T:w.sl≠0)(b:g.own w.sl=.Dl k\/g.own w.sl=.DJ)(U:w.sl∉g.LL l)(V:w.gn=v.AB w.sl)
  (W:(v.cell w.sl (2+l)).sl=(v.get ad).sl/\((v.get ad).sl≠0->(v.cell w.sl (2+l)).gn=(v.get ad).gn))(X:ad.sl≠0->(v.cell ad.sl 0).nm<(v.cell w.sl 0).nm)(n:(v.get ad).sl≠0->Rl v l w.sl (v.get ad).sl)(M:∀c y:Xe,c.mark=false->ce (2+l) c y):
  ∃pre post,g.LL l=pre++post/\AA st (v.put ad (A4 (v.get ad) w)) (g.link l w.sl (pre++w.sl::post))/\Ev k ce v g (v.put ad (A4 (v.get ad) w)) (g.link l w.sl (pre++w.sl::post))/\Mq st (v.put ad (A4 (v.get ad) w)) (g.link l w.sl (pre++w.sl::post))/\wC v (v.put ad (A4 (v.get ad) w)):=by
 obtain⟨pre,post,C,D,Q⟩:=J.at_ E R I ha K
 have o:=E.at_ I C
 rw[D] at o
 have F:ad.sl≠0->(v.cell ad.sl (2+l)).mark=false:=λq=>by
  rcases ha with N|⟨_,N,_⟩
  ·rw[N] at q;exact absurd rfl q
  ·rw[←E3 N q];exact K
 have t:=E.link (a:=k) (ce:=ce) (x:=A4 (v.get ad) w) I C T b U ⟨rfl,V⟩ (by rw [D];exact W) (by rw [D];exact Gk (S.get ad)) fun s b Y=>M _ _ (by
  rcases Q with⟨_,q⟩|⟨q,_⟩
  ·rw[q] at b;cases b
  ·rw[Y,D];exact F q)
 have d:=VP (x:=A4 (v.get ad) w) E I C (by rw[D];exact K) rfl
 rw[D] at t d
 refine⟨pre,post,C,t.1,t.2,⟨λm G=>?_,λm s b=>?_⟩,d⟩
 ·show(Ar g.LL l (pre++w.sl::post) m).Pairwise _;have z:=J.so m G;rw[X9];refine mh (Rl.xf d G) ?_;by_cases e:m=l
  ·rw[ga e];rw[e,C] at z;rw[e];obtain⟨p1,p2,Z⟩:=kj.1 z;refine kj.2 ⟨p1,mw.2 ⟨λy j=>?_,p2⟩,λx i y j=>?_⟩
   ·cases post with
    |nil=>cases j
    |cons u r=>
     obtain rfl:(v.get ad).sl=u:=o.1;have n:=n o.2.1.1;rcases gf.1 j with rfl|j
     ·exact n
     ·have:=(mw.1 p2).1 y j;rcases n with n|⟨n,_⟩
      ·exact fq (by rcases this with h|⟨h,_⟩<;>omega)
      ·unfold Rl;rw[n];exact this
   ·rcases gf.1 j with rfl|j
    ·left;rcases Q with⟨_,q⟩|⟨q,p,O⟩
     ·rw[q] at i;cases i
     ·have P:=X q;rw[O] at i p1;rcases gy.1 i with i|i
      ·have:=(kj.1 p1).2.2 x i ad.sl Zs;unfold Rl at this;rw[F q] at this;have:=this.resolve_right λh=>by cases h.2
       omega
      ·rw[ft.1 i];exact P
    ·exact Z x i y j
  ·rw[fw e];exact z
 ·show _\/s∈Ar g.LL l (pre++w.sl::post) m;rw[X9];rcases b with b|⟨rfl,rfl⟩
  ·have H:=xi (E.lo m s b).1;rw[(d s).2 m H.1 H.2];refine(J.un m s b).imp id λB=>?_;by_cases e:m=l
   ·rw[ga e];rw[e,C] at B;rcases gy.1 B with q|q
    ·exact g8 _ q
    ·exact jq _ (gq _ q)
   ·rw[fw e];exact B
  ·right;rw[ga rfl];simp
end
def Je(f:Int)(o n:Xe):Prop:=(2<=f/\f<5/\o.mark=false)\/(f=7/\o.nm=0/\n.nm≠0)
def Di(d e:Option Nat)(m:Bool)(n:Int):Prop:=(n=0->d≠none/\(m=true↔e≠none))/\(n≠0->(d=none/\(m=true↔e≠none))\/(d≠none/\e=none/\m=true))
structure Jn(v:Vw)(g:EG):Prop where
 li:Mq 5 v g
 rm:∀l,Zn 5 l->(v.root l).mark=false
 td:∀s,g.Cm 0 s->∀m,0<=m->m+1<(v.cell s 6).nm->(v.cell s (2+m)).mark=true->(v.cell s (2+(m+1))).mark=true
 bu:∀l s,0<=l->g.Cm (l+1) s->g.Cm l s
 ht:∀l s,g.Cm l s->l<(v.cell s 6).nm/\(v.cell s 6).nm<=3
 du:∀s i j,g.du s i=some j->(i=0\/i=1)/\g.own s=.DJ/\g.Cm 0 s
 dn:∀s,g.own s=.DJ->g.Cm 0 s->Di (g.du s 0) (g.du s 1) (v.cell s 2).mark (v.cell s 7).nm
def Nlk(c b:Xe):Prop:=b=c\/(b.mark=true/\b.sl=c.sl/\b.gn=c.gn)
structure WL(a:Nat)(v:Vw)(g:EG)(v':Vw)(g':EG):Prop where
 du:∀s i j,j≠a->g.du s i=some j->g'.du s i=some j
 dn:∀s i,g.Cm 0 s->(v.cell s 2).mark=true->g.du s i=none->g'.du s i=none
 ll:∀l s,s∈g'.LL l->s∈g.LL l\/g.own s=.Dl a\/g.du s 0=some a
 nl:∀s j,j≠a->g.du s 0=some j->g'.Cm 0 s->∀l,0<=l->l<3->¬g.Cm l s->¬g'.Cm l s/\Nlk (v.cell s (2+l)) (v'.cell s (2+l))
def Dm(v:Vw)(l:Int)(L:List Int):Nat:=(L.filter λs=>(v.cell s (2+l)).mark).length
def EY(v:Vw)(g:EG):Nat:=5*(Dm v 0 (g.LL 0)+Dm v 1 (g.LL 1)+Dm v 2 (g.LL 2))
def N7:Qh:=⟨Je,Jn,WL,EY⟩
section
variable{v v':Vw}{g g':EG}{a k:Nat}{s l m f:Int}{w x c n:Xe}{p ad:Yc}{L M pre post:List Int}
def VW:Zn 5 0:=⟨Zd,Zd⟩
def tG:Zn 5 1:=⟨Zd,Zd⟩
def kT:Zn 5 2:=⟨Zd,Zd⟩
def WL.same(b:g'.du=g.du)(e:∀l s,s∈g'.LL l->s∈g.LL l)(o:∀l s,g'.Cm l s->g.Cm l s)(r:∀s l,g'.Cm 0 s->0<=l->l<3->¬g.Cm l s->Nlk (v.cell s (2+l)) (v'.cell s (2+l))):WL a v g v' g':=
 ⟨λs i j _ h=>by rw[b];exact h,λs i _ _ h=>by rw[b];exact h,λl s h=>fq (e l s h),λs j _ _ t l l0 u d=>⟨λq=>d (o l s q),r s l t l0 u d⟩⟩
def Iw:Dm v l (s::L)=Dm v l L+if(v.cell s (2+l)).mark=true then 1 else 0:=by
 unfold Dm;rw[mm];split<;>rfl
def Ix:Dm v l (L++M)=Dm v l L+Dm v l M:=by unfold Dm;rw[oh,iu]
def EB(h:∀s∈L,(v'.cell s (2+l)).mark=(v.cell s (2+l)).mark):Dm v' l L=Dm v l L:=by
 unfold Dm;congr 1;exact nh λs b=>by rw[h s b]
def ZE(b:g'.LL=g.LL)(h:∀l s,0<=l->l<3->(v'.cell s (2+l)).mark=(v.cell s (2+l)).mark):EY v' g'=EY v g:=by
 have e:∀l,0<=l->l<3->Dm v' l (g.LL l)=Dm v l (g.LL l):=λl l0 d=>EB λs _=>h l s l0 d;unfold EY;rw[b,e 0 Zd Zd,e 1 Zd Zd,e 2 Zd Zd]
def sE{t:Int}(d:L.Nodup)(h:∀s,s≠t->v'.cell s (2+l)=v.cell s (2+l)):Dm v' l L<=Dm v l L+1/\(t∉L->Dm v' l L=Dm v l L):=by
 induction L with
 |nil=>exact⟨ie _,λ_=>rfl⟩
 |cons s r i=>
  obtain⟨j,o⟩:=ja.1 d;obtain⟨y,b⟩:=i o;rw[Iw,Iw];by_cases e:s=t
  ·subst e;rw[b j];refine⟨by split<;>split<;>omega,λq=>absurd (g6 ..) q⟩
  ·rw[h s e];exact⟨Zo,λq=>by rw[b λu=>q (gq _ u)]⟩
def Ry:N4 5 N7:=by
 refine⟨λ{v g v' g'} t h b=>⟨⟨λl r=>?_,λl s d=>?_⟩,λl r=>by rw[b.rt];exact h.rm l r,λs d m C y z=>?_,λl s l0 d=>?_,λl s d=>?_,λs i j A=>?_,λs D d=>?_⟩,λ{a v g v' g'} b=>?_,λ{v g v' g'} t b=>?_⟩
 ·rw[b.ll];refine List.Pairwise.imp_of_mem (λ{p q} E u F=>?_) (h.li.so l r);have c:∀s∈g.LL l,v'.cell s=v.cell s:=λs d=>(b.lk l s (t.pb l r s (by rw[b.ll];exact d)).2).2.1;unfold Rl;rw[c p E,c q u];exact F
 ·obtain⟨e,o,_⟩:=b.lk l s d;rw[o,b.ll];exact h.li.un l s e
 ·obtain⟨e,o,_⟩:=b.lk 0 s d;rw[o] at y z ⊢;exact h.td s e m C y z
 ·exact b.lf l s (h.bu l s l0 (b.lk _ s d).1) (t.lo _ s d).2.2.1
 ·obtain⟨e,o,_⟩:=b.lk l s d;rw[o];exact h.ht l s e
 ·rw[b.du] at A;obtain⟨e,o,G⟩:=h.du s i j A;have B:=(b.ow s).2 o;exact⟨e,B,b.lf 0 s G (by rw[B];simp)⟩
 ·obtain⟨e,o,_⟩:=b.lk 0 s d;rw[o,b.du];exact h.dn s ((b.ow s).1 D) e
 ·exact WL.same b.du (λl s h=>by rw[←b.ll];exact h) (λl s h=>(b.lk l s h).1) λs l h _ _ _=>by rw[(b.lk 0 s h).2.1];exact fq rfl
 ·have c:∀l,Zn 5 l->Dm v' l (g'.LL l)=Dm v l (g.LL l):=λl r=>by
   rw[b.ll];exact EB λs d=>by rw[(b.lk l s (t.pb l r s (by rw[b.ll];exact d)).2).2.1]
  show EY v' g'=EY v g;unfold EY;rw[c 0 VW,c 1 tG,c 2 kT]
def Jn.all(h:Jn v g)(b:g.Cm 0 s)(d:(v.cell s 2).mark=true):∀m,0<=m->m<(v.cell s 6).nm->(v.cell s (2+m)).mark=true:=by
 intro m e;obtain⟨n,rfl⟩:=lj e;induction n with
 |zero=>intro _;exact d
 |succ n i=>
  intro j;have:=h.td s b n Zo Zo (i Zo Zo);exact this
def Jn.low(h:Jn v g)(j:0<=l)(b:g.Cm l s):∀m,0<=m->m<=l->g.Cm m s:=by
 obtain⟨n,rfl⟩:=lj j;induction n with
 |zero=>
  intro m d i;obtain rfl:m=0:=by simp at i;omega
  exact b
 |succ n o=>
  intro m d i;by_cases e:m=(n+1:Nat)
  ·rw[e];exact b
  ·exact o Zo (h.bu n s Zo b) m d Zo
def Jn.umd(h:Jn v g)(b:g.Cm 0 s)(q:l<(v.cell s 6).nm)(i:(v.cell s (2+l)).mark=false):∀m,0<=m->m<=l->(v.cell s (2+m)).mark=false:=by
 intro m j r;obtain⟨d,t⟩:∃d:Nat,l=m+d:=⟨(l-m).toNat,Zo⟩;induction d generalizing m with
 |zero=>rw[show m=l by omega];exact i
 |succ d o=>
  have:=o (m+1) Zo Zo Zo;by_cases e:(v.cell s (2+m)).mark=true
  ·have:=h.td s b m j Zo e;simp_all
  ·simpa using e
def Jn.dwn(h:Jn v g)(r:AA 5 v g)(d:Zn 5 l)(e:g.Cm l s)(q:(v.cell s (2+l)).mark=false):∀m,0<=m->m<=l->s∈g.LL m/\(v.cell s (2+m)).mark=false:=by
 intro m i j;have b:=h.low d.1 e;have o:=h.umd (b 0 (hJ 0) d.1) (h.ht l s e).1 q m i j;exact⟨(h.li.un m s (b m i j)).resolve_left (by rw[o];simp),o⟩
def Jn.sfd(h:Jn v g)(b:AA 5 v g)(d:g.A k≠none)(e:Zn 5 l)(j:g.Sf k l s)(o:(v.cell s (2+l)).mark=false):∀m,0<=m->m<=l->g.Sf k m s:=λm i q=>
 b.sl k d m ⟨i,by have:=e.2;omega⟩ s (h.dwn b e (b.Lc d j).1 o m i q).1
def WT(v:Vw)(g:EG)(k:Nat)(l y:Int)(a:Yc):Prop:=DH 5 v g k l a/\(a.sl≠0->(v.cell a.sl 0).nm<y/\∀m,0<=m->m<=l->g.Sf k m a.sl)
def Qg(v:Vw)(g:EG)(k:Nat)(s:Int):Prop:=g.own s=.DJ/\g.Cm 0 s/\(v.cell s 2).mark=true/\((g.du s 0=some k/\g.du s 1=none)\/(g.du s 0=none/\g.du s 1=some k))
def TO(v:Vw)(g:EG)(k:Nat)(b:Int)(T:Option Int):Prop:=∀s,T=some s->Qg v g k s/\(v.cell s 0).nm+1=b
def QL(g:EG)(T:Option Int)(l:Int):Prop:=∀s,T=some s->s∉g.LL l
def T5{b:Int}{T:Option Int}(y:Jn v g)(B:AA 5 v g)(H:g.A k≠none)(e:Zn 5 l)(C:WT v g k l b p)(F:(v.get p).mark=false)(I:(v.get p).sl=0\/b<=(v.cell (v.get p).sl 0).nm)(J:TO v g k b T):QL g T l:=by
 intro s D d;obtain⟨⟨S,K,N,_⟩,U⟩:=J s D;have E:=(B.pb l e s d).2;have h:=y.all K N l e.1 (y.ht l s E).1;obtain⟨pre,post,G,O,i⟩:=y.li.at_ B H e C.1 F;have j:=B.at_ e G;rw[O] at j;have o:=y.li.so l e;rw[G] at o d;obtain⟨p1,p2,V⟩:=kj.1 o;rcases gy.1 d with hi|hi
 ·rcases i with⟨_,i⟩|⟨z,r,i⟩
  ·rw[i] at hi;cases hi
  ·have W:=(C.2 z).1;have t:(v.cell p.sl (2+l)).mark=false:=by
    rcases C.1 with q|⟨_,q,_⟩
    ·rw[q] at z;exact absurd rfl z
    ·rw[←E3 q z];exact F
   rw[i] at hi p1;rcases gy.1 hi with hi|hi
   ·rcases(kj.1 p1).2.2 s hi p.sl Zs with q|⟨_,q⟩
    ·omega
    ·rw[t] at q;cases q
   ·rw[ft.1 hi,t] at h;cases h
 ·cases post with
  |nil=>cases hi
  |cons u r=>
   obtain⟨P,Q,_⟩:=j;have R:=I.resolve_left Q.1;rw[P] at R;rcases gf.1 hi with rfl|hi
   ·omega
   ·rcases(mw.1 p2).1 s hi with q|⟨q,_⟩<;>omega
end
def EG.EL(g:EG)(s i:Int)(o:Option Nat):EG:={g with du:=λt j=>if t=s/\j=i then o else g.du t j}
structure CSt(v:Vw)(g:EG)(v':Vw)(g':EG):Prop where
 own:g'.own=g.own
 du:g'.du=g.du
 Cm:g'.Cm=g.Cm
 AB:v'.AB=v.AB
 sf:g'.Sf=g.Sf
 ak:g'.A=g.A
 ll:∀l s,s∈g'.LL l->s∈g.LL l
 ce:∀s f,v'.cell s f=v.cell s f\/∃l,Zn 5 l/\f=2+l/\g.Cm l s/\(v'.cell s f).mark=(v.cell s f).mark
section
variable{v v':Vw}{g g':EG}{a k:Nat}{s l m f y t:Int}{w x c n:Xe}{p ad:Yc}{L M pre post:List Int}
def AA.EL{st i:Int}{o:Option Nat}(h:AA st v g):AA st v (g.EL s i o):=⟨h.tok,h.ch,h.nd,h.pb,h.lo,h.sf,h.sc,h.sl⟩
def Ev.EL{i:Int}{o:Option Nat}{ce:Int->Xe->Xe->Prop}(h:Ev a ce v g v' g'):Ev a ce v g v' (g'.EL s i o):=⟨h.rt,h.ak,h.sf,h.lk,h.pc,h.pv,h.pe⟩
def DH.rm(ha:DH 5 v g k l p)(h:∀l,Zn 5 l->(v.root l).mark=false)(d:x.mark=false)(m:Int)(b:Zn 5 m):((v.put p x).root m).mark=false:=by
 rcases ha with q|⟨q,_⟩
 ·rw[q,Du];split
  ·exact d
  ·exact h m b
 ·unfold Vw.put;rw[fw q];exact h m b
def DH.oc(ha:DH 5 v g k l p)(b:AA 5 v g)(d:g.A k≠none)(s f:Int):(v.put p x).cell s f=v.cell s f\/(f=2+l/\g.Cm l s/\s=p.sl):=by
 rcases ha with q|⟨_,q,h,_⟩
 ·left;rw[q];rfl
 ·by_cases e:s=p.sl/\f=p.fd
  ·right;exact⟨e.2.trans q,by rw[e.1];exact(b.Lc d h).1,e.1⟩
  ·exact fq (Yv s f e)
def Jn.xf(h:Jn v g)(r:Mq 5 v' g')(H:∀l,Zn 5 l->(v'.root l).mark=false)(C:wC v v')(u:∀s,v'.cell s 6=v.cell s 6/\v'.cell s 7=v.cell s 7)(D:g'.own=g.own)(E:g'.du=g.du)(z:∀l s,g.Cm l s->g'.Cm l s)(d:∀l s,g'.Cm l s->g.Cm l s\/(0<l/\l<(v.cell s 6).nm/\g.Cm (l-1) s)):Jn v' g':=by
 have e:∀s l,0<=l->l<3->(v'.cell s (2+l)).mark=(v.cell s (2+l)).mark:=λs l=>(C s).2 l;have I:∀s,(v'.cell s 2).mark=(v.cell s 2).mark:=λs=>(C s).2 0 Zd Zd;have A:∀s,g'.Cm 0 s->g.Cm 0 s:=λs q=>(d 0 s q).resolve_right λq=>Zo;refine⟨r,H,λs b m F G o=>?_,λl s l0 b=>?_,λl s b=>?_,λs i j q=>?_,λs q b=>?_⟩
 ·have N:=(h.ht 0 s (A s b)).2;rw[(u s).1] at G;rw[e s m F Zo] at o;rw[e s (m+1) Zo Zo];exact h.td s (A s b) m F G o
 ·rcases d _ s b with q|⟨_,_,q⟩
  ·exact z l s (h.bu l s l0 q)
  ·rw[show l+1-1=l by omega] at q;exact z l s q
 ·rw[(u s).1];rcases d _ s b with q|⟨_,q,B⟩
  ·exact h.ht l s q
  ·exact⟨q,(h.ht _ s B).2⟩
 ·rw[E] at q;rw[D];obtain⟨J,B,K⟩:=h.du s i j q;exact⟨J,B,z 0 s K⟩
 ·rw[D] at q;rw[E,I,(u s).2];exact h.dn s q (A s b)
def O2{b:Int}(d:Zn 5 l):∀c y:Xe,c.mark=false->Je (2+l) c y:=λc y h=>fq ⟨by have:=d.1;omega,by have:=d.2;have:l<3:=this;omega,h⟩
def YM(G:AA 5 v g)(C:Jn v g)(H:g.A k≠none)(N:Mu v)(j:Zn 5 l)(ha:DH 5 v g k l p)(O:c.sl≠0)(P:c.mark=false)(Q:v.get p=c)(I:(v.cell c.sl (2+l)).mark=true):
  ∃o,o.Sublist (g.LL l)/\Good 5 N7 k v g (v.put p (A4 c (v.cell c.sl (2+l)))) (g.Ej l o)/\(∀a,Ev a Je v g (v.put p (A4 c (v.cell c.sl (2+l)))) (g.Ej l o))/\(∀a,WL a v g (v.put p (A4 c (v.cell c.sl (2+l)))) (g.Ej l o))/\CSt v g (v.put p (A4 c (v.cell c.sl (2+l)))) (g.Ej l o)/\EY (v.put p (A4 c (v.cell c.sl (2+l)))) (g.Ej l o)+5=EY v g/\wC v (v.put p (A4 c (v.cell c.sl (2+l)))):=by
 subst Q
 obtain⟨pre,post,J,V,u1,u2,u3,u4⟩:=OS (ce:=Je) G C.li H N j ha P O I (O2 (b:=0) j)
 have d:(pre++post).Sublist (g.LL l):=by rw[J];exact oo (oz ..) _
 have r:∀m,(g.Ej l (pre++post)).LL m=if m=l then pre++post else g.LL m:=λm=>X9 _ _ _ _
 have u:∀m s,s∈(g.Ej l (pre++post)).LL m->s∈g.LL m:=λm s h=>by
  rw[r] at h;by_cases e:m=l
  ·rw[ga e] at h;rw[e];exact d.subset h
  ·rw[fw e] at h;exact h
 have D:=λs f=>ha.oc (x:=A4 (v.get p) (v.cell (v.get p).sl (2+l))) G H s f
 have E:=j.2
 have E:l<3:=E
 have K:∀a,WL a v g (v.put p (A4 (v.get p) (v.cell (v.get p).sl (2+l)))) (g.Ej l (pre++post)):=λa=>WL.same rfl u (λ_ _ h=>h) λs m _ _ _ R=>by
  rcases D s (2+m) with q|⟨q,F,_⟩
  ·rw[q];exact fq rfl
  ·exact absurd (by rw[show m=l by omega];exact F) R
 have z:∀s f,5<=f->(v.put p (A4 (v.get p) (v.cell (v.get p).sl (2+l)))).cell s f=v.cell s f:=λs f X=>(D s f).resolve_right λq=>Zo
 refine⟨pre++post,d,⟨u1,C.xf u3 (ha.rm C.rm rfl) u4 (λs=>⟨z s 6 Zd,z s 7 Zd⟩) rfl rfl (λ_ _ h=>h) λ_ _ h=>fq h,u2 k,K k,rfl,λ_ _ h=>h⟩,u2,K,⟨rfl,rfl,rfl,Y0,rfl,rfl,u,λs f=>?_⟩,?_,u4⟩
 ·rcases D s f with q|⟨q,F,Y⟩
  ·exact fq q
  ·refine db ⟨l,j,q,F,?_⟩;rw[q];exact(u4 s).2 l j.1 E
 ·have i:∀m,Zn 5 m->Dm (v.put p (A4 (v.get p) (v.cell (v.get p).sl (2+l)))) m ((g.Ej l (pre++post)).LL m)+(if m=l then 1 else 0)=Dm v m (g.LL m):=λm B=>by
   rw[EB λs _=>(u4 s).2 m B.1 (by have:=B.2;exact this),r];by_cases e:m=l
   ·rw[ga e,ga e,e,J,Ix,Ix,Iw,ga I];omega
   ·rw[fw e,fw e];rfl
  have S:=i 0 VW;have T:=i 1 tG;have U:=i 2 kT;unfold EY;have:l=0\/l=1\/l=2:=by have:=j.1;omega
  rcases this with rfl|rfl|rfl<;>simp only[Int.reduceEq,↓reduceIte,l9] at S T U<;>omega
def oU(H:AA 5 v g)(o:Jn v g)(hA:g.A k≠none)(tb:Mu v)(m0:0<=m)(U:w.sl≠0)(hw:g.Sf k 0 w.sl)(hc:v.cell w.sl (2+m)=n)(T:n.mark=false)(hh:m<(v.cell w.sl 6).nm)(V:∀j,m<j->j<(v.cell w.sl 6).nm->(v.cell w.sl (2+j)).mark=true):
  ∃g',Good 5 N7 k v g (v.put (Xh w (2+m)) (Zc n)) g'/\EY (v.put (Xh w (2+m)) (Zc n)) g'<=EY v g+5/\g'.LL=g.LL/\(m=0->g'.du w.sl 1=some k):=by
 subst hc
 obtain⟨r,aa,_⟩:=H.Lc hA hw
 have ho:=H.lo 0 _ r
 have C:=o.ht 0 _ r
 have m3:m<3:=Zo
 have D:Zn 5 m:=⟨m0,m3⟩
 obtain⟨u1,u2,u3⟩:=VR (ce:=Je) (x:=Zc (v.cell w.sl (2+m))) H o.li U D ⟨rfl,rfl⟩ rfl (FK (by have:=tb.ce w.sl (2+m);omega) (by have:=tb.ce w.sl (2+m);omega)) ho.2.2.2 (O2 (b:=0) D _ _ T)
 have hr:(v.put (Xh w (2+m)) (Zc (v.cell w.sl (2+m)))).root=v.root:=Hz U
 have d:∀s e,(s≠w.sl\/e≠2+m)->(v.put (Xh w (2+m)) (Zc (v.cell w.sl (2+m)))).cell s e=v.cell s e:=λs e h=>Yv s e λq=>by
  rcases h with h|h
  ·exact h q.1
  ·exact h q.2
 have E:(v.put (Xh w (2+m)) (Zc (v.cell w.sl (2+m)))).cell w.sl (2+m)=Zc (v.cell w.sl (2+m)):=Dk U
 generalize ab:v.put (Xh w (2+m)) (Zc (v.cell w.sl (2+m)))=v' at*
 have I:∀s e,(v.cell s e).mark=true->(v'.cell s e).mark=true:=λs e h=>by
  by_cases q:s=w.sl/\e=2+m
  ·rw[q.1,q.2,E];rfl
  ·rw[d s e (by by_cases B:s=w.sl;exact db λF=>q ⟨B,F⟩;exact fq B)];exact h
 have J:EY v' g<=EY v g+5:=by
  have W:∀j,Zn 5 j->Dm v' j (g.LL j)<=Dm v j (g.LL j)+if j=m then 1 else 0:=λj K=>by
   by_cases e:j=m
   ·rw[ga e];exact(sE (t:=w.sl) (H.nd j K) λs h=>d s _ (fq h)).1
   ·rw[fw e];exact Nat.le_of_eq (EB λs _=>by rw[d s (2+j) (db Zo)])
  have a0:=W 0 VW;have a1:=W 1 tG;have a2:=W 2 kT;unfold EY;have:m=0\/m=1\/m=2:=Zo;rcases this with rfl|rfl|rfl<;>simp only[Int.reduceEq,↓reduceIte,l9] at a0 a1 a2<;>omega
 have N:∀s,g.Cm 0 s->∀j,0<=j->j+1<(v'.cell s 6).nm->(v'.cell s (2+j)).mark=true->(v'.cell s (2+(j+1))).mark=true:=λs u j j0 X K=>by
  rw[d s 6 (db Zo)] at X;by_cases q:s=w.sl/\j=m
  ·obtain⟨rfl,rfl⟩:=q;exact I _ _ (V (j+1) Zo X)
  ·rw[d s (2+j) (by by_cases B:s=w.sl;exact db λF=>q ⟨B,Zo⟩;exact fq B)] at K;exact I _ _ (o.td s u j j0 X K)
 have C:∀l s,g.Cm l s->l<(v'.cell s 6).nm/\(v'.cell s 6).nm<=3:=λl s hl=>by rw[d s 6 (db Zo)];exact o.ht l s hl
 have O:∀s l,g.Cm 0 s->0<=l->l<3->¬g.Cm l s->Nlk (v.cell s (2+l)) (v'.cell s (2+l)):=λs l _ _ _ _=>by
  by_cases q:s=w.sl/\2+l=2+m
  ·rw[q.1,q.2,E];exact db ⟨rfl,rfl,rfl⟩
  ·rw[d s (2+l) (by by_cases B:s=w.sl;exact db λF=>q ⟨B,F⟩;exact fq B)];exact fq rfl
 by_cases P:m=0
 ·subst P;have Y:=(o.li.un 0 _ r).resolve_left (by rw[show(2:Int)+0=2 from rfl] at T;rw[show(2:Int)+0=2 from rfl,T];simp);have Q:=(H.pb 0 D _ Y).1;have R:(v.cell w.sl 2).mark=false:=T;have z:=o.dn _ Q r;rw[R] at z;have he:g.du w.sl 1=none:=by
   by_cases q:(v.cell w.sl 7).nm=0
   ·have:=(z.1 q).2;exact jk λq=>absurd (this.2 q) Zs
   ·rcases z.2 q with q|q
    ·have:=q.2;exact jk λq=>absurd (this.2 q) Zs
    ·exact absurd q.2.2 Zs
  have G:∀t j,(g.EL w.sl 1 (some k)).du t j=if t=w.sl/\j=1 then some k else g.du t j:=λ_ _=>rfl;refine⟨g.EL w.sl 1 (some k),⟨u1.EL,⟨⟨u3.so,u3.un⟩,by rw[hr];exact o.rm,N,o.bu,C,λs i j q=>?_,λs q u=>?_⟩,(u2 k).EL,⟨λs i j K q=>?_,λs i B F q3=>?_,λl s h=>fq h,λs j _ _ Z l h2 h3 S=>⟨S,O s l Z h2 h3 S⟩⟩,rfl,λ_ _ h=>h⟩,J,rfl,λ_=>by rw[G,ga ⟨rfl,rfl⟩]⟩
  ·rw[G] at q;by_cases e:s=w.sl/\i=1
   ·rw[e.1];exact⟨db e.2,Q,r⟩
   ·rw[fw e] at q;exact o.du s i j q
  ·rw[G,G,fw Zs];by_cases e:s=w.sl
   ·rw[e,ga ⟨rfl,rfl⟩,d w.sl 7 (db Zd),show(v'.cell w.sl 2).mark=true from(iy Xe.mark E)];refine⟨λq=>⟨(z.1 q).1,by simp⟩,λq=>?_⟩;rcases z.2 q with q|q
    ·exact fq ⟨q.1,by simp⟩
    ·exact absurd q.2.2 Zs
   ·rw[fw λq=>e q.1,d s 2 (fq e),d s 7 (fq e)];exact o.dn s q u
  ·rw[G,fw]
   ·exact q
   ·rintro⟨rfl,rfl⟩;rw[he] at q;cases q
  ·rw[G,fw]
   ·exact q3
   ·rintro⟨rfl,rfl⟩;rw[R] at F;cases F
 ·refine⟨g,⟨u1,⟨u3,by rw[hr];exact o.rm,N,o.bu,C,o.du,λs q u=>?_⟩,u2 k,⟨λ_ _ _ _ h=>h,λ_ _ _ _ h=>h,λ_ _ h=>fq h,λs j _ _ Z l h2 h3 S=>⟨S,O s l Z h2 h3 S⟩⟩,rfl,λ_ _ h=>h⟩,J,rfl,λe=>absurd e P⟩;rw[d s 2 (db Zo),d s 7 (db Zo)];exact o.dn s q u
end
def NC(f:Int)(o _:Xe):Prop:=f=2/\o.mark=false
structure ru(v:Vw)(g:EG):Prop where
 bk:∀b,0<=b->b<8->(v.root (8+b)).sl≠0->(v.root (8+b)).sl∈g.LL 0/\(v.root (8+b)).gn=v.AB (v.root (8+b)).sl/\(v.cell (v.root (8+b)).sl 0).nm=Yw b
 b0:(v.root 8).sl≠0
 ev:∀s,g.Cm 0 s->(v.cell s 0).nm%2=0->(v.cell s 2).mark=false
def Ea(v:Vw)(L:List Int):Nat:=(L.filter λs=>(v.cell s 2).mark).length
def Eh(v:Vw):Nat:=(([1,2,3,4,5,6,7]:List Int).filter λb=>(v.root (8+b)).sl==0).length
def Zp(st:Int):Qh:=⟨NC,λv g=>Mq st v g/\(v.root (Lu st 0)).mark=false/\(st=4->ru v g),λ_ v _ v' _=>st=4->∀b,1<=b->b<8->v'.root (8+b)=v.root (8+b)\/(v'.root (8+b)).sl≠0,λv g=>15*Ea v (g.LL 0)+if st=4 then 229*Eh v else 0⟩
def Mm(st:Int):Prop:=st=3\/st=4
def Hk(st:Int)(v:Vw)(g:EG)(k:Nat)(y:Int)(a:Yc):Prop:=DH st v g k 0 a/\(a.sl≠0->(v.cell a.sl 0).nm<y)
def BZ(st:Int)(v:Vw)(g:EG)(k:Nat)(y:Int)(a:Yc):Prop:=Hk st v g k y a/\(a.sl≠0->st=4/\(v.cell a.sl 0).nm%2=0)/\0<=y
def Cu(v:Vw)(g:EG)(k:Nat)(p:Yc)(c:Xe):Prop:=c.sl≠0/\c.mark=false/\WR v g k 0 c/\IC (v.get p) c
def Nx(v:Vw)(g:EG)(k:Nat)(c n:Xe):Prop:=WR v g k 0 n/\IC (v.cell c.sl 2) n/\(n.mark=true->v.cell c.sl 2=n)
inductive I7(st:Int)(v:Vw)(g:EG)(k:Nat):Xj->Xi->Prop
 |w1 {l s y c n q f} (hs:BZ st v g k y s):I7 st v g k ⟨1,l,s,y,s,c,n,q,f⟩ (Xg s 1)
 |w2 {l s y p c n q f} (hs:BZ st v g k y s) (hp:Hk st v g k y p) (hc:Cu v g k p c):I7 st v g k ⟨2,l,s,y,p,c,n,q,f⟩ (Xg (Xh c 2) 0)
 |w3 {l s y p c n q f} (hs:BZ st v g k y s) (hp:Hk st v g k y p) (hc:Cu v g k p c) (hn:Nx v g k c n):I7 st v g k ⟨3,l,s,y,p,c,n,q,f⟩ (Xm (Xh c 0))
 |w4 {l s y p c n q f} (hs:BZ st v g k y s) (hp:Hk st v g k y p) (hc:Cu v g k p c) (hn:Nx v g k c n) (hq:(v.cell c.sl 0).nm=q):I7 st v g k ⟨4,l,s,y,p,c,n,q,f⟩ (Xm p)
 |w5 {l s y p c n q f} (hs:BZ st v g k y s) (hp:Hk st v g k y p) (hc:Cu v g k p c) (hn:Nx v g k c n) (hm:n.mark=true):I7 st v g k ⟨5,l,s,y,p,c,n,q,f⟩ (Xp p c (A4 c n))
 |w6 {l s y p c n q f} (hs:BZ st v g k y s) (hp:Hk st v g k y p) (hc:mR v g k c) (hn:WR v g k 0 n) (hr:IC (v.get p) (A4 c n)):I7 st v g k ⟨6,l,s,y,p,c,n,q,f⟩ (Xk c)
 |w7 {l s y c n q f} (hs:BZ st v g k y s) (h0:c.sl≠0) (hp:Hk st v g k y (Xh c 2)) (hn:Nx v g k c n) (hm:n.mark=false):I7 st v g k ⟨7,l,s,y,Xh c 2,c,n,q,f⟩ (Yt 2 1)
 |w8 {l s y p c n q f} (hs:BZ st v g k y s) (hp:Hk st v g k y p) (hc:Cu v g k p c):I7 st v g k ⟨8,l,s,y,p,c,n,q,f⟩ (Yt 1 0)
structure ND(st:Int)(v:Vw)(g:EG)(k:Nat)(W:Xj):Prop where
 pv:Hk st v g k W.key W.prev
 wr:WR v g k 0 W.As
 um:W.As.mark=false
 sn:IC (v.get W.prev) W.As
 yes:W.found=true->W.As.sl≠0/\(v.cell W.As.sl 0).nm=W.key/\Nx v g k W.As W.next/\W.next.mark=false
 no:W.found=false->W.As.sl≠0->W.key<(v.cell W.As.sl 0).nm
def Ub(L:List Int)(a:Yc):Nat:=if a.sl=0 then L.length else IY L a.sl-1
def Zt(v:Vw)(g:EG)(W:Xj):Nat:=
 if W.pc=1 then 3*(g.LL 0).length+1
 else if W.pc=2 then(if v.get W.prev=W.As then 3*Ub (g.LL 0) W.prev else 3*(g.LL 0).length+4)
 else if W.pc=3 then(if v.get W.prev=W.As then(if v.cell W.As.sl 2=W.next then 3*Ub (g.LL 0) W.prev-1 else 3*(g.LL 0).length+6) else 3*(g.LL 0).length+3)
 else if W.pc=4 then(if v.get W.prev=W.As then(if v.cell W.As.sl 2=W.next then 3*Ub (g.LL 0) W.prev-2 else 3*(g.LL 0).length+5) else 3*(g.LL 0).length+2)
 else if W.pc=5 then(if v.get W.prev=W.As then 3*Ub (g.LL 0) W.prev-3 else 3*(g.LL 0).length+2)
 else if W.pc=6 then(if v.get W.prev=A4 W.As W.next then 3*Ub (g.LL 0) W.prev else 3*(g.LL 0).length+4)+12
 else if W.pc=7 then(if v.get W.prev=W.next then 3*Ub (g.LL 0) W.prev else 3*(g.LL 0).length+4)
 else if W.pc=8 then(if v.get W.prev=W.As then 3*Ub (g.LL 0) W.prev else 3*(g.LL 0).length+4)
 else 0
section
variable{st:Int}{v v':Vw}{g g':EG}{a k:Nat}{s y f:Int}{w x c n:Xe}{p ad:Yc}{W:Xj}{cl:Xi}
def Pe(h:Mm st):Zn st 0:=⟨hJ 0,by rcases h with rfl|rfl<;>decide⟩
def LH(b:AA st v g)(d:AA st v' g')(e:Ev a NC v g v' g')(h:k≠a)(i:g.A k≠none)(j:g.Sf k 0 s):v'.cell s 0=v.cell s 0:=((e.cell h b d i j).2 0).resolve_right λq=>absurd q.1.1 Zd
def Hk.A3(h:Hk st v g k y ad)(d:AA st v g)(i:AA st v' g')(e:Ev a NC v g v' g')(j:k≠a)(l:g.A k≠none):Hk st v' g' k y ad:=by
 refine⟨h.1.A3 e j d i l,λb=>?_⟩;rcases h.1 with q|⟨_,_,q,_⟩
 ·rw[q] at b;exact absurd rfl b
 ·rw[LH d i e j l q];exact h.2 b
def BZ.A3(h:BZ st v g k y ad)(d:AA st v g)(i:AA st v' g')(e:Ev a NC v g v' g')(j:k≠a)(l:g.A k≠none):BZ st v' g' k y ad:=by
 refine⟨h.1.A3 d i e j l,λb=>⟨(h.2.1 b).1,?_⟩,h.2.2⟩;rcases h.1.1 with q|⟨_,_,q,_⟩
 ·rw[q] at b;exact absurd rfl b
 ·rw[LH d i e j l q];exact(h.2.1 b).2
def Cu.A3(h:Cu v g k ad c)(ha:DH st v g k 0 ad)(b:AA st v g)(d:AA st v' g')(e:Ev a NC v g v' g')(i:k≠a)(j:g.A k≠none):Cu v' g' k ad c:=⟨h.1,h.2.1,h.2.2.1.A3 e i b d j,ha.Fp e i b d j h.2.2.2⟩
def Nx.A3(h:Nx v g k c n)(r:c.sl≠0)(t:WR v g k 0 c)(b:AA st v g)(d:AA st v' g')(e:Ev a NC v g v' g')(i:k≠a)(j:g.A k≠none):Nx v' g' k c n:=by
 have l:=(e.cell i b d j (t r).1).2 2;refine⟨h.1.A3 e i b d j,h.2.1.up (l.imp id λq=>q.2),λm=>?_⟩;have o:=h.2.2 m;rcases l with q|q
 ·rw[q];exact o
 ·have:=q.1.2;rw[o,m] at this;cases this
def mU(b:c.sl≠0)(h:DH st v g k 0 (Xh c 2)):WR v g k 0 c:=λ_=>by
 rcases h with q|⟨_,_,d,e⟩
 ·exact absurd (iy Yc.sl q) b
 ·exact⟨d,e⟩
def I7.A3(h:I7 st v g k W cl)(m:AA st v g)(o:AA st v' g')(e:Ev a NC v g v' g')(j:k≠a)(q:g.A k≠none):I7 st v' g' k W cl:=by
 have r:∀{y s},BZ st v g k y s->BZ st v' g' k y s:=λh=>h.A3 m o e j q;have t:∀{y s},Hk st v g k y s->Hk st v' g' k y s:=λh=>h.A3 m o e j q;have co:∀{y p c},Hk st v g k y p->Cu v g k p c->Cu v' g' k p c:=λb h=>h.A3 b.1 m o e j q;have u:∀{p c n},Cu v g k p c->Nx v g k c n->Nx v' g' k c n:=λd h=>h.A3 d.1 d.2.2.1 m o e j q;cases h with
 |w1 i=>exact .w1 (r i)
 |w2 i b d=>exact .w2 (r i) (t b) (co b d)
 |w3 i b d l=>exact .w3 (r i) (t b) (co b d) (u d l)
 |w4 i b d l C=>exact .w4 (r i) (t b) (co b d) (u d l) (by rw[LH m o e j q (d.2.2.1 d.1).1];exact C)
 |w5 i b d l z=>exact .w5 (r i) (t b) (co b d) (u d l) z
 |w6 i b d l D=>exact .w6 (r i) (t b) (d.A3 e j) (l.A3 e j m o q) (b.1.Fp e j m o q D)
 |w7 i B b l z=>exact .w7 (r i) B (t b) (l.A3 B (mU B b.1) m o e j q) z
 |w8 i b d=>exact .w8 (r i) (t b) (co b d)
def ND.A3(h:ND st v g k W)(b:AA st v g)(d:AA st v' g')(e:Ev a NC v g v' g')(i:k≠a)(j:g.A k≠none):ND st v' g' k W:=by
 refine⟨h.pv.A3 b d e i j,h.wr.A3 e i b d j,h.um,h.pv.1.Fp e i b d j h.sn,λl=>?_,λl o=>?_⟩
 ·obtain⟨m,q,r,t⟩:=h.yes l;exact⟨m,by rw[LH b d e i j (h.wr m).1];exact q,r.A3 m h.wr b d e i j,t⟩
 ·rw[LH b d e i j (h.wr o).1];exact h.no l o
end
section
variable{st:Int}{v v':Vw}{g g':EG}{a k:Nat}{s y f:Int}{w x c n:Xe}{p ad:Yc}{W:Xj}{cl:Xi}
def TJ{pre post:List Int}(b:(pre++post).Nodup)(h:ad.sl=0/\pre=[]\/ad.sl≠0/\∃q,pre=q++[ad.sl]):Ub (pre++post) ad=post.length:=by
 unfold Ub;rcases h with⟨h,rfl⟩|⟨h,q,rfl⟩
 ·rw[ga h];rfl
 ·rw[fw h,show q++[ad.sl]++post=q++ad.sl::post by simp,JV]
  ·omega
  ·intro d;have:=(h9.1 (h9.1 b).1).2.2 _ d ad.sl Zs;exact this rfl
def Hc{b:Int}(d:0<=b)(e:b<8):Yw b%2=0:=by
 obtain rfl|rfl|rfl|rfl|rfl|rfl|rfl|rfl:b=0\/b=1\/b=2\/b=3\/b=4\/b=5\/b=6\/b=7:=Zo;all_goals decide
def VO{L:List Int}(h:wC v v'):Ea v' L=Ea v L:=by
 unfold Ea;congr 1;refine nh λs _=>?_;have:=(h s).2 0 (hJ 0) Zd;exact this
def LB{L M:List Int}:Ea v (L++M)=Ea v L+Ea v M:=by unfold Ea;rw[oh,iu]
def Ko{L:List Int}:Ea v (s::L)=Ea v L+if(v.cell s 2).mark=true then 1 else 0:=by
 unfold Ea;rw[mm];split<;>rfl
def O3(b:c.sl≠0)(h:WR v g k 0 c):DH st v g k 0 (Xh c 2):=db ⟨b,rfl,(h b).1,(h b).2⟩
def ru.AL(h:ru v g)(j:∀b,0<=b->b<8->v'.root (8+b)=v.root (8+b))(r:v'.AB=v.AB)(d:wC v v')(t:∀s∈g.LL 0,(v.cell s 0).nm%2=0->s∈g'.LL 0)(u:∀s,g'.Cm 0 s->g.Cm 0 s\/(v.cell s 2).mark=false):ru v' g':=by
 refine⟨λb e i l=>?_,by have:=j 0 Zd Zd;rw[show(8:Int)=8+0 from rfl,this];exact h.b0,λs z m=>?_⟩
 ·rw[j b e i] at l ⊢;obtain⟨A,B,o⟩:=h.bk b e i l;exact⟨t _ A (by rw[o];exact Hc e i),by rw[r];exact B,by rw[(d _).1];exact o⟩
 ·rw[(d s).1] at m;have:=(d s).2 0 (hJ 0) Zd;exact this.trans ((u s z).elim (λq=>h.ev s q m) id)
def OY(B:Mm st)(u:AA st v g)(C:(Zp st).si v g)(N:g.A k≠none)(Q:Mu v)(ha:DH st v g k 0 p)(G:c.sl≠0)(R:c.mark=false)(H:v.get p=c)(E:(v.cell c.sl 2).mark=true):
  ∃g',Good st (Zp st) k v g (v.put p (A4 c (v.cell c.sl 2))) g'/\(∀a,Ev a NC v g (v.put p (A4 c (v.cell c.sl 2))) g')/\mR (v.put p (A4 c (v.cell c.sl 2))) g' k c/\(Zp st).Cd (v.put p (A4 c (v.cell c.sl 2))) g'+15=(Zp st).Cd v g/\Ub (g'.LL 0) p+1=Ub (g.LL 0) p/\(g'.LL 0).length+1=(g.LL 0).length/\(st=4->(v.put p (A4 c (v.cell c.sl 2))).root=v.root):=by
 have z:=Pe B
 obtain⟨S,T,D⟩:=C
 subst H
 obtain⟨d,post,m,O,u1,u2,u3,u4⟩:=OS (ce:=NC) u S N Q z ha R G E λc y h=>⟨rfl,h⟩
 simp only[show(2:Int)+0=2 from rfl] at u1 u2 u3 u4
 have j:=u.nd 0 z
 rw[m] at j
 have i:(g.Ej 0 (d++post)).LL 0=d++post:=cP
 have o:=(u.pb 0 z (v.get p).sl (by rw[m];simp)).1
 have I:(v.get p).sl∉d++post:=λq=>by
  obtain⟨n1,n2,V⟩:=h9.1 j;rcases gy.1 q with q|q
  ·exact V _ q _ (g6 ..) rfl
  ·exact(ja.1 n2).1 q
 have X:=u1.Cv (a:=k) (ce:=NC) o λl t=>by
  have:l=0:=by have:=t.1;have:=t.2;rcases B with rfl|rfl<;>(have:l<1:=t.2;omega)
  subst this;rw[i];exact I
 have P:∀r,r≠Lu st 0->(v.put p (A4 (v.get p) (v.cell (v.get p).sl 2))).root r=v.root r:=λr P=>by
  rcases ha with q|⟨q,_⟩
  ·rw[q];exact(Du r).trans (fw P)
  ·unfold Vw.put;rw[fw q]
 have F:st=4->p.sl≠0:=λe q=>by
  have J:p=root 8:=by rcases ha with K|⟨K,_⟩;rw[K,e];rfl;exact absurd q K
  have Y:(v.cell (v.root 8).sl 0).nm=Yw 0:=((D e).bk 0 Zd Zd (D e).b0).2.2;have:=(D e).ev (v.get p).sl (u.pb 0 z _ (by rw[m];simp)).2 (by rw[J];show(v.cell (v.root 8).sl 0).nm%2=0;rw[Y];decide);rw[E] at this;cases this
 have L:st=4->∀b,0<=b->b<8->(v.put p (A4 (v.get p) (v.cell (v.get p).sl 2))).root (8+b)=v.root (8+b):=λe b _ _=>by unfold Vw.put;rw[fw (F e)]
 refine⟨_,⟨X.1,⟨⟨u3.so,u3.un⟩,?_,λe=>?_⟩,(u2 k).Cv o,λe b _ _=>fq (by unfold Vw.put;rw[fw (F e)]),rfl,λ_ _ h=>h⟩,λa=>(u2 a).Cv o,⟨G,(X9 _ _ _ _).trans (ga rfl),?_⟩,?_,?_,?_,λe=>by unfold Vw.put;rw[fw (F e)]⟩
 ·rcases ha with q|⟨q,_⟩
  ·rw[q];exact(iy Xe.mark ((Du _).trans (ga rfl)))
  ·unfold Vw.put;rw[fw q];exact T
 ·refine(D e).AL (L e) Y0 u4 (λs C H=>?_) λ_ h=>fq h;show s∈(g.Ej 0 (d++post)).LL 0;rw[i];have M:s≠(v.get p).sl:=λq=>by
   have:=(D e).ev s (u.pb 0 z s C).2 H;rw[q,E] at this;cases this
  rw[m] at C;rcases gy.1 C with q|q
  ·exact g8 _ q
  ·exact jq _ ((gf.1 q).resolve_left M)
 ·rw[Y0];exact(ha.word u N z G).2
 ·show 15*Ea _ ((g.Ej 0 (d++post)).LL 0)+(if st=4 then 229*Eh _ else 0)+15=15*Ea v (g.LL 0)+if st=4 then 229*Eh v else 0;rw[i,VO u4,m,LB,LB,Ko,ga E];have:st=4->Eh (v.put p (A4 (v.get p) (v.cell (v.get p).sl 2)))=Eh v:=λe=>by unfold Eh Vw.put;rw[fw (F e)]
  by_cases e:st=4
  ·rw[ga e,ga e,this e];omega
  ·rw[fw e,fw e];omega
 ·show Ub ((g.Ej 0 (d++post)).LL 0) p+1=_;rw[i,m,TJ (j.sublist (oo (oz ..) _)) O,TJ j O];simp
 ·show((g.Ej 0 (d++post)).LL 0).length+1=_;rw[i,m];simp;omega
def NY(h:Mm st)(i:AA st v g)(q:Mq st v g)(t:g.A k≠none)(ha:DH st v g k 0 p)(j:Cu v g k p c)(m:v.get p=c):Ub (g.LL 0) p=Ub (g.LL 0) (Xh c 2)+1/\Ub (g.LL 0) p<=(g.LL 0).length:=by
 have l:=Pe h;obtain⟨b,post,o,z,B⟩:=q.at_ i t l ha (by rw[m];exact j.2.1);have e:=i.at_ l o;rw[z,m] at e;have d:=i.nd 0 l;rw[o] at d ⊢;cases post with
 |nil=>exact absurd e j.1
 |cons u r=>
  obtain rfl:c.sl=u:=e.1;rw[TJ d B];have:Ub (b++c.sl::r) (Xh c 2)=r.length:=by
   rw[show b++c.sl::r=(b++[c.sl])++r by simp] at d ⊢;exact TJ d (db ⟨j.1,b,rfl⟩)
  rw[this];simp
end
section
variable{st:Int}{v v':Vw}{g g':EG}{a k:Nat}{s y f:Int}{w x c n:Xe}{p ad:Yc}{W:Xj}{cl:Xi}{S:Xj->Xz}{K:Xj × Xi × Bool->Xz × Xi}{Q:Vw->EG->Xz->Xi->Prop}{I:Vw->EG->Prop}
def oY(b:(Zp st).si v g)(h:BZ st v g k y ad)(i:AA st v g)(j:g.A k≠none):(v.get ad).mark=false:=by
 rcases h.1.1 with q|⟨d,l,m,r⟩
 ·rw[q];exact b.2.1
 ·obtain⟨e,o⟩:=h.2.1 d;rw[E3 l d];exact(b.2.2 e).ev _ (i.Lc j m).1 o
def mS(st:Int)(k:Nat)(v:Vw)(g:EG)(v':Vw)(g':EG):Prop:=Good st (Zp st) k v g v' g'\/(v'=v/\g'.LL=g.LL)
def Jq(P:Mm st)(z:AA st v g)(hs:(Zp st).si v g)(C:g.A k≠none)(tb:Mu v)(U:∀(W:Xj) (x:Xr),(S W).next x=K (W.step x))(hK:∀(W:Xj) (c:Xi),c.kind≠12->K (W,c,true)=(S W,c))(R:I v g)(iE:∀v' g',AA st v' g'->Ev (k+1) NC v g v' g'->I v' g')(iN:∀s d,g.own s=.Cv k->I v (g.noted s k d))
  (go:∀v' g' D c',D.key=W.key->D.start=W.start->I7 st v' g' k D c'->I v' g'->(g'.LL 0).length<=(g.LL 0).length->(st=4->v'.root=v.root)->mS st k v g v' g'->Zt v' g' D+wt cl+(Zp st).Cd v' g'<=Zt v g W+(Zp st).Cd v g->Q v' g' (S D) c')
  (fin:∀g' D,D.key=W.key->D.start=W.start->ND st v g' k D->I v g'->(Zp st).Cd v g'=(Zp st).Cd v g->g'.LL=g.LL->(if v.get D.prev=D.As/\(D.found=true->v.cell D.As.sl 2=D.next) then 0 else 3*(g.LL 0).length+4)+wt cl<=Zt v g W->Q v g' (K (D,Xi.zero,false)).1 (K (D,Xi.zero,false)).2)
  (h:I7 st v g k W cl):Mv st (Zp st) k Q v g (S W) cl:=by
 have hl:=Pe P
 have G:=λW a i=>hK W (Xg a i) (by show(6:Int)≠12;decide)
 have H:=λW a=>hK W (Xm a) (by show(3:Int)≠12;decide)
 have J:=λW i j=>hK W (Yt i j) (by show(7:Int)≠12;decide)
 have L:=λW a o n=>hK W (Xp a o n) (by show(5:Int)≠12;decide)
 have M:=λW a=>hK W (Xk a) (by show(10:Int)≠12;decide)
 cases h with
 |@w1 l s y c n q f r=>
  have hu:=oY hs r z C
  refine .pr (r.1.1.mP z C hl) ?_
  rw[U]
  by_cases E:(v.get s).sl=0
  ·simp[Xj.step,Xj.again,Xj.behind,Xj.on,Xj.finish,G,H,J,L,M,hu,E];refine fin g _ rfl rfl ⟨r.1,λq=>absurd E q,hu,.refl,λq=>(by cases q),λ_ q=>absurd E q⟩ R rfl rfl ?_;(simp[Zt,wt,Yt,Xm,Xp,Xg,Xk,E]<;>exact Zq)
  ·have b:Cu v g k s (v.get s):=⟨E,hu,r.1.1.word z C hl,.refl⟩;have ha:=NY P z hs.1 C r.1.1 b rfl;simp[Xj.step,Xj.again,Xj.behind,Xj.on,Xj.finish,G,H,J,L,M,hu,E];refine go _ _ _ _ rfl rfl (.w2 r r.1 b) R (Nat.le_refl _) (λ_=>rfl) (db ⟨rfl,rfl⟩) ?_;(simp[Zt,wt,Yt,Xm,Xp,Xg,Xk,E]<;>exact Zq)
 |@w2 l s y p c n q f r t b=>
  refine .pr (b.2.2.1.AJ b.1 z C Zd Zd) ?_
  rw[U,Y3 b.1]
  have hw:=(O3 b.1 b.2.2.1).word z C hl
  rw[Y3 b.1] at hw
  simp[Xj.step,Xj.again,Xj.behind,Xj.on,Xj.finish,G,H,J,L,M,]
  refine go _ _ _ _ rfl rfl (.w3 r t b ⟨hw,.refl,λ_=>rfl⟩) R (Nat.le_refl _) (λ_=>rfl) (db ⟨rfl,rfl⟩) ?_
  by_cases u:v.get p=c
  ·have ha:=NY P z hs.1 C t.1 b u;(simp[Zt,wt,Yt,Xm,Xp,Xg,Xk,u]<;>exact Zq)
  ·(simp[Zt,wt,Yt,Xm,Xp,Xg,Xk,u]<;>exact Zq)
 |@w3 l s y p c n q f r t b F=>
  refine .ld (b.2.2.1.AJ b.1 z C Zd Zd) ?_
  rw[U,Y3 b.1]
  simp[Xj.step,Xj.again,Xj.behind,Xj.on,Xj.finish,G,H,J,L,M,]
  refine go _ _ _ _ rfl rfl (.w4 r t b F rfl) R (Nat.le_refl _) (λ_=>rfl) (db ⟨rfl,rfl⟩) ?_
  by_cases u:v.get p=c
  ·have ha:=NY P z hs.1 C t.1 b u;(simp[Zt,wt,Yt,Xm,Xp,Xg,Xk,u]<;>exact Zq)
  ·(simp[Zt,wt,Yt,Xm,Xp,Xg,Xk,u]<;>exact Zq)
 |@w4 l s y p c n q f r t b F T=>
  refine .ld (t.1.mP z C hl) ?_
  rw[U]
  by_cases B:B7 (v.get p) c=true
  ·have u:=b.2.2.2.same B;have ha:=NY P z hs.1 C t.1 b u;have N:v.get (Xh c 2)=v.cell c.sl 2:=Y3 b.1;by_cases O:n.mark=true
   ·have m:=F.2.2 O;simp[Xj.step,Xj.again,Xj.behind,Xj.on,Xj.finish,G,H,J,L,M,B,O];refine go _ _ _ _ rfl rfl (.w5 r t b F O) R (Nat.le_refl _) (λ_=>rfl) (db ⟨rfl,rfl⟩) ?_;(simp[Zt,wt,Yt,Xm,Xp,Xg,Xk,u,m]<;>exact Zq)
   ·have O:n.mark=false:=by simpa using O
    by_cases hk:y<=q
    ·simp[Xj.step,Xj.again,Xj.behind,Xj.on,Xj.finish,G,H,J,L,M,B,O,hk];refine fin g _ rfl rfl ⟨t,b.2.2.1,b.2.1,b.2.2.2,λX=>⟨b.1,?_,F,O⟩,λX _=>?_⟩ R rfl rfl ?_
     ·have X:(q==y)=true:=X;show(v.cell c.sl 0).nm=y;rw[T];simpa using X
     ·have X:(q==y)=false:=X;have:q≠y:=by simpa using X
      show y<(v.cell c.sl 0).nm;rw[T];omega
     ·by_cases m:v.cell c.sl 2=n
      ·(simp[Zt,wt,Yt,Xm,Xp,Xg,Xk,u,m]<;>exact Zq)
      ·(simp[Zt,wt,Yt,Xm,Xp,Xg,Xk,u,m]<;>exact Zq)
    ·simp[Xj.step,Xj.again,Xj.behind,Xj.on,Xj.finish,G,H,J,L,M,B,O,hk];refine go _ _ _ _ rfl rfl (.w7 r b.1 ⟨O3 b.1 b.2.2.1,λ_=>?_⟩ F O) R (Nat.le_refl _) (λ_=>rfl) (db ⟨rfl,rfl⟩) ?_
     ·show(v.cell c.sl 0).nm<y;rw[T];omega
     ·by_cases m:v.cell c.sl 2=n
      ·(simp[Zt,wt,Yt,Xm,Xp,Xg,Xk,u,m,N]<;>exact Zq)
      ·(simp[Zt,wt,Yt,Xm,Xp,Xg,Xk,u,m,N]<;>exact Zq)
  ·have u:v.get p≠c:=λe=>B (by rw[e];exact GF _);simp[Xj.step,Xj.again,Xj.behind,Xj.on,Xj.finish,G,H,J,L,M,B];refine go _ _ _ _ rfl rfl (.w1 r) R (Nat.le_refl _) (λ_=>rfl) (db ⟨rfl,rfl⟩) ?_;(simp[Zt,wt,Yt,Xm,Xp,Xg,Xk,u]<;>exact Zq)
 |@w5 l s y p c n q f r t b F O=>
  refine .sw (t.1.mP z C hl) (λB=>?_) λu=>?_
  ·have u:=b.2.2.2.same B;have m:=F.2.2 O;obtain⟨g',Y,k2,k3,k4,k5,k6,k7⟩:=OY (k:=k) P z hs C tb t.1 b.1 b.2.1 u (by rw[m];exact O);rw[m] at Y k2 k3 k4 k7;have Z:k≠k+1:=Zo;have e1:=k2 (k+1);have aa:(v.put p (A4 c n)).get p=A4 c n:=by rw[DA,ga ⟨rfl,rfl⟩]
   refine⟨_,Y,?_⟩;rw[U];simp[Xj.step,Xj.again,Xj.behind,Xj.on,Xj.finish,G,H,J,L,M,];refine go _ _ _ _ rfl rfl (.w6 (r.A3 z Y.eg e1 Z C) (t.A3 z Y.eg e1 Z C) k3 (F.1.A3 e1 Z z Y.eg C) (by rw[aa];exact .refl)) (iE _ _ Y.eg e1) Zo k7 (fq Y) ?_;(simp[Zt,wt,Yt,Xm,Xp,Xg,Xk,u,aa]<;>exact Zq)
  ·rw[U];simp[Xj.step,Xj.again,Xj.behind,Xj.on,Xj.finish,G,H,J,L,M,];refine go _ _ _ _ rfl rfl (.w1 r) R (Nat.le_refl _) (λ_=>rfl) (db ⟨rfl,rfl⟩) ?_;(simp[Zt,wt,Yt,Xm,Xp,Xg,Xk,u]<;>exact Zq)
 |@w6 l s y p c n q f r t b F hr=>
  refine .rt (b.rf z) b.2.1 λd=>?_
  have ab:(Zp st).Cd v (g.noted c.sl k d)=(Zp st).Cd v g:=rfl
  have hi:=iN c.sl d b.2.1
  rw[U]
  by_cases E:n.sl=0
  ·simp[Xj.step,Xj.again,Xj.behind,Xj.on,Xj.finish,G,H,J,L,M,E,A4];refine fin _ _ rfl rfl ⟨t,λq=>absurd rfl q,rfl,by rw[show(⟨0,n.gn,wr (c.tg+1),0,false⟩:Xe)=A4 c n by unfold A4;rw[E]];exact hr,λq=>(by cases q),λ_ q=>absurd rfl q⟩ hi ab rfl ?_;by_cases T:v.get p=A4 c n<;>unfold A4 at T<;>rw[E] at T<;>(simp[Zt,wt,Yt,Xm,Xp,Xg,Xk,A4,E,T]<;>exact Zq)
  ·simp[Xj.step,Xj.again,Xj.behind,Xj.on,Xj.finish,G,H,J,L,M,E,A4];refine go _ _ _ _ rfl rfl (.w8 r t ⟨E,rfl,F,hr⟩) hi (Nat.le_refl _) (λ_=>rfl) (db ⟨rfl,rfl⟩) ?_;rw[ab];have ae:(g.noted c.sl k d).LL=g.LL:=rfl;by_cases T:v.get p=A4 c n<;>unfold A4 at T<;>(simp[Zt,wt,Yt,Xm,Xp,Xg,Xk,A4,ae,T]<;>exact Zq)
 |@w7 l s y c n q f r E t F O=>
  have N:v.get (Xh c 2)=v.cell c.sl 2:=Y3 E
  refine .hold rfl Zd ?_
  rw[U]
  by_cases V:n.sl=0
  ·simp[Xj.step,Xj.again,Xj.behind,Xj.on,Xj.finish,G,H,J,L,M,V];refine fin g _ rfl rfl ⟨t,F.1,O,by show IC (v.get (Xh c 2)) n;rw[N];exact F.2.1,λq=>(by cases q),λ_ q=>absurd V q⟩ R rfl rfl ?_;by_cases m:v.cell c.sl 2=n
   ·(simp[Zt,wt,Yt,Xm,Xp,Xg,Xk,N,m]<;>exact Zq)
   ·(simp[Zt,wt,Yt,Xm,Xp,Xg,Xk,N,m]<;>exact Zq)
  ·simp[Xj.step,Xj.again,Xj.behind,Xj.on,Xj.finish,G,H,J,L,M,V];refine go _ _ _ _ rfl rfl (.w8 r t ⟨V,O,F.1,by rw[N];exact F.2.1⟩) R (Nat.le_refl _) (λ_=>rfl) (db ⟨rfl,rfl⟩) ?_;(simp[Zt,wt,Yt,Xm,Xp,Xg,Xk,]<;>exact Zq)
 |@w8 l s y p c n q f r t b=>
  refine .hold rfl Zd ?_
  rw[U]
  simp[Xj.step,Xj.again,Xj.behind,Xj.on,Xj.finish,G,H,J,L,M,]
  refine go _ _ _ _ rfl rfl (.w2 r t b) R (Nat.le_refl _) (λ_=>rfl) (db ⟨rfl,rfl⟩) ?_
  (simp[Zt,wt,Yt,Xm,Xp,Xg,Xk,]<;>exact Zq)
end
