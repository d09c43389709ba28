/- Core: FcH. -/
import Derived.Test.YtaipogljokblkaaGreatDoorP42
set_option linter.all false
set_option maxRecDepth 100000
set_option maxHeartbeats 8000000
namespace Go.Proofs.YtaipogljokblkaaGreatDoor
open Go Go.RowKit
section
variable{v v':Vw}{g g':EG}{a k:Nat}{s l m f y t b lv:Int}{w x c n nd:Xe}{p ad:Yc}{T:Option Int}{C:Xb}{cl:Xi}{J:Xa}{o:AV}
def mT{c w:Xe}(h:B7 c w=true):c.nm=w.nm/\c.mark=w.mark:=by
 unfold B7 at h;simp only[gm,jn] at h;exact⟨h.2.2.1,h.2.2.2⟩
def Uy(r:Jn v g)(i:ud v g k nd o b)(u:(v.cell nd.sl 7).nm≠0):Qg v g k nd.sl:=by
 obtain⟨_,e,h⟩:=r.du _ _ _ i.du;have d:=i.du;refine⟨e,h,?_⟩;rcases(r.dn _ e h).2 u with⟨q,j⟩|⟨q,j,z⟩
 ·rcases i.b2 with rfl|rfl
  ·rw[show(1:Int)-1=0 from rfl,q] at d;cases d
  ·have d:g.du nd.sl 1=some k:=d;exact⟨j.2 (by rw[d];simp),db ⟨q,d⟩⟩
 ·rcases i.b2 with rfl|rfl
  ·have d:g.du nd.sl 0=some k:=d;exact⟨z,fq ⟨d,j⟩⟩
  ·rw[show(2:Int)-1=1 from rfl,j] at d;cases d
def xQ(G:AA 5 v g)(L:Jn v g)(hA:g.A k≠none)(tb:Mu v)(h:DX v g k J cl):Mv 5 N7 k (TQ v g k J cl) v g (.N8 J) cl:=by
 have hL:=Ry;have bq:Jn v g:=L;have tn:∀b,TO v g k b none:=λb s q=>by cases q
 cases h with
 |d h=>exact .done h
 |@i1 u o C nd lv b x i=>
  refine .al (λt d t0 hn=>?_) ?_
  ·have hk:=Good.take (k:=k) hL G L hn d;refine⟨_,hk.1,?_⟩;simp[Xa.next,Xa.insert,Xa.raise,Xa.Ak,Xa.finish,Xa.get,Xa.An,Xa.part,Xa.link,Xa.look,Xa.Cg,Xa.BP,Xa.AK,Xa.Bt,Xa.Ca,Xa.fin,Xa.done,Yg,Xb.new,Xb.zero,Xb.step,Xb.again,Xb.enter,Xz.next,i.1];refine⟨_,rfl,.i2 i (J4 t0) ?_,?_,?_⟩
   ·have B:∀f,(v.take t d).cell t f=.zero:=λf=>by show Ar v.cell t (λ_=>Xe.zero) t f=_;rw[AP]
    exact⟨by rw[B];rfl,by rw[B];rfl,by rw[B];rfl,λm _ _=>by rw[B];rfl⟩
   ·simp[C0,i.1];exact Nat.le_refl _
   ·have:=hk.2;have:EY (v.take t d) (g.GR t (.Dl k))=EY v g:=this;have ab:(g.GR t (.Dl k)).LL=g.LL:=rfl;(simp[Y9,C0,Bq,GA,wt,Xu,Xm,Xq,Xp,Xg,Xk,Yi,X3,i.1,ab]<;>exact Zq)
  ·simp[Xa.next,Xa.insert,Xa.raise,Xa.Ak,Xa.finish,Xa.get,Xa.An,Xa.part,Xa.link,Xa.look,Xa.Cg,Xa.BP,Xa.AK,Xa.Bt,Xa.Ca,Xa.fin,Xa.done,Yg,Xb.new,Xb.zero,Xb.step,Xb.again,Xb.enter,Xz.next,i.1];exact⟨_,rfl,.d rfl,by simp[C0],by(simp[Y9,C0,Bq,GA,wt,Xu,Xm,Xq,Xp,Xg,Xk,Yi,X3,i.1]<;>exact Zq)⟩
 |@i2 u o C nd lv b x i E B=>
  have hk:=Good.store (f:=0) (x:=Y6 o.key) hL G L E;have hp:EY (v.put (Xh nd 0) (Y6 o.key)) g=EY v g:=hk.2;have U:∀f,f≠0->(v.put (Xh nd 0) (Y6 o.key)).cell nd.sl f=v.cell nd.sl f:=λf K=>Yv _ _ λq=>K q.2;refine .so (Bi (E.rf G) Zd Zd) hk.1 ?_;simp[Xa.next,Xa.insert,Xa.raise,Xa.Ak,Xa.finish,Xa.get,Xa.An,Xa.part,Xa.link,Xa.look,Xa.Cg,Xa.BP,Xa.AK,Xa.Bt,Xa.Ca,Xa.fin,Xa.done,Yg,Xb.new,Xb.zero,Xb.step,Xb.again,Xb.enter,Xz.next,i.1];refine⟨_,rfl,.i3 i E.put ⟨by rw[Dk E.1];rfl,by rw[U 6 Zd];exact B.ht,by rw[U 7 Zd];exact B.dn,λm m0 m3=>by rw[U _ Zo];exact B.um m m0 m3⟩,by simp[C0,i.1],by(simp[Y9,C0,Bq,GA,wt,Xu,Xm,Xq,Xp,Xg,Xk,Yi,X3,i.1]<;>exact Zq)⟩
 |@i3 u o C nd lv b x i E B=>
  have hk:=Good.store (f:=1) (x:=Y6 o.val) hL G L E;have hp:EY (v.put (Xh nd 1) (Y6 o.val)) g=EY v g:=hk.2;have U:∀f,f≠1->(v.put (Xh nd 1) (Y6 o.val)).cell nd.sl f=v.cell nd.sl f:=λf K=>Yv _ _ λq=>K q.2;refine .so (Bi (E.rf G) Zd Zd) hk.1 ?_;simp[Xa.next,Xa.insert,Xa.raise,Xa.Ak,Xa.finish,Xa.get,Xa.An,Xa.part,Xa.link,Xa.look,Xa.Cg,Xa.BP,Xa.AK,Xa.Bt,Xa.Ca,Xa.fin,Xa.done,Yg,Xb.new,Xb.zero,Xb.step,Xb.again,Xb.enter,Xz.next,i.1];refine⟨_,rfl,.i4 i E.put ⟨by rw[U 0 Zd];exact B.ky,by rw[U 6 Zd];exact B.ht,by rw[U 7 Zd];exact B.dn,λm m0 m3=>by rw[U _ Zo];exact B.um m m0 m3⟩,by simp[C0,i.1],by(simp[Y9,C0,Bq,GA,wt,Xu,Xm,Xq,Xp,Xg,Xk,Yi,X3,i.1]<;>exact Zq)⟩
 |@i4 u o C nd lv b x i E B=>
  have hk:=Good.store (f:=6) (x:=Y6 o.Al) hL G L E;have hp:EY (v.put (Xh nd 6) (Y6 o.Al)) g=EY v g:=hk.2;have U:∀f,f≠6->(v.put (Xh nd 6) (Y6 o.Al)).cell nd.sl f=v.cell nd.sl f:=λf K=>Yv _ _ λq=>K q.2;have be:Jn (v.put (Xh nd 6) (Y6 o.Al)) g:=hk.1.si;obtain⟨a1,a2⟩:=Fo (k:=k) (b:=o.key) (T:=none) (la:=.zero) (q:=0) (c:=Zv.zero.As) (n:=.zero) (s0:=.zero) (s1:=.zero) (s2:=.zero) be λs q=>by cases q
  refine .so (Bi (E.rf G) Zd Zd) hk.1 ?_;simp[Xa.next,Xa.insert,Xa.raise,Xa.Ak,Xa.finish,Xa.get,Xa.An,Xa.part,Xa.link,Xa.look,Xa.Cg,Xa.BP,Xa.AK,Xa.Bt,Xa.Ca,Xa.fin,Xa.done,Yg,Xb.new,Xb.zero,Xb.step,Xb.again,Xb.enter,Xz.next,i.1];refine⟨_,rfl,.i5 i E.put ⟨by rw[U 0 Zd];exact B.ky,by rw[Dk E.1];rfl,by rw[U 7 Zd];exact B.dn,λm m0 m3=>by rw[U _ Zo];exact B.um m m0 m3⟩ a1 rfl,by simp[C0,i.1],by(simp[Y9,C0,Bq,GA,wt,Xu,Xm,Xq,Xp,Xg,Xk,Yi,X3,i.1,a2]<;>exact Zq)⟩
 |@i5 u o nd lv b x C c i E B D hb=>
  refine Kf (J:=⟨5,u,o,none,nd,lv,b,x⟩) (f:=λJ=>bif !((Bh J.Ab).sl==0) then({J with pc:=6},Yi J.node) else J.Cg 0) (R:=λn=>3*n+52) (I:=λv g=>Ew v g k nd/\eP v nd.sl o.key o.Al) G L hA tb (λC x'=>?_) (λv g C c=>?_) (λm n h=>by show 3*m+52<=3*n+52;omega) ⟨E,B⟩ (λv' g' e _=>?_) (λv' g' F c' e H r=>.i5 i r.1 r.2 H (e.trans hb)) (λv' g' F K r=>?_) D
  ·exact(by simp[Xa.next,Xa.insert,i.1]:Xa.next ⟨5,u,o,some C,nd,lv,b,x⟩ x'=Xa.BP ⟨5,u,o,some C,nd,lv,b,x⟩ x').trans rfl
  ·simp[Y9,Bq,i.1];omega
  ·have bf:k≠k+1:=Zo;have:=E.A3 e.e bf;exact⟨this.1,B.same this.2⟩
  ·have br:=K.bd.trans hb;have bs:=K;rw[hb] at K;by_cases ap:F.found.sl=0
   ·have hn:F.s0.As.sl≠0->o.key<(v'.cell F.s0.As.sl 0).nm:=λh0=>by
     rcases K.fd with q|q
     ·exact q.2 h0
     ·rw[q.1] at ap;exact absurd ap q.2.1
    have ht:=i.2.1;refine⟨⟨7,u,o,some F,nd,0,b,x⟩,Xq (Xh nd (2+0)) (Yx (Za (some F) 0).As),?_,.i7 i r.1 r.2 ⟨K.p0,K.p1,K.p2⟩ hn ⟨hJ 0,Zo⟩ (λq=>absurd q Zd),by simp[C0,i.1],?_⟩
    ·simp[Bh,ap,Xa.Cg,show(0:Int)<o.Al by omega];rfl
    ·(simp[Y9,C0,Bq,GA,wt,Xu,Xm,Xq,Xp,Xg,Xk,Yi,X3,i.1]<;>exact Zq)
   ·have bg:(F.found.sl==0)=false:=by simpa using ap
    refine⟨⟨6,u,o,some F,nd,lv,b,x⟩,Yi nd,by simp[Bh,bg],.i6 i r.1,by simp[C0,i.1],?_⟩;(simp[Y9,C0,Bq,GA,wt,Xu,Xm,Xq,Xp,Xg,Xk,Yi,X3,i.1]<;>exact Zq)
 |@i6 u o C nd lv b x i E=>
  have hk:=Good.drop hL G L E;have hp:EY (v.drop nd.sl) (g.A7 nd.sl)=EY v g:=hk.2;have ab:(g.A7 nd.sl).LL=g.LL:=rfl;refine .dr (E.rf G) hk.1 ?_;simp[Xa.next,Xa.insert,Xa.raise,Xa.Ak,Xa.finish,Xa.get,Xa.An,Xa.part,Xa.link,Xa.look,Xa.Cg,Xa.BP,Xa.AK,Xa.Bt,Xa.Ca,Xa.fin,Xa.done,Yg,Xb.new,Xb.zero,Xb.step,Xb.again,Xb.enter,Xz.next,i.1];exact⟨_,rfl,.d rfl,by simp[C0,ab],by(simp[Y9,C0,Bq,GA,wt,Xu,Xm,Xq,Xp,Xg,Xk,Yi,X3,i.1]<;>exact Zq)⟩
 |@i7 u o nd lv b x C i E B D hn hl aw=>
  have ht:=i.2.1;have hk:=Good.store (f:=2+lv) (x:=Yx (Za (some C) lv).As) hL G L E;have hp:EY (v.put (Xh nd (2+lv)) (Yx (Za (some C) lv).As)) g = EY v g:=hk.2;have U:∀ f,f≠2+lv→(v.put (Xh nd (2+lv)) (Yx (Za (some C) lv).As)).cell nd.sl f = v.cell nd.sl f:=fun f K=>Yv _ _ fun q=>K q.2;have af:(v.put (Xh nd (2+lv)) (Yx (Za (some C) lv).As)).cell nd.sl (2+lv) = Yx (Za (some C) lv).As:=Dk E.1;obtain ⟨H,aq⟩:=D.own (w:=nd) (f:=2+lv) (x:=Yx (Za (some C) lv).As) E G hA;have a6:eP (v.put (Xh nd (2+lv)) (Yx (Za (some C) lv).As)) nd.sl o.key o.Al:=⟨by rw [U 0 Zo];exact B.ky,by rw [U 6 Zo];exact B.ht,by rw [U 7 Zo];exact B.dn,fun m m0 m3=>by
   by_cases e:m=lv
   ·rw[e,af];rfl
   ·rw[U _ Zo];exact B.um m m0 m3⟩
  have a7:C.s0.As.sl≠0->o.key<((v.put (Xh nd (2+lv)) (Yx (Za (some C) lv).As)).cell C.s0.As.sl 0).nm:=λh0=>by
   rw[Yv _ _ λq=>by have:(0:Int)=2+lv:=q.2;omega];exact hn h0
  have av:(v.put (Xh nd (2+lv)) (Yx (Za (some C) lv).As)).cell nd.sl 2=Yx C.s0.As:=by
   by_cases e:lv=0
   ·rw[e] at af ⊢;exact af
   ·rw[U 2 Zo];exact aw Zo
  have aj:wr (lv+1)=lv+1:=FK Zo Zo;refine .so (Bi (E.rf G) Zo Zo) hk.1 ?_;by_cases ag:lv+1<o.Al
  ·have M:wr (2+(lv+1))=2+(lv+1):=FK Zo Zo;simp[Xa.next,Xa.insert,Xa.raise,Xa.Ak,Xa.finish,Xa.get,Xa.An,Xa.part,Xa.link,Xa.look,Xa.Cg,Xa.BP,Xa.AK,Xa.Bt,Xa.Ca,Xa.fin,Xa.done,Yg,Xb.new,Xb.zero,Xb.step,Xb.again,Xb.enter,Xz.next,i.1,aj,M,ag];refine⟨⟨7,u,o,some C,nd,lv+1,b,x⟩,rfl,?_,by simp[C0,i.1],?_⟩
   ·exact .i7 i E.put a6 H a7 ⟨Zo,ag⟩ λ_=>av
   ·(simp[Y9,C0,Bq,GA,wt,Xu,Xm,Xq,Xp,Xg,Xk,Yi,X3,i.1,aq]<;>exact Zq)
  ·simp[Xa.next,Xa.insert,Xa.raise,Xa.Ak,Xa.finish,Xa.get,Xa.An,Xa.part,Xa.link,Xa.look,Xa.Cg,Xa.BP,Xa.AK,Xa.Bt,Xa.Ca,Xa.fin,Xa.done,Yg,Xb.new,Xb.zero,Xb.step,Xb.again,Xb.enter,Xz.next,i.1,aj,ag];refine⟨⟨8,u,o,some C,nd,lv+1,b,x⟩,rfl,?_,by simp[C0,i.1],?_⟩
   ·exact .i8 i E.put a6 H a7 av
   ·(simp[Y9,C0,Bq,GA,wt,Xu,Xm,Xq,Xp,Xg,Xk,Yi,X3,i.1,aq]<;>exact Zq)
 |@i8 u o nd lv b x C i E B D hn aw=>
  have ht:=i.2.1;refine .sw (D.p0.pv.1.mP G hA VW) (λY=>?_) λN=>?_
  ·have he:=D.p0.sn.same Y;obtain⟨g',k1,k2,k3,k4,k5⟩:=xR G L hA tb D.p0.pv E B ht D.p0.um aw he hn;have a8:=λs f=>D.p0.pv.1.oc (x:=A4 C.s0.As nd) G hA s f;have ax:∀f,(v.put C.s0.prev (A4 C.s0.As nd)).cell nd.sl f=v.cell nd.sl f:=λf=>(a8 nd.sl f).resolve_right λq=>E.Cm G 0 q.2.1;have ay:=tN (v:=v) (p:=C.s0.prev) (x:=A4 C.s0.As nd) (by rw[he];exact Gk (by rw[←he];exact tb.get _));have H:Qr (v.put C.s0.prev (A4 C.s0.As nd)) g' k o.key C:=D.mL k1.sk Y0 (λl s _=>(a8 s 0).resolve_right λq=>Zo) λa=>(ay a).imp id fq;have ak:Ie (v.put C.s0.prev (A4 C.s0.As nd)) C.s0 C.s1 C.s2 1=Ie v C.s0 C.s1 C.s2 1:=T3 (λq=>absurd q Zd) (λ_=>OV D.p0.pv.1 D.p1.pv.1 Zd) λ_=>OV D.p0.pv.1 D.p2.pv.1 Zd;have az:=@aK v 0 C.s0 C.s1 C.s2 1;have aa:nd.gn=(v.put C.s0.prev (A4 C.s0.As nd)).AB nd.sl:=by rw[Y0];exact E.2.2
   have hp:EY (v.put C.s0.prev (A4 C.s0.As nd)) g'=EY v g:=k2;refine⟨g',k1,?_⟩;by_cases am:o.Al<=1
   ·simp[Xa.next,Xa.insert,Xa.raise,Xa.Ak,Xa.finish,Xa.get,Xa.An,Xa.part,Xa.link,Xa.look,Xa.Cg,Xa.BP,Xa.AK,Xa.Bt,Xa.Ca,Xa.fin,Xa.done,Yg,Xb.new,Xb.zero,Xb.step,Xb.again,Xb.enter,Xz.next,i.1,am];refine⟨_,rfl,.p1 (fq i) ⟨fq rfl,k4,E.1,aa,by rw[ax];exact B.ky⟩,by simp[C0,i.1];omega,?_⟩;(simp[Y9,C0,Bq,GA,wt,Xu,Xm,Xq,Xp,Xg,Xk,Yi,X3,i.1,k3,hp]<;>exact Zq)
   ·simp[Xa.next,Xa.insert,Xa.raise,Xa.Ak,Xa.finish,Xa.get,Xa.An,Xa.part,Xa.link,Xa.look,Xa.Cg,Xa.BP,Xa.AK,Xa.Bt,Xa.Ca,Xa.fin,Xa.done,Yg,Xb.new,Xb.zero,Xb.step,Xb.again,Xb.enter,Xz.next,i.1,am];refine⟨⟨9,u,o,some C,nd,1,b,x⟩,rfl,?_,by simp[C0,i.1];omega,?_⟩
    ·exact .j9 i ⟨k4,E.1,aa,by rw[ax];exact B.ky,by rw[ax];exact B.ht,⟨hJ 1,Zo⟩,λm m0 m3=>by rw[k5];omega⟩ Zo H
    ·cases X:Ie v C.s0 C.s1 C.s2 0 with
     |true=>
      have:=az X Zd;(simp[Y9,C0,Bq,GA,wt,Xu,Xm,Xq,Xp,Xg,Xk,Yi,X3,i.1,k3,hp,ak,this,X]<;>exact Zq)
     |false=>(simp[Y9,C0,Bq,GA,wt,Xu,Xm,Xq,Xp,Xg,Xk,Yi,X3,i.1,k3,hp,ak,X]<;>exact Zq)
  ·obtain⟨a1,a2⟩:=Fo (k:=k) (b:=o.key) (T:=none) (la:=.zero) (q:=0) (c:=Zv.zero.As) (n:=.zero) (s0:=.zero) (s1:=.zero) (s2:=.zero) L (tn _);have X:=tP (C:=C) (l:=0) (hJ 0) Zd N;simp[Xa.next,Xa.insert,Xa.raise,Xa.Ak,Xa.finish,Xa.get,Xa.An,Xa.part,Xa.link,Xa.look,Xa.Cg,Xa.BP,Xa.AK,Xa.Bt,Xa.Ca,Xa.fin,Xa.done,Yg,Xb.new,Xb.zero,Xb.step,Xb.again,Xb.enter,Xz.next,i.1];refine⟨_,rfl,.i5 i E B a1 rfl,by simp[C0,i.1],?_⟩;(simp[Y9,C0,Bq,GA,wt,Xu,Xm,Xq,Xp,Xg,Xk,Yi,X3,i.1,a2,X]<;>exact Zq)
 |@j9 u o nd lv b x C i r hl D=>
  have V:=r.l3 i hl;have ht:=i.2.1;have ai:Zn 5 lv:=V;have ae:=D.at_ V.1 V.2;obtain⟨_,ar,Q⟩:=L.du _ _ _ r.du;have S:v.Rf nd:=⟨r.n0,G.ze Q,r.gn⟩;have M:wr (2+lv)=2+lv:=FK Zo Zo;have an:Za (some C) lv=C.BU lv:=KU V.1 V.2;have z:v.get (Xh nd (2+lv))=v.cell nd.sl (2+lv):=Y3 r.n0;refine .ld (Bi S Zo Zo) ?_;rw[z];by_cases Z:(v.cell nd.sl (2+lv)).mark=true
  ·simp[Xa.next,Xa.insert,Xa.raise,Xa.Ak,Xa.finish,Xa.get,Xa.An,Xa.part,Xa.link,Xa.look,Xa.Cg,Xa.BP,Xa.AK,Xa.Bt,Xa.Ca,Xa.fin,Xa.done,Yg,Xb.new,Xb.zero,Xb.step,Xb.again,Xb.enter,Xz.next,i.1,Z];refine⟨_,rfl,.p1 (fq i) ⟨fq rfl,r.du,r.n0,r.gn,r.ky⟩,by simp[C0,i.1],?_⟩;(simp[Y9,C0,Bq,GA,wt,Xu,Xm,Xq,Xp,Xg,Xk,Yi,X3,i.1,Z]<;>exact Zq)
  ·have Z:(v.cell nd.sl (2+lv)).mark=false:=by simpa using Z
   have hr:(C.BU lv).As.sl≠0->Rl v lv nd.sl (C.BU lv).As.sl:=λh0=>by
    have bt:=ae.ge h0;have a9:=(G.Lc hA (ae.wr h0).1).1;have N:nd.sl≠(C.BU lv).As.sl:=λe=>by
     have:=(r.lk lv V.1 V.2).1 (by rw[e];exact a9);omega
    have hu:=L.umd Q (by rw[r.ht];exact hl) Z 0 (hJ 0) V.1;by_cases e:(v.cell nd.sl 0).nm=(v.cell (C.BU lv).As.sl 0).nm
    ·exact db ⟨e,ws L G Q a9 ai hu e N⟩
    ·left;have:=r.ky;omega
   cases E:XE (v.cell nd.sl (2+lv)) (C.BU lv).As with
   |false=>
    simp[Xa.next,Xa.insert,Xa.raise,Xa.Ak,Xa.finish,Xa.get,Xa.An,Xa.part,Xa.link,Xa.look,Xa.Cg,Xa.BP,Xa.AK,Xa.Bt,Xa.Ca,Xa.fin,Xa.done,Yg,Xb.new,Xb.zero,Xb.step,Xb.again,Xb.enter,Xz.next,i.1,Z,an,M,E];refine⟨⟨10,u,o,some C,nd,lv,b,x⟩,rfl,.C' i r hl D Z (fq rfl) hr,by simp[C0,i.1],?_⟩;(simp[Y9,C0,Bq,GA,wt,Xu,Xm,Xq,Xp,Xg,Xk,Yi,X3,i.1,Z]<;>exact Zq)
   |true=>
    simp[Xa.next,Xa.insert,Xa.raise,Xa.Ak,Xa.finish,Xa.get,Xa.An,Xa.part,Xa.link,Xa.look,Xa.Cg,Xa.BP,Xa.AK,Xa.Bt,Xa.Ca,Xa.fin,Xa.done,Yg,Xb.new,Xb.zero,Xb.step,Xb.again,Xb.enter,Xz.next,i.1,Z,an,M,E];refine⟨⟨11,u,o,some C,nd,lv,b,x⟩,rfl,.zg i r hl D (by unfold XE at E;simpa using E) hr,by simp[C0,i.1],?_⟩;(simp[Y9,C0,Bq,GA,wt,Xu,Xm,Xq,Xp,Xg,Xk,Yi,X3,i.1,Z]<;>exact Zq)
 |@C' u o nd lv b x C y i r hl D hy U hr=>
  have V:=r.l3 i hl;have ht:=i.2.1;have ai:Zn 5 lv:=V;obtain⟨_,ar,Q⟩:=L.du _ _ _ r.du;have S:v.Rf nd:=⟨r.n0,G.ze Q,r.gn⟩;have M:wr (2+lv)=2+lv:=FK Zo Zo;have an:Za (some C) lv=C.BU lv:=KU V.1 V.2;have z:v.get (Xh nd (2+lv))=v.cell nd.sl (2+lv):=Y3 r.n0;have ao:¬g.Cm lv nd.sl:=λq=>by have:=(r.lk lv V.1 V.2).1 q;omega
  refine .sw (Bi S Zo Zo) (λY=>?_) λN=>?_
  ·rw[z] at Y;have Z:(v.cell nd.sl (2+lv)).mark=false:=by rw[(mT Y).2];exact hy
   have bh:=U.resolve_right (by rw[Z];simp);obtain⟨k1,k2⟩:=xS (k:=k) (n:=(C.BU lv).As) G L tb ai r.n0 r.du ao bh hy;have W:∀f,f≠2+lv->(v.put (Xh nd (2+lv)) (A4 y (C.BU lv).As)).cell nd.sl f=v.cell nd.sl f:=λf K=>Yv _ _ λq=>K q.2;have af:(v.put (Xh nd (2+lv)) (A4 y (C.BU lv).As)).cell nd.sl (2+lv)=A4 y (C.BU lv).As:=Dk r.n0;have O:∀{m ad},DH 5 v g k m ad->(v.put (Xh nd (2+lv)) (A4 y (C.BU lv).As)).get ad=v.get ad:=λ{m ad} h=>by
    rw[DA,fw];rintro⟨e1,e2⟩;rcases h with q|⟨_,q,q2,_⟩
    ·rw[q] at e1;exact r.n0 e1.symm
    ·have e1:ad.sl=nd.sl:=e1;have e2:ad.fd=2+lv:=e2;exact ao (by rw[←e1,show lv=m by omega];exact(G.Lc hA q2).1)
   have H:Qr (v.put (Xh nd (2+lv)) (A4 y (C.BU lv).As)) g k o.key C:=⟨D.p0.mL (λ_ _ q=>q) Y0 (λs _=>Yv _ _ λq=>by have:(0:Int)=2+lv:=q.2;omega) (fq (O D.p0.pv.1)),D.p1.mL (λ_ _ q=>q) Y0 (λs _=>Yv _ _ λq=>by have:(0:Int)=2+lv:=q.2;omega) (fq (O D.p1.pv.1)),D.p2.mL (λ_ _ q=>q) Y0 (λs _=>Yv _ _ λq=>by have:(0:Int)=2+lv:=q.2;omega) (fq (O D.p2.pv.1))⟩;have aq:Ie (v.put (Xh nd (2+lv)) (A4 y (C.BU lv).As)) C.s0 C.s1 C.s2 lv=Ie v C.s0 C.s1 C.s2 lv:=T3 (λ_=>O D.p0.pv.1) (λ_=>O D.p1.pv.1) λ_=>O D.p2.pv.1;have bi:(C.BU lv).As.sl≠0->Rl (v.put (Xh nd (2+lv)) (A4 y (C.BU lv).As)) lv nd.sl (C.BU lv).As.sl:=λh0=>by
    have N:(C.BU lv).As.sl≠nd.sl:=λe=>ao (by rw[←e];exact(G.Lc hA ((D.at_ V.1 V.2).wr h0).1).1);have q:=hr h0;unfold Rl at q ⊢;rw[W 0 Zo,Yv _ 0 (λq=>N q.1),Yv _ _ λq=>N q.1];exact q
   refine⟨g,k1,?_⟩;rw[z];simp[Xa.next,Xa.insert,Xa.raise,Xa.Ak,Xa.finish,Xa.get,Xa.An,Xa.part,Xa.link,Xa.look,Xa.Cg,Xa.BP,Xa.AK,Xa.Bt,Xa.Ca,Xa.fin,Xa.done,Yg,Xb.new,Xb.zero,Xb.step,Xb.again,Xb.enter,Xz.next,i.1,an];refine⟨⟨11,u,o,some C,nd,lv,b,x⟩,rfl,.zg i ⟨r.du,r.n0,by rw[Y0];exact r.gn,by rw[W 0 Zo];exact r.ky,by rw[W 6 Zo];exact r.ht,r.lv,r.lk⟩ hl H (by rw[af];exact⟨rfl,rfl⟩) bi,by simp[C0,i.1],?_⟩;have hp:EY (v.put (Xh nd (2+lv)) (A4 y (C.BU lv).As)) g=EY v g:=k2;(simp[Y9,C0,Bq,GA,wt,Xu,Xm,Xq,Xp,Xg,Xk,Yi,X3,i.1,Z,aq,hp]<;>exact Zq)
  ·rw[z] at N ⊢;have Z:=U.resolve_left N;have ag:¬o.Al<=lv:=Zo;simp[Xa.next,Xa.insert,Xa.raise,Xa.Ak,Xa.finish,Xa.get,Xa.An,Xa.part,Xa.link,Xa.look,Xa.Cg,Xa.BP,Xa.AK,Xa.Bt,Xa.Ca,Xa.fin,Xa.done,Yg,Xb.new,Xb.zero,Xb.step,Xb.again,Xb.enter,Xz.next,i.1,M,ag];refine⟨⟨9,u,o,some C,nd,lv,b,x⟩,rfl,.j9 i r hl D,by simp[C0,i.1],?_⟩;(simp[Y9,C0,Bq,GA,wt,Xu,Xm,Xq,Xp,Xg,Xk,Yi,X3,i.1,Z]<;>exact Zq)
 |@zg u o nd lv b x C i r hl D U hr=>
  have V:=r.l3 i hl;have ht:=i.2.1;have ai:Zn 5 lv:=V;have bu:=r.lv;have ae:=D.at_ V.1 V.2;obtain⟨_,ar,Q⟩:=L.du _ _ _ r.du;have aj:wr (lv+1)=lv+1:=FK Zo Zo;have an:Za (some C) lv=C.BU lv:=KU V.1 V.2;have ao:¬g.Cm lv nd.sl:=λq=>by have:=(r.lk lv V.1 V.2).1 q;omega
  refine .sw (ae.pv.1.mP G hA ai) (λY=>?_) λN=>?_
  ·have he:=ae.sn.same Y;obtain⟨g',k1,k2,k3,k4,k5,k6⟩:=xT G L hA tb ai Zo ae.pv r.n0 r.gn r.du r.ky (by rw[r.ht];exact hl) ao ((r.lk (lv-1) Zo Zo).2 Zo) ae.um ⟨U.1,λ_=>U.2⟩ he hr;have W:∀f,(f<2\/5<=f)->∀s,(v.put (C.BU lv).prev (A4 (C.BU lv).As nd)).cell s f=v.cell s f:=λf K s=>(k6 s f).resolve_right λq=>Zo;have ay:=tN (v:=v) (p:=(C.BU lv).prev) (x:=A4 (C.BU lv).As nd) (by rw[he];exact Gk (by rw[←he];exact tb.get _));have H:Qr (v.put (C.BU lv).prev (A4 (C.BU lv).As nd)) g' k o.key C:=D.mL k1.sk Y0 (λl s _=>W 0 (fq Zd) s) λa=>(ay a).imp id fq;have O:∀{m ad},DH 5 v g k m ad->lv<m->(v.put (C.BU lv).prev (A4 (C.BU lv).As nd)).get ad=v.get ad:=λ{m ad} h Z=>OV ae.pv.1 h Zo;have ak:Ie (v.put (C.BU lv).prev (A4 (C.BU lv).As nd)) C.s0 C.s1 C.s2 (lv+1)=Ie v C.s0 C.s1 C.s2 (lv+1):=T3 (λq=>O D.p0.pv.1 Zo) (λq=>O D.p1.pv.1 Zo) λq=>O D.p2.pv.1 Zo;have az:=λq=>@aK v lv C.s0 C.s1 C.s2 (lv+1) q Zo;have aa:nd.gn=(v.put (C.BU lv).prev (A4 (C.BU lv).As nd)).AB nd.sl:=by rw[Y0];exact r.gn
   have hp:EY (v.put (C.BU lv).prev (A4 (C.BU lv).As nd)) g'<=EY v g+5:=k2;have ba:g'.du nd.sl 0=some k:=by rw[k4];exact r.du
   have bb:((v.put (C.BU lv).prev (A4 (C.BU lv).As nd)).cell nd.sl 0).nm=o.key:=by rw[W 0 (fq Zd)];exact r.ky
   refine⟨g',k1,?_⟩;by_cases am:o.Al<=lv+1
   ·simp[Xa.next,Xa.insert,Xa.raise,Xa.Ak,Xa.finish,Xa.get,Xa.An,Xa.part,Xa.link,Xa.look,Xa.Cg,Xa.BP,Xa.AK,Xa.Bt,Xa.Ca,Xa.fin,Xa.done,Yg,Xb.new,Xb.zero,Xb.step,Xb.again,Xb.enter,Xz.next,i.1,am,aj];refine⟨_,rfl,.p1 (fq i) ⟨fq rfl,ba,r.n0,aa,bb⟩,by simp[C0,i.1,k3],?_⟩;(simp[Y9,C0,Bq,GA,wt,Xu,Xm,Xq,Xp,Xg,Xk,Yi,X3,i.1,k3]<;>exact Zq)
   ·have M:wr (2+(lv+1))=2+(lv+1):=FK Zo Zo;simp[Xa.next,Xa.insert,Xa.raise,Xa.Ak,Xa.finish,Xa.get,Xa.An,Xa.part,Xa.link,Xa.look,Xa.Cg,Xa.BP,Xa.AK,Xa.Bt,Xa.Ca,Xa.fin,Xa.done,Yg,Xb.new,Xb.zero,Xb.step,Xb.again,Xb.enter,Xz.next,i.1,am,aj,M];refine⟨⟨9,u,o,some C,nd,lv+1,b,x⟩,rfl,.j9 i ⟨ba,r.n0,aa,bb,by rw[W 6 (db Zd)];exact r.ht,⟨Zo,Zo⟩,λm m0 m3=>by rw[k5,r.lk m m0 m3];omega⟩ Zo H,by simp[C0,i.1,k3],?_⟩;cases X:Ie v C.s0 C.s1 C.s2 lv with
    |true=>
     have:=az X;(simp[Y9,C0,Bq,GA,wt,Xu,Xm,Xq,Xp,Xg,Xk,Yi,X3,i.1,k3,ak,this,X]<;>exact Zq)
    |false=>(simp[Y9,C0,Bq,GA,wt,Xu,Xm,Xq,Xp,Xg,Xk,Yi,X3,i.1,k3,ak,X]<;>exact Zq)
  ·obtain⟨a1,a2⟩:=Fo (k:=k) (b:=o.key) (T:=none) (la:=.zero) (q:=0) (c:=Zv.zero.As) (n:=.zero) (s0:=.zero) (s1:=.zero) (s2:=.zero) L (tn _);have X:=tP (C:=C) (l:=lv) V.1 V.2 N;simp[Xa.next,Xa.insert,Xa.raise,Xa.Ak,Xa.finish,Xa.get,Xa.An,Xa.part,Xa.link,Xa.look,Xa.Cg,Xa.BP,Xa.AK,Xa.Bt,Xa.Ca,Xa.fin,Xa.done,Yg,Xb.new,Xb.zero,Xb.step,Xb.again,Xb.enter,Xz.next,i.1];refine⟨⟨12,u,o,_,nd,lv,b,x⟩,rfl,.zf i r hl a1 rfl,by simp[C0,i.1],?_⟩;(simp[Y9,C0,Bq,GA,wt,Xu,Xm,Xq,Xp,Xg,Xk,Yi,X3,i.1,a2,X]<;>exact Zq)
 |@zf u o nd lv b x C c i r hl D hb=>
  have V:=r.l3 i hl;have ht:=i.2.1;have M:wr (2+lv)=2+lv:=FK Zo Zo;refine Kf (J:=⟨12,u,o,none,nd,lv,b,x⟩) (f:=λJ=>bif !mW (Bh J.Ab) J.node then J.part 1 else J.link) (R:=λn=>8*(3-lv).toNat+3*n+26) (I:=λv g=>mI v g k nd o lv) G L hA tb (λC x'=>?_) (λv g C c=>?_) (λm n h=>by show 8*(3-lv).toNat+3*m+26<=8*(3-lv).toNat+3*n+26;omega) r (λv' g' e _=>r.A3 e Zo) (λv' g' F c' e H r=>.zf i r hl H (e.trans hb)) (λv' g' F K r=>?_) D
  ·exact(by simp[Xa.next,Xa.raise,i.1]:Xa.next ⟨12,u,o,some C,nd,lv,b,x⟩ x'=Xa.AK ⟨12,u,o,some C,nd,lv,b,x⟩ x').trans rfl
  ·simp[Y9,Bq,i.1];omega
  ·rw[hb] at K;cases X:mW F.found nd with
   |false=>
    refine⟨⟨101,u,o,some F,nd,lv,1,x⟩,Xm (Xh nd 7),by simp[Bh,X,Xa.part],.p1 (fq i) ⟨fq rfl,r.du,r.n0,r.gn,r.ky⟩,by simp[C0,i.1],?_⟩;(simp[Y9,C0,Bq,GA,wt,Xu,Xm,Xq,Xp,Xg,Xk,Yi,X3,i.1]<;>exact Zq)
   |true=>
    have ag:¬o.Al<=lv:=Zo;refine⟨⟨9,u,o,some F,nd,lv,b,x⟩,Xm (Xh nd (2+lv)),by simp[Bh,X,Xa.link,ag,M],.j9 i r hl ⟨K.p0,K.p1,K.p2⟩,by simp[C0,i.1],?_⟩;have bj:=λq=>@aK v' 0 F.s0 F.s1 F.s2 lv q Zo;cases B:Ie v' F.s0 F.s1 F.s2 0 with
    |true=>
     have:=bj B;(simp[Y9,C0,Bq,GA,wt,Xu,Xm,Xq,Xp,Xg,Xk,Yi,X3,i.1,this,B]<;>exact Zq)
    |false=>(simp[Y9,C0,Bq,GA,wt,Xu,Xm,Xq,Xp,Xg,Xk,Yi,X3,i.1,B]<;>exact Zq)
 |@r1 u o nd lv b x C c i D hb=>
  have bw:¬(7:Int)=6:=by decide
  refine Kf (J:=⟨1,u,o,none,nd,lv,b,x⟩) (f:=λJ=>bif (Bh J.Ab).sl==0 then Xa.done {J with node:=Bh J.Ab} 2 0 else({{J with node:=Bh J.Ab} with pc:=2},Xm (Xh (Bh J.Ab) 6))) (R:=λn=>6*n+61) (I:=λ_ _=>True) G L hA tb (λC x'=>?_) (λv g C c=>?_) (λm n h=>by show 6*m+61<=6*n+61;omega) trivial (λ_ _ _ _=>trivial) (λv' g' F c' e H _=>.r1 i H (e.trans hb)) (λv' g' F K _=>?_) D
  ·exact(by simp[Xa.next,Xa.Ak,i.1]:Xa.next ⟨1,u,o,some C,nd,lv,b,x⟩ x'=Xa.Bt ⟨1,u,o,some C,nd,lv,b,x⟩ x' 6).trans rfl
  ·simp[Y9,Bq,i.1];omega
  ·rw[hb] at K;rcases K.fd with q|⟨q,q0,q1⟩
   ·refine⟨⟨-1,X3 2 0,o,some F,.zero,lv,b,x⟩,X3 2 0,by simp[Bh,q.1,Xa.done];rfl,.d rfl,by simp[C0],by simp[Y9]⟩
   ·have B:(F.s0.As.sl==0)=false:=by simpa using q0
    have E:=K.p0.wr q0;refine⟨⟨2,u,o,some F,Yx F.s0.As,lv,b,x⟩,Xm (Xh (Yx F.s0.As) 6),by simp[Bh,q,show(Yx F.s0.As).sl=F.s0.As.sl from rfl,B],.r2 i ⟨q0,E.1,E.2,q1⟩,by simp[C0,i.1],?_⟩;(simp[Y9,C0,Bq,GA,wt,Xu,Xm,Xq,Xp,Xg,Xk,Yi,X3,i.1]<;>exact Zq)
 |@r2 u o C nd lv b x i P=>
  obtain⟨Q,ah,_⟩:=G.Lc hA P.sf;have bk:=L.ht 0 _ Q;have S:v.Rf nd:=⟨P.n0,ah,P.gn⟩;refine .ld (Bi S Zd Zd) ?_;rw[Y3 P.n0];have w1:wr ((v.cell nd.sl 6).nm-1)=(v.cell nd.sl 6).nm-1:=FK Zo Zo;have n1:¬(v.cell nd.sl 6).nm<1:=Zo;have n2:¬3<(v.cell nd.sl 6).nm:=Zo;simp[Xa.next,Xa.insert,Xa.raise,Xa.Ak,Xa.finish,Xa.get,Xa.An,Xa.part,Xa.link,Xa.look,Xa.Cg,Xa.BP,Xa.AK,Xa.Bt,Xa.Ca,Xa.fin,Xa.done,Yg,Xb.new,Xb.zero,Xb.step,Xb.again,Xb.enter,Xz.next,i.1,n1,n2,w1];refine⟨⟨3,u,o,C,nd,(v.cell nd.sl 6).nm-1,b,x⟩,rfl,.r3 i P ⟨Zo,Zo,bk.2,λj j1 j2=>Zo⟩,by simp[C0,i.1],?_⟩;(simp[Y9,C0,Bq,GA,wt,Xu,Xm,Xq,Xp,Xg,Xk,Yi,X3,i.1]<;>exact Zq)
 |@r3 u o C nd lv b x i P hL=>
  obtain⟨Q,ah,_⟩:=G.Lc hA P.sf;have S:v.Rf nd:=⟨P.n0,ah,P.gn⟩;have h0:=hL.l0;have h1:=hL.lh;have h2:=hL.h3;have M:wr (2+lv)=2+lv:=FK Zo Zo;refine .ld (Bi S Zd Zd) ?_;rw[Y3 P.n0];simp[Xa.next,Xa.insert,Xa.raise,Xa.Ak,Xa.finish,Xa.get,Xa.An,Xa.part,Xa.link,Xa.look,Xa.Cg,Xa.BP,Xa.AK,Xa.Bt,Xa.Ca,Xa.fin,Xa.done,Yg,Xb.new,Xb.zero,Xb.step,Xb.again,Xb.enter,Xz.next,i.1,M];refine⟨⟨4,u,o,C,nd,lv,b,(v.cell nd.sl 1).nm⟩,rfl,.r4 i P hL,by simp[C0,i.1],?_⟩;(simp[Y9,C0,Bq,GA,wt,Xu,Xm,Xq,Xp,Xg,Xk,Yi,X3,i.1]<;>exact Zq)
 |@r4 u o C nd lv b x i P hL=>
  obtain⟨Q,ah,_⟩:=G.Lc hA P.sf;have S:v.Rf nd:=⟨P.n0,ah,P.gn⟩;have h0:=hL.l0;have h1:=hL.lh;have h2:=hL.h3;have M:wr (2+lv)=2+lv:=FK Zo Zo;have z:v.get (Xh nd (2+lv))=v.cell nd.sl (2+lv):=Y3 P.n0;refine .ld (Bi S Zo Zo) ?_;rw[z];by_cases Z:(v.cell nd.sl (2+lv)).mark=true
  ·by_cases e:lv=0
   ·have bl:(v.cell nd.sl 2).mark=true:=by rw[e] at Z;exact Z
    subst e;rw[show(2:Int)+0=2 from rfl];simp[Xa.next,Xa.insert,Xa.raise,Xa.Ak,Xa.finish,Xa.get,Xa.An,Xa.part,Xa.link,Xa.look,Xa.Cg,Xa.BP,Xa.AK,Xa.Bt,Xa.Ca,Xa.fin,Xa.done,Yg,Xb.new,Xb.zero,Xb.step,Xb.again,Xb.enter,Xz.next,i.1,bl];exact⟨_,rfl,.d rfl,by simp[C0],by(simp[Y9,C0,Bq,GA,wt,Xu,Xm,Xq,Xp,Xg,Xk,Yi,X3,i.1]<;>exact Zq)⟩
   ·have a0:wr (lv-1)=lv-1:=FK Zo Zo;have a3:wr (2+(lv-1))=2+(lv-1):=FK Zo Zo;have eb:(lv==0)=false:=by simpa using e
    simp[Xa.next,Xa.insert,Xa.raise,Xa.Ak,Xa.finish,Xa.get,Xa.An,Xa.part,Xa.link,Xa.look,Xa.Cg,Xa.BP,Xa.AK,Xa.Bt,Xa.Ca,Xa.fin,Xa.done,Yg,Xb.new,Xb.zero,Xb.step,Xb.again,Xb.enter,Xz.next,i.1,Z,a0,a3,eb];refine⟨⟨4,u,o,C,nd,lv-1,b,x⟩,rfl,.r4 i P ⟨Zo,Zo,h2,λj j1 j2=>?_⟩,by simp[C0,i.1],?_⟩
    ·by_cases e:j=lv
     ·rw[e];exact Z
     ·exact hL.up j Zo j2
    ·(simp[Y9,C0,Bq,GA,wt,Xu,Xm,Xq,Xp,Xg,Xk,Yi,X3,i.1]<;>exact Zq)
  ·have Z:(v.cell nd.sl (2+lv)).mark=false:=by simpa using Z
   simp[Xa.next,Xa.insert,Xa.raise,Xa.Ak,Xa.finish,Xa.get,Xa.An,Xa.part,Xa.link,Xa.look,Xa.Cg,Xa.BP,Xa.AK,Xa.Bt,Xa.Ca,Xa.fin,Xa.done,Yg,Xb.new,Xb.zero,Xb.step,Xb.again,Xb.enter,Xz.next,i.1,Z,M];refine⟨⟨5,u,o,C,nd,lv,b,x⟩,rfl,.r5 i P hL Z .refl,by simp[C0,i.1],?_⟩;(simp[Y9,C0,Bq,GA,wt,Xu,Xm,Xq,Xp,Xg,Xk,Yi,X3,i.1,z]<;>exact Zq)
 |@r5 u o C nd lv b x y i P hL hy bm=>
  obtain⟨Q,ah,_⟩:=G.Lc hA P.sf;have S:v.Rf nd:=⟨P.n0,ah,P.gn⟩;have h0:=hL.l0;have h1:=hL.lh;have h2:=hL.h3;have M:wr (2+lv)=2+lv:=FK Zo Zo;have z:v.get (Xh nd (2+lv))=v.cell nd.sl (2+lv):=Y3 P.n0;refine .sw (Bi S Zo Zo) (λY=>?_) λN=>?_
  ·rw[z] at Y;have he:=bm.same Y;obtain⟨g',k1,k2,k3,k4⟩:=oU G L hA tb h0 P.n0 P.sf he hy h1 hL.up;have W:∀f,f≠2+lv->(v.put (Xh nd (2+lv)) (Zc y)).cell nd.sl f=v.cell nd.sl f:=λf K=>Yv _ _ λq=>K q.2;have af:(v.put (Xh nd (2+lv)) (Zc y)).cell nd.sl (2+lv)=Zc y:=Dk P.n0;have a4:r9 (v.put (Xh nd (2+lv)) (Zc y)) g' k nd o:=⟨P.n0,k1.sk 0 _ P.sf,by rw[Y0];exact P.gn,by rw[W 0 Zo];exact P.ky⟩;refine⟨g',k1,?_⟩;rw[z];have au:(g'.LL 0).length=(g.LL 0).length:=by rw[k3]
   by_cases e:lv=0
   ·subst e;have w1:wr (o.key+1)=o.key+1:=FK (by have:=i.2;omega) (by have:=i.2;omega);obtain⟨a1,a2⟩:=Fo (v:=v.put (Xh nd (2+0)) (Zc y)) (g:=g') (k:=k) (b:=o.key+1) (T:=none) (la:=.zero) (q:=0) (c:=Zv.zero.As) (n:=.zero) (s0:=.zero) (s1:=.zero) (s2:=.zero) k1.si λs q=>by cases q
    simp[Xa.next,Xa.insert,Xa.raise,Xa.Ak,Xa.finish,Xa.get,Xa.An,Xa.part,Xa.link,Xa.look,Xa.Cg,Xa.BP,Xa.AK,Xa.Bt,Xa.Ca,Xa.fin,Xa.done,Yg,Xb.new,Xb.zero,Xb.step,Xb.again,Xb.enter,Xz.next,i.1,w1];refine⟨⟨6,u,o,_,nd,0,b,x⟩,rfl,.r6 i ⟨db rfl,k4 rfl,P.n0,a4.gn,a4.ky⟩ a1 rfl,by simp[C0,i.1,au],?_⟩;have a5:v.get (Xh nd (2+0))=y:=by rw[z];exact he
    have bc:v.get (Xh nd 2)=y:=a5;have k2:EY (v.put (Xh nd 2) (Zc y)) g'<=EY v g+5:=k2;have bn:CH (v.put (Xh nd 2) (Zc y)) g' _=_:=a2;(simp[Y9,C0,Bq,GA,wt,Xu,Xm,Xq,Xp,Xg,Xk,Yi,X3,i.1,bn,au,bc]<;>exact Zq)
   ·have a0:wr (lv-1)=lv-1:=FK Zo Zo;have a3:wr (2+(lv-1))=2+(lv-1):=FK Zo Zo;have bo:0<lv:=Zo;simp[Xa.next,Xa.insert,Xa.raise,Xa.Ak,Xa.finish,Xa.get,Xa.An,Xa.part,Xa.link,Xa.look,Xa.Cg,Xa.BP,Xa.AK,Xa.Bt,Xa.Ca,Xa.fin,Xa.done,Yg,Xb.new,Xb.zero,Xb.step,Xb.again,Xb.enter,Xz.next,i.1,a0,a3,bo];refine⟨⟨4,u,o,C,nd,lv-1,b,x⟩,rfl,.r4 i a4 ⟨Zo,by rw[W 6 Zo];omega,by rw[W 6 Zo];exact h2,λj j1 j2=>?_⟩,by simp[C0,i.1,au],?_⟩
    ·rw[W 6 Zo] at j2;by_cases e:j=lv
     ·rw[e,af];rfl
     ·rw[W _ Zo];exact hL.up j Zo j2
    ·have a5:v.get (Xh nd (2+lv))=y:=by rw[z];exact he
     (simp[Y9,C0,Bq,GA,wt,Xu,Xm,Xq,Xp,Xg,Xk,Yi,X3,i.1,au,a5]<;>exact Zq)
  ·simp[Xa.next,Xa.insert,Xa.raise,Xa.Ak,Xa.finish,Xa.get,Xa.An,Xa.part,Xa.link,Xa.look,Xa.Cg,Xa.BP,Xa.AK,Xa.Bt,Xa.Ca,Xa.fin,Xa.done,Yg,Xb.new,Xb.zero,Xb.step,Xb.again,Xb.enter,Xz.next,i.1,M];refine⟨⟨4,u,o,C,nd,lv,b,x⟩,rfl,.r4 i P hL,by simp[C0,i.1],?_⟩;(simp[Y9,C0,Bq,GA,wt,Xu,Xm,Xq,Xp,Xg,Xk,Yi,X3,i.1,N]<;>exact Zq)
 |@r6 u o nd lv b x C c i hD D hb=>
  refine Kf (J:=⟨6,u,o,none,nd,lv,b,x⟩) (f:=λJ=>J.part 2) (R:=λn=>3*n+26) (I:=λv g=>ud v g k nd o 2) G L hA tb (λC x'=>?_) (λv g C c=>?_) (λm n h=>by show 3*m+26<=3*n+26;omega) hD (λv' g' e _=>hD.A3 e Zo) (λv' g' F c' e H r=>.r6 i r H (e.trans hb)) (λv' g' F K r=>?_) D
  ·exact(by simp[Xa.next,Xa.Ak,i.1]:Xa.next ⟨6,u,o,some C,nd,lv,b,x⟩ x'=Xa.Ca ⟨6,u,o,some C,nd,lv,b,x⟩ x').trans rfl
  ·simp[Y9,Bq,i.1];omega
  ·refine⟨⟨101,u,o,some F,nd,lv,2,x⟩,Xm (Xh nd 7),rfl,.p1 (db i) r,by simp[C0],?_⟩;simp[Y9]
 |@p1 u o C nd lv b x i hD=>
  obtain⟨_,ar,Q⟩:=L.du _ _ _ hD.du;have S:v.Rf nd:=⟨hD.n0,G.ze Q,hD.gn⟩;refine .ld (Bi S Zd Zd) ?_;rw[Y3 hD.n0];by_cases B:(v.cell nd.sl 7).nm=0
  ·simp[Xa.next,Xa.insert,Xa.raise,Xa.Ak,Xa.finish,Xa.get,Xa.An,Xa.part,Xa.link,Xa.look,Xa.Cg,Xa.BP,Xa.AK,Xa.Bt,Xa.Ca,Xa.fin,Xa.done,Yg,Xb.new,Xb.zero,Xb.step,Xb.again,Xb.enter,Xz.next,B];refine⟨⟨102,u,o,C,nd,lv,b,x⟩,rfl,.p2 i hD B (fq rfl),by simp[C0],?_⟩;(simp[Y9,C0,Bq,GA,wt,Xu,Xm,Xq,Xp,Xg,Xk,Yi,X3,]<;>exact Zq)
  ·have hk:0<=o.key/\o.key<=255:=i.elim (λq=>q.2.2) λq=>q.2;have w1:wr (o.key+1)=o.key+1:=FK Zo Zo;have X:=Uy L hD B;obtain⟨a1,a2⟩:=Fo (k:=k) (b:=o.key+1) (T:=some nd.sl) (la:=.zero) (q:=0) (c:=Zv.zero.As) (n:=.zero) (s0:=.zero) (s1:=.zero) (s2:=.zero) L λs q=>by injection q with q;rw[←q];exact⟨X,by rw[hD.ky]⟩
   have bp:((v.cell nd.sl 7).nm==0)=false:=by simpa using B
   simp[Xa.next,Xa.insert,Xa.raise,Xa.Ak,Xa.finish,Xa.get,Xa.An,Xa.part,Xa.link,Xa.look,Xa.Cg,Xa.BP,Xa.AK,Xa.Bt,Xa.Ca,Xa.fin,Xa.done,Yg,Xb.new,Xb.zero,Xb.step,Xb.again,Xb.enter,Xz.next,bp,w1];refine⟨⟨103,u,o,_,nd,lv,b,x⟩,rfl,.p3 i hD.n0 hD.gn X a1,by simp[C0],?_⟩;(simp[Y9,C0,Bq,GA,wt,Xu,Xm,Xq,Xp,Xg,Xk,Yi,X3,a2]<;>exact Zq)
 |@p2 u o C nd lv b x y i hD hy U=>
  obtain⟨_,ar,Q⟩:=L.du _ _ _ hD.du;have S:v.Rf nd:=⟨hD.n0,G.ze Q,hD.gn⟩;have z:v.get (Xh nd 7)=v.cell nd.sl 7:=Y3 hD.n0;refine .sw (Bi S Zd Zd) (λY=>?_) λN=>?_
  ·rw[z] at Y;have h7:(v.cell nd.sl 7).nm=0:=by rw[(mT Y).1];exact hy
   have he:=U.resolve_right (by rw[h7];simp);subst he;obtain⟨k1,k2⟩:=oR (k:=k) G L tb hD.n0 hD.b2 hD.du h7;refine⟨_,k1,?_⟩;have ab:(g.EL nd.sl (b-1) none).LL=g.LL:=rfl;simp[Xa.next,Xa.insert,Xa.raise,Xa.Ak,Xa.finish,Xa.get,Xa.An,Xa.part,Xa.link,Xa.look,Xa.Cg,Xa.BP,Xa.AK,Xa.Bt,Xa.Ca,Xa.fin,Xa.done,Yg,Xb.new,Xb.zero,Xb.step,Xb.again,Xb.enter,Xz.next];refine⟨_,rfl,.d rfl,by simp[C0,ab],?_⟩;rw[k2];(simp[Y9,C0,Bq,GA,wt,Xu,Xm,Xq,Xp,Xg,Xk,Yi,X3,]<;>exact Zq)
  ·rw[z] at N;have B:=U.resolve_left N;have hk:0<=o.key/\o.key<=255:=i.elim (λq=>q.2.2) λq=>q.2;have w1:wr (o.key+1)=o.key+1:=FK Zo Zo;have X:=Uy L hD B;obtain⟨a1,a2⟩:=Fo (k:=k) (b:=o.key+1) (T:=some nd.sl) (la:=.zero) (q:=0) (c:=Zv.zero.As) (n:=.zero) (s0:=.zero) (s1:=.zero) (s2:=.zero) L λs q=>by injection q with q;rw[←q];exact⟨X,by rw[hD.ky]⟩
   simp[Xa.next,Xa.insert,Xa.raise,Xa.Ak,Xa.finish,Xa.get,Xa.An,Xa.part,Xa.link,Xa.look,Xa.Cg,Xa.BP,Xa.AK,Xa.Bt,Xa.Ca,Xa.fin,Xa.done,Yg,Xb.new,Xb.zero,Xb.step,Xb.again,Xb.enter,Xz.next,w1];refine⟨⟨103,u,o,_,nd,lv,b,x⟩,rfl,.p3 i hD.n0 hD.gn X a1,by simp[C0],?_⟩;(simp[Y9,C0,Bq,GA,wt,Xu,Xm,Xq,Xp,Xg,Xk,Yi,X3,a2]<;>exact Zq)
 |@p3 u o nd lv b x C c i h0 aa X D=>
  refine Kf (J:=⟨103,u,o,none,nd,lv,b,x⟩) (f:=λJ=>({J with pc:=104},Xk J.node)) (R:=λn=>12) (I:=λv g=>nd.gn=v.AB nd.sl/\Qg v g k nd.sl) G L hA tb (λC x'=>?_) (λv g C c=>?_) (λm n h=>Nat.le_refl 12) ⟨aa,X⟩ (λv' g' e _=>?_) (λv' g' F c' e H r=>.p3 i h0 r.1 r.2 H) (λv' g' F K r=>?_) D
  ·exact(by simp[Xa.next,Xa.finish]:Xa.next ⟨103,u,o,some C,nd,lv,b,x⟩ x'=Xa.fin ⟨103,u,o,some C,nd,lv,b,x⟩ x').trans rfl
  ·simp[Y9,Bq]
  ·obtain⟨r1,_,r3⟩:=X.A3 e Zo;exact⟨by rw[r3];exact aa,r1⟩
  ·refine⟨⟨104,u,o,some F,nd,lv,b,x⟩,Xk nd,rfl,.p4 i h0 r.1 r.2 λl hl=>K.en l hl.1 hl.2 nd.sl rfl,by simp[C0],?_⟩;simp[Y9]
 |@p4 u o C nd lv b x i h0 aa X hn=>
  obtain⟨g1,k1,k2,k3⟩:=oS G L X hn;refine .retire rfl ⟨h0,G.ze X.2.1,aa⟩ g1 (db k1) k2 λd=>?_;have ab:(g1.noted nd.sl k d).LL=g.LL:=k3;have hp:EY v (g1.noted nd.sl k d)=EY v g:=ZE ab λ_ _ _ _=>rfl;show TQ v g k _ (Xk nd) v (g1.noted nd.sl k d) _ _;simp[Xa.next,Xa.insert,Xa.raise,Xa.Ak,Xa.finish,Xa.get,Xa.An,Xa.part,Xa.link,Xa.look,Xa.Cg,Xa.BP,Xa.AK,Xa.Bt,Xa.Ca,Xa.fin,Xa.done,Yg,Xb.new,Xb.zero,Xb.step,Xb.again,Xb.enter,Xz.next];refine⟨_,rfl,.d rfl,by simp[C0,ab],?_⟩;rw[hp];(simp[Y9,C0,Bq,GA,wt,Xu,Xm,Xq,Xp,Xg,Xk,Yi,X3,]<;>exact Zq)
 |@g1 u o nd lv b x C c i D=>
  have e6:(o.kind==6)=false:=by simpa using i.1
  have e7:(o.kind==7)=false:=by simpa using i.2
  refine Kf (J:=⟨1,u,o,none,nd,lv,b,x⟩) (f:=λJ=>bif (Bh J.Ab).sl==0 then Xa.done {J with node:=Bh J.Ab} 2 0 else({{J with node:=Bh J.Ab} with pc:=2},Xm (Xh (Bh J.Ab) 1))) (R:=λn=>1) (I:=λ_ _=>True) G L hA tb (λC x'=>?_) (λv g C c=>?_) (λm n h=>Nat.le_refl 1) trivial (λ_ _ _ _=>trivial) (λv' g' F c' e H _=>.g1 i H) (λv' g' F K _=>?_) D
  ·exact(by simp[Xa.next,Xa.get,e6,e7]:Xa.next ⟨1,u,o,some C,nd,lv,b,x⟩ x'=Xa.Bt ⟨1,u,o,some C,nd,lv,b,x⟩ x' 1).trans rfl
  ·simp[Y9,Bq,i.1,i.2]
  ·rcases K.fd with q|⟨q,q0,q1⟩
   ·refine⟨⟨-1,X3 2 0,o,some F,.zero,lv,b,x⟩,X3 2 0,by simp[Bh,q.1,Xa.done];rfl,.d rfl,by simp[C0],by simp[Y9]⟩
   ·have B:(F.s0.As.sl==0)=false:=by simpa using q0
    refine⟨⟨2,u,o,some F,Yx F.s0.As,lv,b,x⟩,Xm (Xh (Yx F.s0.As) 1),by simp[Bh,q,show(Yx F.s0.As).sl=F.s0.As.sl from rfl,B],.g2 i q0 λ_=>K.p0.wr q0,by simp[C0,i.1],?_⟩;simp[Y9,i.1,i.2]
 |@g2 u o C nd lv b x i h0 E=>
  have e6:(o.kind==6)=false:=by simpa using i.1
  have e7:(o.kind==7)=false:=by simpa using i.2
  refine .ld (E.AJ h0 G hA Zd Zd) ?_;simp[Xa.next,Xa.insert,Xa.raise,Xa.Ak,Xa.finish,Xa.get,Xa.An,Xa.part,Xa.link,Xa.look,Xa.Cg,Xa.BP,Xa.AK,Xa.Bt,Xa.Ca,Xa.fin,Xa.done,Yg,Xb.new,Xb.zero,Xb.step,Xb.again,Xb.enter,Xz.next,e6,e7];exact⟨_,rfl,.d rfl,by simp[C0],by(simp[Y9,C0,Bq,GA,wt,Xu,Xm,Xq,Xp,Xg,Xk,Yi,X3,i.1,i.2]<;>exact Zq)⟩
def gP{x:Xr}(A:Jn v g)(h:N3 5 o):DX v g k ((Xa.new o).next x).1 ((Xa.new o).next x).2:=by
 obtain⟨e,i,B,j⟩:=o;have d:0<=i/\i<=255/\(e=6/\1<=j/\j<=3\/e=7\/e=8):=by
  simp only[N3] at h;omega
 obtain⟨r,u,d⟩:=d;obtain⟨z,_⟩:=Fo (k:=k) (b:=i) (T:=none) (la:=.zero) (q:=0) (c:=Zv.zero.As) (n:=.zero) (s0:=.zero) (s1:=.zero) (s2:=.zero) A λs q=>by cases q
 rcases d with⟨rfl,d⟩|rfl|rfl
 ·simp[Xa.next,Xa.insert,Xa.raise,Xa.Ak,Xa.finish,Xa.get,Xa.An,Xa.part,Xa.link,Xa.look,Xa.Cg,Xa.BP,Xa.AK,Xa.Bt,Xa.Ca,Xa.fin,Xa.done,Yg,Xb.new,Xb.zero,Xb.step,Xb.again,Xb.enter,Xa.new,Xa.zero];exact .i1 ⟨rfl,d,r,u⟩
 ·simp[Xa.next,Xa.insert,Xa.raise,Xa.Ak,Xa.finish,Xa.get,Xa.An,Xa.part,Xa.link,Xa.look,Xa.Cg,Xa.BP,Xa.AK,Xa.Bt,Xa.Ca,Xa.fin,Xa.done,Yg,Xb.new,Xb.zero,Xb.step,Xb.again,Xb.enter,Xa.new,Xa.zero];exact .r1 ⟨rfl,r,u⟩ z rfl
 ·simp[Xa.next,Xa.insert,Xa.raise,Xa.Ak,Xa.finish,Xa.get,Xa.An,Xa.part,Xa.link,Xa.look,Xa.Cg,Xa.BP,Xa.AK,Xa.Bt,Xa.Ca,Xa.fin,Xa.done,Yg,Xb.new,Xb.zero,Xb.step,Xb.again,Xb.enter,Xa.new,Xa.zero];exact .g1 ⟨show(8:Int)≠6 by decide,show(8:Int)≠7 by decide⟩ z
end
