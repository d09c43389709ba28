/- Core: FaD, FaE, FaF, FaG, FaH. -/
import Derived.Test.YtaipogljokblkaaGreatDoorP38
set_option linter.all false
set_option maxRecDepth 100000
set_option maxHeartbeats 8000000
namespace Go.Proofs.YtaipogljokblkaaGreatDoor
open Go Go.RowKit
structure Qh where
 ce:Int->Xe->Xe->Prop
 si:Vw->EG->Prop
 x:Nat->Vw->EG->Vw->EG->Prop
 Cd:Vw->EG->Nat
structure Good(st:Int)(L:Qh)(a:Nat)(v:Vw)(g:EG)(v':Vw)(g':EG):Prop where
 eg:AA st v' g'
 si:L.si v' g'
 ev:Ev a L.ce v g v' g'
 x:L.x a v g v' g'
 ak:g'.A=g.A
 sk:∀l s,g.Sf a l s->g'.Sf a l s
structure Jh(v:Vw)(g:EG)(v':Vw)(g':EG):Prop where
 rt:v'.root=v.root
 ll:g'.LL=g.LL
 lk:∀l s,g'.Cm l s->g.Cm l s/\v'.cell s=v.cell s/\v'.AB s=v.AB s
 ow:∀s,g'.own s=.DJ↔g.own s=.DJ
 du:g'.du=g.du
 lf:∀l s,g.Cm l s->g'.own s≠.free->g'.Cm l s
structure N4(st:Int)(L:Qh):Prop where
 si:∀{v g v' g'},AA st v' g'->L.si v g->Jh v g v' g'->L.si v' g'
 x:∀{a v g v' g'},Jh v g v' g'->L.x a v g v' g'
 Cd:∀{v g v' g'},AA st v' g'->Jh v g v' g'->L.Cd v' g'=L.Cd v g
inductive Mv(st:Int)(L:Qh)(k:Nat)(Q:Vw->EG->Xz->Xi->Prop)(v:Vw)(g:EG)(J:Xz)(c:Xi):Prop
 |done (hk:c.kind=12)
 |look (hk:c.kind=3\/c.kind=6) (ha:v.Ad c.AJ) (h:Q v g (J.next ⟨v.get c.AJ,true⟩).1 (J.next ⟨v.get c.AJ,true⟩).2)
 |store (hk:c.kind=4) (ha:v.Ad c.AJ) (ht:c.new.tg=0) (h:∃g',Good st L k v g (v.put c.AJ c.new) g'/\Q (v.put c.AJ c.new) g' (J.next ⟨.zero,true⟩).1 (J.next ⟨.zero,true⟩).2)
 |swap (hk:c.kind=5) (ha:v.Ad c.AJ) (ht:c.new.tg=wr (c.AU.tg+1)) (hy:B7 (v.get c.AJ) c.AU=true->∃g',Good st L k v g (v.put c.AJ c.new) g'/\Q (v.put c.AJ c.new) g' (J.next ⟨v.get c.AJ,true⟩).1 (J.next ⟨v.get c.AJ,true⟩).2) (hn:B7 (v.get c.AJ) c.AU=false->Q v g (J.next ⟨v.get c.AJ,false⟩).1 (J.next ⟨v.get c.AJ,false⟩).2)
 |hold (hk:c.kind=7) (hi:0<=c.i/\c.i<9) (h:Q v g (J.next ⟨.zero,true⟩).1 (J.next ⟨.zero,true⟩).2)
 |alloc (hk:c.kind=8) (hy:∀s d,s≠0->¬v.held s->∃g',Good st L k v g (v.take s d) g'/\Q (v.take s d) g' (J.next ⟨⟨s,d,0,0,false⟩,true⟩).1 (J.next ⟨⟨s,d,0,0,false⟩,true⟩).2) (hn:Q v g (J.next ⟨.zero,false⟩).1 (J.next ⟨.zero,false⟩).2)
 |drop (hk:c.kind=9) (hr:v.Rf c.AU) (h:∃g',Good st L k v g (v.drop c.AU.sl) g'/\Q (v.drop c.AU.sl) g' (J.next ⟨.zero,true⟩).1 (J.next ⟨.zero,true⟩).2)
 |retire (hk:c.kind=10) (hr:v.Rf c.AU) (g1:EG) (h1:g1=g\/Good st L k v g v g1) (ho:g1.own c.AU.sl=.Cv k) (h:∀d,Q v (g1.noted c.AU.sl k d) (J.next ⟨.zero,true⟩).1 (J.next ⟨.zero,true⟩).2)
def wt(c:Xi):Nat:=if c.kind=7\/c.kind=12 then 0 else if c.kind=10 then 12 else 1
section
variable{st:Int}{L:Qh}{k:Nat}{Q:Vw->EG->Xz->Xi->Prop}{v:Vw}{g:EG}{J:Xz}{ad:Yc}{w o:Xe}{i j:Int}
def Mv.ld(ha:v.Ad ad)(h:Q v g (J.next ⟨v.get ad,true⟩).1 (J.next ⟨v.get ad,true⟩).2):Mv st L k Q v g J (Xm ad):=.look (fq rfl) ha h
def Mv.pr(ha:v.Ad ad)(h:Q v g (J.next ⟨v.get ad,true⟩).1 (J.next ⟨v.get ad,true⟩).2):Mv st L k Q v g J (Xg ad i):=.look (db rfl) ha h
def Mv.so{g':EG}(ha:v.Ad ad)(b:Good st L k v g (v.put ad w) g')(h:Q (v.put ad w) g' (J.next ⟨.zero,true⟩).1 (J.next ⟨.zero,true⟩).2)(c:w.tg=0:=by rfl):Mv st L k Q v g J (Xq ad w):=.store rfl ha c ⟨g',b,h⟩
def Mv.sw(ha:v.Ad ad)(b:B7 (v.get ad) o=true->∃g',Good st L k v g (v.put ad w) g'/\Q (v.put ad w) g' (J.next ⟨v.get ad,true⟩).1 (J.next ⟨v.get ad,true⟩).2)(c:v.get ad≠o->Q v g (J.next ⟨v.get ad,false⟩).1 (J.next ⟨v.get ad,false⟩).2)(m:w.tg=wr (o.tg+1):=by rfl):Mv st L k Q v g J (Xp ad o w):=
 .swap rfl ha m b λh=>c λe=>by rw[show v.get (Xp ad o w).AJ=o from e,show(Xp ad o w).AU=o from rfl,GF] at h;cases h
def Mv.al(b:∀s d,s≠0->¬v.held s->∃g',Good st L k v g (v.take s d) g'/\Q (v.take s d) g' (J.next ⟨⟨s,d,0,0,false⟩,true⟩).1 (J.next ⟨⟨s,d,0,0,false⟩,true⟩).2)(c:Q v g (J.next ⟨.zero,false⟩).1 (J.next ⟨.zero,false⟩).2):Mv st L k Q v g J Xu:=.alloc rfl b c
def Mv.dr{g':EG}(b:v.Rf w)(c:Good st L k v g (v.drop w.sl) g')(h:Q (v.drop w.sl) g' (J.next ⟨.zero,true⟩).1 (J.next ⟨.zero,true⟩).2):Mv st L k Q v g J (Yi w):=.drop rfl b ⟨g',c,h⟩
def Mv.rt(b:v.Rf w)(c:g.own w.sl=.Cv k)(h:∀d,Q v (g.noted w.sl k d) (J.next ⟨.zero,true⟩).1 (J.next ⟨.zero,true⟩).2):Mv st L k Q v g J (Xk w):=.retire rfl b g (fq rfl) c h
end
section
variable{st:Int}{L:Qh}{v v':Vw}{g g':EG}{a k:Nat}{l s f d gn:Int}{w x y:Xe}{ad:Yc}
def Jh.refl:Jh v g v g:=⟨rfl,rfl,λ_ _ h=>⟨h,rfl,rfl⟩,λ_=>j3,rfl,λ_ _ h _=>h⟩
structure Mu(v:Vw):Prop where
 rt:∀r,0<=(v.root r).tg/\(v.root r).tg<9000000000000000000
 ce:∀s f,0<=(v.cell s f).tg/\(v.cell s f).tg<9000000000000000000
def Gk(h:0<=w.tg/\w.tg<9000000000000000000):(A4 w x).tg=w.tg+1:=FK Zo Zo
def Ew(v:Vw)(g:EG)(k:Nat)(w:Xe):Prop:=w.sl≠0/\g.own w.sl=.Dl k/\w.gn=v.AB w.sl
def Ew.rf(h:Ew v g k w)(b:AA st v g):v.Rf w:=⟨h.1,jk λq=>(by have:=(b.tok w.sl).2 q;rw[h.2.1] at this;cases this),h.2.2⟩
def Ew.Cm(h:Ew v g k w)(b:AA st v g)(l:Int):¬g.Cm l w.sl:=λq=>(b.lo l _ q).2.2.2 k h.2.1
def Ew.A3(h:Ew v g k w){ce:Int->Xe->Xe->Prop}(e:Ev a ce v g v' g')(b:k≠a):Ew v' g' k w/\v'.cell w.sl=v.cell w.sl:=by
 obtain⟨c,m,n⟩:=e.pv w.sl k b h.2.1;exact⟨⟨h.1,c,m▸h.2.2⟩,n⟩
def Good.take(b:N4 st L)(c:AA st v g)(u:L.si v g)(p:¬v.held s)(d:Int):Good st L k v g (v.take s d) (g.GR s (.Dl k))/\L.Cd (v.take s d) (g.GR s (.Dl k))=L.Cd v g:=by
 obtain ⟨m,z⟩:=c.take (a:=k) (ce:=L.ce) p d;have q:=(c.tok s).2 p;have n:Jh v g (v.take s d) (g.GR s (.Dl k)):=⟨rfl,rfl,fun l t r=>by
  have e:t≠s:=λe=>(c.lo l t r).2.2.1 (e▸q);exact⟨r,Ke e,by show Ar v.AB s d t=_;rw[X9,fw e]⟩,λt=>by
  show Ar g.own s (Tq.Dl k) t=_↔_;rw[X9];by_cases e:t=s
  ·rw[ga e,e,q];simp
  ·rw[fw e],rfl,λ_ _ h _=>h⟩
 exact⟨⟨m,b.si m u n,z,b.x n,rfl,λ_ _ h=>h⟩,b.Cd m n⟩
def Good.store(c:N4 st L)(m:AA st v g)(r:L.si v g)(b:Ew v g k w):Good st L k v g (v.put (Xh w f) x) g/\L.Cd (v.put (Xh w f) x) g=L.Cd v g:=by
 have n:Jh v g (v.put (Xh w f) x) g:=⟨by unfold Vw.put;rw [fw (show (Xh w f).sl≠0 from b.1)],rfl,fun l t q=>⟨q,by
  funext e;exact Yv t e λu=>b.Cm m l (by rw[←show t=w.sl from u.1];exact q),by rw[Y0]⟩,λ_=>j3,rfl,λ_ _ h _=>h⟩
 have p:=m.yU (x:=x) (gn:=w.gn) (f:=f) b.1 λl _ _ h=>absurd h (b.Cm m l);exact⟨⟨p,c.si p r n,NU b.1 (fq b.2.1),c.x n,rfl,λ_ _ h=>h⟩,c.Cd p n⟩
def Good.drop(c:N4 st L)(q:AA st v g)(r:L.si v g)(m:Ew v g k w):Good st L k v g (v.drop w.sl) (g.A7 w.sl)/\L.Cd (v.drop w.sl) (g.A7 w.sl)=L.Cd v g:=by
 obtain ⟨n,u⟩:=q.free (a:=k) (ce:=L.ce) (fq m.2.1);have p:Jh v g (v.drop w.sl) (g.A7 w.sl):=⟨rfl,rfl,fun l t b=>⟨b.1,rfl,rfl⟩,fun t=>by
  show Ar g.own w.sl Tq.free t=_↔_;rw[X9];by_cases e:t=w.sl
  ·rw[ga e,e,m.2.1];simp
  ·rw[fw e],rfl,λl t b _=>⟨b,λe=>m.Cm q l (by rw[←e];exact b)⟩⟩
 exact⟨⟨n,c.si n r p,u,c.x p,rfl,λ_ _ h=>h⟩,c.Cd n p⟩
def J4(s0:s≠0):Ew (v.take s d) (g.GR s (.Dl k)) k ⟨s,d,0,0,false⟩:=
 ⟨s0,by show Ar g.own s (Tq.Dl k) s=_;rw[X9,ga rfl],by show d=Ar v.AB s d s;rw[X9,ga rfl]⟩
def Ev.Cv{ce:Int->Xe->Xe->Prop}(e:Ev a ce v g v' g')(r:g'.own s=.DJ):Ev a ce v g v' (g'.GR s (.Cv k)):=by
 have c:∀t,(g'.GR s (.Cv k)).own t=if t=s then Tq.Cv k else g'.own t:=λt=>X9 _ _ _ _;have u:∀t,(g'.GR s (.Cv k)).own t≠.free->g'.own t≠.free:=λt h q=>h (by rw[c,fw λe=>by rw[e,r] at q;cases q];exact q);have m:∀{t q},g'.own t=q->q≠.DJ->(g'.GR s (.Cv k)).own t=q:=λ{t q} h z=>by rw[c,fw λe=>z (by rw[←h,e,r])];exact h
 refine⟨e.rt,e.ak,e.sf,λl t n p=>e.lk l t n (u t p),λt n p A=>?_,λt j b h=>?_,λt j b=>⟨λh=>m ((e.pe t j b).1 h) Zs,λh=>⟨m ((e.pe t j b).2 h).1 Zs,((e.pe t j b).2 h).2⟩⟩⟩
 ·obtain⟨p1,p2,B⟩:=e.pc t n p (u t A);refine⟨p1,λk q=>?_,B⟩;rw[c] at q;split at q
  ·cases q
  ·exact p2 k q
 ·obtain⟨p1,p2⟩:=e.pv t j b h;exact⟨m p1 Zs,p2⟩
def vQ(ce:Int->Xe->Xe->Prop)(k:Nat)(v:Vw)(g:EG)(v':Vw)(g':EG):Prop:=g'.A k≠none/\∀l s,g.Sf k l s->g'.Sf k l s/\v'.AB s=v.AB s/\∀f,v'.cell s f=v.cell s f\/ce f (v.cell s f) (v'.cell s f)
def Good.Et(h:Good st L k v g v' g')(c:AA st v g)(e:g.A k≠none):vQ L.ce k v g v' g':=by
 have b:g'.A k≠none:=by rw[h.ak];exact e
 refine⟨b,λl s m=>?_⟩;have n:=h.sk l s m;have p:=c.lo l _ (c.Lc e m).1;have q:=h.ev.pc s p.2.2.1 p.2.2.2 (h.eg.lo l _ (h.eg.Lc b n).1).2.2.1;exact⟨n,q.1,λf=>(q.2.2 f).imp id λq=>q.1⟩
def Ev.Et{ce:Int->Xe->Xe->Prop}(e:Ev a ce v g v' g')(b:k≠a)(m:AA st v g)(n:AA st v' g')(c:g.A k≠none):vQ ce k v g v' g':=
 ⟨by rw[e.ak k b];exact c,λl s h=>⟨e.sf k b l s h,(e.cell b m n c h).1,λf=>((e.cell b m n c h).2 f).imp id λq=>q.1⟩⟩
def WR.Et{ce:Int->Xe->Xe->Prop}(h:WR v g k l w)(e:vQ ce k v g v' g'):WR v' g' k l w:=λb=>by
 obtain⟨c,m⟩:=h b;obtain⟨n,p,_⟩:=e.2 l _ c;exact⟨n,p▸m⟩
def Ew.put(h:Ew v g k w):Ew (v.put ad x) g k w:=⟨h.1,h.2.1,by rw[Y0];exact h.2.2⟩
end
def ZQ:Qh:=⟨λ_ _ _=>False,λ_ _=>True,λ_ _ _ _ _=>True,λ_ _=>0⟩
def mR(v:Vw)(g:EG)(k:Nat)(w:Xe):Prop:=w.sl≠0/\g.own w.sl=.Cv k/\w.gn=v.AB w.sl
inductive Ji(v:Vw)(g:EG)(k:Nat):Xy->Xi->Prop
 |d {J c} (h:c.kind=12):Ji v g k J c
 |u1 {l o n t x} (ho:o.kind=1):Ji v g k ⟨1,l,o,n,t,x⟩ Xu
 |u2 {l o n t x} (ho:o.kind=1) (hw:Ew v g k n):Ji v g k ⟨2,l,o,n,t,x⟩ (Xq (Xh n 1) (Y6 o.val))
 |u3 {l o n t x} (ho:o.kind=1) (hw:Ew v g k n):Ji v g k ⟨3,l,o,n,t,x⟩ (Xm (root 0))
 |u4 {l o n t x} (ho:o.kind=1) (hw:Ew v g k n) (hs:IC (v.root 0) t):Ji v g k ⟨4,l,o,n,t,x⟩ (Xq (Xh n 2) (Yx t))
 |u5 {l o n t x} (ho:o.kind=1) (hw:Ew v g k n) (hs:IC (v.root 0) t) (hc:v.cell n.sl 2=Yx t):Ji v g k ⟨5,l,o,n,t,x⟩ (Xp (root 0) t (A4 t n))
 |o1 {l o n t x} (ho:o.kind≠1):Ji v g k ⟨1,l,o,n,t,x⟩ (Xg (root 0) 0)
 |o2 {l o n t x} (ho:o.kind≠1/\o.kind≠3) (t0:t.sl≠0) (hw:WR v g k 0 t) (hs:IC (v.root 0) t):Ji v g k ⟨2,l,o,n,t,x⟩ (Xm (Xh t 2))
 |o3 {l o n t x y} (ho:o.kind≠1/\o.kind≠3) (t0:t.sl≠0) (hw:WR v g k 0 t) (hs:IC (v.root 0) t) (hc:v.cell t.sl 2=y):Ji v g k ⟨3,l,o,n,t,x⟩ (Xp (root 0) t (A4 t y))
 |o4 {l o n t x} (ho:o.kind≠1) (t0:t.sl≠0) (hw:o.kind=3/\WR v g k 0 t\/o.kind≠3/\mR v g k t):Ji v g k ⟨4,l,o,n,t,x⟩ (Xm (Xh t 1))
 |o5 {l o n t x} (ho:o.kind≠1) (hw:mR v g k t):Ji v g k ⟨5,l,o,n,t,x⟩ (Xk t)
def G7(v:Vw)(J:Xy):Nat:=
 if J.op.kind=1 then(if J.pc=1 then 5 else if J.pc=2 then 4 else if J.pc=3 then 3 else if J.pc=4 then(if v.root 0=J.Qo then 2 else 5) else if J.pc=5 then(if v.root 0=J.Qo then 1 else 4) else 0)
 else(if J.pc=1 then 16 else if J.pc=2 then(if v.root 0=J.Qo then 15 else 18) else if J.pc=3 then(if v.root 0=J.Qo then 14 else 17) else if J.pc=4 then 13 else if J.pc=5 then 12 else 0)
section
variable{st:Int}{v v':Vw}{g g':EG}{a k:Nat}{s f d gn:Int}{w x y:Xe}{ad:Yc}{J:Xy}{c:Xi}{ce:Int->Xe->Xe->Prop}
def mR.rf(h:mR v g k w)(b:AA st v g):v.Rf w:=⟨h.1,jk λq=>(by have:=(b.tok w.sl).2 q;rw[h.2.1] at this;cases this),h.2.2⟩
def mR.A3(h:mR v g k w)(e:Ev a ce v g v' g')(i:k≠a):mR v' g' k w:=by
 have b:=(e.pe w.sl k i).1 h.2.1;exact⟨h.1,b,by rw[(e.pc w.sl (by rw[h.2.1];simp) (by rw[h.2.1];simp) (by rw[b];simp)).1];exact h.2.2⟩
def Hz(h:w.sl≠0):(v.put (Xh w f) x).root=v.root:=by unfold Vw.put;rw[fw (show(Xh w f).sl≠0 from h)]
def Kr:N4 1 ZQ:=⟨λ_ _ _=>trivial,λ_=>trivial,λ_ _=>rfl⟩
def xv:Zn 1 0:=⟨hJ 0,Zd⟩
def Ji.A3(h:Ji v g k J c)(o:AA 1 v g)(p:AA 1 v' g')(e:Ev a ZQ.ce v g v' g')(j:k≠a)(q:g.A k≠none):Ji v' g' k J c:=by
 have m:∀{t},IC (v.root 0) t->IC (v'.root 0) t:=λh=>h.up (e.rt 0);have wr:∀{t},WR v g k 0 t->WR v' g' k 0 t:=λh=>h.A3 e j o p q;cases h with
 |d h=>exact .d h
 |u1 b=>exact .u1 b
 |u2 b i=>exact .u2 b (i.A3 e j).1
 |u3 b i=>exact .u3 b (i.A3 e j).1
 |u4 b i l=>exact .u4 b (i.A3 e j).1 (m l)
 |u5 b i l n=>exact .u5 b (i.A3 e j).1 (m l) (by rw[(i.A3 e j).2];exact n)
 |o1 b=>exact .o1 b
 |o2 b t0 i l=>exact .o2 b t0 (wr i) (m l)
 |o3 b t0 i l n=>exact .o3 b t0 (wr i) (m l) (by rw[((e.cell j o p q (i t0).1).2 2).resolve_right λh=>h.1];exact n)
 |o4 b t0 i=>exact .o4 b t0 (i.imp (λh=>⟨h.1,wr h.2⟩) λh=>⟨h.1,h.2.A3 e j⟩)
 |o5 b i=>exact .o5 b (i.A3 e j)
def yZ(j:AA 1 v g)(G:g.A k≠none)(L:Mu v)(h:Ji v g k J c):
  Mv 1 ZQ k (λv' g' Q R=>∃H,Q=.pile H/\Ji v' g' k H R/\G7 v' H+wt c<=G7 v J) v g (.pile J) c:=by
 have F:v.Ad (root 0):=Me Zd Zd
 have I:g.LL 0=[]++g.LL 0:=rfl
 cases h with
 |d h=>exact .done h
 |@u1 l o n t x b=>
  refine .al (λs d S p=>⟨_,(Good.take Kr j trivial p d).1,_,rfl,?_⟩) ⟨_,rfl,?_⟩
  ·simp[Xz.next,Xy.next,Xy.push,Xy.pop,Xy.done,b];exact⟨.u2 b (J4 S),by simp[G7,wt,Xu,Xm,Xq,Xp,Xg,Xk,X3,b]⟩
  ·simp[Xz.next,Xy.next,Xy.push,Xy.pop,Xy.done,b];exact⟨.d rfl,by simp[G7,wt,Xu,Xm,Xq,Xp,Xg,Xk,X3,b]⟩
 |@u2 l o n t x b e=>
  refine .so (Bi (e.rf j) Zd Zd) (Good.store Kr j trivial e).1 ⟨_,rfl,?_⟩
  simp[Xz.next,Xy.next,Xy.push,Xy.pop,Xy.done,b]
  exact⟨.u3 b e.put,by simp[G7,wt,Xu,Xm,Xq,Xp,Xg,Xk,X3,b]⟩
 |@u3 l o n t x b e=>
  refine .ld F ⟨_,rfl,?_⟩
  simp[Xz.next,Xy.next,Xy.push,Xy.pop,Xy.done,b]
  exact⟨.u4 b e .refl,by simp[G7,wt,Xu,Xm,Xq,Xp,Xg,Xk,X3,b,Bg]⟩
 |@u4 l o n t x b e p=>
  refine .so (Bi (e.rf j) Zd Zd) (Good.store Kr j trivial e).1 ⟨_,rfl,?_⟩
  simp[Xz.next,Xy.next,Xy.push,Xy.pop,Xy.done,b]
  refine⟨.u5 b e.put (by rw[Hz e.1];exact p) (Dk e.1),?_⟩
  simp[G7,wt,Xu,Xm,Xq,Xp,Xg,Xk,X3,b,Hz e.1]
  split<;>decide
 |@u5 l o n t x b e p D=>
  refine .sw F (λm=>?_) λm=>⟨_,rfl,?_⟩
  ·have K:v.root 0=t:=p.same m;subst K;have T:=iy Xe.sl D;have U:=iy Xe.gn D;have:=j.link (a:=k) (ce:=ZQ.ce) (x:=A4 (v.root 0) n) xv I e.1 (fq e.2.1) (λq=>e.Cm j 0 (j.pb 0 xv _ q).2) ⟨rfl,e.2.2⟩ ⟨T,λ_=>U⟩ (Gk (L.rt 0)) (λs p=>(by cases p));refine⟨_,⟨this.1,trivial,this.2,trivial,rfl,λ_ _ h=>fq h⟩,_,rfl,?_⟩;simp[Xz.next,Xy.next,Xy.push,Xy.pop,Xy.done,b];exact⟨.d rfl,by simp[G7,wt,Xu,Xm,Xq,Xp,Xg,Xk,X3,b]⟩
  ·have C:v.root 0≠t:=m;simp[Xz.next,Xy.next,Xy.push,Xy.pop,Xy.done,b];exact⟨.u3 b e,by simp[G7,wt,Xu,Xm,Xq,Xp,Xg,Xk,X3,b,C]⟩
 |@o1 l o n t x b=>
  refine .pr F ⟨_,rfl,?_⟩
  have M:WR v g k 0 (v.root 0):=DH.word (fq rfl) j G xv
  by_cases E:(v.root 0).sl=0
  ·simp[Xz.next,Xy.next,Xy.push,Xy.pop,Xy.done,b,Bg,E];exact⟨.d rfl,by simp[G7,wt,Xu,Xm,Xq,Xp,Xg,Xk,X3,b]⟩
  ·by_cases B:o.kind=3
   ·simp[Xz.next,Xy.next,Xy.push,Xy.pop,Xy.done,B,Bg,E];exact⟨.o4 b E (fq ⟨B,M⟩),by simp[G7,wt,Xu,Xm,Xq,Xp,Xg,Xk,X3,B]⟩
   ·simp[Xz.next,Xy.next,Xy.push,Xy.pop,Xy.done,b,B,Bg,E];exact⟨.o2 ⟨b,B⟩ E M .refl,by simp[G7,wt,Xu,Xm,Xq,Xp,Xg,Xk,X3,b]⟩
 |@o2 l o n t x b i e p=>
  refine .ld (e.AJ i j G Zd Zd) ⟨_,rfl,?_⟩
  simp[Xz.next,Xy.next,Xy.push,Xy.pop,Xy.done,b.1,b.2]
  refine⟨.o3 b i e p (Y3 i).symm,?_⟩
  simp[G7,wt,Xu,Xm,Xq,Xp,Xg,Xk,X3,b.1]
  split<;>decide
 |@o3 l o n t x y b i e p D=>
  refine .sw F (λm=>?_) λm=>⟨_,rfl,?_⟩
  ·have K:v.root 0=t:=p.same m;subst K;have u:=j.ch 0 xv;have u:Ic v 2 (v.root 0) (g.LL 0):=u;cases z:g.LL 0 with
   |nil=>rw[z] at u;exact absurd u i
   |cons s r=>
    rw[z] at u;obtain⟨V,W,Z⟩:=u;subst V;have I:g.LL 0=[]++(v.root 0).sl::r:=z;have N:=j.unlink (a:=k) (ce:=ZQ.ce) (x:=A4 (v.root 0) y) xv I ⟨(iy Xe.sl D).symm,(iy Xe.gn D).symm⟩ (Gk (L.rt 0)) (λs p=>(by cases p));have X:∀l,Zn 1 l->(v.root 0).sl∉(g.Ej 0 r).LL l:=λl O=>by
     have:l=0:=by have:=O.1;have:l<1:=O.2;omega
     subst this;show _∉Ar g.LL 0 r 0;rw[X9,ga rfl];have:=j.nd 0 xv;rw[z] at this;exact(ja.1 this).1
    have P:=(j.pb 0 xv (v.root 0).sl (by rw[z];exact g6 ..)).1;have Y:=N.1.Cv (a:=k) (ce:=ZQ.ce) P X;refine⟨_,⟨Y.1,trivial,N.2.Cv P,trivial,rfl,λ_ _ h=>h⟩,_,rfl,?_⟩;simp[Xz.next,Xy.next,Xy.push,Xy.pop,Xy.done,b.1,b.2];exact⟨.o4 b.1 i (db ⟨b.2,i,by show Ar g.own _ _ _=_;rw[X9,ga rfl],by rw[Y0];exact W.2.2⟩),by simp[G7,wt,Xu,Xm,Xq,Xp,Xg,Xk,X3,b.1]⟩
  ·have C:v.root 0≠t:=m;simp[Xz.next,Xy.next,Xy.push,Xy.pop,Xy.done,b.1,b.2];exact⟨.o1 b.1,by simp[G7,wt,Xu,Xm,Xq,Xp,Xg,Xk,X3,b.1,C]⟩
 |@o4 l o n t x b i e=>
  refine .ld ?_ ⟨_,rfl,?_⟩
  ·rcases e with⟨_,e⟩|⟨_,e⟩
   ·exact e.AJ i j G Zd Zd
   ·exact Bi (e.rf j) Zd Zd
  ·rcases e with⟨B,e⟩|⟨B,e⟩
   ·simp[Xz.next,Xy.next,Xy.push,Xy.pop,Xy.done,B];exact⟨.d rfl,by simp[G7,wt,Xu,Xm,Xq,Xp,Xg,Xk,X3,B]⟩
   ·simp[Xz.next,Xy.next,Xy.push,Xy.pop,Xy.done,b,B];exact⟨.o5 b e,by simp[G7,wt,Xu,Xm,Xq,Xp,Xg,Xk,X3,b]⟩
 |@o5 l o n t x b e=>
  refine .rt (e.rf j) e.2.1 λd=>⟨_,rfl,?_⟩
  simp[Xz.next,Xy.next,Xy.push,Xy.pop,Xy.done,b]
  exact⟨.d rfl,by simp[G7,wt,Xu,Xm,Xq,Xp,Xg,Xk,X3,b]⟩
end
def IY(L:List Int)(s:Int):Nat:=(L.dropWhile λt=>!(t==s)).length
def JV{pre post:List Int}{s:Int}(h:s∉pre):IY (pre++s::post) s=post.length+1:=by
 unfold IY;induction pre with
 |nil=>simp
 |cons a r b=>
  have i:a≠s:=λe=>h (by rw[e];exact g6 ..);simp[i];simpa using b λe=>h (gq _ e)
def AA.nxt{st l:Int}{v:Vw}{g:EG}{s:Int}(h:AA st v g)(i:Zn st l)(m:s∈g.LL l):∃pre post,g.LL l=pre++s::post/\s∉pre/\El st v l (pre++[s])=⟨s,v.AB s,2+l⟩/\Ic v (2+l) (v.cell s (2+l)) post:=by
 obtain⟨p,q,j⟩:=List.append_of_mem m;have b:=h.nd l i;rw[j] at b;have e:=h.at_ (pre:=p++[s]) (post:=q) i (by rw[j];simp);have o:El st v l (p++[s])=⟨s,v.AB s,2+l⟩:=Tk s;rw[o,BW (h.zero i m)] at e;exact⟨p,q,j,λu=>(h9.1 b).2.2 s u s (g6 ..) rfl,o,e⟩
def En:Qh:=⟨fun f o _=>f = 2∧o.sl = 0,fun v g=>(v.root 1).sl∈g.LL 0∧(v.root 1).gn = v.AB (v.root 1).sl∧∀ s,g.Cm 0 s→(v.cell s 2).sl = 0→s∈g.LL 0,
 λ_ v _ v' _=>v'.root 0=v.root 0->v'.root 1=v.root 1\/(v'.root 1).sl≠(v.root 0).sl,λv g=>6*IY (g.LL 0) (v.root 1).sl⟩
def Rd(v:Vw)(g:EG)(k:Nat)(r:Int)(w:Xe):Prop:=w.sl≠0/\WR v g k 0 w/\IC (v.root r) w
def sq(v:Vw)(h:Xe):Prop:=v.root 0=h->(v.root 1).sl≠h.sl
inductive GD(v:Vw)(g:EG)(k:Nat):Xx->Xi->Prop
 |d {J c} (h:c.kind=12):GD v g k J c
 |e1 {l o nd h t n x} (ho:o.kind=4):GD v g k ⟨1,l,o,nd,h,t,n,x⟩ Xu
 |e2 {l o nd h t n x} (ho:o.kind=4) (hw:Ew v g k nd) (hz:v.cell nd.sl 2=.zero):GD v g k ⟨2,l,o,nd,h,t,n,x⟩ (Xq (Xh nd 1) (Y6 o.val))
 |e3 {l o nd h t n x} (ho:o.kind=4) (hw:Ew v g k nd) (hz:v.cell nd.sl 2=.zero):GD v g k ⟨3,l,o,nd,h,t,n,x⟩ (Xg (root 1) 0)
 |e4 {l o nd h t n x} (ho:o.kind=4) (hw:Ew v g k nd) (hz:v.cell nd.sl 2=.zero) (ht:Rd v g k 1 t):GD v g k ⟨4,l,o,nd,h,t,n,x⟩ (Xm (Xh t 2))
 |e5 {l o nd h t n x} (ho:o.kind=4) (hw:Ew v g k nd) (hz:v.cell nd.sl 2=.zero) (ht:Rd v g k 1 t) (hn:IC (v.cell t.sl 2) n/\(n.sl≠0->v.cell t.sl 2=n)):GD v g k ⟨5,l,o,nd,h,t,n,x⟩ (Xm (root 1))
 |e6 {l o nd h t n x} (ho:o.kind=4) (hw:Ew v g k nd) (hz:v.cell nd.sl 2=.zero) (ht:Rd v g k 1 t) (hn:n.sl≠0/\v.cell t.sl 2=n):GD v g k ⟨6,l,o,nd,h,t,n,x⟩ (Xp (root 1) t (A4 t n))
 |e7 {l o nd h t n x} (ho:o.kind=4) (hw:Ew v g k nd) (hz:v.cell nd.sl 2=.zero) (ht:Rd v g k 1 t) (hn:IC (v.cell t.sl 2) n/\n.sl=0):GD v g k ⟨7,l,o,nd,h,t,n,x⟩ (Xp (Xh t 2) n (A4 n nd))
 |e8 {l o nd h t n x} (ho:o.kind=4) (ht:Rd v g k 1 t) (hn:nd.sl≠0/\∃y,v.cell t.sl 2=A4 y nd):GD v g k ⟨8,l,o,nd,h,t,n,x⟩ (Xp (root 1) t (A4 t nd))
 |q1 {l o nd h t n x} (ho:o.kind≠4):GD v g k ⟨1,l,o,nd,h,t,n,x⟩ (Xg (root 0) 0)
 |q2 {l o nd h t n x} (ho:o.kind≠4) (hh:Rd v g k 0 h):GD v g k ⟨2,l,o,nd,h,t,n,x⟩ (Xm (root 1))
 |q3 {l o nd h t n x} (ho:o.kind≠4) (hh:Rd v g k 0 h) (ht:Rd v g k 1 t) (hd:t.sl≠h.sl->sq v h):GD v g k ⟨3,l,o,nd,h,t,n,x⟩ (Xg (Xh h 2) 1)
 |q4 {l o nd h t n x} (ho:o.kind≠4) (hh:Rd v g k 0 h) (ht:Rd v g k 1 t) (hd:t.sl≠h.sl->sq v h) (hn:WR v g k 0 n) (hc:n.sl≠0->v.cell h.sl 2=n):GD v g k ⟨4,l,o,nd,h,t,n,x⟩ (Xm (root 0))
 |q5 {l o nd h t n x} (ho:o.kind≠4) (ht:Rd v g k 1 t) (hn:n.sl≠0/\v.cell t.sl 2=n):GD v g k ⟨5,l,o,nd,h,t,n,x⟩ (Xp (root 1) t (A4 t n))
 |q6 {l o nd h t n x} (ho:o.kind≠4) (hh:Rd v g k 0 h) (hd:sq v h) (hw:WR v g k 0 n) (hn:n.sl≠0/\v.cell h.sl 2=n):GD v g k ⟨6,l,o,nd,h,t,n,x⟩ (Xm (Xh n 1))
 |q7 {l o nd h t n x} (ho:o.kind≠4) (hh:Rd v g k 0 h) (hd:sq v h) (hn:n.sl≠0/\v.cell h.sl 2=n):GD v g k ⟨7,l,o,nd,h,t,n,x⟩ (Xp (root 0) h (A4 h n))
 |q8 {l o nd h t n x} (ho:o.kind≠4) (hw:mR v g k h):GD v g k ⟨8,l,o,nd,h,t,n,x⟩ (Xk h)
def DP(v:Vw)(J:Xx):Nat:=
 if J.op.kind=4 then(if J.pc=1 then 13 else if J.pc=2 then 12 else if J.pc=3 then 11 else if J.pc=4 then(if v.root 1=J.t then 10 else 14) else if J.pc=5 then(if v.root 1=J.t/\v.cell J.t.sl 2=J.n then 9 else 13) else if J.pc=6 then(if v.root 1=J.t then 8 else 12) else if J.pc=7 then(if v.cell J.t.sl 2=J.n then 8 else 12) else if J.pc=8 then 1 else 0)
 else(if J.pc=1 then 18 else if J.pc=2 then(if v.root 0=J.h then 17 else 22) else if J.pc=3 then(if v.root 0=J.h/\v.root 1=J.t then 16 else 21) else if J.pc=4 then(if v.root 0=J.h/\v.root 1=J.t then 15 else 20) else if J.pc=5 then(if v.root 1=J.t then 13 else 19) else if J.pc=6 then(if v.root 0=J.h then 14 else 20) else if J.pc=7 then(if v.root 0=J.h then 13 else 19) else if J.pc=8 then 12 else 0)
section
variable{v v':Vw}{g g':EG}{a k:Nat}{s f d gn r:Int}{w x y h n t:Xe}{ad:Yc}{J:Xx}{c:Xi}
def Tv:Zn 2 0:=⟨hJ 0,Zd⟩
def MJ:N4 2 En:=by
 refine⟨λ{v g v' g'} j ⟨l,m,o⟩ b=>?_,λb _=>fq (by rw[b.rt]),λ_ b=>by show 6*_=6*_;rw[b.rt,b.ll]⟩;have e:(v.root 1).sl∈g'.LL 0:=by rw[b.ll];exact l
 show(v'.root 1).sl∈g'.LL 0/\(v'.root 1).gn=v'.AB (v'.root 1).sl/\_;rw[b.rt];exact⟨e,by rw[(b.lk 0 _ (j.pb 0 Tv _ e).2).2.2];exact m,λs i p=>by rw[b.ll];exact o s (b.lk 0 s i).1 (by rw[←(b.lk 0 s i).2.1];exact p)⟩
def Rd.A3(h:Rd v g k r w)(b:AA 2 v g)(i:AA 2 v' g')(e:Ev a En.ce v g v' g')(j:k≠a)(l:g.A k≠none):Rd v' g' k r w:=⟨h.1,h.2.1.A3 e j b i l,h.2.2.up (e.rt r)⟩
def Rd.fz(h:Rd v g k r w)(i:AA 2 v g)(j:AA 2 v' g')(e:Ev a En.ce v g v' g')(l:k≠a)(m:g.A k≠none):(n.sl≠0->v.cell w.sl 2=n->v'.cell w.sl 2=n)/\(IC (v.cell w.sl 2) n->IC (v'.cell w.sl 2) n):=by
 have h1:=(e.cell l i j m (h.2.1 h.1).1).2 2;refine⟨λn0 b=>?_,λo=>o.up (h1.imp id λq=>q.2)⟩;rcases h1 with h1|h1
 ·rw[h1];exact b
 ·exact absurd h1.1.2 (by rw[b];exact n0)
def sq.A3(h:sq v w)(j:IC (v.root 0) w)(e:Ev a En.ce v g v' g')(l:En.x a v g v' g'):sq v' w:=λb=>by
 have i:v'.root 0=v.root 0:=by
  rcases e.rt 0 with q|q
  ·exact q
  ·have:=j.1;rw[b] at q;omega
 have m:=h (i.symm.trans b);rcases l i with q|q
 ·rw[q];exact m
 ·rw[←b,i];exact q
def GD.A3(h:GD v g k J c)(E:AA 2 v g)(F:AA 2 v' g')(e:Ev a En.ce v g v' g')(I:En.x a v g v' g')(u:k≠a)(G:g.A k≠none):GD v' g' k J c:=by
 have o:∀{r w},Rd v g k r w->Rd v' g' k r w:=λh=>h.A3 E F e u G;have D:∀{w},Ew v g k w->v.cell w.sl 2=.zero->v'.cell w.sl 2=.zero:=λh p=>by rw[(h.A3 e u).2];exact p
 have B:∀{r w n},Rd v g k r w->n.sl≠0/\v.cell w.sl 2=n->n.sl≠0/\v'.cell w.sl 2=n:=λh q=>⟨q.1,(h.fz E F e u G).1 q.1 q.2⟩;have H:∀{r w n},Rd v g k r w->IC (v.cell w.sl 2) n->IC (v'.cell w.sl 2) n:=λ{r w n} h=>(h.fz (n:=n) E F e u G).2;have wr:∀{t},WR v g k 0 t->WR v' g' k 0 t:=λh=>h.A3 e u E F G;have z:∀{h},Rd v g k 0 h->sq v h->sq v' h:=λh q=>q.A3 h.2.2 e I;cases h with
 |d h=>exact .d h
 |e1 b=>exact .e1 b
 |e2 b i p=>exact .e2 b (i.A3 e u).1 (D i p)
 |e3 b i p=>exact .e3 b (i.A3 e u).1 (D i p)
 |e4 b i p j=>exact .e4 b (i.A3 e u).1 (D i p) (o j)
 |e5 b i p j l=>exact .e5 b (i.A3 e u).1 (D i p) (o j) ⟨H j l.1,λn0=>(B j ⟨n0,l.2 n0⟩).2⟩
 |e6 b i p j l=>exact .e6 b (i.A3 e u).1 (D i p) (o j) (B j l)
 |e7 b i p j l=>exact .e7 b (i.A3 e u).1 (D i p) (o j) ⟨H j l.1,l.2⟩
 |e8 b j l=>exact .e8 b (o j) ⟨l.1,l.2.imp λy K=>(B (n:=A4 y _) j ⟨l.1,K⟩).2⟩
 |q1 b=>exact .q1 b
 |q2 b m=>exact .q2 b (o m)
 |q3 b m j C=>exact .q3 b (o m) (o j) λh=>z m (C h)
 |q4 b m j C l L=>exact .q4 b (o m) (o j) (λh=>z m (C h)) (wr l) λn0=>(B m ⟨n0,L n0⟩).2
 |q5 b j l=>exact .q5 b (o j) (B j l)
 |q6 b m C i l=>exact .q6 b (o m) (z m C) (wr i) (B m l)
 |q7 b m C l=>exact .q7 b (o m) (z m C) (B m l)
 |q8 b i=>exact .q8 b (i.A3 e u)
end
section
variable{v v':Vw}{g g':EG}{a k:Nat}{s f d gn r:Int}{w x y h n t:Xe}{ad:Yc}{J:Xx}{c:Xi}
def Du{q:Int}(r:Int):(v.put (root q) x).root r=if r=q then x else v.root r:=X9 v.root q r x
def cP{L:List Int}{l:Int}:(g.Ej l L).LL l=L:=AP ..
def dQ{L:List Int}{l:Int}:(g.link l s L).LL l=L:=AP ..
def PI(z:AA 2 v g)(F:En.si v g)(G:Mu v)(H:n.sl≠0)(C:(v.cell (v.root 1).sl 2).sl=n.sl)(I:(v.cell (v.root 1).sl 2).gn=n.gn):Good 2 En k v g (v.put (root 1) (A4 (v.root 1) n)) g/\En.Cd (v.put (root 1) (A4 (v.root 1) n)) g+6=En.Cd v g:=by
 obtain⟨K,R,L⟩:=F;obtain⟨e,post,j,M,S,D⟩:=z.nxt Tv K;cases post with
 |nil=>exact absurd D (by show(v.cell _ 2).sl≠0;rw[C];exact H)
 |cons u r=>
  have A:n.sl=u:=C.symm.trans D.1;have m:=z.nd 0 Tv;rw[j] at m;obtain⟨n1,n2,N⟩:=h9.1 m;have i:u∉e++[(v.root 1).sl]:=λq=>by
   rcases gy.1 q with q|q
   ·exact N u q u Zs rfl
   ·rw[ft.1 q] at n2;exact(ja.1 n2).1 (g6 ..)
  have O:=z.v9 (x:=A4 (v.root 1) n) (r:=1) λl E=>by have:=E.1;have:l<1:=E.2;unfold Lu;rw[fw Zd];omega
  have B:∀q,(v.put (root 1) (A4 (v.root 1) n)).root q=if q=1 then A4 (v.root 1) n else v.root q:=Du;refine⟨⟨O,⟨?_,?_,L⟩,T4 (Gk (G.rt 1)),λ_=>db ?_,rfl,λ_ _ h=>h⟩,?_⟩
  ·rw[B,ga rfl];show n.sl∈_;rw[j,A];simp
  ·rw[B,ga rfl];show n.gn=v.AB n.sl;rw[←C,←I];exact D.2.1.2.2
  ·rw[B,ga rfl];show n.sl≠_;have o:=z.ch 0 Tv;have o:Ic v 2 (v.root 0) (g.LL 0):=o;rw[j] at o;cases e with
   |nil=>rw[o.1,A];exact λq=>i (by rw[q];simp)
   |cons b p=>rw[o.1,A];exact λq=>i (by rw[q];simp)
  ·show 6*IY (g.LL 0) _+6=6*IY (g.LL 0) _;rw[B,ga rfl];show 6*IY (g.LL 0) n.sl+6=_;have P:IY (g.LL 0) (v.root 1).sl=(u::r).length+1:=by rw[j];exact JV M
   have Q:IY (g.LL 0) u=r.length+1:=by rw[j,show e++(v.root 1).sl::u::r=(e++[(v.root 1).sl])++u::r by simp];exact JV i
   rw[A,P,Q,jb];omega
def uD(m:AA 2 v g)(j:En.si v g)(N:Mu v)(z:Ew v g k w)(O:v.cell w.sl 2=.zero)(H:g.Cm 0 t.sl)(E:t.gn=v.AB t.sl)(A:(v.cell t.sl 2).sl=0):
  ∃g',Good 2 En k v g (v.put (Xh t 2) (A4 (v.cell t.sl 2) w)) g'/\En.Cd (v.put (Xh t 2) (A4 (v.cell t.sl 2) w)) g'<=En.Cd v g+6/\g'.Sf k 0=λs=>g.Sf k 0 s\/(0:Int)=0/\s=w.sl:=by
 obtain⟨I,P,K⟩:=j
 have Q:=K _ H A
 have t0:t.sl≠0:=(m.lo 0 _ H).2.1
 obtain⟨b,post,C,W,R,S⟩:=m.nxt Tv Q
 cases post with
 |cons u r=>exact absurd S.1 (by show(v.cell _ 2).sl≠_;rw[A];have:=(m.zero Tv (s:=u) (by rw[C];simp));exact λq=>this q.symm)
 |nil=>
  have T:g.LL 0=(b++[t.sl])++[]:=by rw[C];simp
  have ha:El 2 v 0 (b++[t.sl])=Xh t 2:=by rw[R];unfold Xh;rw[E];rfl
  have l:v.get (El 2 v 0 (b++[t.sl]))=v.cell t.sl 2:=by rw[ha];exact Y3 t0
  have F:w.sl∉g.LL 0:=λq=>z.Cm m 0 (m.pb 0 Tv _ q).2
  have G:=m.link (a:=k) (ce:=En.ce) (s:=w.sl) (x:=A4 (v.cell t.sl 2) w) Tv T z.1 (fq z.2.1) F ⟨rfl,z.2.2⟩ (by rw[l];exact⟨by show(v.cell w.sl 2).sl=_;rw[O,A];rfl,λq=>absurd A q⟩) (by rw[l];exact Gk (N.ce _ _)) (λs _ U=>by rw[U,ha];exact⟨rfl,A⟩)
  rw[ha] at G
  have D:(v.put (Xh t 2) (A4 (v.cell t.sl 2) w)).root=v.root:=Hz t0
  have o:(g.link 0 w.sl (b++[t.sl]++w.sl::[])).LL 0=b++[t.sl]++[w.sl]:=dQ
  have B:∀s∈g.LL 0,s∈b++[t.sl]++[w.sl]:=λs j=>by rw[C] at j;exact g8 _ j
  refine⟨_,⟨G.1,⟨?_,?_,λs j i=>?_⟩,G.2,λ_=>fq (by rw[D]),rfl,λ_ _ h=>fq h⟩,?_,rfl⟩
  ·rw[D,o];exact B _ I
  ·rw[D,Y0];exact P
  ·rw[o];rcases j with j|⟨_,rfl⟩
   ·by_cases e:s=t.sl
    ·rw[e] at i;have:(v.put (Xh t 2) (A4 (v.cell t.sl 2) w)).cell t.sl 2=_:=Dk t0;rw[this] at i;exact absurd i z.1
    ·rw[Yv s 2 λq=>e q.1] at i;exact B _ (K s j i)
   ·simp
  ·show 6*IY ((g.link 0 w.sl (b++[t.sl]++w.sl::[])).LL 0) _<=6*IY (g.LL 0) _+6;rw[D,o];obtain⟨p,q,L,M,_⟩:=m.nxt Tv I;have V:b++[t.sl]++[w.sl]=p++(v.root 1).sl::(q++[w.sl]):=by rw[show b++[t.sl]=g.LL 0 from C.symm,L];simp
   rw[V,JV M,L,JV M];simp;omega
def uE(p:AA 2 v g)(j:En.si v g)(G:Mu v)(H:(v.root 1).sl≠(v.root 0).sl)(z:n.sl≠0/\v.cell (v.root 0).sl 2=n):
  ∃g',Good 2 En k v g (v.put (root 0) (A4 (v.root 0) n)) g'/\En.Cd (v.put (root 0) (A4 (v.root 0) n)) g'=En.Cd v g/\mR (v.put (root 0) (A4 (v.root 0) n)) g' k (v.root 0):=by
 obtain⟨u,N,O⟩:=j
 have m:Ic v 2 (v.root 0) (g.LL 0):=p.ch 0 Tv
 cases b:g.LL 0 with
 |nil=>rw[b] at u;cases u
 |cons s r=>
  rw[b] at m u
  obtain⟨P,I,U⟩:=m
  subst P
  have o:=p.nd 0 Tv
  rw[b] at o
  have Q:g.LL 0=[]++(v.root 0).sl::r:=b
  have K:=iy Xe.sl z.2
  have R:=iy Xe.gn z.2
  have L:=p.unlink (a:=k) (ce:=En.ce) (x:=A4 (v.root 0) n) Tv Q ⟨K.symm,R.symm⟩ (Gk (G.rt 0)) (λs j=>(by cases j))
  have i:(g.Ej 0 ([]++r)).LL 0=r:=cP
  have A:∀l,Zn 2 l->(v.root 0).sl∉(g.Ej 0 ([]++r)).LL l:=λl b=>by
   have:l=0:=by have:=b.1;have:l<1:=b.2;omega
   subst this;rw[i];exact(ja.1 o).1
  have M:=(p.pb 0 Tv (v.root 0).sl (by rw[b];exact g6 ..)).1
  have B:=L.1.Cv (a:=k) (ce:=En.ce) M A
  have C:(v.put (root 0) (A4 (v.root 0) n)).root 1=v.root 1:=(Du 1).trans (fw Zd)
  have D:(v.put (root 0) (A4 (v.root 0) n)).root 0=A4 (v.root 0) n:=(Du 0).trans (ga rfl)
  have E:=(gf.1 u).resolve_left H
  have T:IY (g.LL 0) (v.root 1).sl=IY r (v.root 1).sl:=by rw[b];unfold IY;simp[Ne.symm H]
  refine⟨_,⟨B.1,⟨?_,?_,λs j F=>?_⟩,L.2.Cv M,λq=>?_,rfl,λ_ _ h=>h⟩,?_,I.1,?_,?_⟩
  ·rw[C];show _∈(g.Ej 0 ([]++r)).LL 0;rw[i];exact E
  ·rw[C];exact N
  ·show _∈(g.Ej 0 ([]++r)).LL 0;rw[i];have:=O s j F;rw[b] at this;refine(gf.1 this).resolve_left λe=>?_;rw[e] at F;exact z.1 (K.symm.trans F)
  ·rw[D] at q;have:=iy Xe.tg q;rw[Gk (G.rt 0)] at this;omega
  ·show 6*IY ((g.Ej 0 ([]++r)).LL 0) _=6*IY (g.LL 0) _;rw[C,i,T]
  ·exact(X9 _ _ _ _).trans (ga rfl)
  ·exact I.2.2
end
section
variable{v v':Vw}{g g':EG}{a k:Nat}{s f d gn r:Int}{w x y h n t:Xe}{J:Xx}{c:Xi}
def Rd.AJ(h:Rd v g k r w)(b:AA 2 v g)(e:g.A k≠none)(i:0<=f)(j:f<9):v.Ad (Xh w f):=h.2.1.AJ h.1 b e i j
def qs(z:AA 2 v g)(G:En.si v g)(H:g.A k≠none)(M:Mu v)(h:GD v g k J c):
  Mv 2 En k (λv' g' J' c'=>∃T,J'=.Wu T/\GD v' g' k T c'/\DP v' T+wt c+En.Cd v' g'<=DP v J+En.Cd v g) v g (.Wu J) c:=by
 have U:v.Ad (root 0):=Me Zd Zd
 have L:v.Ad (root 1):=Me Zd Zd
 have N:Rd v g k 1 (v.root 1):=⟨z.zero Tv G.1,λ_=>⟨z.sl k H 0 Tv _ G.1,G.2.1⟩,.refl⟩
 have V:Rd v g k 0 (v.root 0):=by
  refine⟨λW=>?_,DH.word (fq rfl) z H Tv,.refl⟩;have O:Ic v 2 (v.root 0) (g.LL 0):=z.ch 0 Tv;have h1:=G.1;cases I:g.LL 0 with
  |nil=>rw[I] at h1;cases h1
  |cons s r=>rw[I] at O;exact O.2.1.1 W
 have P:∀{n r w},Rd v g k r w->v.get (Xh w n)=v.cell w.sl n:=λh=>Y3 h.1
 cases h with
 |d h=>exact .done h
 |@e1 l o B h t n x b=>
  have E:=λs d Q=>Good.take (k:=k) (s:=s) MJ z G Q d
  refine .al (λs d s0 Q=>⟨_,(E s d Q).1,_,rfl,?_⟩) ⟨_,rfl,?_⟩
  ·rw[(E s d Q).2];simp[Xz.next,Xx.next,Xx.enqueue,Xx.dequeue,Xx.done,b];exact⟨.e2 b (J4 s0) oN,by(simp[DP,wt,Xu,Xm,Xq,Xp,Xg,Xk,X3,b]<;>exact Zq)⟩
  ·simp[Xz.next,Xx.next,Xx.enqueue,Xx.dequeue,Xx.done,b];exact⟨.d rfl,by(simp[DP,wt,Xu,Xm,Xq,Xp,Xg,Xk,X3,b]<;>exact Zq)⟩
 |@e2 l o B h t n x b p D=>
  have E:=Good.store (f:=1) (x:=Y6 o.val) MJ z G p
  refine .so (Bi (p.rf z) Zd Zd) E.1 ⟨_,rfl,?_⟩
  rw[E.2]
  simp[Xz.next,Xx.next,Xx.enqueue,Xx.dequeue,Xx.done,b]
  exact⟨.e3 b p.put (by rw[Yv _ _ λq=>absurd q.2 (by show(2:Int)≠1;decide)];exact D),by(simp[DP,wt,Xu,Xm,Xq,Xp,Xg,Xk,X3,b]<;>exact Zq)⟩
 |@e3 l o B h t n x b p D=>
  refine .pr L ⟨_,rfl,?_⟩
  simp[Xz.next,Xx.next,Xx.enqueue,Xx.dequeue,Xx.done,b]
  exact⟨.e4 b p D N,by(simp[DP,wt,Xu,Xm,Xq,Xp,Xg,Xk,X3,b,Bg]<;>exact Zq)⟩
 |@e4 l o B h t n x b p D j=>
  refine .ld (j.AJ z H Zd Zd) ⟨_,rfl,?_⟩
  simp[Xz.next,Xx.next,Xx.enqueue,Xx.dequeue,Xx.done,b]
  rw[P j]
  exact⟨.e5 b p D j ⟨.refl,λ_=>rfl⟩,by(simp[DP,wt,Xu,Xm,Xq,Xp,Xg,Xk,X3,b]<;>exact Zq)⟩
 |@e5 l o B h t n x b p D j u=>
  refine .ld L ⟨_,rfl,?_⟩
  by_cases i:B7 (v.root 1) t=true
  ·have e:=j.2.2.same i;by_cases m:n.sl=0
   ·simp[Xz.next,Xx.next,Xx.enqueue,Xx.dequeue,Xx.done,b,Bg,i,m];exact⟨.e7 b p D j ⟨u.1,m⟩,by(simp[DP,wt,Xu,Xm,Xq,Xp,Xg,Xk,X3,b,e]<;>exact Zq)⟩
   ·simp[Xz.next,Xx.next,Xx.enqueue,Xx.dequeue,Xx.done,b,Bg,i,m];exact⟨.e6 b p D j ⟨m,u.2 m⟩,by(simp[DP,wt,Xu,Xm,Xq,Xp,Xg,Xk,X3,b,e,u.2 m]<;>exact Zq)⟩
  ·have e:v.root 1≠t:=λe=>i (by rw[e];exact GF _);simp[Xz.next,Xx.next,Xx.enqueue,Xx.dequeue,Xx.done,b,Bg,i];exact⟨.e3 b p D,by(simp[DP,wt,Xu,Xm,Xq,Xp,Xg,Xk,X3,b,e]<;>exact Zq)⟩
 |@e6 l o B h t n x b p D j u=>
  refine .sw L (λi=>?_) λC=>⟨_,rfl,?_⟩
  ·have e:v.root 1=t:=j.2.2.same i;subst e;have E:=PI (k:=k) z G M u.1 (iy Xe.sl u.2) (iy Xe.gn u.2);refine⟨_,E.1,_,rfl,?_⟩;have h2:=E.2;simp[Xz.next,Xx.next,Xx.enqueue,Xx.dequeue,Xx.done,b];exact⟨.e3 b (Ew.put p) D,by(simp[DP,wt,Xu,Xm,Xq,Xp,Xg,Xk,X3,b]<;>exact Zq)⟩
  ·have e:v.root 1≠t:=C;simp[Xz.next,Xx.next,Xx.enqueue,Xx.dequeue,Xx.done,b];exact⟨.e3 b p D,by(simp[DP,wt,Xu,Xm,Xq,Xp,Xg,Xk,X3,b,e]<;>exact Zq)⟩
 |@e7 l o B h t n x b p D j u=>
  refine .sw (j.AJ z H Zd Zd) (λi=>?_) λC=>⟨_,rfl,?_⟩
  ·have e:v.cell t.sl 2=n:=by have:=P (n:=2) j;rw[this] at i;exact u.1.same i
   have X:=z.Lc H (j.2.1 j.1).1;obtain⟨g',R,Y,Z⟩:=uD (k:=k) (t:=t) z G M p D X.1 (j.2.1 j.1).2 (by rw[e];exact u.2);rw[e] at R Y;have S:(v.put (Xh t 2) (A4 n B)).cell t.sl 2=A4 n B:=Dk j.1;have hr:(v.put (Xh t 2) (A4 n B)).root=v.root:=Hz j.1;refine⟨_,R,_,rfl,?_⟩;simp[Xz.next,Xx.next,Xx.enqueue,Xx.dequeue,Xx.done,b];refine⟨.e8 b ⟨j.1,λW=>?_,by rw[hr];exact j.2.2⟩ ⟨p.1,n,S⟩,by(simp[DP,wt,Xu,Xm,Xq,Xp,Xg,Xk,X3,b,e]<;>exact Zq)⟩;obtain⟨q1,q2⟩:=j.2.1 W;exact⟨by rw[Z];exact fq q1,by rw[Y0];exact q2⟩
  ·have e:v.cell t.sl 2≠n:=by have:=P (n:=2) j;rw[this] at C;exact C
   simp[Xz.next,Xx.next,Xx.enqueue,Xx.dequeue,Xx.done,b];exact⟨.e3 b p D,by(simp[DP,wt,Xu,Xm,Xq,Xp,Xg,Xk,X3,b,e]<;>exact Zq)⟩
 |@e8 l o B h t n x b j u=>
  obtain⟨aa,y,hy⟩:=u
  refine .sw L (λi=>?_) λC=>⟨_,rfl,?_⟩
  ·have e:v.root 1=t:=j.2.2.same i;subst e;have c1:=iy Xe.sl hy;have c2:=iy Xe.gn hy;have E:=PI (k:=k) (n:=B) z G M aa c1 c2;refine⟨_,E.1,_,rfl,?_⟩;have h2:=E.2;simp[Xz.next,Xx.next,Xx.enqueue,Xx.dequeue,Xx.done,b];exact⟨.d rfl,by(simp[DP,wt,Xu,Xm,Xq,Xp,Xg,Xk,X3,b]<;>exact Zq)⟩
  ·simp[Xz.next,Xx.next,Xx.enqueue,Xx.dequeue,Xx.done,b];exact⟨.d rfl,by(simp[DP,wt,Xu,Xm,Xq,Xp,Xg,Xk,X3,b]<;>exact Zq)⟩
 |@q1 l o B h t n x b=>
  refine .pr U ⟨_,rfl,?_⟩
  simp[Xz.next,Xx.next,Xx.enqueue,Xx.dequeue,Xx.done,b]
  exact⟨.q2 b V,by(simp[DP,wt,Xu,Xm,Xq,Xp,Xg,Xk,X3,b,Bg]<;>exact Zq)⟩
 |@q2 l o B h t n x b F=>
  refine .ld L ⟨_,rfl,?_⟩
  simp[Xz.next,Xx.next,Xx.enqueue,Xx.dequeue,Xx.done,b]
  exact⟨.q3 b F N λq _=>q,by(simp[DP,wt,Xu,Xm,Xq,Xp,Xg,Xk,X3,b,Bg]<;>exact Zq)⟩
 |@q3 l o B h t n x b F j K=>
  refine .pr (F.AJ z H Zd Zd) ⟨_,rfl,?_⟩
  have p:WR v g k 0 (v.get (Xh h 2)):=(F.2.1.lk F.1).word z H Tv
  simp[Xz.next,Xx.next,Xx.enqueue,Xx.dequeue,Xx.done,b]
  rw[P F] at p ⊢
  exact⟨.q4 b F j K p λ_=>rfl,by(simp[DP,wt,Xu,Xm,Xq,Xp,Xg,Xk,X3,b]<;>exact Zq)⟩
 |@q4 l o B h t n x b F j K p S=>
  refine .ld U ⟨_,rfl,?_⟩
  by_cases i:B7 (v.root 0) h=true
  ·have e:=F.2.2.same i;by_cases m:n.sl=0
   ·simp[Xz.next,Xx.next,Xx.enqueue,Xx.dequeue,Xx.done,b,Bg,i,m];exact⟨.d rfl,by(simp[DP,wt,Xu,Xm,Xq,Xp,Xg,Xk,X3,b,e]<;>exact Zq)⟩
   ·by_cases I:h.sl=t.sl
    ·simp[Xz.next,Xx.next,Xx.enqueue,Xx.dequeue,Xx.done,b,Bg,i,m,I];exact⟨.q5 b j ⟨m,by rw[←I];exact S m⟩,by(simp[DP,wt,Xu,Xm,Xq,Xp,Xg,Xk,X3,b,e]<;>exact Zq)⟩
    ·simp[Xz.next,Xx.next,Xx.enqueue,Xx.dequeue,Xx.done,b,Bg,i,m,I];exact⟨.q6 b F (K λq=>I q.symm) p ⟨m,S m⟩,by(simp[DP,wt,Xu,Xm,Xq,Xp,Xg,Xk,X3,b,e]<;>exact Zq)⟩
  ·have e:v.root 0≠h:=λe=>i (by rw[e];exact GF _);simp[Xz.next,Xx.next,Xx.enqueue,Xx.dequeue,Xx.done,b,Bg,i];exact⟨.q1 b,by(simp[DP,wt,Xu,Xm,Xq,Xp,Xg,Xk,X3,b,e]<;>exact Zq)⟩
 |@q5 l o B h t n x b j u=>
  refine .sw L (λi=>?_) λC=>⟨_,rfl,?_⟩
  ·have e:v.root 1=t:=j.2.2.same i;subst e;have E:=PI (k:=k) z G M u.1 (iy Xe.sl u.2) (iy Xe.gn u.2);refine⟨_,E.1,_,rfl,?_⟩;have h2:=E.2;simp[Xz.next,Xx.next,Xx.enqueue,Xx.dequeue,Xx.done,b];exact⟨.q1 b,by(simp[DP,wt,Xu,Xm,Xq,Xp,Xg,Xk,X3,b]<;>exact Zq)⟩
  ·have e:v.root 1≠t:=C;simp[Xz.next,Xx.next,Xx.enqueue,Xx.dequeue,Xx.done,b];exact⟨.q1 b,by(simp[DP,wt,Xu,Xm,Xq,Xp,Xg,Xk,X3,b,e]<;>exact Zq)⟩
 |@q6 l o B h t n x b F K p u=>
  refine .ld (p.AJ u.1 z H Zd Zd) ⟨_,rfl,?_⟩
  simp[Xz.next,Xx.next,Xx.enqueue,Xx.dequeue,Xx.done,b]
  exact⟨.q7 b F K u,by(simp[DP,wt,Xu,Xm,Xq,Xp,Xg,Xk,X3,b]<;>exact Zq)⟩
 |@q7 l o B h t n x b F K u=>
  refine .sw U (λi=>?_) λC=>⟨_,rfl,?_⟩
  ·have e:v.root 0=h:=F.2.2.same i;subst e;obtain⟨g',R,Y,Z⟩:=uE (k:=k) z G M (K rfl) u;refine⟨_,R,_,rfl,?_⟩;rw[Y];simp[Xz.next,Xx.next,Xx.enqueue,Xx.dequeue,Xx.done,b];exact⟨.q8 b Z,by(simp[DP,wt,Xu,Xm,Xq,Xp,Xg,Xk,X3,b]<;>exact Zq)⟩
  ·have e:v.root 0≠h:=C;simp[Xz.next,Xx.next,Xx.enqueue,Xx.dequeue,Xx.done,b];exact⟨.q1 b,by(simp[DP,wt,Xu,Xm,Xq,Xp,Xg,Xk,X3,b,e]<;>exact Zq)⟩
 |@q8 l o B h t n x b p=>
  refine .rt (p.rf z) p.2.1 λd=>⟨_,rfl,?_⟩
  rw[show En.Cd v (g.noted h.sl k d)=En.Cd v g from rfl]
  simp[Xz.next,Xx.next,Xx.enqueue,Xx.dequeue,Xx.done,b]
  exact⟨.d rfl,by(simp[DP,wt,Xu,Xm,Xq,Xp,Xg,Xk,X3,b]<;>exact Zq)⟩
end
