/- Core: EaE, EaF, EaM, FaA, FaB, FaC, EaG, EaH, EaI, EaJ, EaY, EaZ, EaN, EaO, EaP, EaQ, EaR, EaS, EaK, EaL, EaT, EaU, EaV, EaD, EbA, EbB, LO, LP, LQ, LR, EbC. -/
import Derived.Test.YtaipogljokblkaaGreatDoorP37
set_option linter.all false
set_option maxRecDepth 100000
set_option maxHeartbeats 8000000
namespace Go.Proofs.YtaipogljokblkaaGreatDoor
open Go Go.RowKit
end Go.Proofs.YtaipogljokblkaaGreatDoor
namespace Go.Proofs.YtaipogljokblkaaGreatDoor
open Go Go.RowKit
section
variable{v v' v2:Vw}{d k j s:Int}{kp:Int->Int}{l:Int->List Int}{pre post r:List Int}{x w:Xe}{a:Yc}
def filter_le{c:Type}{p q:c->Bool}(h:∀x,q x=true->p x=true):∀l:List c,(l.filter q).length<=(l.filter p).length
 |[]=>Nat.le_refl _
 |a::l=>by
  have e:=filter_le h l;cases b:q a with
  |true=>rw[km b,km (h a b)];simpa using e
  |false=>
   rw[l6 (by rw[b];decide)];cases f:p a with
   |true=>rw[km f];simp;omega
   |false=>rw[l6 (by rw[f];decide)];exact e
def filter_lt{e:Type}{p q:e->Bool}(h:∀x,q x=true->p x=true){s:e}(f:p s=true)(g:q s=false):∀l:List e,s∈l->(l.filter q).length+1<=(l.filter p).length
 |a::l,hs=>by
  rcases gf.1 hs with rfl|hs
  ·rw[l6 (by rw[g];decide),km f];have:=filter_le h l;simp;omega
  ·have i:=filter_lt h f g l hs;cases b:q a with
   |true=>rw[km b,km (h a b)];simpa using i
   |false=>
    rw[l6 (by rw[b];decide)];cases c:p a with
    |true=>rw[km c];simp;omega
    |false=>rw[l6 (by rw[c];decide)];exact i
end
inductive Tq where
 |free|Dl (k:Nat)|DJ|Cv (k:Nat)|note (k:Nat)
 deriving DecidableEq
structure EG where
 own:Int->Tq
 LL:Int->List Int
 Cm:Int->Int->Prop
 A:Nat->Option Int
 Sf:Nat->Int->Int->Prop
 mO:Int->Int
 du:Int->Int->Option Nat
def Lu(st l:Int):Int:=if st=4 then 8 else l
def xh(st:Int):Int:=if st=5 then 3 else 1
def Zn(st l:Int):Prop:=0<=l/\l<xh st
structure AA(st:Int)(v:Vw)(g:EG):Prop where
 tok:∀s,g.own s=.free↔¬v.held s
 ch:∀l,Zn st l->Ic v (2+l) (v.root (Lu st l)) (g.LL l)
 nd:∀l,Zn st l->(g.LL l).Nodup
 pb:∀l,Zn st l->∀s∈g.LL l,g.own s=.DJ/\g.Cm l s
 lo:∀l s,g.Cm l s->Zn st l/\s≠0/\g.own s≠.free/\∀k,g.own s≠.Dl k
 sf:∀k a,g.A k=some a->∀l s,g.Sf k l s->g.Cm l s/\(∀j,g.own s=.note j->a<=g.mO s)
 sc:∀k,g.A k≠none->∀l s,g.Sf k l s->(v.cell s (2+l)).sl=0\/(g.Sf k l (v.cell s (2+l)).sl/\(v.cell s (2+l)).gn=v.AB (v.cell s (2+l)).sl)
 sl:∀k,g.A k≠none->∀l,Zn st l->∀s∈g.LL l,g.Sf k l s
structure Ev(a:Nat)(ce:Int->Xe->Xe->Prop)(v:Vw)(g:EG)(v':Vw)(g':EG):Prop where
 rt:∀r,v'.root r=v.root r\/(v'.root r).tg=(v.root r).tg+1
 ak:∀j,j≠a->g'.A j=g.A j
 sf:∀j,j≠a->∀l s,g.Sf j l s->g'.Sf j l s
 lk:∀l s,g.Cm l s->g'.own s≠.free->g'.Cm l s
 pc:∀s,g.own s≠.free->(∀k,g.own s≠.Dl k)->g'.own s≠.free->v'.AB s=v.AB s/\(∀k,g'.own s≠.Dl k)/\∀f,v'.cell s f=v.cell s f\/(ce f (v.cell s f) (v'.cell s f)/\(v'.cell s f).tg=(v.cell s f).tg+1)
 pv:∀s j,j≠a->g.own s=.Dl j->g'.own s=.Dl j/\v'.AB s=v.AB s/\v'.cell s=v.cell s
 pe:∀s j,j≠a->(g.own s=.Cv j->g'.own s=.Cv j)/\(g.own s=.note j->g'.own s=.note j/\g'.mO s=g.mO s)
section
variable{st:Int}{v v' v2:Vw}{g g' g2:EG}{a k j:Nat}{l s f:Int}{w x y:Xe}{ad:Yc}{ce:Int->Xe->Xe->Prop}{pre post:List Int}
def Ev.refl:Ev a ce v g v g:=⟨λ_=>fq rfl,λ_ _=>rfl,λ_ _ _ _ h=>h,λ_ _ h _=>h,λ_ _ h _=>⟨rfl,h,λ_=>fq rfl⟩,λ_ _ _ h=>⟨h,rfl,rfl⟩,λ_ _ _=>⟨id,λh=>⟨h,rfl⟩⟩⟩
def AA.ze(h:AA st v g)(b:g.Cm l s):v.held s:=by
 have:=(h.lo l s b).2.2.1;exact jk λq=>this ((h.tok s).2 q)
def AA.Lc(h:AA st v g){k:Nat}(c:g.A k≠none)(d:g.Sf k l s):g.Cm l s/\v.held s/\s≠0:=by
 obtain⟨b,e⟩:=lr.1 c;have:=(h.sf k b e l s d).1;exact⟨this,h.ze this,(h.lo l s this).2.1⟩
def WR(v:Vw)(g:EG)(k:Nat)(l:Int)(w:Xe):Prop:=w.sl≠0->g.Sf k l w.sl/\w.gn=v.AB w.sl
def IC(c w:Xe):Prop:=w.tg<=c.tg/\(w.tg=c.tg->c=w)
def IC.refl:IC x x:=⟨hJ _,λ_=>rfl⟩
def IC.up(h:IC x w)(e:y=x\/y.tg=x.tg+1):IC y w:=by
 rcases e with rfl|e
 ·exact h
 ·exact⟨by have:=h.1;omega,λb=>by have:=h.1;omega⟩
def IC.same(h:IC x w)(e:B7 x w=true):x=w:=h.2 (by unfold B7 at e;simp at e;exact e.2.1.symm)
def WR.A3(h:WR v g k l w)(e:Ev a ce v g v' g')(b:k≠a)(i:AA st v g)(m:AA st v' g')(n:g.A k≠none):WR v' g' k l w:=λp=>by
 obtain⟨c,q⟩:=h p;obtain⟨r,u,z⟩:=i.Lc n c;have d:g'.A k≠none:=by rw[e.ak k b];exact n
 obtain⟨t,B,C⟩:=m.Lc d (e.sf k b l _ c);have o:=i.lo l _ r;exact⟨e.sf k b l _ c,by rw[(e.pc _ o.2.2.1 o.2.2.2 (m.lo l _ t).2.2.1).1];exact q⟩
def Ev.cell(e:Ev a ce v g v' g')(c:k≠a)(d:AA st v g)(h:AA st v' g')(i:g.A k≠none)(m:g.Sf k l s):v'.AB s=v.AB s/\∀f,v'.cell s f=v.cell s f\/(ce f (v.cell s f) (v'.cell s f)/\(v'.cell s f).tg=(v.cell s f).tg+1):=by
 obtain⟨o,q,r⟩:=d.Lc i m;have b:g'.A k≠none:=by rw[e.ak k c];exact i
 obtain⟨p,t,u⟩:=h.Lc b (e.sf k c l _ m);have n:=d.lo l _ o;have:=e.pc _ n.2.2.1 n.2.2.2 (h.lo l _ p).2.2.1;exact⟨this.1,this.2.2⟩
def DH(st:Int)(v:Vw)(g:EG)(k:Nat)(l:Int)(ad:Yc):Prop:=ad=root (Lu st l)\/(ad.sl≠0/\ad.fd=2+l/\g.Sf k l ad.sl/\ad.gn=v.AB ad.sl)
def DH.A3(h:DH st v g k l ad)(e:Ev a ce v g v' g')(b:k≠a)(d:AA st v g)(i:AA st v' g')(m:g.A k≠none):DH st v' g' k l ad:=by
 rcases h with h|⟨n,o,c,p⟩
 ·exact fq h
 ·exact db ⟨n,o,e.sf k b l _ c,by rw[(e.cell b d i m c).1];exact p⟩
def DH.mP(h:DH st v g k l ad)(d:AA st v g)(e:g.A k≠none)(b:Zn st l):v.Ad ad:=by
 have o:xh st<=3:=by unfold xh;split<;>omega
 rcases h with rfl|⟨i,c,m,n⟩
 ·exact Me (by unfold Lu;split;decide;exact b.1) (by unfold Lu;split;decide;have:=b.2;omega)
 ·exact db ⟨i,(d.Lc e m).2.1,n,by rw[c];have:=b.1;omega,by rw[c];have:=b.2;omega⟩
def DH.Fp(h:DH st v g k l ad)(e:Ev a ce v g v' g')(c:k≠a)(d:AA st v g)(i:AA st v' g')(m:g.A k≠none)(n:IC (v.get ad) w):IC (v'.get ad) w:=by
 refine n.up ?_;unfold Vw.get;rcases h with rfl|⟨b,p,o,q⟩
 ·exact e.rt _
 ·rw[fw b,fw b];exact((e.cell c d i m o).2 ad.fd).imp id λh=>h.2
def DH.word(h:DH st v g k l ad)(d:AA st v g)(i:g.A k≠none)(m:Zn st l):WR v g k l (v.get ad):=λb=>by
 rcases h with rfl|⟨n,o,p,q⟩
 ·have c:=d.ch l m;have b:(v.root (Lu st l)).sl≠0:=b;cases e:g.LL l with
  |nil=>rw[e] at c;exact absurd c b
  |cons t r=>
   rw[e] at c;have:=d.sl k i l m t (by rw[e];exact g6 ..);exact⟨by show g.Sf k l (v.root (Lu st l)).sl;rw[c.1];exact this,c.2.1.2.2⟩
 ·unfold Vw.get at b ⊢;rw[fw n,o] at b ⊢;exact(d.sc k i l _ p).resolve_left b
def WR.lk(h:WR v g k l w)(b:w.sl≠0):DH st v g k l (Xh w (2+l)):=db ⟨b,rfl,(h b).1,(h b).2⟩
def WR.AJ(h:WR v g k l w)(b:w.sl≠0)(c:AA st v g)(d:g.A k≠none)(f0:0<=f)(f9:f<9):v.Ad (Xh w f):=db ⟨b,(c.Lc d (h b).1).2.1,(h b).2,f0,f9⟩
end
def EG.link(g:EG)(l s:Int)(L:List Int):EG:={g with own:=Ar g.own s .DJ,LL:=Ar g.LL l L,Cm:=λj t=>g.Cm j t\/(j=l/\t=s),Sf:=λj m t=>g.Sf j m t\/(m=l/\t=s)}
def EG.Ej(g:EG)(l:Int)(L:List Int):EG:={g with LL:=Ar g.LL l L}
def EG.GR(g:EG)(s:Int)(t:Tq):EG:={g with own:=Ar g.own s t}
def EG.noted(g:EG)(s:Int)(k:Nat)(d:Int):EG:={g with own:=Ar g.own s (.note (k+1000)),mO:=Ar g.mO s d}
def EG.A7(g:EG)(s:Int):EG:={g with own:=Ar g.own s .free,Cm:=λj t=>g.Cm j t/\t≠s}
def EG.enter(g:EG)(k:Nat)(st c:Int):EG:={g with A:=λj=>if j=k then some c else g.A j,Sf:=λj m t=>if j=k then Zn st m/\t∈g.LL m else g.Sf j m t}
def EG.Cw(g:EG)(k:Nat):EG:={g with A:=λj=>if j=k then none else g.A j}
section
variable{st:Int}{v v':Vw}{g g':EG}{a k j:Nat}{l s f c d:Int}{w x y:Xe}{ad:Yc}{ce:Int->Xe->Xe->Prop}{pre post:List Int}
def xj{AB:Int->Int}{r:Yc}:Tl f AB r pre=r/\pre=[]\/(Tl f AB r pre).sl∈pre/\(Tl f AB r pre).fd=f/\(Tl f AB r pre).gn=AB (Tl f AB r pre).sl:=Tj (v:=⟨λ_=>.zero,AB,λ_=>True,λ_ _=>.zero⟩)
def El(st:Int)(v:Vw)(l:Int)(pre:List Int):Yc:=Tl (2+l) v.AB (root (Lu st l)) pre
def J8:El st v l pre=root (Lu st l)/\pre=[]\/(El st v l pre).sl∈pre/\(El st v l pre).fd=2+l/\(El st v l pre).gn=v.AB (El st v l pre).sl:=xj
theorem AA.zero(h:AA st v g)(b:Zn st l)(e:s∈g.LL l):s≠0:=(h.lo l s (h.pb l b s e).2).2.1
def AA.at_(h:AA st v g)(b:Zn st l)(e:g.LL l=pre++post):Ic v (2+l) (v.get (El st v l pre)) post:=Ic.at_ (a:=root (Lu st l)) (by rw[←e];exact h.ch l b)
def Ga(h:AA st v g)(m:Zn st l)(n:g.LL l=pre++post){t e:Int}(i:¬(t∈pre/\e=2+l)):(v.put (El st v l pre) x).cell t e=v.cell t e:=by
 rcases @J8 st v l pre with⟨q,_⟩|q
 ·rw[q];rfl
 ·exact Yv t e λb=>i ⟨by rw[b.1];exact q.1,b.2.trans q.2.1⟩
def sO(h:AA st v g)(b:Zn st l)(e:g.LL l=pre++post){r:Int}(i:r≠Lu st l):(v.put (El st v l pre) x).root r=v.root r:=by
 rcases @J8 st v l pre with⟨q,_⟩|q
 ·rw[q];show Ar v.root _ x r=_;rw[X9,fw (show ¬r=(root (Lu st l)).fd from i)]
 ·have m:=h.zero b (s:=(El st v l pre).sl) (by rw[e];exact g8 _ q.1);unfold Vw.put;rw[fw m]
def dI(h:AA st v g)(b:Zn st l)(o:g.LL l=pre++post){m:Int}(i:Zn st m)(n:m≠l):Ic (v.put (El st v l pre) x) (2+m) ((v.put (El st v l pre) x).root (Lu st m)) (g.LL m):=by
 have p:Lu st m≠Lu st l:=by
  unfold Lu;by_cases e:st=4
  ·unfold Zn xh at b i;rw[e] at b i;simp at b i;omega
  ·rw[fw e,fw e];exact n
 rw[sO h b o p];refine(h.ch m i).same λt q=>⟨by rw[FY];exact((h.ch m i).held t q).2,by rw[Y0],Ga h b o λe=>Zo⟩
def Rc(h:AA st v g)(b:Zn st l)(e:g.LL l=pre++post){r:List Int}(i:Ic (v.put (El st v l pre) x) (2+l) x r):Ic (v.put (El st v l pre) x) (2+l) ((v.put (El st v l pre) x).root (Lu st l)) (pre++r):=
 PQ (a:=root (Lu st l)) (show Ic v (2+l) (v.get (root (Lu st l))) (pre++post) by rw[←e];exact h.ch l b) (by rw[←e];exact h.nd l b) (λh=>absurd rfl h) i
def L0(h:AA st v g)(p:Zn st l)(u:g.LL l=pre++post)(b:x.tg=(v.get (El st v l pre)).tg+1)(m:∀s∈pre,s=(El st v l pre).sl->ce (2+l) (v.cell s (2+l)) x):
  (∀r,(v.put (El st v l pre) x).root r=v.root r\/((v.put (El st v l pre) x).root r).tg=(v.root r).tg+1)/\∀t e,(v.put (El st v l pre) x).cell t e=v.cell t e\/(ce e (v.cell t e) ((v.put (El st v l pre) x).cell t e)/\((v.put (El st v l pre) x).cell t e).tg=(v.cell t e).tg+1):=by
 rcases @J8 st v l pre with⟨q,_⟩|q
 ·rw[q] at b ⊢;refine⟨λr=>?_,λt e=>fq rfl⟩;show Ar v.root _ x r=_\/(Ar v.root _ x r).tg=_;rw[X9];by_cases e:r=(root (Lu st l)).fd
  ·rw[ga e,e];exact db b
  ·rw[fw e];exact fq rfl
 ·have i:=h.zero p (s:=(El st v l pre).sl) (by rw[u];exact g8 _ q.1);refine⟨λr=>fq (by unfold Vw.put;rw[fw i]),λt e=>?_⟩;by_cases n:t=(El st v l pre).sl/\e=(El st v l pre).fd
  ·obtain⟨rfl,rfl⟩:=n;have o:=DA (v:=v) ⟨(El st v l pre).sl,0,(El st v l pre).fd⟩ (El st v l pre) x;rw[BW i,BW i,ga ⟨rfl,rfl⟩] at o;rw[o];unfold Vw.get at b;rw[fw i] at b;rw[q.2.1] at b ⊢;exact db ⟨m _ q.1 rfl,b⟩
  ·exact fq (Yv t e n)
def AA.link(h:AA st v g)(p:Zn st l)(B:g.LL l=pre++post)(s0:s≠0)(hs:g.own s=.Dl a\/g.own s=.DJ)(X:s∉g.LL l)(H:x.sl=s/\x.gn=v.AB s)(K:(v.cell s (2+l)).sl=(v.get (El st v l pre)).sl/\((v.get (El st v l pre)).sl≠0->(v.cell s (2+l)).gn=(v.get (El st v l pre)).gn))
  (o:x.tg=(v.get (El st v l pre)).tg+1)(S:∀s∈pre,s=(El st v l pre).sl->ce (2+l) (v.cell s (2+l)) x):
  AA st (v.put (El st v l pre) x) (g.link l s (pre++s::post))/\Ev a ce v g (v.put (El st v l pre) x) (g.link l s (pre++s::post)):=by
 have I:∀t,Ar g.own s Tq.DJ t=if t=s then Tq.DJ else g.own t:=λt=>X9 _ _ _ _
 have F:∀m,Ar g.LL l (pre++s::post) m=if m=l then pre++s::post else g.LL m:=λt=>X9 _ _ _ _
 have T:g.own s≠.free:=by rcases hs with h|h<;>rw[h]<;>simp
 have L:v.held s:=jk λq=>T ((h.tok s).2 q)
 have z:=h.at_ p B
 have M:s∉pre:=λC=>X (by rw[B];exact g8 _ C)
 have N:∀t∈post,t∈g.LL l:=λt o=>by rw[B];exact jq _ o
 have J:=h.nd l p
 rw[B] at J
 have O:∀e,(v.put (El st v l pre) x).cell s e=v.cell s e:=λe=>Ga h p B λq=>M q.1
 obtain⟨Z,ec⟩:=L0 (ce:=ce) h p B o S
 refine⟨⟨λt=>?_,λm C=>?_,λm C=>?_,λm C t o=>?_,λm t n=>?_,λj b hb m t n=>?_,λj G m t n=>?_,λj G m C t o=>?_⟩,Z,λ_ _=>rfl,λ_ _ _ _ h=>fq h,λ_ _ h _=>fq h,λt h1 D h3=>⟨by rw[Y0],λq=>?_,ec t⟩,λt q E o=>?_,λt q E=>⟨λo=>?_,λo=>⟨?_,rfl⟩⟩⟩
 ·show Ar g.own s Tq.DJ t=.free↔¬(v.put (El st v l pre) x).held t;rw[I,FY];by_cases e:t=s
  ·rw[ga e,e];exact⟨λh=>(by cases h),λh=>absurd L h⟩
  ·rw[fw e];exact h.tok t
 ·show Ic _ _ _ (Ar g.LL l (pre++s::post) m);rw[F];by_cases e:m=l
  ·subst e;rw[ga rfl];refine Rc h p B ⟨H.1,⟨by rw[H.1];exact s0,by rw[FY,H.1];exact L,by rw[Y0,H.1];exact H.2⟩,?_⟩;rw[O];have Y:Ic (v.put (El st v m pre) x) (2+m) (v.get (El st v m pre)) post:=z.same λt o=>⟨by rw[FY];exact(z.held t o).2,by rw[Y0],Ga h p B λq=>(h9.1 J).2.2 t q.1 t o rfl⟩;cases post with
   |nil=>show(v.cell s (2+m)).sl=0;rw[K.1];exact Y
   |cons t r=>exact Y.ref K.1 (K.2 (by rw[z.1];exact(z.held t (g6 ..)).1))
  ·rw[fw e];exact dI h p B C e
 ·show(Ar g.LL l (pre++s::post) m).Nodup;rw[F];by_cases e:m=l
  ·rw[ga e];obtain⟨n1,n2,n3⟩:=h9.1 J;refine h9.2 ⟨n1,ja.2 ⟨λC=>X (N s C),n2⟩,λt o u hu e=>?_⟩;rcases gf.1 hu with rfl|hu
   ·exact M (e▸o)
   ·exact n3 t o u hu e
  ·rw[fw e];exact h.nd m C
 ·have D:t∈Ar g.LL l (pre++s::post) m:=o;show Ar g.own s Tq.DJ t=.DJ/\(g.Cm m t\/(m=l/\t=s));rw[F] at D;rw[I];by_cases e:m=l
  ·rw[ga e] at D;subst e;by_cases q:t=s
   ·rw[ga q];exact⟨rfl,db ⟨rfl,q⟩⟩
   ·rw[fw q];have C:t∈g.LL m:=by
     rw[B];rcases gy.1 D with h|h
     ·exact g8 _ h
     ·exact jq _ ((gf.1 h).resolve_left q)
    exact⟨(h.pb m p t C).1,fq (h.pb m p t C).2⟩
  ·rw[fw e] at D;obtain⟨p1,p2⟩:=h.pb m C t D;refine⟨?_,fq p2⟩;split
   ·rfl
   ·exact p1
 ·have n:g.Cm m t\/(m=l/\t=s):=n;show _/\_/\Ar g.own s Tq.DJ t≠.free/\∀k,Ar g.own s Tq.DJ t≠.Dl k;rw[I];rcases n with n|⟨rfl,rfl⟩
  ·obtain⟨p1,p2,p3,p4⟩:=h.lo m t n;refine⟨p1,p2,?_⟩;split
   ·exact⟨by simp,λk=>by simp⟩
   ·exact⟨p3,p4⟩
  ·rw[ga rfl];exact⟨p,s0,by simp,λk=>by simp⟩
 ·have n:g.Sf j m t\/(m=l/\t=s):=n;show(g.Cm m t\/(m=l/\t=s))/\(∀i,Ar g.own s Tq.DJ t=.note i->b<=g.mO t);rw[I];rcases n with n|q
  ·obtain⟨p1,p2⟩:=h.sf j b hb m t n;refine⟨fq p1,λi E=>?_⟩;by_cases e:t=s
   ·rw[ga e] at E;cases E
   ·rw[fw e] at E;exact p2 i E
  ·exact⟨db q,λi E=>by rw[ga q.2] at E;cases E⟩
 ·have G:g.A j≠none:=G;have n:g.Sf j m t\/(m=l/\t=s):=n;show((v.put (El st v l pre) x).cell t (2+m)).sl=0\/((g.Sf j m _\/(m=l/\_=s))/\_=(v.put (El st v l pre) x).AB _);rw[Y0];rcases n with n|⟨rfl,rfl⟩
  ·by_cases e:(t∈pre/\t=(El st v l pre).sl)/\m=l
   ·obtain⟨⟨U,e2⟩,rfl⟩:=e;rcases @J8 st v m pre with⟨q,V⟩|q
    ·rw[V] at U;cases U
    ·have P:t≠0:=h.zero p (by rw[B];exact g8 _ U);have R:=DA (v:=v) ⟨t,0,2+m⟩ (El st v m pre) x;rw[BW P,BW P,ga ⟨e2,q.2.1.symm⟩] at R;rw[R];exact db ⟨db ⟨rfl,H.1⟩,by rw[H.1];exact H.2⟩
   ·have R:(v.put (El st v l pre) x).cell t (2+m)=v.cell t (2+m):=by
     rcases @J8 st v l pre with⟨q,_⟩|q
     ·rw[q];rfl
     ·exact Yv t (2+m) λW=>e ⟨⟨by rw[W.1];exact q.1,W.1⟩,by have:=W.2.trans q.2.1;omega⟩
    rw[R];exact(h.sc j G m t n).imp id λq=>⟨fq q.1,q.2⟩
  ·rw[O];by_cases P:(v.cell t (2+m)).sl=0
   ·exact fq P
   ·right;have Q:(v.get (El st v m pre)).sl≠0:=by rw[←K.1];exact P
    rw[K.1,K.2 Q];cases post with
    |nil=>exact absurd z Q
    |cons u r=>
     have:=h.sl j G m p u (N u (g6 ..));exact⟨fq (by rw[z.1];exact this),z.2.1.2.2⟩
 ·have G:g.A j≠none:=G;have D:t∈Ar g.LL l (pre++s::post) m:=o;show g.Sf j m t\/(m=l/\t=s);rw[F] at D;by_cases e:m=l
  ·rw[ga e] at D;subst e;by_cases q:t=s
   ·exact db ⟨rfl,q⟩
   ·refine fq (h.sl j G m p t ?_);rw[B];rcases gy.1 D with h|h
    ·exact g8 _ h
    ·exact jq _ ((gf.1 h).resolve_left q)
  ·rw[fw e] at D;exact fq (h.sl j G m C t D)
 ·show Ar g.own s Tq.DJ t≠.Dl q;rw[I];split
  ·simp
  ·exact D q
 ·show Ar g.own s Tq.DJ t=.Dl q/\_;have e:t≠s:=λe=>by
   rw[e] at o;rcases hs with hs|hs<;>rw[hs] at o
   ·injection o with o;exact E o.symm
   ·cases o
  rw[I,fw e];refine⟨o,by rw[Y0],funext λf=>Ga h p B λV=>?_⟩;have:=(h.pb l p t (by rw[B];exact g8 _ V.1)).1;rw[o] at this;cases this
 ·show Ar g.own s Tq.DJ t=.Cv q;have e:t≠s:=λe=>by
   rw[e] at o;rcases hs with hs|hs<;>rw[hs] at o<;>cases o
  rw[I,fw e];exact o
 ·show Ar g.own s Tq.DJ t=.note q;have e:t≠s:=λe=>by
   rw[e] at o;rcases hs with hs|hs<;>rw[hs] at o<;>cases o
  rw[I,fw e];exact o
end
section
variable{st:Int}{v v':Vw}{g g':EG}{a k j:Nat}{l s f c d gn:Int}{w x y:Xe}{ad:Yc}{ce:Int->Xe->Xe->Prop}{pre post:List Int}
def AA.unlink(h:AA st v g)(n:Zn st l)(i:g.LL l=pre++s::post)(E:x.sl=(v.cell s (2+l)).sl/\x.gn=(v.cell s (2+l)).gn)(b:x.tg=(v.get (El st v l pre)).tg+1)(G:∀s∈pre,s=(El st v l pre).sl->ce (2+l) (v.cell s (2+l)) x):
  AA st (v.put (El st v l pre) x) (g.Ej l (pre++post))/\Ev a ce v g (v.put (El st v l pre) x) (g.Ej l (pre++post)):=by
 have p:∀m,Ar g.LL l (pre++post) m=if m=l then pre++post else g.LL m:=λt=>X9 _ _ _ _
 have C:=h.at_ n i
 have H:s∈g.LL l:=by rw[i];simp
 have D:=h.nd l n
 rw[i] at D
 obtain⟨n1,n2,L⟩:=h9.1 D
 obtain⟨N,O⟩:=L0 (ce:=ce) h n i b G
 have o:∀m,∀t∈Ar g.LL l (pre++post) m,t∈g.LL m:=λm t b=>by
  rw[p] at b;by_cases e:m=l
  ·rw[ga e] at b;rw[e,i];rcases gy.1 b with h|h
   ·exact g8 _ h
   ·exact jq _ (gq _ h)
  ·rw[fw e] at b;exact b
 refine⟨⟨λt=>by rw[FY];exact h.tok t,λm r=>?_,λm r=>?_,λm r t b=>h.pb m r t (o m t b),h.lo,h.sf,λj z m t B=>?_,λj z m r t b=>h.sl j z m r t (o m t b)⟩,N,λ_ _=>rfl,λ_ _ _ _ h=>h,λ_ _ h _=>h,λt T P U=>⟨by rw[Y0],P,O t⟩,λt q V b=>⟨b,by rw[Y0],funext λf=>Ga h n i λI=>?_⟩,λ_ _ _=>⟨id,λh=>⟨h,rfl⟩⟩⟩
 ·show Ic _ _ _ (Ar g.LL l (pre++post) m);rw[p];by_cases e:m=l
  ·subst e;rw[ga rfl];refine Rc h n i ?_;have Q:Ic (v.put (El st v m pre) x) (2+m) (v.cell s (2+m)) post:=C.2.2.same λt b=>⟨by rw[FY];exact(C.2.2.held t b).2,by rw[Y0],Ga h n i λq=>L t q.1 t (gq _ b) rfl⟩;exact Q.ref E.1 E.2
  ·rw[fw e];exact dI h n i r e
 ·show(Ar g.LL l (pre++post) m).Nodup;rw[p];by_cases e:m=l
  ·rw[ga e];exact h9.2 ⟨n1,(ja.1 n2).2,λt b u R=>L t b u (gq _ R)⟩
  ·rw[fw e];exact h.nd m r
 ·have z:g.A j≠none:=z;have B:g.Sf j m t:=B;show((v.put (El st v l pre) x).cell t (2+m)).sl=0\/(g.Sf j m _/\_=(v.put (El st v l pre) x).AB _);rw[Y0];by_cases e:(t∈pre/\t=(El st v l pre).sl)/\m=l
  ·obtain⟨⟨J,S⟩,rfl⟩:=e;rcases @J8 st v m pre with⟨q,I⟩|q
   ·rw[I] at J;cases J
   ·have M:t≠0:=h.zero n (by rw[i];exact g8 _ J);have F:=DA (v:=v) ⟨t,0,2+m⟩ (El st v m pre) x;rw[BW M,BW M,ga ⟨S,q.2.1.symm⟩] at F;rw[F,E.1,E.2];exact h.sc j z m s (h.sl j z m n s H)
  ·have F:(v.put (El st v l pre) x).cell t (2+m)=v.cell t (2+m):=by
    rcases @J8 st v l pre with⟨q,_⟩|q
    ·rw[q];rfl
    ·exact Yv t (2+m) λK=>e ⟨⟨by rw[K.1];exact q.1,K.1⟩,by have:=K.2.trans q.2.1;omega⟩
   rw[F];exact h.sc j z m t B
 ·have:=(h.pb l n t (by rw[i];exact g8 _ I.1)).1;rw[b] at this;cases this
def AA.yU(h:AA st v g)(s0:s≠0)(A:∀l,Zn st l->f=2+l->g.Cm l s->x.sl=(v.cell s f).sl/\x.gn=(v.cell s f).gn):AA st (v.put ⟨s,gn,f⟩ x) g:=by
 have B:(v.put ⟨s,gn,f⟩ x).root=v.root:=by unfold Vw.put;rw[fw s0]
 have i:∀l t,g.Cm l t->((v.put ⟨s,gn,f⟩ x).cell t (2+l)).sl=(v.cell t (2+l)).sl/\((v.put ⟨s,gn,f⟩ x).cell t (2+l)).gn=(v.cell t (2+l)).gn:=λl t p=>by
  by_cases e:t=s/\2+l=f
  ·obtain⟨rfl,rfl⟩:=e;rw[show(v.put ⟨t,gn,2+l⟩ x).cell t (2+l)=x from Dk (w:=⟨t,gn,0,0,false⟩) s0];exact A l (h.lo l t p).1 rfl p
  ·rw[Yv t (2+l) e];exact⟨rfl,rfl⟩
 refine⟨λt=>by rw[FY];exact h.tok t,λm q=>?_,h.nd,h.pb,h.lo,h.sf,λj z m t o=>?_,h.sl⟩
 ·rw[B];have:=h.ch m q;revert this;generalize v.root (Lu st m)=w;have n:∀t∈g.LL m,g.Cm m t:=λt p=>(h.pb m q t p).2;revert n;generalize g.LL m=L;intro n this;induction L generalizing w with
  |nil=>exact this
  |cons t r C=>
   obtain⟨D,E,F⟩:=this;refine⟨D,rD.2 E,(C (v.cell t (2+m)) (λu G=>n u (gq _ G)) F).ref ?_ ?_⟩
   ·exact(i m t (n t (g6 ..))).1
   ·exact(i m t (n t (g6 ..))).2
 ·obtain⟨H,I⟩:=i m t (by obtain⟨b,n⟩:=lr.1 z;exact(h.sf j b n m t o).1);rw[H,I,Y0];exact h.sc j z m t o
def NU(s0:s≠0)(b:g.own s=.Dl a\/(∀k,g.own s≠.Dl k)/\ce f (v.cell s f) x/\x.tg=(v.cell s f).tg+1):Ev a ce v g (v.put ⟨s,gn,f⟩ x) g:=by
 refine⟨λr=>fq (by unfold Vw.put;rw[fw s0]),λ_ _=>rfl,λ_ _ _ _ h=>h,λ_ _ h _=>h,λt u n z=>⟨by rw[Y0],n,λe=>?_⟩,λt q o i=>⟨i,by rw[Y0],funext λe=>Yv t e λm=>?_⟩,λ_ _ _=>⟨id,λh=>⟨h,rfl⟩⟩⟩
 ·by_cases m:t=s/\e=f
  ·obtain⟨rfl,rfl⟩:=m;rw[show(v.put ⟨t,gn,e⟩ x).cell t e=x from Dk (w:=⟨t,gn,0,0,false⟩) s0];rcases b with b|⟨_,b⟩
   ·exact absurd b (n a)
   ·exact db b
  ·exact fq (Yv t e m)
 ·have p:t=s:=m.1;rw[p] at i;rcases b with b|⟨b,_⟩
  ·rw[b] at i;injection i with i;exact o i.symm
  ·exact b q i
def AA.v9(h:AA st v g){r:Int}(i:∀l,Zn st l->r≠Lu st l):AA st (v.put (root r) x) g:=by
 have n:∀l,Zn st l->(v.put (root r) x).root (Lu st l)=v.root (Lu st l):=λl o=>by show Ar v.root r x _=_;rw[X9,fw λe=>i l o e.symm]
 exact⟨h.tok,λm b=>by rw[n m b];exact(h.ch m b).same λt p=>⟨((h.ch m b).held t p).2,rfl,rfl⟩,h.nd,h.pb,h.lo,h.sf,h.sc,h.sl⟩
def T4{r:Int}(b:x.tg=(v.root r).tg+1):Ev a ce v g (v.put (root r) x) g:=by
 refine⟨λq=>?_,λ_ _=>rfl,λ_ _ _ _ h=>h,λ_ _ h _=>h,λt m i n=>⟨rfl,i,λe=>fq rfl⟩,λt q o b=>⟨b,rfl,rfl⟩,λ_ _ _=>⟨id,λh=>⟨h,rfl⟩⟩⟩;show Ar v.root r x q=_\/(Ar v.root r x q).tg=_;rw[X9];by_cases e:q=r
 ·rw[ga e,e];exact db b
 ·rw[fw e];exact fq rfl
def AA.take(h:AA st v g)(F:¬v.held s)(d:Int):AA st (v.take s d) (g.GR s (.Dl a))/\Ev a ce v g (v.take s d) (g.GR s (.Dl a)):=by
 have z:∀t,Ar g.own s (Tq.Dl a) t=if t=s then Tq.Dl a else g.own t:=λt=>X9 _ _ _ _;have A:g.own s=.free:=(h.tok s).2 F;have o:∀l t,g.Cm l t->t≠s:=λl t n e=>(h.lo l t n).2.2.1 (e▸A);have p:∀t,t≠s->(v.take s d).AB t=v.AB t:=λt n=>by show Ar v.AB s d t=_;rw[X9,fw n]
 refine⟨⟨λt=>?_,λm D=>?_,h.nd,λm D t n=>?_,λm t n=>?_,λj b C m t u=>?_,λj G m t u=>?_,h.sl⟩,λr=>fq rfl,λ_ _=>rfl,λ_ _ _ _ h=>h,λ_ _ h _=>h,λt I J N=>?_,λt q B n=>?_,λt q B=>⟨λn=>?_,λn=>⟨?_,rfl⟩⟩⟩
 ·show Ar g.own s (Tq.Dl a) t=.free↔¬(t=s\/v.held t);rw[z];by_cases e:t=s
  ·rw[ga e];simp[e]
  ·rw[fw e,h.tok t];simp[e]
 ·exact(h.ch m D).take F
 ·obtain⟨p1,p2⟩:=h.pb m D t n;show Ar g.own s (Tq.Dl a) t=_/\_;rw[z,fw (o m t p2)];exact⟨p1,p2⟩
 ·obtain⟨p1,p2,K,L⟩:=h.lo m t n;show _/\_/\Ar g.own s (Tq.Dl a) t≠_/\∀k,Ar g.own s (Tq.Dl a) t≠_;rw[z,fw (o m t n)];exact⟨p1,p2,K,L⟩
 ·obtain⟨p1,p2⟩:=h.sf j b C m t u;refine⟨p1,λi B=>p2 i ?_⟩;have B:Ar g.own s (Tq.Dl a) t=.note i:=B;rwa [z,fw (o m t p1)] at B
 ·obtain⟨b,C⟩:=lr.1 G;have E:=(h.sf j b C m t u).1;rw[Ke (o m t E)];rcases h.sc j G m t u with q|⟨H,M⟩
  ·exact fq q
  ·exact db ⟨H,by rw[p _ (o m _ (h.sf j b C m _ H).1)];exact M⟩
 ·have e:t≠s:=λe=>I (e▸A);refine⟨p t e,λq=>?_,λO=>fq (by rw[Ke e])⟩;show Ar g.own s (Tq.Dl a) t≠_;rw[z,fw e];exact J q
 ·have e:t≠s:=λe=>by rw[e,A] at n;cases n
  refine⟨?_,p t e,Ke e⟩;show Ar g.own s (Tq.Dl a) t=_;rw[z,fw e];exact n
 ·have e:t≠s:=λe=>by rw[e,A] at n;cases n
  show Ar g.own s (Tq.Dl a) t=_;rw[z,fw e];exact n
 ·have e:t≠s:=λe=>by rw[e,A] at n;cases n
  show Ar g.own s (Tq.Dl a) t=_;rw[z,fw e];exact n
def AA.free(h:AA st v g)(o:g.own s=.Dl a\/(g.own s=.note a/\∀j b,g.A j=some b->g.mO s<b)):AA st (v.drop s) (g.A7 s)/\Ev a ce v g (v.drop s) (g.A7 s):=by
 have p:∀t,Ar g.own s Tq.free t=if t=s then Tq.free else g.own t:=λt=>X9 _ _ _ _;have F:∀j,g.A j≠none->∀l t,g.Sf j l t->t≠s:=λj C l t n e=>by
  obtain⟨b,D⟩:=lr.1 C;obtain⟨I,J⟩:=h.sf j b D l t n;rw[e] at I J;rcases o with o|⟨o,K⟩
  ·exact(h.lo l s I).2.2.2 a o
  ·have:=J a o;have:=K j b D;omega
 have E:∀m,Zn st m->∀t∈g.LL m,t≠s:=λm B t n e=>by
  have:=(h.pb m B t n).1;rw[e] at this;rcases o with o|⟨o,_⟩<;>rw[o] at this<;>cases this
 refine⟨⟨λt=>?_,λm B=>(h.ch m B).drop λG=>E m B s G rfl,h.nd,λm B t n=>?_,λm t n=>?_,λj b D m t u=>?_,λj C m t u=>h.sc j C m t u,h.sl⟩,λr=>fq rfl,λ_ _=>rfl,λ_ _ _ _ h=>h,λm t n z=>⟨n,λe=>z (by show Ar g.own s Tq.free t=_;rw[p,ga e])⟩,λt O L P=>⟨rfl,λq=>?_,λ_=>fq rfl⟩,λt q z n=>⟨?_,rfl,rfl⟩,λt q z=>⟨λn=>?_,λn=>⟨?_,rfl⟩⟩⟩
 ·show Ar g.own s Tq.free t=.free↔¬(t≠s/\v.held t);rw[p];by_cases e:t=s
  ·rw[ga e];simp[e]
  ·rw[fw e,h.tok t];simp[e]
 ·obtain⟨p1,p2⟩:=h.pb m B t n;have e:=E m B t n;show Ar g.own s Tq.free t=_/\_;rw[p,fw e];exact⟨p1,p2,e⟩
 ·obtain⟨p1,p2,M,N⟩:=h.lo m t n.1;show _/\_/\Ar g.own s Tq.free t≠_/\∀k,Ar g.own s Tq.free t≠_;rw[p,fw n.2];exact⟨p1,p2,M,N⟩
 ·obtain⟨p1,p2⟩:=h.sf j b D m t u;have H:g.A j=some b:=D;have C:g.A j≠none:=by rw[H];simp
  have e:=F j C m t u;refine⟨⟨p1,e⟩,λi z=>p2 i ?_⟩;have z:Ar g.own s Tq.free t=.note i:=z;rwa [p,fw e] at z
 ·show Ar g.own s Tq.free t≠_;rw[p];split
  ·simp
  ·exact L q
 ·have e:t≠s:=λe=>by
   rw[e] at n;rcases o with o|⟨o,_⟩<;>rw[o] at n
   ·injection n with n;exact z n.symm
   ·cases n
  show Ar g.own s Tq.free t=_;rw[p,fw e];exact n
 ·have e:t≠s:=λe=>by
   rw[e] at n;rcases o with o|⟨o,_⟩<;>rw[o] at n<;>cases n
  show Ar g.own s Tq.free t=_;rw[p,fw e];exact n
 ·have e:t≠s:=λe=>by
   rw[e] at n;rcases o with o|⟨o,_⟩<;>rw[o] at n
   ·cases n
   ·injection n with n;exact z n.symm
  show Ar g.own s Tq.free t=_;rw[p,fw e];exact n
def AA.Cv(h:AA st v g)(u:g.own s=.DJ)(B:∀l,Zn st l->s∉g.LL l):AA st v (g.GR s (.Cv a))/\Ev a ce v g v (g.GR s (.Cv a)):=by
 have o:∀t,Ar g.own s (Tq.Cv a) t=if t=s then Tq.Cv a else g.own t:=λt=>X9 _ _ _ _;refine⟨⟨λt=>?_,h.ch,h.nd,λm A t n=>?_,λm t n=>?_,λj b C m t z=>?_,h.sc,h.sl⟩,λr=>fq rfl,λ_ _=>rfl,λ_ _ _ _ h=>h,λ_ _ h _=>h,λt G D H=>⟨rfl,λq=>?_,λ_=>fq rfl⟩,λt q p n=>⟨?_,rfl,rfl⟩,λt q p=>⟨λn=>?_,λn=>⟨?_,rfl⟩⟩⟩
 ·show Ar g.own s (Tq.Cv a) t=.free↔_;rw[o];by_cases e:t=s
  ·rw[ga e,←h.tok t,e,u];simp
  ·rw[fw e];exact h.tok t
 ·obtain⟨p1,p2⟩:=h.pb m A t n;show Ar g.own s (Tq.Cv a) t=_/\_;rw[o,fw (λe:t=s=>B m A (e▸n))];exact⟨p1,p2⟩
 ·obtain⟨p1,p2,E,F⟩:=h.lo m t n;show _/\_/\Ar g.own s (Tq.Cv a) t≠_/\∀k,Ar g.own s (Tq.Cv a) t≠_;rw[o];refine⟨p1,p2,?_⟩;split
  ·exact⟨by simp,λk=>by simp⟩
  ·exact⟨E,F⟩
 ·obtain⟨p1,p2⟩:=h.sf j b C m t z;refine⟨p1,λi p=>p2 i ?_⟩;have p:Ar g.own s (Tq.Cv a) t=.note i:=p;rw[o] at p;split at p
  ·cases p
  ·exact p
 ·show Ar g.own s (Tq.Cv a) t≠_;rw[o];split
  ·simp
  ·exact D q
 ·show Ar g.own s (Tq.Cv a) t=_;rw[o,fw λe=>by rw[e,u] at n;cases n];exact n
 ·show Ar g.own s (Tq.Cv a) t=_;rw[o,fw λe=>by rw[e,u] at n;cases n];exact n
 ·show Ar g.own s (Tq.Cv a) t=_;rw[o,fw λe=>by rw[e,u] at n;cases n];exact n
def AA.note(h:AA st v g)(u:g.own s=.Cv a)(C:∀j b,g.A j=some b->b<=d):AA st v (g.noted s a d)/\Ev a ce v g v (g.noted s a d):=by
 have o:∀t,Ar g.own s (Tq.note (a+1000)) t=if t=s then Tq.note (a+1000) else g.own t:=λt=>X9 _ _ _ _;refine⟨⟨λt=>?_,h.ch,h.nd,λm D t n=>?_,λm t n=>?_,λj b B m t z=>?_,h.sc,h.sl⟩,λr=>fq rfl,λ_ _=>rfl,λ_ _ _ _ h=>h,λ_ _ h _=>h,λt H E I=>⟨rfl,λq=>?_,λ_=>fq rfl⟩,λt q p n=>⟨?_,rfl,rfl⟩,λt q p=>⟨λn=>?_,λn=>⟨?_,?_⟩⟩⟩
 ·show Ar g.own s (Tq.note (a+1000)) t=.free↔_;rw[o];by_cases e:t=s
  ·rw[ga e,←h.tok t,e,u];simp
  ·rw[fw e];exact h.tok t
 ·obtain⟨p1,p2⟩:=h.pb m D t n;show Ar g.own s (Tq.note (a+1000)) t=_/\_;rw[o,fw λe=>by rw[e,u] at p1;cases p1];exact⟨p1,p2⟩
 ·obtain⟨p1,p2,F,G⟩:=h.lo m t n;show _/\_/\Ar g.own s (Tq.note (a+1000)) t≠_/\∀k,Ar g.own s (Tq.note (a+1000)) t≠_;rw[o];refine⟨p1,p2,?_⟩;split
  ·exact⟨by simp,λk=>by simp⟩
  ·exact⟨F,G⟩
 ·obtain⟨p1,p2⟩:=h.sf j b B m t z;refine⟨p1,λi p=>?_⟩;have p:Ar g.own s (Tq.note (a+1000)) t=.note i:=p;show b<=Ar g.mO s d t;rw[X9];rw[o] at p;by_cases e:t=s
  ·rw[ga e];exact C j b B
  ·rw[fw e] at p ⊢;exact p2 i p
 ·show Ar g.own s (Tq.note (a+1000)) t≠_;rw[o];split
  ·simp
  ·exact E q
 ·show Ar g.own s (Tq.note (a+1000)) t=_;rw[o,fw λe=>by rw[e,u] at n;cases n];exact n
 ·have e:t≠s:=λe=>by rw[e,u] at n;injection n with n;exact p n.symm
  show Ar g.own s (Tq.note (a+1000)) t=_;rw[o,fw e];exact n
 ·have e:t≠s:=λe=>by rw[e,u] at n;cases n
  show Ar g.own s (Tq.note (a+1000)) t=_;rw[o,fw e];exact n
 ·have e:t≠s:=λe=>by rw[e,u] at n;cases n
  show Ar g.mO s d t=_;rw[X9,fw e]
def AA.enter(h:AA st v g)(c:Int)(K:g.A k=none):AA st v (g.enter k st c)/\Ev k ce v g v (g.enter k st c):=by
 have E:∀j,(g.enter k st c).A j=if j=k then some c else g.A j:=λ_=>rfl;have B:∀j m t,(g.enter k st c).Sf j m t↔if j=k then Zn st m/\t∈g.LL m else g.Sf j m t:=λ_ _ _=>j3;refine⟨⟨h.tok,h.ch,h.nd,h.pb,h.lo,λj b F m t n=>?_,λj o m t n=>?_,λj o m G t C=>?_⟩,λr=>fq rfl,λj o=>by rw[E,fw o],λj o l t C=>by rw[B,fw o];exact C,λ_ _ h _=>h,λt L I M=>⟨rfl,I,λ_=>fq rfl⟩,λt q D C=>⟨C,rfl,rfl⟩,λ_ _ _=>⟨id,λh=>⟨h,rfl⟩⟩⟩
 ·rw[E] at F;rw[B] at n;by_cases e:j=k
  ·rw[ga e] at n;obtain⟨p1,p2⟩:=h.pb m n.1 t n.2;exact⟨p2,λi D=>by have D:g.own t=.note i:=D;rw[p1] at D;cases D⟩
  ·rw[fw e] at F n;exact h.sf j b F m t n
 ·rw[E] at o;rw[B] at n;by_cases e:j=k
  ·rw[ga e] at n;have N:=h.ch m n.1;obtain⟨p,q,H⟩:=List.append_of_mem n.2;have z:=h.at_ (pre:=p++[t]) (post:=q) n.1 (by rw[H];simp);have J:El st v m (p++[t])=⟨t,v.AB t,2+m⟩:=Tk t;rw[J,BW (h.zero n.1 n.2)] at z;cases q with
   |nil=>exact fq z
   |cons u r=>
    right;rw[B,ga e];exact⟨⟨n.1,by rw[z.1,H];simp⟩,z.2.1.2.2⟩
  ·rw[fw e] at o n;exact(h.sc j o m t n).imp id λq=>⟨by rw[B,fw e];exact q.1,q.2⟩
 ·rw[E] at o;rw[B];by_cases e:j=k
  ·rw[ga e];exact⟨G,C⟩
  ·rw[fw e] at o ⊢;exact h.sl j o m G t C
def AA.Cw(h:AA st v g):AA st v (g.Cw k)/\Ev k ce v g v (g.Cw k):=by
 have p:∀j,(g.Cw k).A j=if j=k then none else g.A j:=λ_=>rfl;have u:∀{j},(g.Cw k).A j≠none->j≠k/\g.A j≠none:=λ{j} i=>by
  rw[p] at i;by_cases e:j=k
  ·rw[ga e] at i;exact absurd rfl i
  ·rw[fw e] at i;exact⟨e,i⟩
 refine⟨⟨h.tok,h.ch,h.nd,h.pb,h.lo,λj b o m t n=>?_,λj i m t n=>h.sc j (u i).2 m t n,λj i=>h.sl j (u i).2⟩,λr=>fq rfl,λj i=>by rw[p,fw i],λ_ _ _ _ h=>h,λ_ _ h _=>h,λt C z D=>⟨rfl,z,λ_=>fq rfl⟩,λt q E B=>⟨B,rfl,rfl⟩,λ_ _ _=>⟨id,λh=>⟨h,rfl⟩⟩⟩;rw[p] at o;by_cases e:j=k
 ·rw[ga e] at o;cases o
 ·rw[fw e] at o;exact h.sf j b o m t n
end
end Go.Proofs.YtaipogljokblkaaGreatDoor
namespace Go.Proofs.YtaipogljokblkaaGreatDoor
open Go Go.RowKit
end Go.Proofs.YtaipogljokblkaaGreatDoor
namespace Go.Proofs.YtaipogljokblkaaGreatDoor
open Go Go.RowKit
structure VC where
 L:List (Int × Int)
 B:Int->Bool
 z:Int
 c:Int
def uP:∀b:Int,1<=b->b<8->Yw (Bb b)<Yw b/\0<=Bb b/\Bb b<b:=by
 intro b a c;have:b=1\/b=2\/b=3\/b=4\/b=5\/b=6\/b=7:=Zo;rcases this with rfl|rfl|rfl|rfl|rfl|rfl|rfl<;>decide
def ordt:((List.range 256).all λk=>[1,2,4,8].all λz:Int=>decide (Yw (Int.tmod (k:Int) z)<MG (k:Int)))=true:=Zk
def zC{k z:Int}(a:0<=k)(b:k<256)(c:z=1\/z=2\/z=4\/z=8):Yw (Int.tmod k z)<MG k:=by
 have h:=g9.1 ordt k.toNat (jt.2 Zo);have h:=g9.1 h z (by simp;omega);rw[jm a] at h;exact iz h
end Go.Proofs.YtaipogljokblkaaGreatDoor
namespace Go.Proofs.YtaipogljokblkaaGreatDoor
open Go Go.RowKit
end Go.Proofs.YtaipogljokblkaaGreatDoor
namespace Go.Proofs.YtaipogljokblkaaGreatDoor
open Go Go.RowKit
end Go.Proofs.YtaipogljokblkaaGreatDoor
namespace Go.Proofs.YtaipogljokblkaaGreatDoor
open Go Go.RowKit
end Go.Proofs.YtaipogljokblkaaGreatDoor
namespace Go.Proofs.YtaipogljokblkaaGreatDoor
open Go Go.RowKit
end Go.Proofs.YtaipogljokblkaaGreatDoor
namespace Go.Proofs.YtaipogljokblkaaGreatDoor
open Go Go.RowKit
end Go.Proofs.YtaipogljokblkaaGreatDoor
namespace Go.Proofs.YtaipogljokblkaaGreatDoor
open Go Go.RowKit
end Go.Proofs.YtaipogljokblkaaGreatDoor
namespace Go.Proofs.YtaipogljokblkaaGreatDoor
open Go Go.RowKit
end Go.Proofs.YtaipogljokblkaaGreatDoor
namespace Go.Proofs.YtaipogljokblkaaGreatDoor
open Go Go.RowKit
section
variable{F:Nat->MV->Pl->Prop}{P:Nat->MR->Pl->Prop}{b a0 n0:Nat}{V:MV}{M:MR}{p:Pl}{e:Int}{v:Vw}{J:Xz}{c:Xi}
def post(V:MV)(J:Xz)(c:Xi):MV:=
 bif !(c.kind==12) then MV.Ag {V with Bl:=some J} 2 c else MV.Ag {V with Bl:=some J,BR:=c.BR} 3 Y7
def mD{J:Xz}(a:V.Bl=some J)(d:V.Ac=1\/V.Ac=2){x:Xr}(f:V.M.R.Az=x):V.Hi=post V (J.next x).1 (J.next x).2:=by
 unfold MV.Hi post;rw[show(V.Ac==1||V.Ac==2)=true by rcases d with h|h<;>simp[h],a,f];rfl
def wg(h:c.kind≠12):post V J c=MV.Ag {V with Bl:=some J} 2 c:=by unfold post;rw[show(c.kind==12)=false by simp[h]];rfl
end
structure GI(st:Int)(n nt t:Nat)(P:Aj):Prop where
 s:P.st=st
 z:P.Av.length=nt
 h:HI st n P.heap
 b:P.Ap.length<=t
 v:∀(i:Nat) (T:MT),P.Av[i]?=some T->VI st n t T.V/\(∀o∈T.queue,N3 st o)/\-1<=T.last/\T.last<(P.Ap.length:Int)
section
variable{st:Int}{n nt t k:Nat}{P:Aj}{T:MT}
def qS(h:VI st n t T.V)(c:∀o∈T.queue,N3 st o)(b:Aj.CO T=false):VI st n (t+6) (Aj.ready T).V/\(Aj.ready T).V.Ac≠0/\(∀o∈(Aj.ready T).queue,N3 st o)/\(Aj.ready T).last=T.last:=by
 unfold Aj.ready;unfold Aj.CO at b;cases a:T.V.busy with
 |true=>
  refine⟨h.up Zo,λe=>?_,c,rfl⟩;have e:T.V.Ac=0:=e;unfold MV.busy at a;rw[e] at a;cases a
 |false=>
  have f:T.V.Ac=0:=by unfold MV.busy at a;simpa using a
  rw[a] at b;cases d:T.queue with
  |nil=>rw[d] at b;cases b
  |cons o r=>
   have g:=c o (by rw[d];exact g6 ..);obtain⟨i,j⟩:=qe h f g;exact⟨i,j,λx l=>c x (by rw[d];exact gq _ l),rfl⟩
def dB(h:GI st n nt t P)(d:P.Av[k]?=some T)(u:Aj.CO T=false)(I:t<=60000)(w:n<=1024):
  (T.V.busy=false->∀o r,T.queue=o::r->Hh T.V.st o/\TR T.V.M/\T.V.M.R.step=0/\Qi (MV.Ag {T.V with op:=o,Bl:=some (Xz.new T.V.st o),BR:=.zero} 1 Zj))/\WN (Aj.ready T).V P.heap/\
  GI st n nt (t+12) (P.BV k T).1/\NF P.heap (P.BV k T).1.heap:=by
 obtain⟨f,g,J,K⟩:=h.v k T d
 obtain⟨j,l,x,L⟩:=qS f g u
 obtain⟨y,A,B⟩:=cL j l h.h
 have c:(P.BV k T).1.Ap.length=P.Ap.length+1:=by
  unfold Aj.BV;simp only[iu,jb,mr];cases((Aj.ready T).V.step P.heap).2.2.real==1&&decide (0<=T.last)<;>simp
 refine⟨λm o r C=>?_,cO j l h.h Zo w,⟨h.s,?_,A,by rw[c];have:=h.b;omega,λi p a=>?_⟩,B⟩
 ·have D:T.V.Ac=0:=by unfold MV.busy at m;simpa using m
  have q:=g o (by rw[C];exact g6 ..);obtain⟨E,F,G⟩:=kZ f D q Zo;exact⟨by rw[f.cB];exact q,E,F,G⟩
 ·show(P.Av.set _ _).length=nt;rw[jc];exact h.z
 ·rw[c];have a:(P.Av.set k {Aj.ready T with V:=((Aj.ready T).V.step P.heap).1,last:=P.Ap.length})[i]?=some p:=a;have H:k<P.Av.length:=by
   rcases iw k P.Av.length with h|h
   ·exact h
   ·rw[ik h] at d;cases d
  by_cases e:k=i
  ·subst e;rw[ij H] at a;injection a with a;subst a;exact⟨y.up Zo,x,by show(-1:Int)<=(P.Ap.length:Int);omega,by show(P.Ap.length:Int)<_;omega⟩
  ·rw[jo e] at a;obtain⟨u1,u2,u3,u4⟩:=h.v i p a;exact⟨u1.up Zo,u2,u3,Zo⟩
end
structure HB(n:Nat)(p:Pl):Prop where
 nb:p.nb=85
 ns:p.ns=n
 Wh:∀x∈p.free,1<=x/\x<=(n:Int)
 mN:p.free.Nodup
 lA:∀x∈p.free,(p.slot x).used=false
 bd:∀r,Dg n (p.board r)/\(p.board r).tg=0
 cell:∀s f,Dg n ((p.slot s).cell f)
section
variable{n:Nat}{p:Pl}{st:Int}
def HB.fresh(n:Nat):HB n (Pl.fresh 85 n):=by
 refine⟨rfl,rfl,λx a=>?_,?_,λx a=>rfl,λr=>⟨Yy,rfl⟩,λs f=>Yy⟩
 ·unfold Pl.fresh Pl.down at a;simp at a;obtain⟨i,b,rfl⟩:=a;omega
 ·show(Pl.down n n).Nodup;unfold Pl.down;unfold List.Nodup;rw[List.pairwise_map];exact mh (λh=>Zo) List.nodup_range
def HB.stored(h:HB n p)(a:Int){y:Xe}(b:Dg n y)(c:y.tg=0):HB n (p.stored a y):=
 ⟨h.nb,h.ns,h.Wh,h.mN,h.lA,fun r=>by
  show Dg n (Ar p.board a y r)/\(Ar p.board a y r).tg=0;by_cases e:r=a
  ·subst e;rw[AP];exact⟨b,c⟩
  ·rw[BM _ _ e];exact h.bd r,h.cell⟩
def HB.alloc(h:HB n p){l:List Int}{m:Int}(b:p.free=l++[m]):HB n (p.act Pl.A1).1/\Df n (p.act Pl.A1).2.word/\(p.act Pl.A1).1.board=p.board:=by
 have i:p.free.getLast?=some m:=by rw[b];simp
 have j:p.free.dropLast=l:=by rw[b];simp
 have e:p.act Pl.A1=({p with steps:=wr (p.steps+1),free:=l,slot:=Ar p.slot m ⟨wr ((p.slot m).AB+1),true,Ar (λ_=>.zero) 9 (Y6 0)⟩,made:=wr (p.made+1)},⟨⟨m,wr ((p.slot m).AB+1),0,0,false⟩,true⟩):=by
  show Pl.alloc {p with steps:=wr (p.steps+1)} _=_;unfold Pl.alloc;simp only[i,j];rfl
 rw[e];have g:=h.Wh m (by rw[b];simp);have a:=h.mN;rw[b] at a;refine⟨⟨h.nb,h.ns,λx c=>h.Wh x (by rw[b];exact g8 _ c),(h9.1 a).1,λx c=>?_,h.bd,λs f=>?_⟩,⟨g.1,g.2⟩,rfl⟩
 ·have d:x≠m:=λe=>by
   subst e;exact(h9.1 a).2.2 x c x Zs rfl
  show(Ar p.slot m _ x).used=false;rw[BM _ _ d];exact h.lA x (by rw[b];exact g8 _ c)
 ·show Dg n ((Ar p.slot m _ s).cell f);by_cases e:s=m
  ·subst e;rw[AP];show Dg n (Ar (λ_=>Xe.zero) 9 (Y6 0) f);by_cases e:f=9
   ·subst e;rw[AP];exact Cy
   ·rw[BM _ _ e];exact Yy
  ·rw[BM _ _ e];exact h.cell s f
def HB.hi(h:HB n p)(b:st=2->Df n (p.board 0)):HI st n p:=
 ⟨h.nb,h.ns,h.Wh,h.mN,h.lA,fun r _ _=>⟨(h.bd r).1,fun e _ a=>by
  have a:r=0:=a;subst a;exact b e⟩,λs f _ _ _ _=>h.cell s f⟩
def dS(st:Int)(n:Nat)(h:st=2\/st=4->1<=n):HB n (Pl.laid st n)/\(st=2->Df n ((Pl.laid st n).board 0)):=by
 have b:HB n (Pl.begun n):=(HB.fresh n).stored 24 (Cy) rfl;unfold Pl.laid;by_cases c:st=2
 ·subst c;obtain⟨l,m,d⟩:=He n (h (fq rfl));obtain⟨f,g,_⟩:=b.alloc d;have a:Df n (Yx ((Pl.begun n).act Pl.A1).2.word):=g;have i:Dg n (Yx ((Pl.begun n).act Pl.A1).2.word):=ET a;show HB n (Pl.begun n).IP/\(_->Df n ((Pl.begun n).IP.board 0));refine⟨(f.stored 0 i rfl).stored 1 i rfl,λ_=>?_⟩;have e:∀(p1:Pl) (y:Xe),((p1.stored 0 y).stored 1 y).board 0=y:=λp1 y=>rfl;show Df n ((Pl.begun n).IP.board 0);unfold Pl.IP;rw[e];exact a
 ·rw[show(st==2)=false from by simp[c]];by_cases j:st=4
  ·subst j;obtain⟨l,m,d⟩:=He n (h (db rfl));obtain⟨f,g,_⟩:=b.alloc d;have a:Dg n (Yx ((Pl.begun n).act Pl.A1).2.word):=ET g;exact⟨(f.stored 8 a rfl).stored 16 (Cy) rfl,λe=>absurd e Zd⟩
  ·rw[show(st==4)=false from by simp[j]];exact⟨b,λe=>absurd e c⟩
end
section
variable{st eng me th most:Int}{n nt t:Nat}{P:Aj}
def tQ(a:eng=2\/eng=4)(m0:0<=me)(b:me<6)(t0:1<=th)(t1:th<=6):VI st n 0 (MV.fresh st eng me th most):=
 ⟨rfl,⟨m0,b,t0,t1,a,Nat.le_refl _,qd _,ie _,λd c=>by cases c⟩,fq ⟨rfl,rfl⟩⟩
def Pp(c:st=2\/st=4->1<=n)(d:eng=2\/eng=4)(t0:1<=nt)(t1:nt<=6):GI st n nt 0 (Aj.fresh st eng most nt n nt):=by
 obtain⟨l1,l2⟩:=dS st n c;refine⟨rfl,Aj.MO _ _ _ _ _ _,l1.hi l2,Nat.le_refl _,λi T a=>?_⟩;unfold Aj.fresh at a;simp only at a;rw[kf] at a;cases b:(List.range nt)[i]? with
 |none=>rw[b] at a;cases a
 |some j=>
  rw[b] at a;injection a with a;subst a;have f:j<nt:=by
   have:=List.mem_of_getElem? b;simpa using this
  exact⟨tQ d Zo Zo Zo Zo,(λ(o:AV) (e:o∈([]:List AV))=>by cases e),by show(-1:Int)<=-1;omega,by show(-1:Int)<0;omega⟩
def GI.put(h:GI st n nt t P)(x:Fn.De)(g:N3 st (Ns x.op)):GI st n nt t (P.put x):=by
 unfold Aj.put;cases d:P.Av[x.AW.toNat]? with
 |none=>exact h
 |some T=>
  have j:x.AW.toNat<P.Av.length:=by
   rcases iw x.AW.toNat P.Av.length with h|h
   ·exact h
   ·rw[ik h] at d;cases d
  refine⟨h.s,?_,h.h,h.b,λi f a=>?_⟩
  ·show(P.Av.set _ _).length=nt;rw[jc];exact h.z
  ·have a:(P.Av.set x.AW.toNat {T with queue:=T.queue++[Ns x.op],BK:=T.BK+1})[i]?=some f:=a;by_cases e:x.AW.toNat=i
   ·subst e;rw[ij j] at a;injection a with a;subst a;obtain⟨k,l,m,p⟩:=h.v _ T d;refine⟨k,λo c=>?_,m,p⟩;have c:o∈T.queue++[Ns x.op]:=c;rcases gy.1 c with c|c
    ·exact l o c
    ·simp at c;subst c;exact g
   ·rw[jo e] at a;exact h.v i f a
def GI.fill:∀(l:List Fn.De) (P:Aj),GI st n nt t P->(∀x∈l,N3 st (Ns x.op))->GI st n nt t (P.fill l)
 |[],_,h,_=>h
 |x::l,P,h,a=>GI.fill l (P.put x) (h.put x (a x (g6 ..))) λy b=>a y (gq _ b)
end
namespace Fn
def aF{st:Int}(c:1<=st)(d:st<=5)(b:Nat):KR st b∈BO st:=by
 have a:0<(BO st).length:=by
  obtain rfl|rfl|rfl|rfl|rfl:st=1\/st=2\/st=3\/st=4\/st=5:=Zo;all_goals decide
 unfold KR;rw[gl (oy b a)];exact nu _
def lB{st k x y:Int}(c:1<=st)(d:st<=5)(a:k∈BO st)(e:0<=x)(f:x<=255)(g:0<=y)(h:y<=255):JJ st (Gq st k x y)=true:=by
 rw[BG];have b:st=1\/st=2\/st=3\/st=4\/st=5:=Zo;rcases b with rfl|rfl|rfl|rfl|rfl<;>simp[BO] at a;all_goals
  rcases a with rfl|a
  ·simp[Gq,F9];omega
  ·first
    |(rcases a with rfl|rfl<;>simp[Gq,F9]<;>omega)
    |(subst a;simp[Gq,F9])
def uC(s:ByteArray):1<=CU s/\CU s<=5:=by unfold CU;omega
def LU{s:ByteArray}:∀t∈(dec s).ops,0<=t.AW/\t.AW<EP s/\Hh (CU s) (Ns t.op):=by
 intro t a;have a:t∈Fm s (dN s):=a;unfold Fm at a;obtain⟨i,_,rfl⟩:=j7.1 a;have c:1<=EP s:=by unfold EP;omega
 refine⟨Int.emod_nonneg _ Zo,Int.emod_lt_of_pos _ Zo,?_⟩;have b:=uC s;have:=lB b.1 b.2 (aF b.1 b.2 (Jl s (7+4*i))) (x:=Jl s (8+4*i)) (y:=Jl s (9+4*i)) Zo (by have:=IW s (8+4*i);omega) Zo (by have:=IW s (9+4*i);omega);rw[BG] at this;exact this
end Fn
namespace Aj
def idle(P:Aj)(k:Nat):Bool:=match P.Av[k]? with
 |none=>true
 |some T=>CO T
def runT:Nat->Aj->Nat->Aj
 |0,P,_=>P
 |m+1,P,k=>match P.Av[k]? with
  |none=>P
  |some T=>bif CO T then P else runT m (P.BV k T).1 k
def E8{P:Aj}{k:Nat}(h:P.idle k=true):∀m,runT m P k=P
 |0=>rfl
 |m+1=>by
  unfold runT;unfold idle at h;cases a:P.Av[k]? with
  |none=>rfl
  |some T=>rw[a] at h;simp only at h ⊢;rw[h];rfl
def Kh{P:Aj}{k:Nat}{T:MT}(a:P.Av[k]?=some T)(h:CO T=false)(m:Nat):runT (m+1) P k=runT m (P.BV k T).1 k:=by
 show (match P.Av[k]? with
  |none=>P
  |some T=>bif CO T then P else runT m (P.BV k T).1 k)=_
 rw[a];simp only;rw[h];rfl
def AI(m:Nat)(P:Aj):Nat->Aj
 |0=>P
 |k+1=>runT m (AI m P k) k
end Aj
section
variable{st:Int}{n nt t T0:Nat}{P:Aj}{T:MT}{V:MV}{F:Nat->MV->Pl->Prop}{G:Nat->Aj->Prop}{I:Aj->Prop}{b:Nat}{p:Pl}
def GI.down{c:Nat}(h:GI st n nt t P)(e:P.Ap.length<=c)(f:∀(i:Nat) (T:MT),P.Av[i]?=some T->T.V.M.ns.length<=c):GI st n nt c P:=
 ⟨h.s,h.z,h.h,e,fun i T d=>by
  obtain⟨a,g,j,k⟩:=h.v i T d;exact⟨⟨a.cB,⟨a.base.Q9,a.base.Q8,a.base.QY,a.base.Ua,a.base.eng,f i T d,a.base.Pz,a.base.sl,a.base.OQ⟩,a.at_⟩,g,j,k⟩⟩
def cZ(h:V.Ac=0):V.quiet=true:=by unfold MV.quiet;rw[h];rfl
def Lz(h:V.M.R.step≠0):V.quiet=true:=by unfold MV.quiet MV.Ef;rw[show(V.M.R.step==0)=false by simp[h]];simp
def SY(a:V.Ac≠0)(h:V.M.R.step=0):V.quiet=false:=by unfold MV.quiet MV.Ef;rw[h,show(V.Ac==0)=false by simp[a]];rfl
def VI.quiet(h:VI st n t V):V.quiet=true:=by
 rcases h.at_ with h|h
 ·exact cZ h.1
 ·exact Lz h.1
def MX(h:V.quiet=true):V.advance=V:=Md h 16
end
