/- Core: FaM, FaN, FaO, FaP, FaQ. -/
import Derived.Test.YtaipogljokblkaaGreatDoorP40
set_option linter.all false
set_option maxRecDepth 100000
set_option maxHeartbeats 8000000
namespace Go.Proofs.YtaipogljokblkaaGreatDoor
open Go Go.RowKit
inductive EQ(st:Int)(v:Vw)(g:EG)(k:Nat):Xf->Xi->Prop
 |d {J c} (h:c.kind=12):EQ st v g k J c
 |i1 {l s y o w nd x} (ho:o.kind=6) (hs:BZ st v g k y s):EQ st v g k ⟨1,l,s,y,o,w,nd,x⟩ Xu
 |i2 {l s y o w nd x} (ho:o.kind=6) (hs:BZ st v g k y s) (hw:Ew v g k nd):EQ st v g k ⟨2,l,s,y,o,w,nd,x⟩ (Xq (Xh nd 0) (Y6 y))
 |i3 {l s y o w nd x} (ho:o.kind=6) (hs:BZ st v g k y s) (hw:Ew v g k nd) (hk:(v.cell nd.sl 0).nm=y):EQ st v g k ⟨3,l,s,y,o,w,nd,x⟩ (Xq (Xh nd 1) (Y6 o.val))
 |i4 {l s y o nd x W c} (ho:o.kind=6) (hs:BZ st v g k y s) (hw:Ew v g k nd) (hk:(v.cell nd.sl 0).nm=y) (hW:I7 st v g k W c) (hy:W.key=y/\W.start=s):EQ st v g k ⟨4,l,s,y,o,some W,nd,x⟩ c
 |i5 {l s y o w nd x} (ho:o.kind=6) (hw:Ew v g k nd):EQ st v g k ⟨5,l,s,y,o,w,nd,x⟩ (Yi nd)
 |i6 {l s y o nd x W} (ho:o.kind=6) (hs:BZ st v g k y s) (hw:Ew v g k nd) (hk:(v.cell nd.sl 0).nm=y) (hf:ND st v g k W) (hy:W.key=y/\W.found=false):EQ st v g k ⟨6,l,s,y,o,some W,nd,x⟩ (Xq (Xh nd 2) (Yx W.As))
 |i7 {l s y o nd x W} (ho:o.kind=6) (hs:BZ st v g k y s) (hw:Ew v g k nd) (hk:(v.cell nd.sl 0).nm=y) (hf:ND st v g k W) (hy:W.key=y/\W.found=false) (hc:v.cell nd.sl 2=Yx W.As):EQ st v g k ⟨7,l,s,y,o,some W,nd,x⟩ (Xp W.prev W.As (A4 W.As nd))
 |r1 {l s y o nd x W c} (ho:o.kind=7) (hs:BZ st v g k y s) (h2:st=4->y%2=1) (hW:I7 st v g k W c) (hy:W.key=y/\W.start=s):EQ st v g k ⟨1,l,s,y,o,some W,nd,x⟩ c
 |r2 {l s y o nd x W} (ho:o.kind=7) (hs:BZ st v g k y s) (h2:st=4->y%2=1) (hf:ND st v g k W) (hy:W.key=y/\W.found=true):EQ st v g k ⟨2,l,s,y,o,some W,nd,x⟩ (Xm (Xh W.As 1))
 |r3 {l s y o nd x W} (ho:o.kind=7) (hs:BZ st v g k y s) (h2:st=4->y%2=1) (hf:ND st v g k W) (hy:W.key=y/\W.found=true):EQ st v g k ⟨3,l,s,y,o,some W,nd,x⟩ (Xp (Xh W.As 2) W.next (Zc W.next))
 |r4 {l s y o nd x W} (ho:o.kind=7) (hs:BZ st v g k y s) (hp:Hk st v g k y W.prev) (hc:Cu v g k W.prev W.As) (hm:v.cell W.As.sl 2=Zc W.next):EQ st v g k ⟨4,l,s,y,o,some W,nd,x⟩ (Xp W.prev W.As (A4 W.As W.next))
 |r5 {l s y o nd x W} (ho:o.kind=7) (hp:mR v g k W.As):EQ st v g k ⟨5,l,s,y,o,some W,nd,x⟩ (Xk W.As)
 |r6 {l s y o nd x W c} (ho:o.kind=7) (hW:I7 st v g k W c):EQ st v g k ⟨6,l,s,y,o,some W,nd,x⟩ c
 |g1 {l s y o nd x W c} (ho:o.kind≠6/\o.kind≠7) (hW:I7 st v g k W c):EQ st v g k ⟨1,l,s,y,o,some W,nd,x⟩ c
 |g2 {l s y o nd x W} (ho:o.kind≠6/\o.kind≠7) (h0:W.As.sl≠0) (hw:WR v g k 0 W.As):EQ st v g k ⟨2,l,s,y,o,some W,nd,x⟩ (Xm (Xh W.As 1))
def B9(v:Vw)(g:EG)(J:Xf):Nat:=
 let N:=3*(g.LL 0).length
 match J.walk with
 |none=>if J.op.kind=6 then(if J.pc=1 then N+7 else if J.pc=2 then N+6 else if J.pc=3 then N+5 else if J.pc=5 then 1 else 0) else 0
 |some W=>
  if J.op.kind=6 then(if J.pc=1 then N+7 else if J.pc=2 then N+6 else if J.pc=3 then N+5 else if J.pc=4 then Zt v g W+3 else if J.pc=5 then 1 else if J.pc=6 then(if v.get W.prev=W.As then 2 else N+6) else if J.pc=7 then(if v.get W.prev=W.As then 1 else N+5) else 0)
  else if J.op.kind=7 then(if J.pc=1 then Zt v g W+N+19 else if J.pc=2 then(if v.cell W.As.sl 2=W.next then N+19 else 2*N+22) else if J.pc=3 then(if v.cell W.As.sl 2=W.next then N+18 else 2*N+21) else if J.pc=4 then N+2 else if J.pc=5 then 12 else if J.pc=6 then Zt v g W else 0)
  else(if J.pc=1 then Zt v g W+1 else if J.pc=2 then 1 else 0)
def VU(J:Xf)(r:Xj × Xi × Bool):Xf × Xi:=
 if r.2.2 then({J with walk:=some r.1},r.2.1) else if r.1.found then({J with walk:=some r.1,pc:=5},Yi J.node) else({J with walk:=some r.1,pc:=6},Xq (Xh J.node 2) (Yx r.1.As))
def kR{J:Xf}{W:Xj}(h:J.walk=some W)(x:Xr):J.AE x=VU J (W.step x):=by
 unfold Xf.AE VU;rw[h];rfl
def Nl(J:Xf)(r:Xj × Xi × Bool):Xf × Xi:=
 if r.2.2 then({J with walk:=some r.1},r.2.1) else if r.1.found then({J with walk:=some r.1,pc:=2},Xm (Xh r.1.As 1)) else({J with walk:=some r.1,pc:=-1,last:=X3 2 0},X3 2 0)
def Rh{J:Xf}{W:Xj}(h:J.walk=some W)(x:Xr):J.Ay x=Nl J (W.step x):=by
 unfold Xf.Ay Nl Xf.done;rw[h];show(if(W.step x).2.2 then _ else if !(W.step x).1.found then _ else _)=_;cases(W.step x).2.2<;>cases(W.step x).1.found<;>rfl
section
variable{st:Int}{v v':Vw}{g g':EG}{a k:Nat}{J:Xf}{c:Xi}{w:Xe}
def EQ.A3(h:EQ st v g k J c)(n:AA st v g)(o:AA st v' g')(e:Ev a NC v g v' g')(i:k≠a)(p:g.A k≠none):EQ st v' g' k J c:=by
 have m:∀{y s},BZ st v g k y s->BZ st v' g' k y s:=λh=>h.A3 n o e i p;have C:∀{W c},I7 st v g k W c->I7 st v' g' k W c:=λh=>h.A3 n o e i p;have D:∀{W},ND st v g k W->ND st v' g' k W:=λh=>h.A3 n o e i p;have u:∀{w},Ew v g k w->Ew v' g' k w:=λh=>(h.A3 e i).1;have x:∀{w},Ew v g k w->v'.cell w.sl=v.cell w.sl:=λh=>(h.A3 e i).2;cases h with
 |d h=>exact .d h
 |i1 b f=>exact .i1 b (m f)
 |i2 b f j=>exact .i2 b (m f) (u j)
 |i3 b f j i=>exact .i3 b (m f) (u j) (by rw[x j];exact i)
 |i4 b f j i r l=>exact .i4 b (m f) (u j) (by rw[x j];exact i) (C r) l
 |i5 b j=>exact .i5 b (u j)
 |i6 b f j i t l=>exact .i6 b (m f) (u j) (by rw[x j];exact i) (D t) l
 |i7 b f j i t l z=>exact .i7 b (m f) (u j) (by rw[x j];exact i) (D t) l (by rw[x j];exact z)
 |r1 b f B r l=>exact .r1 b (m f) B (C r) l
 |r2 b f B t l=>exact .r2 b (m f) B (D t) l
 |r3 b f B t l=>exact .r3 b (m f) B (D t) l
 |r4 b f E z F=>
  refine .r4 b (m f) (E.A3 n o e i p) (z.A3 E.1 n o e i p) ?_;rcases(e.cell i n o p (z.2.2.1 z.1).1).2 2 with q|q
  ·rw[q];exact F
  ·have:=q.1.2;rw[F] at this;cases this
 |r5 b E=>exact .r5 b (E.A3 e i)
 |r6 b r=>exact .r6 b (C r)
 |g1 b r=>exact .g1 b (C r)
 |g2 b G j=>exact .g2 b G (j.A3 e i n o p)
end
section
variable{st:Int}{v v':Vw}{g g':EG}{a k:Nat}{s y f:Int}{w x c n:Xe}{p ad:Yc}
def sD{t:Int}{L:List Int}(d:L.Nodup)(h:∀s,s≠t->v'.cell s 2=v.cell s 2):Ea v' L<=Ea v L+1/\(t∉L->Ea v' L=Ea v L):=by
 induction L with
 |nil=>exact⟨ie _,λ_=>rfl⟩
 |cons s r i=>
  obtain⟨j,l⟩:=ja.1 d;obtain⟨o,b⟩:=i l;rw[Ko,Ko];by_cases e:s=t
  ·subst e;rw[b j];refine⟨by split<;>split<;>omega,λq=>absurd (g6 ..) q⟩
  ·rw[h s e];exact⟨Zo,λq=>by rw[b λm=>q (gq _ m)]⟩
def xq(h:Mm st){l:Int}(b:Zn st l):l=0:=by
 have:=b.1;rcases h with rfl|rfl<;>(have:l<1:=b.2;omega)
def sX(l:Mm st)(j:AA st v g)(m:(Zp st).si v g)(E:g.A k≠none)(B:Mu v)(o:c.sl≠0)(F:WR v g k 0 c)(G:v.cell c.sl 2=n)(H:n.mark=false)(I:st=4->(v.cell c.sl 0).nm%2=1):
  Good st (Zp st) k v g (v.put (Xh c 2) (Zc n)) g/\(∀a,Ev a NC v g (v.put (Xh c 2) (Zc n)) g)/\(Zp st).Cd (v.put (Xh c 2) (Zc n)) g<=(Zp st).Cd v g+15:=by
 have C:=Pe l
 obtain⟨J,K,L⟩:=m
 subst G
 have r:=(j.Lc E (F o).1).1
 have M:=j.lo 0 _ r
 obtain⟨u1,u2,u3⟩:=VR (ce:=NC) (x:=Zc (v.cell c.sl 2)) j J o C ⟨rfl,rfl⟩ rfl (FK (by have:=B.ce c.sl 2;omega) (by have:=B.ce c.sl 2;omega)) M.2.2.2 ⟨rfl,H⟩
 simp only[show(2:Int)+0=2 from rfl] at u1 u2 u3
 have i:(v.put (Xh c 2) (Zc (v.cell c.sl 2))).root=v.root:=Hz o
 have d:∀s e,(s≠c.sl\/e≠2)->(v.put (Xh c 2) (Zc (v.cell c.sl 2))).cell s e=v.cell s e:=λs e h=>Yv s e λq=>by
  rcases h with h|h
  ·exact h q.1
  ·exact h q.2
 refine⟨⟨u1,⟨u3,by rw[i];exact K,λe=>?_⟩,u2 k,λ_ b _ _=>fq (by rw[i]),rfl,λ_ _ h=>h⟩,u2,?_⟩
 ·have u:=L e;refine⟨λb N O D=>?_,by rw[i];exact u.b0,λs m z=>?_⟩
  ·rw[i] at D ⊢;rw[Y0,d _ 0 (db Zd)];exact u.bk b N O D
  ·rw[d s 0 (db Zd)] at z;have:s≠c.sl:=λq=>by have:=I e;rw[q] at z;omega
   rw[d s 2 (fq this)];exact u.ev s m z
 ·have:=(sD (v:=v) (v':=v.put (Xh c 2) (Zc (v.cell c.sl 2))) (t:=c.sl) (j.nd 0 C) λs h=>d s 2 (fq h)).1;show 15*Ea _ (g.LL 0)+(if st=4 then 229*Eh _ else 0)<=15*Ea v (g.LL 0)+(if st=4 then 229*Eh v else 0)+15;have P:Eh (v.put (Xh c 2) (Zc (v.cell c.sl 2)))=Eh v:=by unfold Eh;rw[i]
  rw[P];omega
def VS(u:Mm st)(z:AA st v g)(j:(Zp st).si v g)(I:g.A k≠none)(J:Mu v)(S:0<=y)(m:Hk st v g k y p)(o:Ew v g k w)(E:(v.cell w.sl 0).nm=y)(K:c.mark=false)(B:v.cell w.sl 2=Yx c)(L:v.get p=c)(F:c.sl≠0->y<(v.cell c.sl 0).nm):
  ∃g',Good st (Zp st) k v g (v.put p (A4 c w)) g'/\(Zp st).Cd (v.put p (A4 c w)) g'=(Zp st).Cd v g/\(g'.LL 0).length=(g.LL 0).length+1/\g'.Sf k 0 w.sl/\wC v (v.put p (A4 c w))/\w.sl∈g'.LL 0/\(st=4->(v.put p (A4 c w)).root=v.root):=by
 have G:=Pe u
 obtain⟨M,N,r⟩:=j
 subst L
 have O:=iy Xe.sl B
 have P:=iy Xe.gn B
 have H:=iy Xe.mark B
 obtain⟨i,post,C,u1,u2,u3,u4⟩:=OT (ce:=NC) (w:=w) z M I J G m.1 K o.1 (fq o.2.1) (λq=>o.Cm z 0 (z.pb 0 G _ q).2) o.2.2 ⟨O,λ_=>P⟩ (λq=>by rw[E];exact m.2 q) (λq=>fq (by rw[E];exact F q)) λc y h=>⟨rfl,h⟩
 have d:(g.link 0 w.sl (i++w.sl::post)).LL 0=i++w.sl::post:=dQ
 have t:st=4->p.sl≠0:=λe q=>by
  have l:p=root 8:=by rcases m.1 with D|⟨D,_⟩;rw[D,e];rfl;exact absurd q D
  have Q:(v.cell (v.root 8).sl 0).nm=Yw 0:=((r e).bk 0 Zd Zd (r e).b0).2.2;have:=F (by rw[l];exact(r e).b0);rw[l] at this;have R:y<(v.cell (v.root 8).sl 0).nm:=this;rw[Q] at R;have:Yw 0=0:=by decide
  omega
 refine⟨_,⟨u1,⟨u3,?_,λe=>?_⟩,u2,λe b _ _=>fq (by unfold Vw.put;rw[fw (t e)]),rfl,λ_ _ h=>fq h⟩,?_,?_,db ⟨rfl,rfl⟩,u4,?_,λe=>by unfold Vw.put;rw[fw (t e)]⟩
 ·rcases m.1 with q|⟨q,_⟩
  ·rw[q];exact(iy Xe.mark ((Du _).trans (ga rfl)))
  ·unfold Vw.put;rw[fw q];exact N
 ·refine(r e).AL (λb _ _=>by unfold Vw.put;rw[fw (t e)]) Y0 u4 (λs j _=>?_) λs j=>?_
  ·rw[d];rw[C] at j;rcases gy.1 j with q|q
   ·exact g8 _ q
   ·exact jq _ (gq _ q)
  ·rcases j with q|⟨_,q⟩
   ·exact fq q
   ·right;rw[q];exact H
 ·show 15*Ea _ ((g.link 0 w.sl (i++w.sl::post)).LL 0)+(if st=4 then 229*Eh _ else 0)=15*Ea v (g.LL 0)+if st=4 then 229*Eh v else 0;rw[d,VO u4,C,LB,LB,Ko,fw (by rw[show(v.cell w.sl 2).mark=false from H];simp)];by_cases e:st=4
  ·rw[ga e,ga e,show Eh (v.put p (A4 (v.get p) w))=Eh v from by unfold Eh Vw.put;rw[fw (t e)]];omega
  ·rw[fw e,fw e];omega
 ·rw[d,C];simp;omega
 ·rw[d];simp
end
def E0(J:Xf):Nat:=if J.op.kind=6/\J.pc≠-1 then 1 else 0
def SS(J:Xf)(r:Xj × Xi × Bool):Xf × Xi:=
 if r.2.2 then({J with walk:=some r.1},r.2.1) else({J with walk:=some r.1,pc:=-1,last:=X3 1 J.val},X3 1 J.val)
def Z3{J:Xf}{W:Xj}(h:J.walk=some W)(x:Xr):J.A6 x=SS J (W.step x):=by
 unfold Xf.A6 SS Xf.done;rw[h];show(if(W.step x).2.2 then _ else _)=_;cases(W.step x).2.2<;>rfl
section
variable{st:Int}{v v':Vw}{g g':EG}{a k:Nat}{s y f:Int}{w x n:Xe}{p ad:Yc}{J:Xf}{c:Xi}{S:Xf->Xz}{K:Xf × Xi->Xz × Xi}{Q:Vw->EG->Xz->Xi->Prop}{I:Vw->EG->Prop}
def GH(r:Mm st):N4 st (Zp st):=by
 have C:=Pe r;have j:∀{v g v' g'},AA st v' g'->Jh v g v' g'->∀s∈g.LL 0,v'.cell s=v.cell s/\v'.AB s=v.AB s:=λ{v g v' g'} i d s m=>(d.lk 0 s (i.pb 0 C s (by rw[d.ll];exact m)).2).2;refine⟨λ{v g v' g'} i ⟨D,F,G⟩ d=>⟨⟨λl z=>?_,λl s m=>?_⟩,by rw[d.rt];exact F,λe=>?_⟩,λj _ b _ _=>fq (by rw[j.rt]),λ{v g v' g'} i d=>?_⟩
 ·obtain rfl:l=0:=xq r z;rw[d.ll];refine List.Pairwise.imp_of_mem (λ{p q} H A h=>?_) (D.so 0 C);unfold Rl;rw[(j i d p H).1,(j i d q A).1];exact h
 ·obtain⟨o,t,_⟩:=d.lk l s m;rw[t,d.ll];exact D.un l s o
 ·have B:=G e;refine⟨λb L M E=>?_,by rw[d.rt];exact B.b0,λs m u=>?_⟩
  ·rw[d.rt] at E ⊢;obtain⟨o,t,N⟩:=B.bk b L M E;rw[(j i d _ o).1,(j i d _ o).2,d.ll];exact⟨o,t,N⟩
  ·obtain⟨o,t,_⟩:=d.lk 0 s m;rw[t] at u ⊢;exact B.ev s o u
 ·show 15*Ea v' (g'.LL 0)+(if st=4 then 229*Eh v' else 0)=15*Ea v (g.LL 0)+if st=4 then 229*Eh v else 0;have O:Eh v'=Eh v:=by unfold Eh;rw[d.rt]
  have P:Ea v' (g'.LL 0)=Ea v (g.LL 0):=by
   rw[d.ll];unfold Ea;congr 1;exact nh λs m=>by rw[(j i d s m).1]
  rw[O,P]
def EF{s d:Int}(b:g.A k≠none):vQ NC k v g v (g.noted s k d):=⟨b,λ_ _ h=>⟨h,rfl,λ_=>fq rfl⟩⟩
def Rp{s d:Int}(h:Ew v g k w)(b:g.own s=.Cv k):Ew v (g.noted s k d) k w:=by
 refine⟨h.1,?_,h.2.2⟩;show Ar g.own s (Tq.note (k+1000)) w.sl=_;rw[X9,fw λe=>by have:=h.2.1;rw[e,b] at this;cases this];exact h.2.1
def Hk.Et(h:Hk st v g k y ad)(e:vQ NC k v g v' g'):Hk st v' g' k y ad:=by
 rcases h with⟨h|⟨b,d,i,j⟩,l⟩
 ·exact⟨fq h,λq=>absurd (by rw[h];rfl) q⟩
 ·obtain⟨m,o,r⟩:=e.2 0 _ i;refine⟨db ⟨b,d,m,by rw[o];exact j⟩,λq=>?_⟩;rw[(r 0).resolve_right λq=>absurd q.1 Zd];exact l q
def BZ.Et(h:BZ st v g k y ad)(e:vQ NC k v g v' g'):BZ st v' g' k y ad:=by
 refine⟨h.1.Et e,λb=>?_,h.2.2⟩;rcases h.1.1 with q|⟨_,_,q,_⟩
 ·rw[q] at b;exact absurd rfl b
 ·rw[((e.2 0 _ q).2.2 0).resolve_right λq=>absurd q.1 Zd];exact h.2.1 b
end
section
variable{st:Int}{v v':Vw}{g g':EG}{a k:Nat}{s y f:Int}{w x n:Xe}{p ad:Yc}{J:Xf}{c:Xi}{S:Xf->Xz}{K:Xf × Xi->Xz × Xi}{Q:Vw->EG->Xz->Xi->Prop}{I:Vw->EG->Prop}
def dM(M:Mm st)(z:AA st v g)(hs:(Zp st).si v g)(F:g.A k≠none)(tb:Mu v)(N:∀(J:Xf) (x:Xr),(S J).next x=K (J.next x))(V:∀(J:Xf) (c:Xi),c.kind≠12->K (J,c)=(S J,c))(hI:I v g)(X:∀v' g',vQ NC k v g v' g'->I v' g')
  (go:∀v' g' Y c',Y.op=J.op->EQ st v' g' k Y c'->I v' g'->(g'.LL 0).length+E0 Y<=(g.LL 0).length+E0 J->mS st k v g v' g'->B9 v' g' Y+wt c+(Zp st).Cd v' g'<=B9 v g J+(Zp st).Cd v g->Q v' g' (S Y) c')
  (done:∀v' g' Y i j,I v' g'->(g'.LL 0).length<=(g.LL 0).length+E0 J->mS st k v g v' g'->wt c+(Zp st).Cd v' g'<=B9 v g J+(Zp st).Cd v g->Q v' g' (K (Y,X3 i j)).1 (K (Y,X3 i j)).2)
  (hd:c.kind≠12)(ae:J.op.kind=6)(h:EQ st v g k J c):Mv st (Zp st) k Q v g (S J) c:=by
 have hl:=Pe M
 have hL:=GH M
 have Z:=λW a i=>V W (Xg a i) (by show(6:Int)≠12;decide)
 have kl:=λW a=>V W (Xm a) (by show(3:Int)≠12;decide)
 have O:=λW a o=>V W (Xq a o) (by show(4:Int)≠12;decide)
 have kw:=λW a o n=>V W (Xp a o n) (by show(5:Int)≠12;decide)
 have P:=λW a=>V W (Yi a) (by show(9:Int)≠12;decide)
 have kr:=λW a=>V W (Xk a) (by show(10:Int)≠12;decide)
 have kc:=λW=>V W Xu (by show(8:Int)≠12;decide)
 cases h with
 |d h=>exact absurd h hd
 |@i1 l s y o w C x b E=>
  refine .al (λt d t0 hn=>?_) ?_
  ·have u:=Good.take (k:=k) hL z hs hn d;have D:=u.1.Et z F;refine⟨_,u.1,?_⟩;rw[N];simp[Xf.next,Xf.insert,Xf.Ak,Xf.get,Xf.done,Xf.An,Xf.AE,Xf.Ay,Xf.A6,Xj.new,Xj.zero,Xj.step,Xj.again,AM,Yu,CG,Z,kl,O,kw,P,kr,kc,b];refine go _ _ _ _ rfl (.i2 b (E.Et D) (J4 t0)) (X _ _ D) (by simp[E0,b];exact Nat.le_refl _) (fq u.1) ?_;rw[u.2];have ag:(g.GR t (.Dl k)).LL=g.LL:=rfl;cases w<;>(simp[B9,E0,Zt,wt,Xu,Xm,Xq,Xp,Xg,Xk,Yi,X3,b,ag]<;>exact Zq)
  ·rw[N];simp[Xf.next,Xf.insert,Xf.Ak,Xf.get,Xf.done,Xf.An,Xf.AE,Xf.Ay,Xf.A6,Xj.new,Xj.zero,Xj.step,Xj.again,AM,Yu,CG,Z,kl,O,kw,P,kr,kc,b];exact done v g _ 4 0 hI (l5 ..) (db ⟨rfl,rfl⟩) (by cases w<;>(simp[B9,E0,Zt,wt,Xu,Xm,Xq,Xp,Xg,Xk,Yi,X3,b]<;>exact Zq))
 |@i2 l s y o w C x b E m=>
  have u:=Good.store (f:=0) (x:=Y6 y) hL z hs m
  have D:=u.1.Et z F
  refine .so (Bi (m.rf z) Zd Zd) u.1 ?_
  rw[N]
  simp[Xf.next,Xf.insert,Xf.Ak,Xf.get,Xf.done,Xf.An,Xf.AE,Xf.Ay,Xf.A6,Xj.new,Xj.zero,Xj.step,Xj.again,AM,Yu,CG,Z,kl,O,kw,P,kr,kc,b]
  refine go _ _ _ _ rfl (.i3 b (E.Et D) m.put (by rw[Dk m.1];rfl)) (X _ _ D) (by simp[E0,b]) (fq u.1) ?_
  rw[u.2]
  cases w<;>(simp[B9,E0,Zt,wt,Xu,Xm,Xq,Xp,Xg,Xk,Yi,X3,b]<;>exact Zq)
 |@i3 l s y o w C x b E m B=>
  have u:=Good.store (f:=1) (x:=Y6 o.val) hL z hs m
  have D:=u.1.Et z F
  refine .so (Bi (m.rf z) Zd Zd) u.1 ?_
  rw[N]
  simp[Xf.next,Xf.insert,Xf.Ak,Xf.get,Xf.done,Xf.An,Xf.AE,Xf.Ay,Xf.A6,Xj.new,Xj.zero,Xj.step,Xj.again,AM,Yu,CG,Z,kl,O,kw,P,kr,kc,b,Cq]
  refine go _ _ _ _ rfl (.i4 b (E.Et D) m.put (by rw[Yv _ _ λq=>absurd q.2 (by show(0:Int)≠1;decide)];exact B) (.w1 (E.Et D)) ⟨rfl,rfl⟩) (X _ _ D) (by simp[E0,b]) (fq u.1) ?_
  rw[u.2]
  cases w<;>(simp[B9,E0,Zt,wt,Xu,Xm,Xq,Xp,Xg,Xk,Yi,X3,b]<;>exact Zq)
 |@i4 l s y o C x W c b E m B hW L=>
  refine Jq (S:=λW=>S ⟨4,l,s,y,o,some W,C,x⟩) (K:=λr=>K (VU ⟨4,l,s,y,o,none,C,x⟩ r)) (I:=λv g=>I v g/\BZ st v g k y s/\Ew v g k C/\(v.cell C.sl 0).nm=y) M z hs F tb (λW x'=>?_) (λW c hc=>V _ _ hc) ⟨hI,E,m,B⟩ (λv' g' R ev=>?_) (λs' d hp=>⟨X _ _ (EF F),E.Et (EF F),Rp m hp,B⟩) (λv' g' W' c' q1 q2 ah H hn _ ai hm=>?_) (λg' W' q1 q2 G H hp ab hm=>?_) hW
  ·rw[N];refine iy K ((by simp[Xf.next,Xf.insert,b]:Xf.next ⟨4,l,s,y,o,some W,C,x⟩ x'=Xf.AE ⟨4,l,s,y,o,some W,C,x⟩ x').trans ?_);exact kR (J:=⟨4,l,s,y,o,some W,C,x⟩) rfl x'
  ·have T:k≠k+1:=Zo;exact⟨X _ _ (ev.Et T z R F),E.A3 z R ev T F,(m.A3 ev T).1,by rw[(m.A3 ev T).2];exact B⟩
  ·refine go _ _ _ _ rfl (.i4 b H.2.1 H.2.2.1 H.2.2.2 ah ⟨q1.trans L.1,q2.trans L.2⟩) H.1 (by simp[E0,b];exact hn) ai ?_;simp[B9,b];omega
  ·obtain⟨i0,i1,i2,i3⟩:=H;have hN:(g'.LL 0).length=(g.LL 0).length:=by rw[ab]
   cases U:W'.found with
   |true=>
    simp[VU,U,P];refine go _ _ _ _ rfl (.i5 b i2) i0 (by simp[E0,b,hN]) (db ⟨rfl,ab⟩) ?_;simp[B9,b];omega
   |false=>
    simp[VU,U,O];refine go _ _ _ _ rfl (.i6 b i1 i2 i3 G ⟨q1.trans L.1,U⟩) i0 (by simp[E0,b,hN]) (db ⟨rfl,ab⟩) ?_;rw[U] at hm;by_cases R:v.get W'.prev=W'.As
    ·simp[B9,b,R];omega
    ·simp[R] at hm;simp[B9,b,R,hN];omega
 |@i5 l s y o w C x b m=>
  have u:=Good.drop hL z hs m
  have D:=u.1.Et z F
  refine .dr (m.rf z) u.1 ?_
  rw[N]
  simp[Xf.next,Xf.insert,Xf.Ak,Xf.get,Xf.done,Xf.An,Xf.AE,Xf.Ay,Xf.A6,Xj.new,Xj.zero,Xj.step,Xj.again,AM,Yu,CG,Z,kl,O,kw,P,kr,kc,b]
  refine done _ _ _ 3 0 (X _ _ D) (l5 ..) (fq u.1) ?_
  rw[u.2]
  cases w<;>(simp[B9,E0,Zt,wt,Xu,Xm,Xq,Xp,Xg,Xk,Yi,X3,b]<;>exact Zq)
 |@i6 l s y o C x W b E m B G L=>
  have u:=Good.store (f:=2) (x:=Yx W.As) hL z hs m
  have D:=u.1.Et z F
  refine .so (Bi (m.rf z) Zd Zd) u.1 ?_
  have aj:¬(W.prev.sl=C.sl/\W.prev.fd=2):=λq=>by
   rcases G.pv.1 with e|⟨_,_,e,_⟩
   ·rw[e] at q;exact m.1 q.1.symm
   ·exact m.Cm z 0 (by rw[←q.1];exact(z.Lc F e).1)
  have af:(v.put (Xh C 2) (Yx W.As)).get W.prev=v.get W.prev:=by rw[DA,fw (show ¬(W.prev.sl=(Xh C 2).sl/\W.prev.fd=(Xh C 2).fd) from aj)]
  have aa:∀s,(v.put (Xh C 2) (Yx W.As)).cell s 0=v.cell s 0:=λs=>Yv s 0 λq=>absurd q.2 (by show(0:Int)≠2;decide)
  rw[N]
  simp[Xf.next,Xf.insert,Xf.Ak,Xf.get,Xf.done,Xf.An,Xf.AE,Xf.Ay,Xf.A6,Xj.new,Xj.zero,Xj.step,Xj.again,AM,Yu,CG,Z,kl,O,kw,P,kr,kc,b]
  refine go _ _ _ _ rfl (.i7 b (E.Et D) m.put (by rw[aa];exact B) ⟨G.pv.Et D,G.wr.Et D,G.um,by rw[af];exact G.sn,λq=>(by rw[L.2] at q;cases q),λq h0=>by rw[aa];exact G.no q h0⟩ L (Dk m.1)) (X _ _ D) (by simp[E0,b]) (fq u.1) ?_
  rw[u.2]
  (simp[B9,E0,Zt,wt,Xu,Xm,Xq,Xp,Xg,Xk,Yi,X3,b,af]<;>exact Zq)
 |@i7 l s y o C x W b E m B G L hc=>
  refine .sw (G.pv.1.mP z F hl) (λak=>?_) λam=>?_
  ·have R:=G.sn.same ak;obtain⟨g',k1,k2,k3,_⟩:=VS M z hs F tb E.2.2 (by rw[←L.1];exact G.pv) m B G.um hc R λh0=>by rw[←L.1];exact G.no L.2 h0
   have D:=k1.Et z F;refine⟨_,k1,?_⟩;rw[N];simp[Xf.next,Xf.insert,Xf.Ak,Xf.get,Xf.done,Xf.An,Xf.AE,Xf.Ay,Xf.A6,Xj.new,Xj.zero,Xj.step,Xj.again,AM,Yu,CG,Z,kl,O,kw,P,kr,kc,b];refine done _ _ _ 1 0 (X _ _ D) (by simp[E0,b,k3]) (fq k1) ?_;rw[k2];(simp[B9,E0,Zt,wt,Xu,Xm,Xq,Xp,Xg,Xk,Yi,X3,b,R]<;>exact Zq)
  ·rw[N];simp[Xf.next,Xf.insert,Xf.Ak,Xf.get,Xf.done,Xf.An,Xf.AE,Xf.Ay,Xf.A6,Xj.new,Xj.zero,Xj.step,Xj.again,AM,Yu,CG,Z,kl,O,kw,P,kr,kc,b,Cq];refine go _ _ _ _ rfl (.i4 b E m B (.w1 E) ⟨rfl,rfl⟩) hI (by simp[E0,b]) (db ⟨rfl,rfl⟩) ?_;(simp[B9,E0,Zt,wt,Xu,Xm,Xq,Xp,Xg,Xk,Yi,X3,b,am]<;>exact Zq)
 |r1 b|r2 b|r3 b|r4 b|r5 b|r6 b=>exact absurd (b.symm.trans ae) Zd
 |g1 b|g2 b=>exact absurd ae b.1
end
section
variable{st:Int}{v v':Vw}{g g':EG}{a k:Nat}{s y f:Int}{w x n:Xe}{p ad:Yc}{J:Xf}{c:Xi}{S:Xf->Xz}{K:Xf × Xi->Xz × Xi}{Q:Vw->EG->Xz->Xi->Prop}{I:Vw->EG->Prop}
def dL(C:Mm st)(z:AA st v g)(hs:(Zp st).si v g)(q:g.A k≠none)(tb:Mu v)(R:∀(J:Xf) (x:Xr),(S J).next x=K (J.next x))(H:∀(J:Xf) (c:Xi),c.kind≠12->K (J,c)=(S J,c))(hI:I v g)(V:∀v' g',vQ NC k v g v' g'->I v' g')
  (go:∀v' g' T c',T.op=J.op->EQ st v' g' k T c'->I v' g'->(g'.LL 0).length+E0 T<=(g.LL 0).length+E0 J->mS st k v g v' g'->B9 v' g' T+wt c+(Zp st).Cd v' g'<=B9 v g J+(Zp st).Cd v g->Q v' g' (S T) c')
  (done:∀v' g' T i j,I v' g'->(g'.LL 0).length<=(g.LL 0).length+E0 J->mS st k v g v' g'->wt c+(Zp st).Cd v' g'<=B9 v g J+(Zp st).Cd v g->Q v' g' (K (T,X3 i j)).1 (K (T,X3 i j)).2)
  (hd:c.kind≠12)(af:J.op.kind=7)(h:EQ st v g k J c):Mv st (Zp st) k Q v g (S J) c:=by
 have hl:=Pe C
 have hL:=GH C
 have kp:=λW a i=>H W (Xg a i) (by show(6:Int)≠12;decide)
 have X:=λW a=>H W (Xm a) (by show(3:Int)≠12;decide)
 have ks:=λW a o=>H W (Xq a o) (by show(4:Int)≠12;decide)
 have kw:=λW a o n=>H W (Xp a o n) (by show(5:Int)≠12;decide)
 have kd:=λW a=>H W (Yi a) (by show(9:Int)≠12;decide)
 have kr:=λW a=>H W (Xk a) (by show(10:Int)≠12;decide)
 have kc:=λW=>H W Xu (by show(8:Int)≠12;decide)
 cases h with
 |d h=>exact absurd h hd
 |i1 b|i2 b|i3 b|i4 b|i5 b|i6 b|i7 b=>exact absurd (b.symm.trans af) Zd
 |g1 b|g2 b=>exact absurd af b.2
 |@r1 l s y o t x W c b F Y hW G=>
  refine Jq (S:=λW=>S ⟨1,l,s,y,o,some W,t,x⟩) (K:=λr=>K (Nl ⟨1,l,s,y,o,none,t,x⟩ r)) (I:=λv g=>I v g/\BZ st v g k y s) C z hs q tb (λW Z=>?_) (λW c hc=>H _ _ hc) ⟨hI,F⟩ (λv' g' B ev=>?_) (λs' d L=>⟨V _ _ (EF q),F.Et (EF q)⟩) (λv' g' W' c' q1 q2 aa m hn _ ab M=>?_) (λg' W' q1 q2 u m L D M=>?_) hW
  ·rw[R];refine iy K ((by simp[Xf.next,Xf.Ak,b]:Xf.next ⟨1,l,s,y,o,some W,t,x⟩ Z=Xf.Ay ⟨1,l,s,y,o,some W,t,x⟩ Z).trans ?_);exact Rh (J:=⟨1,l,s,y,o,some W,t,x⟩) rfl Z
  ·have E:k≠k+1:=Zo;exact⟨V _ _ (ev.Et E z B q),F.A3 z B ev E q⟩
  ·refine go _ _ _ _ rfl (.r1 b m.2 Y aa ⟨q1.trans G.1,q2.trans G.2⟩) m.1 (by simp[E0,b];exact hn) ab ?_;simp[B9,b];omega
  ·have hN:(g'.LL 0).length=(g.LL 0).length:=by rw[D]
   cases N:W'.found with
   |true=>
    simp[Nl,N,X];refine go _ _ _ _ rfl (.r2 b m.2 Y u ⟨q1.trans G.1,N⟩) m.1 (by simp[E0,b,hN]) (db ⟨rfl,D⟩) ?_;rw[N] at M;by_cases B:v.cell W'.As.sl 2=W'.next
    ·simp[B] at M;simp[B9,b,B,hN];omega
    ·simp[B] at M;simp[B9,b,B,hN];omega
   |false=>
    simp[Nl,N];exact done _ _ _ 2 0 m.1 (by simp[E0,b,hN]) (db ⟨rfl,D⟩) (by simp[B9,b];omega)
 |@r2 l s y o t x W b F Y u G=>
  obtain⟨U,y2,y3,y4⟩:=u.yes G.2
  refine .ld (u.wr.AJ U z q Zd Zd) ?_
  rw[R]
  simp[Xf.next,Xf.insert,Xf.Ak,Xf.get,Xf.done,Xf.An,Xf.AE,Xf.Ay,Xf.A6,Xj.new,Xj.zero,Xj.step,Xj.again,AM,Yu,CG,kp,X,ks,kw,kd,kr,kc,b]
  refine go _ _ _ _ rfl (.r3 b F Y u G) hI (by simp[E0,b]) (db ⟨rfl,rfl⟩) ?_
  (simp[B9,E0,Zt,wt,Xu,Xm,Xq,Xp,Xg,Xk,Yi,X3,b]<;>exact Zq)
 |@r3 l s y o t x W b F Y u G=>
  obtain⟨U,y2,y3,y4⟩:=u.yes G.2
  refine .sw (u.wr.AJ U z q Zd Zd) (λO=>?_) λae=>?_
  ·rw[Y3 U] at O;have B:=y3.2.1.same O;have E:k≠k+1:=Zo;obtain⟨P,k2,k3⟩:=sX C z hs q tb U u.wr B y4 λe=>by rw[y2,G.1];exact Y e
   have e1:=k2 (k+1);have ew:=P.Et z q;refine⟨_,P,?_⟩;rw[R];simp[Xf.next,Xf.insert,Xf.Ak,Xf.get,Xf.done,Xf.An,Xf.AE,Xf.Ay,Xf.A6,Xj.new,Xj.zero,Xj.step,Xj.again,AM,Yu,CG,kp,X,ks,kw,kd,kr,kc,b];refine go _ _ _ _ rfl (.r4 b (F.Et ew) (by rw[←G.1];exact u.pv.Et ew) (Cu.A3 ⟨U,u.um,u.wr,u.sn⟩ u.pv.1 z P.eg e1 E q) (Dk U)) (V _ _ ew) (by simp[E0,b]) (fq P) ?_;(simp[B9,E0,Zt,wt,Xu,Xm,Xq,Xp,Xg,Xk,Yi,X3,b,B]<;>exact Zq)
  ·rw[Y3 U] at ae;rw[R];simp[Xf.next,Xf.insert,Xf.Ak,Xf.get,Xf.done,Xf.An,Xf.AE,Xf.Ay,Xf.A6,Xj.new,Xj.zero,Xj.step,Xj.again,AM,Yu,CG,kp,X,ks,kw,kd,kr,kc,b,Cq];refine go _ _ _ _ rfl (.r1 b F Y (.w1 F) ⟨rfl,rfl⟩) hI (by simp[E0,b]) (db ⟨rfl,rfl⟩) ?_;(simp[B9,E0,Zt,wt,Xu,Xm,Xq,Xp,Xg,Xk,Yi,X3,b,ae]<;>exact Zq)
 |@r4 l s y o t x W b F L hc M=>
  refine .sw (L.1.mP z q hl) (λO=>?_) λae=>?_
  ·have B:=hc.2.2.2.same O;obtain⟨g',P,k2,k3,k4,k5,k6,_⟩:=OY (k:=k) C z hs q tb L.1 hc.1 hc.2.1 B (by rw[M];rfl);rw[M] at P k2 k3 k4;have ew:=P.Et z q;refine⟨_,P,?_⟩;rw[R];simp[Xf.next,Xf.insert,Xf.Ak,Xf.get,Xf.done,Xf.An,Xf.AE,Xf.Ay,Xf.A6,Xj.new,Xj.zero,Xj.step,Xj.again,AM,Yu,CG,kp,X,ks,kw,kd,kr,kc,b];refine go _ _ _ _ rfl (.r5 b k3) (V _ _ ew) (by simp[E0,b];omega) (fq P) ?_;have k4:(Zp st).Cd (v.put W.prev (A4 W.As W.next)) g'+15=(Zp st).Cd v g:=k4;(simp[B9,E0,Zt,wt,Xu,Xm,Xq,Xp,Xg,Xk,Yi,X3,b]<;>exact Zq)
  ·rw[R];simp[Xf.next,Xf.insert,Xf.Ak,Xf.get,Xf.done,Xf.An,Xf.AE,Xf.Ay,Xf.A6,Xj.new,Xj.zero,Xj.step,Xj.again,AM,Yu,CG,kp,X,ks,kw,kd,kr,kc,b,Cq];refine go _ _ _ _ rfl (.r6 b (.w1 F)) hI (by simp[E0,b]) (db ⟨rfl,rfl⟩) ?_;(simp[B9,E0,Zt,wt,Xu,Xm,Xq,Xp,Xg,Xk,Yi,X3,b]<;>exact Zq)
 |@r5 l s y o t x W b L=>
  refine .rt (L.rf z) L.2.1 λd=>?_
  have ag:(Zp st).Cd v (g.noted W.As.sl k d)=(Zp st).Cd v g:=rfl
  rw[R]
  simp[Xf.next,Xf.insert,Xf.Ak,Xf.get,Xf.done,Xf.An,Xf.AE,Xf.Ay,Xf.A6,Xj.new,Xj.zero,Xj.step,Xj.again,AM,Yu,CG,kp,X,ks,kw,kd,kr,kc,b]
  refine done _ _ _ 1 _ (V _ _ (EF q)) (l5 ..) (db ⟨rfl,rfl⟩) ?_
  rw[ag]
  (simp[B9,E0,Zt,wt,Xu,Xm,Xq,Xp,Xg,Xk,Yi,X3,b]<;>exact Zq)
 |@r6 l s y o t x W c b hW=>
  refine Jq (S:=λW=>S ⟨6,l,s,y,o,some W,t,x⟩) (K:=λr=>K (SS ⟨6,l,s,y,o,none,t,x⟩ r)) (I:=I) C z hs q tb (λW Z=>?_) (λW c hc=>H _ _ hc) hI (λv' g' B ev=>?_) (λs' d L=>V _ _ (EF q)) (λv' g' W' c' q1 q2 aa m hn _ ab M=>?_) (λg' W' q1 q2 u m L D M=>?_) hW
  ·rw[R];refine iy K ((by simp[Xf.next,Xf.Ak,b]:Xf.next ⟨6,l,s,y,o,some W,t,x⟩ Z=Xf.A6 ⟨6,l,s,y,o,some W,t,x⟩ Z).trans ?_);exact Z3 (J:=⟨6,l,s,y,o,some W,t,x⟩) rfl Z
  ·have E:k≠k+1:=Zo;exact V _ _ (ev.Et E z B q)
  ·refine go _ _ _ _ rfl (.r6 b aa) m (by simp[E0,b];exact hn) ab ?_;simp[B9,b];omega
  ·have hN:(g'.LL 0).length=(g.LL 0).length:=by rw[D]
   simp[SS];exact done _ _ _ 1 _ m (by simp[E0,b,hN]) (db ⟨rfl,D⟩) (by simp[B9,b];omega)
def dO(t:Mm st)(E:AA st v g)(X:(Zp st).si v g)(D:g.A k≠none)(Y:Mu v)(N:∀(J:Xf) (x:Xr),(S J).next x=K (J.next x))(m:∀(J:Xf) (c:Xi),c.kind≠12->K (J,c)=(S J,c))(O:I v g)(P:∀v' g',vQ NC k v g v' g'->I v' g')
  (go:∀v' g' q F,q.op=J.op->EQ st v' g' k q F->I v' g'->(g'.LL 0).length+E0 q<=(g.LL 0).length+E0 J->mS st k v g v' g'->B9 v' g' q+wt c+(Zp st).Cd v' g'<=B9 v g J+(Zp st).Cd v g->Q v' g' (S q) F)
  (done:∀v' g' q i j,I v' g'->(g'.LL 0).length<=(g.LL 0).length+E0 J->mS st k v g v' g'->wt c+(Zp st).Cd v' g'<=B9 v g J+(Zp st).Cd v g->Q v' g' (K (q,X3 i j)).1 (K (q,X3 i j)).2)
  (Z:c.kind≠12)(C:J.op.kind≠6/\J.op.kind≠7)(h:EQ st v g k J c):Mv st (Zp st) k Q v g (S J) c:=by
 have hl:=Pe t
 have hL:=GH t
 have kp:=λW a i=>m W (Xg a i) (by show(6:Int)≠12;decide)
 have R:=λW a=>m W (Xm a) (by show(3:Int)≠12;decide)
 have ks:=λW a o=>m W (Xq a o) (by show(4:Int)≠12;decide)
 have kw:=λW a o n=>m W (Xp a o n) (by show(5:Int)≠12;decide)
 have kd:=λW a=>m W (Yi a) (by show(9:Int)≠12;decide)
 have kr:=λW a=>m W (Xk a) (by show(10:Int)≠12;decide)
 have kc:=λW=>m W Xu (by show(8:Int)≠12;decide)
 cases h with
 |d h=>exact absurd h Z
 |i1 b|i2 b|i3 b|i4 b|i5 b|i6 b|i7 b=>exact absurd b C.1
 |r1 b|r2 b|r3 b|r4 b|r5 b|r6 b=>exact absurd b C.2
 |@g1 l s y o B x W c b hW=>
  refine Jq (S:=λW=>S ⟨1,l,s,y,o,some W,B,x⟩) (K:=λr=>K (Nl ⟨1,l,s,y,o,none,B,x⟩ r)) (I:=I) t E X D Y (λW G=>?_) (λW c hc=>m _ _ hc) O (λv' g' he ev=>?_) (λs' d hp=>P _ _ (EF D)) (λv' g' T F q1 q2 H e hn _ L hm=>?_) (λg' T q1 q2 U e hp u hm=>?_) hW
  ·rw[N];refine iy K ((by simp[Xf.next,Xf.get,b.1,b.2]:Xf.next ⟨1,l,s,y,o,some W,B,x⟩ G=Xf.Ay ⟨1,l,s,y,o,some W,B,x⟩ G).trans ?_);exact Rh (J:=⟨1,l,s,y,o,some W,B,x⟩) rfl G
  ·have M:k≠k+1:=Zo;exact P _ _ (ev.Et M E he D)
  ·refine go _ _ _ _ rfl (.g1 b H) e (by simp[E0,b.1];exact hn) L ?_;simp[B9,b.1,b.2];omega
  ·have V:(g'.LL 0).length=(g.LL 0).length:=by rw[u]
   cases z:T.found with
   |true=>
    simp[Nl,z,R];refine go _ _ _ _ rfl (.g2 b (U.yes z).1 U.wr) e (by simp[E0,b.1,V]) (db ⟨rfl,u⟩) ?_;simp[B9,b.1,b.2];omega
   |false=>
    simp[Nl,z];exact done _ _ _ 2 0 e (by simp[E0,b.1,V]) (db ⟨rfl,u⟩) (by simp[B9,b.1,b.2];omega)
 |@g2 l s y o B x W b h0 hw=>
  refine .ld (hw.AJ h0 E D Zd Zd) ?_
  rw[N]
  simp[Xf.next,Xf.insert,Xf.Ak,Xf.get,Xf.done,Xf.An,Xf.AE,Xf.Ay,Xf.A6,Xj.new,Xj.zero,Xj.step,Xj.again,AM,Yu,CG,kp,R,ks,kw,kd,kr,kc,b.1,b.2]
  refine done _ _ _ 1 _ O (l5 ..) (db ⟨rfl,rfl⟩) ?_
  (simp[B9,E0,Zt,wt,Xu,Xm,Xq,Xp,Xg,Xk,Yi,X3,b.1,b.2]<;>exact Zq)
end
