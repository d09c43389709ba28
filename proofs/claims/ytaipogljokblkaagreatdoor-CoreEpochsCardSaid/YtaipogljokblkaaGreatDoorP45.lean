/- Core: FaR, FaS, FaT, FaU. -/
import Derived.Test.YtaipogljokblkaaGreatDoorP44
set_option linter.all false
set_option maxRecDepth 100000
set_option maxHeartbeats 8000000
namespace Go.Proofs.YtaipogljokblkaaGreatDoor
open Go Go.RowKit
def Bs(v:Vw)(g:EG)(k:Nat)(b:Int)(w:Xe):Prop:=w.sl≠0/\WR v g k 0 w/\(v.cell w.sl 0).nm=Yw b/\0<=b/\b<8
def Sv(o:AV)(z d:Int):Prop:=(0<=o.key/\o.key<=255)/\(o.kind=6\/o.kind=7\/o.kind=8)/\(z=1\/z=2\/z=4\/z=8)/\d=Int.tmod o.key z
def Mk(v:Vw)(g:EG)(k:Nat)(e d f:Int)(h:Xe):Prop:=Bs v g k d h/\EK e d/\d≠e/\f=Bv e d
inductive Gt(v:Vw)(g:EG)(k:Nat):Xc->Xi->Prop
 |d {J c} (h:c.kind=12):Gt v g k J c
 |b1 {l o z wn bk ch ba nd se W I an ct} (ho:(0<=o.key/\o.key<=255)/\(o.kind=6\/o.kind=7\/o.kind=8)):Gt v g k ⟨1,l,o,z,wn,bk,ch,ba,nd,se,W,I,an,ct⟩ (Xm (root 16))
 |b2 {l o z wn bk ch ba nd se W I an ct} (ho:Sv o z wn) (hb:EK wn bk):Gt v g k ⟨2,l,o,z,wn,bk,ch,ba,nd,se,W,I,an,ct⟩ (Xm (Fq bk))
 |b3 {l o z wn bk ch ba nd se W I an ct} (ho:Sv o z wn) (hm:Mk v g k wn bk ch ba):Gt v g k ⟨3,l,o,z,wn,bk,ch,ba,nd,se,W,I,an,ct⟩ Xu
 |b4 {l o z wn bk ch ba nd se W I an ct} (ho:Sv o z wn) (hm:Mk v g k wn bk ch ba) (hw:Ew v g k nd):Gt v g k ⟨4,l,o,z,wn,bk,ch,ba,nd,se,W,I,an,ct⟩ (Xq (Xh nd 0) (Y6 (Yw ch)))
 |b5 {l o z wn bk ch ba nd se W I an ct c} (ho:Sv o z wn) (hm:Mk v g k wn bk ch ba) (hw:Ew v g k nd) (hk:(v.cell nd.sl 0).nm=Yw ch) (hW:I7 4 v g k W c) (hy:W.key=Yw ch):Gt v g k ⟨5,l,o,z,wn,bk,ch,ba,nd,se,some W,I,an,ct⟩ c
 |b6 {l o z wn bk ch ba nd se W I an ct} (ho:Sv o z wn) (hm:Mk v g k wn bk ch ba) (hw:Ew v g k nd) (hs:Bs v g k ch se):Gt v g k ⟨6,l,o,z,wn,bk,ch,ba,nd,se,W,I,an,ct⟩ (Yi nd)
 |b7 {l o z wn bk ch ba nd se W I an ct} (ho:Sv o z wn) (hm:Mk v g k wn bk ch ba) (hw:Ew v g k nd) (hk:(v.cell nd.sl 0).nm=Yw ch) (hf:ND 4 v g k W) (hy:W.key=Yw ch/\W.found=false):Gt v g k ⟨7,l,o,z,wn,bk,ch,ba,nd,se,some W,I,an,ct⟩ (Xq (Xh nd 2) (Yx W.As))
 |b8 {l o z wn bk ch ba nd se W I an ct} (ho:Sv o z wn) (hm:Mk v g k wn bk ch ba) (hw:Ew v g k nd) (hk:(v.cell nd.sl 0).nm=Yw ch) (hf:ND 4 v g k W) (hy:W.key=Yw ch/\W.found=false) (hc:v.cell nd.sl 2=Yx W.As):Gt v g k ⟨8,l,o,z,wn,bk,ch,ba,nd,se,some W,I,an,ct⟩ (Xp W.prev W.As (A4 W.As nd))
 |b9 {l o z wn bk ch ba nd se W I an ct} (ho:Sv o z wn) (hm:Mk v g k wn bk ch ba) (hs:Bs v g k ch se):Gt v g k ⟨9,l,o,z,wn,bk,ch,ba,nd,se,W,I,an,ct⟩ (Xm (Fq ch))
 |b10 {l o z wn bk ch ba nd se W I an ct x} (ho:Sv o z wn) (hm:Mk v g k wn bk ch ba) (hs:Bs v g k ch se) (hx:x.sl=0) (hn:v.root (8+ch)=x\/(v.root (8+ch)).sl≠0) (hc:1<=ch/\ch<8):Gt v g k ⟨10,l,o,z,wn,bk,ch,ba,nd,se,W,I,an,ct⟩ (Xp (Fq ch) x (A4 x se))
 |yo {l o z wn bk ch ba nd se W I an ct c} (hI:EQ 4 v g k I c) (ho:I.op=o):Gt v g k ⟨11,l,o,z,wn,bk,ch,ba,nd,se,W,some I,an,ct⟩ c
 |Y' {l o z wn bk ch ba nd se W I an ct}:Gt v g k ⟨12,l,o,z,wn,bk,ch,ba,nd,se,W,I,an,ct⟩ (Xm (root 17))
 |b13 {l o z wn bk ch ba nd se W I an ct} {y:Int} (hn:IC (v.root 17) ct):Gt v g k ⟨13,l,o,z,wn,bk,ch,ba,nd,se,W,I,an,ct⟩ (Xp (root 17) ct (Y5 ct y))
 |b14 {l o z wn bk ch ba nd se W I an ct}:Gt v g k ⟨14,l,o,z,wn,bk,ch,ba,nd,se,W,I,an,ct⟩ (Xm (root 16))
 |b15 {l o z wn bk ch ba nd se W I an ct x} {y:Int} (hn:IC (v.root 16) x):Gt v g k ⟨15,l,o,z,wn,bk,ch,ba,nd,se,W,I,an,ct⟩ (Xp (root 16) x (Y5 x y))
def Eb(v:Vw)(b:Int):Nat:=if(v.root (8+b)).sl=0 then 0 else 229
def Dv(v:Vw)(d e:Int):Nat:=if e=d then 0 else 1+Eb v d+(if e=Bb d then 0 else 1+Eb v (Bb d)+(if e=Bb (Bb d) then 0 else 1+Eb v (Bb (Bb d))))
def BS(v:Vw)(g:EG)(J:Xc):Nat:=
 let D:=456+Dv v J.wanted J.child
 let e:=if(v.root (8+J.child)).sl=0 then 229 else 0
 if J.pc=1 then 474 else if J.pc=2 then 458+2*J.Ao.toNat+Dv v J.wanted J.Ao
 else if J.pc=3 then 230+D-e else if J.pc=4 then 229+D-e
 else if J.pc=5 then(match J.walk with|some W=>Zt v g W+8+D-e|none=>0)
 else if J.pc=6 then 4+D-e
 else if J.pc=7 then(match J.walk with|some W=>(if v.get W.prev=W.As then 5 else 3*(g.LL 0).length+11)+D-e|none=>0)
 else if J.pc=8 then(match J.walk with|some W=>(if v.get W.prev=W.As then 4 else 3*(g.LL 0).length+10)+D-e|none=>0)
 else if J.pc=9 then 3+D-e
 else if J.pc=10 then 2+D-e
 else if J.pc=11 then(match J.inner with|some I=>B9 v g I+4|none=>0)
 else if J.pc=12 then 4 else if J.pc=13 then(if v.root 17=J.count then 3 else 5) else if J.pc=14 then 2 else if J.pc=15 then 1 else 0
def ER(J:Xc):Nat:=if J.pc=11 then(match J.inner with|some I=>E0 I|none=>0) else if J.op.kind=6/\0<=J.pc/\J.pc<=10 then 1 else 0
def dH(o:AV):Nat:=if o.kind=6 then 1 else 0
section
variable{v v':Vw}{g g':EG}{a k:Nat}{b:Int}{J:Xc}{c:Xi}{w:Xe}
def Bs.Et(h:Bs v g k b w)(e:vQ NC k v g v' g'):Bs v' g' k b w:=by
 refine⟨h.1,h.2.1.Et e,?_,h.2.2.2⟩;rw[((e.2 0 _ (h.2.1 h.1).1).2.2 0).resolve_right λq=>absurd q.1 Zd];exact h.2.2.1
def Mk.Et{d f i:Int}(h:Mk v g k d f i w)(e:vQ NC k v g v' g'):Mk v' g' k d f i w:=⟨h.1.Et e,h.2⟩
def Gt.A3(h:Gt v g k J c)(o:AA 4 v g)(p:AA 4 v' g')(e:Ev a NC v g v' g')(E:(Zp 4).x a v g v' g')(n:k≠a)(r:g.A k≠none):Gt v' g' k J c:=by
 have l:=e.Et n o p r;have s:∀{w},Ew v g k w->Ew v' g' k w:=λh=>(h.A3 e n).1;have B:∀{w},Ew v g k w->v'.cell w.sl=v.cell w.sl:=λh=>(h.A3 e n).2;cases h with
 |d h=>exact .d h
 |b1 f=>exact .b1 f
 |b2 f F=>exact .b2 f F
 |b3 f i=>exact .b3 f (i.Et l)
 |b4 f i j=>exact .b4 f (i.Et l) (s j)
 |b5 f i j m G t=>exact .b5 f (i.Et l) (s j) (by rw[B j];exact m) (G.A3 o p e n r) t
 |b6 f i j u=>exact .b6 f (i.Et l) (s j) (u.Et l)
 |b7 f i j m C t=>exact .b7 f (i.Et l) (s j) (by rw[B j];exact m) (C.A3 o p e n r) t
 |b8 f i j m C t y=>exact .b8 f (i.Et l) (s j) (by rw[B j];exact m) (C.A3 o p e n r) t (by rw[B j];exact y)
 |b9 f i u=>exact .b9 f (i.Et l) (u.Et l)
 |b10 f i u D z y=>
  refine .b10 f (i.Et l) (u.Et l) D ?_ y;rcases E rfl _ y.1 y.2 with q|q
  ·rw[q];exact z
  ·exact db q
 |yo H f=>exact .yo (H.A3 o p e n r) f
 |Y'=>exact .Y'
 |b13 z=>exact .b13 (z.up (e.rt _))
 |b14=>exact .b14
 |b15 z=>exact .b15 (z.up (e.rt _))
def zt:((List.range 8).all fun w=>(List.range 8).all fun b=>decide (¬ ((b:Int) = w∨(b:Int) = Bb w∨(b:Int) = Bb (Bb w)∨(b:Int) = Bb (Bb (Bb w)))∨(b:Int) = w ∨
  (1<=Bv w b/\Bv w b<8/\Yw b<Yw (Bv w b)/\(Bv w b=w\/Bv w b=Bb w\/Bv w b=Bb (Bb w)\/Bv w b=Bb (Bb (Bb w))))))=true:=Zk
def Oe{w b:Int}(d:0<=w)(e:w<8)(h:EK w b):0<=b/\b<8:=by
 have p1:=Kn d e;have p2:=Kn p1.1 p1.2;have f:=Kn p2.1 p2.2;rcases h with rfl|rfl|rfl|rfl
 ·exact⟨d,e⟩
 ·exact p1
 ·exact p2
 ·exact f
def uu{w b:Int}(f:0<=w)(i:w<8)(h:EK w b)(d:b≠w):1<=Bv w b/\Bv w b<8/\Yw b<Yw (Bv w b)/\EK w (Bv w b):=by
 obtain⟨j,l⟩:=Oe f i h;have e:=g9.1 zt w.toNat (jt.2 Zo);have e:=g9.1 e b.toNat (jt.2 Zo);rw[jm f,jm j] at e;rcases iz e with e|e|e
 ·exact absurd h e
 ·exact absurd e d
 ·exact e
def uf{w b:Int}(h:EK w b)(e:b≠w):Dv v w b=1+Eb v (Bv w b)+Dv v w (Bv w b):=by
 unfold Dv Bv;rw[fw e];by_cases f:b=Bb w
 ·rw[ga f,show(Bb w==b)=true by simp[f]];simp
 ·rw[fw f,show(Bb w==b)=false by simp[Ne.symm f]];have l:Bb w≠w:=λq=>by
   rcases h with d|d|d|d
   ·exact e d
   ·exact f d
   ·rw[q,q] at d;exact e d
   ·rw[q,q,q] at d;exact e d
  by_cases i:b=Bb (Bb w)
  ·rw[ga i,show(Bb (Bb w)==b)=true by simp[i]];simp[l];omega
  ·rw[fw i,show(Bb (Bb w)==b)=false by simp[Ne.symm i]];have j:b=Bb (Bb (Bb w)):=by
    rcases h with d|d|d|d
    ·exact absurd d e
    ·exact absurd d f
    ·exact absurd d i
    ·exact d
   have m:Bb (Bb w)≠Bb w:=λq=>by rw[q,q] at j;exact f j
   have n:Bb (Bb w)≠w:=λq=>by rw[q] at j;exact f j
   simp[m,n];omega
end
section
variable{v v':Vw}{g g':EG}{a k:Nat}{b:Int}{J:Xc}{c:Xi}{w x:Xe}{o:AV}{z wn bk ch:Int}
def ut:((List.range 8).all λw=>(List.range 8).all λb=>decide (¬((b:Int)=w\/(b:Int)=Bb w\/(b:Int)=Bb (Bb w)\/(b:Int)=Bb (Bb (Bb w)))\/(Yw b<=Yw w/\0<=Yw b)))=true:=Zk
def Ug(d:0<=wn)(f:wn<8)(h:EK wn b):Yw b<=Yw wn/\0<=Yw b:=by
 obtain⟨i,j⟩:=Oe d f h;have e:=g9.1 ut wn.toNat (jt.2 Zo);have e:=g9.1 e b.toNat (jt.2 Zo);rw[jm d,jm i] at e;rcases iz e with e|e
 ·exact absurd h e
 ·exact e
def Sv.w8(h:Sv o z wn):0<=wn/\wn<8:=by
 obtain⟨⟨d,f⟩,_,i,rfl⟩:=h;have e:0<z:=Zo;exact⟨pj _ d,Int.lt_of_lt_of_le (oi _ e) Zo⟩
def Sv.ord(h:Sv o z wn)(f:EK wn b):Yw b<MG o.key/\MG o.key%2=1/\0<=MG o.key:=by
 have d:=h.w8;obtain⟨⟨i,m⟩,_,j,e⟩:=h;have l:=zC i (show o.key<256 by omega) j;rw[←e] at l;have n:=Ug d.1 d.2 f;refine⟨Zo,?_,Zo⟩;unfold MG;rw[show(decide (o.key<0)||decide (255<o.key))=false by simp;omega];show(2*OD o.key+1)%2=1;omega
def Bs.start{y:Int}(h:Bs v g k b w)(d:Yw b<y)(e:0<=y):BZ 4 v g k y (Xh w 2):=
 ⟨⟨O3 h.1 h.2.1,λ_=>by show(v.cell w.sl 0).nm<y;rw[h.2.2.1];exact d⟩,λ_=>⟨rfl,by show(v.cell w.sl 0).nm%2=0;rw[h.2.2.1];exact Hc h.2.2.2.1 h.2.2.2.2⟩,e⟩
def QT(u:(g.LL 0).length<=72)(f:Sv o z wn)(i:Bs v g k bk w)(j:EK wn bk)(m:J.op=o)(n:J.base=w):Gt v g k J.perform.1 J.perform.2/\BS v g J.perform.1<=456/\ER J.perform.1<=dH o:=by
 obtain⟨p1,p2,p⟩:=f.ord j;have d:=i.start p1 p;obtain⟨pc,l,h,y,q,r,ch,s,A,B,W,I,C,ct⟩:=J;obtain rfl:h=o:=m;obtain rfl:s=w:=n;obtain⟨t,D,E,F⟩:=h;rcases f.2.1 with e|e|e<;>(have e:t=_:=e;subst e)
 ·simp[Xc.perform,Xc.GZ,Xc.Fu,Xf.from_,Xf.next,Xf.insert,Xu,Xf.zero];exact⟨.yo (.i1 rfl d) rfl,by simp[BS,B9];omega,by simp[ER,E0,dH]⟩
 ·simp[Xc.perform,Xc.GZ,Xc.Fu,Xf.from_,Xf.next,Xf.Ak,Xf.An,Xf.Ay,Cq,Xj.new,Xj.zero,Xj.step,Xj.again,Xg,Xf.zero];exact⟨.yo (.r1 rfl d (λ_=>p2) (.w1 d) ⟨rfl,rfl⟩) rfl,by simp[BS,B9,Zt];omega,by simp[ER,E0,dH]⟩
 ·simp[Xc.perform,Xc.GZ,Xc.Fu,Xf.from_,Xf.next,Xf.get,Xf.An,Xf.Ay,Cq,Xj.new,Xj.zero,Xj.step,Xj.again,Xg,Xf.zero];exact⟨.yo (.g1 ⟨by simp,by simp⟩ (.w1 d)) rfl,by simp[BS,B9,Zt];omega,by simp[ER,E0,dH]⟩
def Kd(s:(g.LL 0).length<=72)(i:Sv o z wn)(j:Bs v g k bk w)(h:EK wn bk)(m:J.op=o)(n:J.base=w)(t:J.size=z)(p:J.wanted=wn)(q:J.Ao=bk):Gt v g k J.CD.1 J.CD.2/\BS v g J.CD.1<=456+Dv v wn bk/\ER J.CD.1<=dH o:=by
 by_cases e:bk=wn
 ·have r:=QT s i j h m n;have u:J.CD=J.perform:=by unfold Xc.CD;rw[p,q,e];simp
  rw[u];exact⟨r.1,Zo,r.2.2⟩
 ·obtain⟨pc,l,y,A,d,f,ch,B,D,E,W,I,F,ct⟩:=J;obtain rfl:y=o:=m;obtain rfl:B=w:=n;obtain rfl:A=z:=t;obtain rfl:d=wn:=p;obtain rfl:f=bk:=q;have C:=uf (v:=v) h e;unfold Xc.CD;simp only[show(f==d)=false by simp[e],gx];refine⟨.b3 i ⟨j,h,e,rfl⟩,?_,by simp[ER,dH]⟩;simp only[BS,C,Eb];simp;split<;>omega
def TG(d:0<=b)(e:b<8):Fq b=root (8+b):=by
 unfold Fq;rw[FK (n:=8+b) Zo Zo,FK Zo Zo];congr 1;omega
end
def uK{d:Type}{p q:d->Bool}{l:List d}(h:∀x∈l,p x=true->q x=true):(l.filter p).length<=(l.filter q).length:=by
 induction l with
 |nil=>exact Nat.le_refl _
 |cons a r e=>
  have i:=e λx f=>h x (gq _ f);have ha:=h a (g6 ..);rw[mm,mm];cases j:p a with
  |true=>rw[ha j];simpa using i
  |false=>
   cases q a with
   |true=>simp;omega
   |false=>simpa using i
def uJ{e:Type}{p q:e->Bool}{l:List e}(h:∀x∈l,p x=true->q x=true){c:e}(d:c∈l)(m:p c=false)(n:q c=true):(l.filter p).length+1<=(l.filter q).length:=by
 induction l with
 |nil=>cases d
 |cons a r o=>
  have j:∀x∈r,p x=true->q x=true:=λx s=>h x (gq _ s);have ha:=h a (g6 ..);rw[mm,mm];rcases gf.1 d with rfl|d
  ·rw[m,n];have:=uK j;simpa using this
  ·have i:=o j d;cases f:p a with
   |true=>rw[ha f];simpa using i
   |false=>
    cases q a with
    |true=>simp;omega
    |false=>simpa using i
def Qp(v:Vw)(L:List Int):Nat:=(([0,1,2,3,4,5,6,7]:List Int).filter λb=>L.all λs=>!((v.cell s 0).nm==Yw b)).length
section
variable{v v':Vw}{g g':EG}{a k:Nat}{b r:Int}{c:Xi}{w x:Xe}{L M:List Int}
def xe(h:∀s∈L,(v.cell s 0).nm%2=0->s∈M/\v'.cell s 0=v.cell s 0):Qp v' M<=Qp v L:=by
 refine uK λb d f=>?_;have d:0<=b/\b<8:=by simp at d;omega
 rw[g9] at f ⊢;intro s i;by_cases e:(v.cell s 0).nm=Yw b
 ·obtain⟨j,l⟩:=h s i (by rw[e];exact Hc d.1 d.2);have:=f s j;rw[l,e] at this;simp at this
 ·simpa using e
def xd(h:∀s∈L,(v.cell s 0).nm%2=0->s∈M/\v'.cell s 0=v.cell s 0)(d:0<=b/\b<8)(j:∀s∈L,(v.cell s 0).nm≠Yw b){t:Int}(l:t∈M)(m:(v'.cell t 0).nm=Yw b):Qp v' M+1<=Qp v L:=by
 refine uJ (c:=b) (λb d i=>?_) (by simp;omega) ?_ ?_
 ·have d:0<=b/\b<8:=by simp at d;omega
  rw[g9] at i ⊢;intro s f;by_cases e:(v.cell s 0).nm=Yw b
  ·obtain⟨n,o⟩:=h s f (by rw[e];exact Hc d.1 d.2);have:=i s n;rw[o,e] at this;simp at this
  ·simpa using e
 ·rw[←s7,g9];intro q;have:=q t l;rw[m] at this;simp at this
 ·rw[g9];intro s f;simpa using j s f
def in4:Zn 4 0:=⟨hJ 0,Zd⟩
def RG(e:AA 4 v g)(f:g.A k≠none)(h:Good 4 (Zp 4) k v g v' g'):∀s∈g.LL 0,(v.cell s 0).nm%2=0->s∈g'.LL 0/\v'.cell s 0=v.cell s 0:=λs l m=>by
 have i:=h.Et e f;obtain⟨n,t,o⟩:=i.2 0 s (e.sl k f 0 in4 s l);have j:=(o 0).resolve_right λq=>absurd q.1 Zd;have d:=(h.eg.Lc i.1 n).1;have p:=(h.si.2.2 rfl).ev s d (by rw[j];exact m);exact⟨(h.si.1.un 0 s d).resolve_left (by rw[show(2:Int)+0=2 from rfl,p];simp),j⟩
def M8{l:Int}(h:Zn 4 l):Lu 4 l=8:=rfl
def Ur(j:AA 4 v g)(m:(Zp 4).si v g)(y:r=16\/r=17)(n:x.tg=(v.root r).tg+1):Good 4 (Zp 4) k v g (v.put (root r) x) g/\(Zp 4).Cd (v.put (root r) x) g=(Zp 4).Cd v g:=by
 obtain⟨i,o,p⟩:=m;have d:∀q,q<16->(v.put (root r) x).root q=v.root q:=λq z=>(Du q).trans (fw Zo);have f:=p rfl;refine⟨⟨j.v9 λl s=>by rw[M8 s];omega,⟨⟨i.so,i.un⟩,by rw[d _ Zd];exact o,λ_=>⟨λb t u e=>?_,by rw[d 8 Zd];exact f.b0,f.ev⟩⟩,T4 n,λ_ b _ _=>fq (d _ Zo),rfl,λ_ _ h=>h⟩,?_⟩
 ·rw[d _ Zo] at e ⊢;exact f.bk b t u e
 ·show 15*Ea v (g.LL 0)+229*Eh _=15*Ea v (g.LL 0)+229*Eh v;have:Eh (v.put (root r) x)=Eh v:=by
   unfold Eh;congr 1;refine nh λb e=>?_;have e:1<=b/\b<8:=by simp at e;omega
   rw[d _ Zo]
  rw[this]
def XL(s:AA 4 v g)(t:(Zp 4).si v g)(u:g.A k≠none)(H:1<=b/\b<8)(d:Bs v g k b w)(y:(v.root (8+b)).sl=0)(z:x.tg=(v.root (8+b)).tg+1)(j:x.sl=w.sl/\x.gn=w.gn):Good 4 (Zp 4) k v g (v.put (root (8+b)) x) g/\(Zp 4).Cd (v.put (root (8+b)) x) g+229<=(Zp 4).Cd v g:=by
 obtain⟨o,B,C⟩:=t;have i:∀q,(v.put (root (8+b)) x).root q=if q=8+b then x else v.root q:=Du;have n:=C rfl;have m:=(s.Lc u (d.2.1 d.1).1).1;have D:=n.ev _ m (by rw[d.2.2.1];exact Hc d.2.2.2.1 d.2.2.2.2);have p:=(o.un 0 _ m).resolve_left (by rw[show(2:Int)+0=2 from rfl,D];simp);refine⟨⟨s.v9 λl E=>by rw[M8 E];omega,⟨⟨o.so,o.un⟩,by rw[i,fw (by show(8:Int)≠8+b;omega)];exact B,λ_=>⟨λc F G f=>?_,by rw[i,fw Zo];exact n.b0,n.ev⟩⟩,T4 z,λ_ c _ _=>?_,rfl,λ_ _ h=>h⟩,?_⟩
 ·rw[i] at f ⊢;by_cases e:8+c=8+b
  ·rw[ga e,j.1,j.2];obtain rfl:c=b:=Zo;exact⟨p,(d.2.1 d.1).2,d.2.2.1⟩
  ·rw[fw e] at f ⊢;exact n.bk c F G f
 ·rw[i];by_cases e:8+c=8+b
  ·rw[ga e];right;rw[j.1];exact d.1
  ·rw[fw e];exact fq rfl
 ·show 15*Ea v (g.LL 0)+229*Eh _+229<=15*Ea v (g.LL 0)+229*Eh v;have:Eh (v.put (root (8+b)) x)+1<=Eh v:=by
   refine uJ (c:=b) (λc _ f=>?_) (by simp;omega) ?_ ?_
   ·rw[i] at f;by_cases e:8+c=8+b
    ·rw[ga e,j.1] at f;exact absurd (by simpa using f) d.1
    ·rw[fw e] at f;exact f
   ·rw[i,ga rfl,j.1];simpa using d.1
   ·simpa using y
  omega
end
def bS(v:Vw)(g:EG)(k:Nat)(J:Xc)(c:Xi)(v':Vw)(g':EG)(e:Xz)(f:Xi):Prop:=
 ∃d,e=.Lm d/\Gt v' g' k d f/\(g'.LL 0).length+Qp v' (g'.LL 0)+ER d<=(g.LL 0).length+Qp v (g.LL 0)+ER J/\BS v' g' d+wt c+(Zp 4).Cd v' g'<=BS v g J+(Zp 4).Cd v g
def Qu(J:Xc)(r:Xf × Xi):Xz × Xi:=(.Lm (Xc.Fu {J with inner:=some r.1} r.2).1,(Xc.Fu {J with inner:=some r.1} r.2).2)
def QW(J:Xc)(r:Xj × Xi × Bool):Xc × Xi:=
 if r.2.2 then({J with walk:=some r.1},r.2.1) else if r.1.found then({J with walk:=some r.1,sentinel:=Yx r.1.As,pc:=6},Yi J.node) else({J with walk:=some r.1,pc:=7},Xq (Xh J.node 2) (Yx r.1.As))
def wG{J:Xc}{W:Xj}(h:J.walk=some W)(x:Xr):J.D8 x=QW J (W.step x):=by
 unfold Xc.D8 QW;rw[h];show(bif (W.step x).2.2 then _ else bif (W.step x).1.found then _ else _)=_;cases(W.step x).2.2<;>cases(W.step x).1.found<;>rfl
section
variable{v v':Vw}{g g':EG}{a k:Nat}{b:Int}{J:Xc}{c:Xi}{w x:Xe}{wn bk ch:Int}
def Mk.zj{o:AV}{z:Int}(d:Sv o z wn)(i:Mk v g k wn bk ch w):1<=ch/\ch<8/\Yw bk<Yw ch/\EK wn ch/\0<=Yw ch/\BZ 4 v g k (Yw ch) (Xh w 2):=by
 obtain⟨j,l,m,rfl⟩:=i;obtain⟨n,p,e,f⟩:=uu d.w8.1 d.w8.2 l m;have h:=(Ug d.w8.1 d.w8.2 f).2;exact⟨n,p,e,f,h,j.start e h⟩
def zr:((List.range 8).all fun w=>(List.range 8).all fun b=>decide (¬ ((b:Int) = w∨(b:Int) = Bb w∨(b:Int) = Bb (Bb w)∨(b:Int) = Bb (Bb (Bb w)))∨(b:Int) = 0 ∨
  ((Bb b=w\/Bb b=Bb w\/Bb b=Bb (Bb w)\/Bb b=Bb (Bb (Bb w)))/\Bb b≠w/\Bv w (Bb b)=b)))=true:=Zk
def ur(d:0<=wn)(f:wn<8)(h:EK wn b)(i:b≠0):EK wn (Bb b)/\Bb b≠wn/\Bv wn (Bb b)=b:=by
 obtain⟨j,l⟩:=Oe d f h;have e:=g9.1 zr wn.toNat (jt.2 Zo);have e:=g9.1 e b.toNat (jt.2 Zo);rw[jm d,jm j] at e;rcases iz e with e|e|e
 ·exact absurd h e
 ·exact absurd e i
 ·exact e
def Oa(h:v'.root=v.root)(w b:Int):Dv v' w b=Dv v w b:=by unfold Dv Eb;rw[h]
def yz(h:∀b,b≠ch->Eb v' b=Eb v b):Dv v' wn ch=Dv v wn ch:=by
 unfold Dv;by_cases d:ch=wn
 ·rw[ga d,ga d]
 ·rw[fw d,fw d,h wn (Ne.symm d)];by_cases e:ch=Bb wn
  ·rw[ga e,ga e]
  ·rw[fw e,fw e,h _ (Ne.symm e)];by_cases f:ch=Bb (Bb wn)
   ·rw[ga f,ga f]
   ·rw[fw f,fw f,h _ (Ne.symm f)]
def xn{p:Yc}{y:Int}(l:AA 4 v g)(m:Mq 4 v g)(t:g.A k≠none)(f:Hk 4 v g k y p)(n:(v.get p).mark=false)(o:(v.get p).sl≠0->y<(v.cell (v.get p).sl 0).nm):∀s∈g.LL 0,(v.cell s 0).nm≠y:=by
 obtain⟨z,post,i,B,C⟩:=m.at_ l t in4 f.1 n;have d:=l.at_ in4 i;rw[B] at d;have e:=m.so 0 in4;rw[i] at e;obtain⟨p1,p2,F⟩:=kj.1 e;intro s hs;rw[i] at hs;rcases gy.1 hs with hs|hs
 ·rcases C with⟨_,q⟩|⟨q,r,D⟩
  ·rw[q] at hs;cases hs
  ·have G:=f.2 q;rw[D] at hs p1;rcases gy.1 hs with hs|hs
   ·have:=(kj.1 p1).2.2 s hs p.sl Zs;have E:(v.cell p.sl (2+0)).mark=false:=by
     rcases f.1 with j|⟨_,j,_⟩
     ·rw[j] at q;exact absurd rfl q
     ·rw[←E3 j q];exact n
    rcases this with h|⟨_,h⟩
    ·omega
    ·rw[E] at h;cases h
   ·rw[ft.1 hs];omega
 ·cases post with
  |nil=>cases hs
  |cons u r=>
   obtain rfl:(v.get p).sl=u:=d.1;have o:=o d.2.1.1;rcases gf.1 hs with rfl|hs
   ·omega
   ·rcases(mw.1 p2).1 s hs with h|⟨h,_⟩<;>omega
def wR(D:AA 4 v g)(R:(Zp 4).si v g)(N:g.A k≠none)(tb:Mu v)(hN:(g.LL 0).length<=72)(h:Gt v g k J c):Mv 4 (Zp 4) k (bS v g k J c) v g (.Lm J) c:=by
 have T:Mm 4:=db rfl;have hl:=Pe T;have hL:=GH T;have hr:∀r,0<=r->r<24->v.Ad (root r):=λr L h1=>Me L h1;have nb:∀{v' g'},Good 4 (Zp 4) k v g v' g'->Qp v' (g'.LL 0)<=Qp v (g.LL 0):=λh=>xe (RG D N h);have ng:∀{v' g'},mS 4 k v g v' g'->Qp v' (g'.LL 0)<=Qp v (g.LL 0):=λ{v' g'} q=>by
  rcases q with q|⟨q1,q2⟩
  ·exact nb q
  ·rw[q1,q2];exact Nat.le_refl _
 cases h with
 |d h=>exact .done h
 |@b1 l o z wn bk ch u m n W I p ct B=>
  refine .ld (hr 16 Zd Zd) ?_;have hz:F0 (v.root 16).nm=1\/F0 (v.root 16).nm=2\/F0 (v.root 16).nm=4\/F0 (v.root 16).nm=8:=by
   unfold F0;cases(v.root 16).nm==2<;>cases(v.root 16).nm==4<;>cases(v.root 16).nm==8<;>simp
  have ai:Sv o (F0 (v.root 16).nm) (Int.tmod o.key (F0 (v.root 16).nm)):=⟨B.1,B.2,hz,rfl⟩;have C:=ai.w8;simp[Xz.next,Xc.next,Xc.Am,Xc.BC,Xc.sized,Xc.AG,Xc.AX,Xc.Ck,Xc.AD,Xc.done,Xc.DJ,Bg];refine⟨_,rfl,.b2 ai (fq rfl),?_,?_⟩
  ·simp[ER]
  ·have:Dv v (Int.tmod o.key (F0 (v.root 16).nm)) (Int.tmod o.key (F0 (v.root 16).nm))=0:=by unfold Dv;rw[ga rfl]
   simp[BS,this,wt,Xm];omega
 |@b2 l o z wn bk ch u m n W I p ct B hb=>
  have C:=B.w8;have U:=Oe C.1 C.2 hb;rw[TG U.1 U.2];refine .ld (hr _ Zo Zo) ?_;by_cases L:(v.root (8+bk)).sl=0
  ·have aj:bk≠0:=λe=>(R.2.2 rfl).b0 (by rw[e] at L;exact L);have hp:=uP bk Zo U.2;have aq:(bk==0)=false:=by simp[aj]
   have h1:((v.root (8+bk)).sl==0)=true:=by simp[L]
   simp[Xz.next,Xc.next,Xc.Am,Xc.BC,Xc.sized,Xc.AG,Xc.AX,Xc.Ck,Xc.AD,Xc.done,Xc.DJ,Bg,h1,aq];obtain⟨u1,u2,u3⟩:=ur C.1 C.2 hb aj;have hD:=uf (v:=v) u1 u2;rw[u3] at hD;have O:Eb v bk=0:=by unfold Eb;rw[ga L]
   refine⟨_,rfl,.b2 B u1,by simp[ER],?_⟩;simp[BS,wt,Xm];omega
  ·obtain⟨q1,q2,q3⟩:=(R.2.2 rfl).bk bk U.1 U.2 L;have hB:Bs v g k bk (v.root (8+bk)):=⟨L,λ_=>⟨D.sl k N 0 hl _ q1,q2⟩,q3,U.1,U.2⟩;have h1:((v.root (8+bk)).sl==0)=false:=by simp[L]
   simp[Xz.next,Xc.next,Xc.Am,Xc.BC,Xc.sized,Xc.AG,Xc.AX,Xc.Ck,Xc.AD,Xc.done,Xc.DJ,Bg,h1];obtain⟨r1,r2,r3⟩:=Kd (J:=⟨2,l,o,z,wn,bk,ch,v.root (8+bk),m,n,W,I,p,ct⟩) hN B hB hb rfl rfl rfl rfl rfl;refine⟨_,rfl,r1,?_,?_⟩
   ·have:ER ⟨2,l,o,z,wn,bk,ch,u,m,n,W,I,p,ct⟩=dH o:=by simp[ER,dH]
    omega
   ·have:BS v g ⟨2,l,o,z,wn,bk,ch,u,m,n,W,I,p,ct⟩=458+2*bk.toNat+Dv v wn bk:=by simp[BS]
    simp only[wt,Xm];simp;omega
 |@b3 l o z wn bk ch u m n W I p ct B G=>
  refine .al (λt d t0 hn=>?_) ?_
  ·have E:=Good.take (k:=k) hL D R hn d;have V:=E.1.Et D N;refine⟨_,E.1,?_⟩;have n1:=nb E.1;have Z:Dv (v.take t d)=Dv v:=rfl;simp[Xz.next,Xc.next,Xc.Am,Xc.BC,Xc.sized,Xc.AG,Xc.AX,Xc.Ck,Xc.AD,Xc.done,Xc.DJ,];refine⟨_,rfl,.b4 B (G.Et V) (J4 t0),?_,?_⟩
   ·have ad:(g.GR t (.Dl k)).LL=g.LL:=rfl;rw[ad] at n1 ⊢;simp[ER];omega
   ·rw[E.2];have X:(v.take t d).root=v.root:=rfl;(simp[BS,ER,wt,Xu,Xm,Xq,Xp,Xg,Xk,Yi,X3,Z,X]<;>exact Zq)
  ·simp[Xz.next,Xc.next,Xc.Am,Xc.BC,Xc.sized,Xc.AG,Xc.AX,Xc.Ck,Xc.AD,Xc.done,Xc.DJ,];obtain⟨r1,r2,r3⟩:=QT (J:=⟨3,l,o,z,wn,bk,ch,u,m,n,W,I,p,ct⟩) hN B G.1 G.2.1 rfl rfl;refine⟨_,rfl,r1,?_,?_⟩
   ·have:ER ⟨3,l,o,z,wn,bk,ch,u,m,n,W,I,p,ct⟩=dH o:=by simp[ER,dH]
    omega
   ·have:BS v g ⟨3,l,o,z,wn,bk,ch,u,m,n,W,I,p,ct⟩>=457:=by simp[BS];split<;>omega
    simp only[wt,Xu];simp;omega
 |@b4 l o z wn bk ch u m n W I p ct B G C=>
  have E:=Good.store (f:=0) (x:=Y6 (Yw ch)) hL D R C;have V:=E.1.Et D N;refine .so (Bi (C.rf D) Zd Zd) E.1 ?_;have n1:=nb E.1;have X:(v.put (Xh m 0) (Y6 (Yw ch))).root=v.root:=Hz C.1;have Z:=Oa X;simp[Xz.next,Xc.next,Xc.Am,Xc.BC,Xc.sized,Xc.AG,Xc.AX,Xc.Ck,Xc.AD,Xc.done,Xc.DJ,Xc.An,Xc.D8,Cq,Xj.new,Xj.zero,Xj.step,Xj.again];refine⟨_,rfl,.b5 B (G.Et V) C.put (by rw[Dk C.1];rfl) (.w1 ((G.zj B).2.2.2.2.2.Et V)) rfl,by simp[ER];omega,?_⟩;rw[E.2];(simp[BS,ER,wt,Xu,Xm,Xq,Xp,Xg,Xk,Yi,X3,Z,X,Zt]<;>exact Zq)
 |@b5 l o z wn bk ch u m n W I p ct c B G C M hW hy=>
  refine Jq (S:=λW=>.Lm ⟨5,l,o,z,wn,bk,ch,u,m,n,some W,I,p,ct⟩) (K:=λr=>(.Lm (QW ⟨5,l,o,z,wn,bk,ch,u,m,n,none,I,p,ct⟩ r).1,(QW ⟨5,l,o,z,wn,bk,ch,u,m,n,none,I,p,ct⟩ r).2)) (I:=λv g=>Mk v g k wn bk ch u/\Ew v g k m/\(v.cell m.sl 0).nm=Yw ch/\∀s∈g.LL 0,True) T D R N tb (λW x'=>?_) (λW c hc=>rfl) ⟨G,C,M,λ_ _=>trivial⟩ (λv' g' O ev=>?_) (λs' d hp=>⟨G.Et (EF N),Rp C hp,M,λ_ _=>trivial⟩) (λv' g' W' c' q1 q2 ar aa hn au av ae=>?_) (λg' W' q1 q2 P aa hp ak ae=>?_) hW
  ·have e:=wG (J:=⟨5,l,o,z,wn,bk,ch,u,m,n,some W,I,p,ct⟩) rfl x';simp only[Xz.next,Xc.next,Xc.Am];simp;rw[e];exact⟨rfl,rfl⟩
  ·have ag:k≠k+1:=Zo;exact⟨G.Et (ev.Et ag D O N),(C.A3 ev ag).1,by rw[(C.A3 ev ag).2];exact M,λ_ _=>trivial⟩
  ·have X:=au rfl;have Z:=Oa X;have n1:=ng av;refine⟨_,rfl,.b5 B aa.1 aa.2.1 aa.2.2.1 ar (q1.trans hy),by simp[ER];omega,?_⟩;simp[BS,Z,X];split<;>omega
  ·obtain⟨i0,i1,i2,_⟩:=aa;have ah:(g'.LL 0).length=(g.LL 0).length:=by rw[ak]
   have n1:=ng (v':=v) (g':=g') (db ⟨rfl,ak⟩);cases ab:W'.found with
   |true=>
    obtain⟨y1,y2,y3,y4⟩:=P.yes ab;simp[QW,ab];refine⟨_,rfl,.b6 B i0 i1 ⟨y1,P.wr,by show(v.cell W'.As.sl 0).nm=Yw ch;rw[y2,q1,hy],by have:=(G.zj B).1;omega,(G.zj B).2.1⟩,by simp[ER,ah];omega,?_⟩;simp[BS];split<;>omega
   |false=>
    simp[QW,ab];rw[ab] at ae;refine⟨_,rfl,.b7 B i0 i1 i2 P ⟨q1.trans hy,ab⟩,by simp[ER,ah];omega,?_⟩;by_cases O:v.get W'.prev=W'.As
    ·simp[O] at ae;simp[BS,O];split<;>omega
    ·simp[O] at ae;simp[BS,O,ah];split<;>omega
 |@b6 l o z wn bk ch u m n W I p ct B G C Cc=>
  have E:=Good.drop hL D R C;have V:=E.1.Et D N;refine .dr (C.rf D) E.1 ?_;have n1:=nb E.1;have ad:(g.A7 m.sl).LL=g.LL:=rfl;have Z:Dv (v.drop m.sl)=Dv v:=rfl;have X:(v.drop m.sl).root=v.root:=rfl;rw[ad] at n1;simp[Xz.next,Xc.next,Xc.Am,Xc.BC,Xc.sized,Xc.AG,Xc.AX,Xc.Ck,Xc.AD,Xc.done,Xc.DJ,];refine⟨_,rfl,.b9 B (G.Et V) (Cc.Et V),by rw[ad];simp[ER];omega,?_⟩;rw[E.2];(simp[BS,ER,wt,Xu,Xm,Xq,Xp,Xg,Xk,Yi,X3,Z,X]<;>exact Zq)
 |@b7 l o z wn bk ch u m n W I p ct B G C M P hy=>
  have E:=Good.store (f:=2) (x:=Yx W.As) hL D R C;have V:=E.1.Et D N;refine .so (Bi (C.rf D) Zd Zd) E.1 ?_;have n1:=nb E.1;have X:(v.put (Xh m 2) (Yx W.As)).root=v.root:=Hz C.1;have Z:=Oa X;have aw:¬(W.prev.sl=m.sl/\W.prev.fd=2):=λq=>by
   rcases P.pv.1 with e|⟨_,_,e,_⟩
   ·rw[e] at q;exact C.1 q.1.symm
   ·exact C.Cm D 0 (by rw[←q.1];exact(D.Lc N e).1)
  have am:(v.put (Xh m 2) (Yx W.As)).get W.prev=v.get W.prev:=by rw[DA,fw (show ¬(W.prev.sl=(Xh m 2).sl/\W.prev.fd=(Xh m 2).fd) from aw)]
  have af:∀s,(v.put (Xh m 2) (Yx W.As)).cell s 0=v.cell s 0:=λs=>Yv s 0 λq=>absurd q.2 (by show(0:Int)≠2;decide);simp[Xz.next,Xc.next,Xc.Am,Xc.BC,Xc.sized,Xc.AG,Xc.AX,Xc.Ck,Xc.AD,Xc.done,Xc.DJ,AM,Yu];refine⟨_,rfl,.b8 B (G.Et V) C.put (by rw[af];exact M) ⟨P.pv.Et V,P.wr.Et V,P.um,by rw[am];exact P.sn,λq=>(by rw[hy.2] at q;cases q),λq L=>by rw[af];exact P.no q L⟩ hy (Dk C.1),by simp[ER];omega,?_⟩;rw[E.2];(simp[BS,ER,wt,Xu,Xm,Xq,Xp,Xg,Xk,Yi,X3,Z,X,am]<;>exact Zq)
 |@b8 l o z wn bk ch u m n W I p ct B G C M P hy hc=>
  have F:=G.zj B;refine .sw (P.pv.1.mP D N hl) (λH=>?_) λQ=>?_
  ·have O:=P.sn.same H;have ao:W.As.sl≠0->Yw ch<(v.cell W.As.sl 0).nm:=λL=>by rw[←hy.1];exact P.no hy.2 L
   have ap:Hk 4 v g k (Yw ch) W.prev:=by rw[←hy.1];exact P.pv
   obtain⟨g',k1,k2,k3,k4,k5,k6,k7⟩:=VS T D R N tb F.2.2.2.2.1 ap C M P.um hc O ao;have V:=k1.Et D N;have X:=k7 rfl;have Z:=Oa X;have n1:=xd (b:=ch) (RG D N k1) ⟨Zo,F.2.1⟩ (xn D R.1 N ap (by rw[O];exact P.um) (by rw[O];exact ao)) k6 (by rw[(k5 _).1];exact M);refine⟨_,k1,?_⟩;simp[Xz.next,Xc.next,Xc.Am,Xc.BC,Xc.sized,Xc.AG,Xc.AX,Xc.Ck,Xc.AD,Xc.done,Xc.DJ,];refine⟨_,rfl,.b9 B (G.Et V) ⟨C.1,λ_=>⟨k4,by rw[Y0];exact C.2.2⟩,by rw[(k5 _).1];exact M,Zo,F.2.1⟩,by rw[k3];simp[ER];omega,?_⟩;rw[k2];(simp[BS,ER,wt,Xu,Xm,Xq,Xp,Xg,Xk,Yi,X3,Z,X,O]<;>exact Zq)
  ·simp[Xz.next,Xc.next,Xc.Am,Xc.BC,Xc.sized,Xc.AG,Xc.AX,Xc.Ck,Xc.AD,Xc.done,Xc.DJ,Xc.An,Xc.D8,Cq,Xj.new,Xj.zero,Xj.step,Xj.again];refine⟨_,rfl,.b5 B G C M (.w1 F.2.2.2.2.2) rfl,by simp[ER],?_⟩;(simp[BS,ER,wt,Xu,Xm,Xq,Xp,Xg,Xk,Yi,X3,Q,Zt]<;>exact Zq)
 |@b9 l o z wn bk ch u m n W I p ct B G Cc=>
  have F:=G.zj B;rw[TG Zo F.2.1];refine .ld (hr _ Zo Zo) ?_;by_cases L:(v.root (8+ch)).sl=0
  ·have h1:((v.root (8+ch)).sl==0)=true:=by simp[L]
   simp[Xz.next,Xc.next,Xc.Am,Xc.BC,Xc.sized,Xc.AG,Xc.AX,Xc.Ck,Xc.AD,Xc.done,Xc.DJ,Bg,h1];refine⟨_,rfl,.b10 B G Cc L (fq rfl) ⟨F.1,F.2.1⟩,by simp[ER],?_⟩;(simp[BS,ER,wt,Xu,Xm,Xq,Xp,Xg,Xk,Yi,X3,L]<;>exact Zq)
  ·have h1:((v.root (8+ch)).sl==0)=false:=by simp[L]
   simp[Xz.next,Xc.next,Xc.Am,Xc.BC,Xc.sized,Xc.AG,Xc.AX,Xc.Ck,Xc.AD,Xc.done,Xc.DJ,Bg,h1];obtain⟨r1,r2,r3⟩:=Kd (J:=⟨9,l,o,z,wn,ch,ch,n,m,n,W,I,p,ct⟩) hN B Cc F.2.2.2.1 rfl rfl rfl rfl rfl;refine⟨_,rfl,r1,?_,?_⟩
   ·have:ER ⟨9,l,o,z,wn,bk,ch,u,m,n,W,I,p,ct⟩=dH o:=by simp[ER,dH]
    omega
   ·have:BS v g ⟨9,l,o,z,wn,bk,ch,u,m,n,W,I,p,ct⟩=459+Dv v wn ch:=by simp[BS,L];omega
    simp only[wt,Xm];simp;omega
 |@b10 l o z wn bk ch u m n W I p ct x B G Cc hx hn hc=>
  have F:=G.zj B;rw[TG Zo F.2.1];have ay:ER ⟨10,l,o,z,wn,bk,ch,u,m,n,W,I,p,ct⟩=dH o:=by simp[ER,dH]
  refine .sw (hr _ Zo Zo) (λH=>?_) λQ=>?_
  ·have O:v.root (8+ch)=x:=by
    rcases hn with q|q
    ·exact q
    ·have H:B7 (v.root (8+ch)) x=true:=H;unfold B7 at H;simp at H;exact absurd (H.1.trans hx) q
   subst O;obtain⟨k1,k2⟩:=XL (k:=k) (x:=A4 (v.root (8+ch)) n) D R N hc Cc hx (Gk (tb.rt _)) ⟨rfl,rfl⟩;have V:=k1.Et D N;have n1:=nb k1;have hD:Dv (v.put (root (8+ch)) (A4 (v.root (8+ch)) n)) wn ch=Dv v wn ch:=yz λb hb=>by
    unfold Eb;rw[show(v.put (root (8+ch)) (A4 (v.root (8+ch)) n)).root (8+b)=v.root (8+b) from(Du _).trans (fw Zo)]
   refine⟨_,k1,?_⟩;simp[Xz.next,Xc.next,Xc.Am,Xc.BC,Xc.sized,Xc.AG,Xc.AX,Xc.Ck,Xc.AD,Xc.done,Xc.DJ,];obtain⟨r1,r2,r3⟩:=Kd (J:=⟨10,l,o,z,wn,ch,ch,n,m,n,W,I,p,ct⟩) hN B (Cc.Et V) F.2.2.2.1 rfl rfl rfl rfl rfl;refine⟨_,rfl,r1,?_,?_⟩
   ·omega
   ·have:BS v g ⟨10,l,o,z,wn,bk,ch,u,m,n,W,I,p,ct⟩=229+Dv v wn ch:=by simp[BS,hx];omega
    simp only[wt,Xp];simp;omega
  ·have L:(v.root (8+ch)).sl≠0:=by
    rcases hn with q|q
    ·exact absurd q Q
    ·exact q
   simp[Xz.next,Xc.next,Xc.Am,Xc.BC,Xc.sized,Xc.AG,Xc.AX,Xc.Ck,Xc.AD,Xc.done,Xc.DJ,];obtain⟨r1,r2,r3⟩:=Kd (J:=⟨10,l,o,z,wn,ch,ch,n,m,n,W,I,p,ct⟩) hN B Cc F.2.2.2.1 rfl rfl rfl rfl rfl;refine⟨_,rfl,r1,?_,?_⟩
   ·omega
   ·have:BS v g ⟨10,l,o,z,wn,bk,ch,u,m,n,W,I,p,ct⟩=458+Dv v wn ch:=by simp[BS,L];omega
    simp only[wt,Xp];simp;omega
 |@Y' l o z wn bk ch u m n W I p ct=>
  refine .ld (hr 17 Zd Zd) ?_;simp[Xz.next,Xc.next,Xc.Am,Xc.BC,Xc.sized,Xc.AG,Xc.AX,Xc.Ck,Xc.AD,Xc.done,Xc.DJ,Bg];exact⟨_,rfl,.b13 .refl,by simp[ER],by(simp[BS,ER,wt,Xu,Xm,Xq,Xp,Xg,Xk,Yi,X3,]<;>exact Zq)⟩
 |@b13 l o z wn bk ch u m n W I p ct y hn=>
  refine .sw (hr 17 Zd Zd) (λH=>?_) λQ=>?_
  ·have O:v.root 17=ct:=hn.same H;subst O;have E:=Ur (k:=k) (r:=17) (x:=Y5 (v.root 17) y) D R (db rfl) (FK (by have:=tb.rt 17;omega) (by have:=tb.rt 17;omega));have n1:=nb E.1;refine⟨_,E.1,?_⟩;simp[Xz.next,Xc.next,Xc.Am,Xc.BC,Xc.sized,Xc.AG,Xc.AX,Xc.Ck,Xc.AD,Xc.done,Xc.DJ,];cases o.kind==7<;>cases z==8<;>cases decide ((v.root 17).nm<wr (2*z))<;>simp only[i9,gx];all_goals first|(refine⟨_,rfl,.d rfl,by simp[ER];omega,?_⟩;rw[E.2];(simp[BS,ER,wt,Xu,Xm,Xq,Xp,Xg,Xk,Yi,X3,]<;>exact Zq))|(refine⟨_,rfl,.b14,by simp[ER];omega,?_⟩;rw[E.2];(simp[BS,ER,wt,Xu,Xm,Xq,Xp,Xg,Xk,Yi,X3,]<;>exact Zq))
  ·have Q:v.root 17≠ct:=Q;simp[Xz.next,Xc.next,Xc.Am,Xc.BC,Xc.sized,Xc.AG,Xc.AX,Xc.Ck,Xc.AD,Xc.done,Xc.DJ,];exact⟨_,rfl,.Y',by simp[ER],by(simp[BS,ER,wt,Xu,Xm,Xq,Xp,Xg,Xk,Yi,X3,Q]<;>exact Zq)⟩
 |@b14 l o z wn bk ch u m n W I p ct=>
  refine .ld (hr 16 Zd Zd) ?_;simp[Xz.next,Xc.next,Xc.Am,Xc.BC,Xc.sized,Xc.AG,Xc.AX,Xc.Ck,Xc.AD,Xc.done,Xc.DJ,Bg];cases(v.root 16).nm==z<;>simp only[i9,gx]
  ·exact⟨_,rfl,.d rfl,by simp[ER],by(simp[BS,ER,wt,Xu,Xm,Xq,Xp,Xg,Xk,Yi,X3,]<;>exact Zq)⟩
  ·exact⟨_,rfl,.b15 .refl,by simp[ER],by(simp[BS,ER,wt,Xu,Xm,Xq,Xp,Xg,Xk,Yi,X3,]<;>exact Zq)⟩
 |@b15 l o z wn bk ch u m n W I p ct x y hn=>
  refine .sw (hr 16 Zd Zd) (λH=>?_) λQ=>?_
  ·have O:v.root 16=x:=hn.same H;subst O;have E:=Ur (k:=k) (r:=16) (x:=Y5 (v.root 16) y) D R (fq rfl) (FK (by have:=tb.rt 16;omega) (by have:=tb.rt 16;omega));have n1:=nb E.1;refine⟨_,E.1,?_⟩;simp[Xz.next,Xc.next,Xc.Am,Xc.BC,Xc.sized,Xc.AG,Xc.AX,Xc.Ck,Xc.AD,Xc.done,Xc.DJ,];exact⟨_,rfl,.d rfl,by simp[ER];omega,by rw[E.2];(simp[BS,ER,wt,Xu,Xm,Xq,Xp,Xg,Xk,Yi,X3,]<;>exact Zq)⟩
  ·simp[Xz.next,Xc.next,Xc.Am,Xc.BC,Xc.sized,Xc.AG,Xc.AX,Xc.Ck,Xc.AD,Xc.done,Xc.DJ,];exact⟨_,rfl,.d rfl,by simp[ER],by(simp[BS,ER,wt,Xu,Xm,Xq,Xp,Xg,Xk,Yi,X3,]<;>exact Zq)⟩
 |@yo l o z wn bk ch u m n W I p ct c hI B=>
  by_cases hc:c.kind=12
  ·exact .done hc
  have hS:∀(Y:Xf) (x:Xr),Xz.next (.Lm ⟨11,l,o,z,wn,bk,ch,u,m,n,W,some Y,p,ct⟩) x=Qu ⟨11,l,o,z,wn,bk,ch,u,m,n,W,none,p,ct⟩ (Y.next x):=λY x=>by
   simp[Xz.next,Xc.next,Xc.GZ,Qu]
  have hK:∀(Y:Xf) (c:Xi),c.kind≠12->Qu ⟨11,l,o,z,wn,bk,ch,u,m,n,W,none,p,ct⟩ (Y,c)=(.Lm ⟨11,l,o,z,wn,bk,ch,u,m,n,W,some Y,p,ct⟩,c):=λY c hc=>by
   have ax:(c.kind==12)=false:=by simp[hc]
   simp[Xc.Fu,ax,Qu]
  have go:∀v' g' J' c',J'.op=I.op->EQ 4 v' g' k J' c'->True->(g'.LL 0).length+E0 J'<=(g.LL 0).length+E0 I->mS 4 k v g v' g'->B9 v' g' J'+wt c+(Zp 4).Cd v' g'<=B9 v g I+(Zp 4).Cd v g->bS v g k ⟨11,l,o,z,wn,bk,ch,u,m,n,W,some I,p,ct⟩ c v' g' (.Lm ⟨11,l,o,z,wn,bk,ch,u,m,n,W,some J',p,ct⟩) c':=λv' g' J' c' q1 q2 _ q3 q4 q5=>by
   have n1:=ng q4;refine⟨_,rfl,.yo q2 (q1.trans B),by simp[ER];omega,by simp[BS];omega⟩
  have dn:∀v' g' J' i j,True->(g'.LL 0).length<=(g.LL 0).length+E0 I->mS 4 k v g v' g'->wt c+(Zp 4).Cd v' g'<=B9 v g I+(Zp 4).Cd v g->bS v g k ⟨11,l,o,z,wn,bk,ch,u,m,n,W,some I,p,ct⟩ c v' g' (Qu ⟨11,l,o,z,wn,bk,ch,u,m,n,W,none,p,ct⟩ (J',X3 i j)).1 (Qu ⟨11,l,o,z,wn,bk,ch,u,m,n,W,none,p,ct⟩ (J',X3 i j)).2:=λv' g' J' i j _ q3 q4 q5=>by
   have n1:=ng q4;simp only[Qu,Xc.Fu,Xc.done,X3];simp only[show((12:Int)==12)=true from rfl,iv,gx];cases(!(i==1)||o.kind==8)<;>simp only[i9,gx]
   ·exact⟨_,rfl,.Y',by simp[ER];omega,by simp[BS];omega⟩
   ·exact⟨_,rfl,.d rfl,by simp[ER];omega,by simp[BS];omega⟩
  by_cases h6:I.op.kind=6
  ·exact dM (S:=λY=>.Lm ⟨11,l,o,z,wn,bk,ch,u,m,n,W,some Y,p,ct⟩) (K:=Qu ⟨11,l,o,z,wn,bk,ch,u,m,n,W,none,p,ct⟩) (I:=λ_ _=>True) T D R N tb hS hK trivial (λ_ _ _=>trivial) go dn hc h6 hI
  ·by_cases h7:I.op.kind=7
   ·exact dL (S:=λY=>.Lm ⟨11,l,o,z,wn,bk,ch,u,m,n,W,some Y,p,ct⟩) (K:=Qu ⟨11,l,o,z,wn,bk,ch,u,m,n,W,none,p,ct⟩) (I:=λ_ _=>True) T D R N tb hS hK trivial (λ_ _ _=>trivial) go dn hc h7 hI
   ·exact dO (S:=λY=>.Lm ⟨11,l,o,z,wn,bk,ch,u,m,n,W,some Y,p,ct⟩) (K:=Qu ⟨11,l,o,z,wn,bk,ch,u,m,n,W,none,p,ct⟩) (I:=λ_ _=>True) T D R N tb hS hK trivial (λ_ _ _=>trivial) go dn hc ⟨h6,h7⟩ hI
end
