/- Core: QB, QC, QD, FeA. -/
import Derived.Test.YtaipogljokblkaaGreatDoorP33
set_option linter.all false
set_option maxRecDepth 100000
set_option maxHeartbeats 8000000
namespace Go.Proofs.YtaipogljokblkaaGreatDoor
open Go Go.RowKit
def MT.fresh(st eng a b most:Int):MT:=⟨MV.fresh st eng a b most,[],0,-1⟩
def Aj.fresh(st eng most:Int)(n ns k:Nat):Aj:=⟨st,Pl.laid st ns,(List.range k).map λ(i:Nat)=>MT.fresh st eng (i:Int) (n:Int) most,[]⟩
def Aj.MO(st eng most:Int)(n ns k:Nat):(Aj.fresh st eng most n ns k).Av.length=k:=by simp[Aj.fresh]
def Aj.aN(st eng most:Int)(n ns k:Nat):Aj.fresh st eng most n ns (k+1)={Aj.fresh st eng most n ns k with Av:=(Aj.fresh st eng most n ns k).Av++[MT.fresh st eng (k:Int) (n:Int) most]}:=by
 simp[Aj.fresh,pg]
def DK.cut{w:World}{c gh:Nat}{P:Aj}{d bv:B5}{f:List E6}{Fh:List Nat}{g:Nat->Nat->Prop}{lab:Nat->Nat}(h:DK w c gh P d bv f Fh g lab):DK w c gh P d bv f Fh g (λb=>if b<w.heap.size then lab b else 1000):=by
 have e:∀b,b<w.heap.size->(if b<w.heap.size then lab b else 1000)=lab b:=λb a=>ga a;refine⟨h.bk,h.KH,h.KE,h.hp,h.len,h.th,(e _ h.bk.lt).trans h.l0,λb a=>(e _ (h.KH.lt a)).trans (h.l1 b a),λb a=>(e _ (h.KE.lt a)).trans (h.l2 b a),λb a=>(e _ (h.hp.lt b a)).trans (h.l3 b a),λi b j a=>(e _ (h.dG j b a)).trans (h.l4 i b j a),λb a=>?_,h.Nt⟩;show 1000<=(if _ then _ else _);split
 ·exact h.low b a
 ·exact Nat.le_refl _
def xK{w:World}{gv a:Nat}{st eng k n most:Int}(c:Bk w gv 126 ((G5 (MV.fresh st eng k n most)).l (.pointer (some ⟨a,0,none⟩)) .nilIface).toArray)(d:Mo a .nilIface (MR.fresh eng k n most) none w (λb=>b=a))(h:a≠gv):
  mQ w ⟨gv,⟨none,0,0⟩,0,-1⟩ (MT.fresh st eng k n most) (λb=>b=gv\/b=a):=
 ⟨rfl,rfl,λb=>b=gv\/b=a,⟨a,.nilIface,λb=>b=a,c,d,λe=>h e.symm,λ_=>j3⟩,Own.nil,λ_ _ e=>(by cases e),λ_=>⟨fq,λh=>h.elim id λe=>(by cases e)⟩⟩
def V8{w:World}{st eng most:Int}{n ns gh:Nat}{Fh:List Nat}(h:NG w gh (Pl.laid st ns) Fh)(d:∀b∈Fh,7<=b)(l:7<=w.heap.size)(c:Nat)(m:c<w.heap.size)(e:∀b∈Fh,b≠c):
  ∃lab:Nat->Nat,DK (w.alloc (.cells #[.int .i64 st,.pointer (some ⟨gh,0,none⟩),.slice none 0 0,.slice none 0 0] 74)) w.heap.size gh (Aj.fresh st eng most n ns 0) ⟨none,0,0⟩ ⟨none,0,0⟩ [] Fh (λ_ _=>False) lab/\1000<=lab c/\∀b,lab b<1000->b=w.heap.size\/b∈Fh:=by
 have g:=h.lt
 refine⟨λb=>if b=w.heap.size then 0 else if b∈Fh then 3 else 1000,⟨Bk.at_ rfl,Own.nil,Own.nil,h.same λb a=>lp w _ b (g b a),rfl,(λi r T j _=>by simp at j),ga rfl,(λb a=>by cases a),(λb a=>by cases a),λb a=>?_,(λi b k _=>by simp[Aj.fresh] at k),λb a=>?_,(by simp[Aj.fresh])⟩,?_,λb a=>?_⟩
 ·show(if _ then _ else _)=3;rw[fw (by have:=g b a;omega),ga a]
 ·show 1000<=(if _ then _ else _);rw[fw Zo,fw (λf=>by have:=d b f;omega)];exact Nat.le_refl _
 ·show 1000<=(if _ then _ else _);rw[fw Zo,fw (λf=>e c f rfl)];exact Nat.le_refl _
 ·simp only at a;split at a
  ·exact fq (by assumption)
  ·split at a
   ·exact db (by assumption)
   ·omega
structure PRo(w wr:World)(st eng most:Int)(n ns gp gh:Nat)(Fh:List Nat)(k:Nat)(tv:B5)(ro:List E6)(Ft:Nat->Nat->Prop)(lab:Nat->Nat):Prop where
 p:DK wr gp gh (Aj.fresh st eng most n ns k) tv ⟨none,0,0⟩ ro Fh Ft lab
 c:Bk wr w.heap.size 32 #[.int .i64 st,.int .i64 eng,.int .i64 (n:Int),.int .i64 (ns:Int),.int .i64 most]
 b:Below w.heap.size w wr
 lc:1000<=lab w.heap.size
 l:∀b,lab b<1000->w.heap.size<=b
def ZS(st eng most:Int)(n ns:Nat)(w:World)(X:AT w)(a0:1<=st)(b0:st<=5)(a1:1<=eng)(b1:eng<=5)(a2:1<=n)(b2:n<=6)(b3:ns<=1024)(a4:1<=most)(b4:most<=64)(hs:st=2\/st=4->1<=ns):
  Kp 8 #[.agg #[.int .i64 st,.int .i64 eng,.int .i64 (n:Int),.int .i64 (ns:Int),.int .i64 most]] w λen w'=>∃r gh C bv q Fh H lab,en=.returned (.tuple #[.pointer (some ⟨r,0,none⟩),.nilIface])/\DK w' r gh (Aj.fresh st eng most n ns n) C bv q Fh H lab/\Below w.heap.size w w'/\∀b,lab b<1000->w.heap.size<=b:=by
 have HX:=eR (Bk.at_ (w:=w) (cs:=#[.int .i64 st,.int .i64 eng,.int .i64 (n:Int),.int .i64 (ns:Int),.int .i64 most]) (t:=32) rfl)
 have U:=eR ((fx w.heap.size w).alloc (Nat.le_refl _) (.cells #[.int .i64 st,.int .i64 eng,.int .i64 (n:Int),.int .i64 (ns:Int),.int .i64 most] 32))
 have HE:=eR (X.below U.out)
 have Y:=eR X.lt
 clear X
 go_enter Tryz.func8,Tryz.ntmps8
 go_wp2_with fail
 refine(Rn st eng n ns most _ a0 b0 a1 b1 Zo Zo Zo Zo a4 b4).mono ?_
 rintro e w1 ⟨rfl,V⟩
 have j:=eR (HX.out.Af V.below)
 have I:=eR (HE.out.below V.below)
 have s:=eR (U.out.trans (V.below.mono U.out.size))
 clear HX HE U V
 have J:=j.out.cell 0;have y3:=j.out.cell 3
 simp at J y3
 go_wp2_with fail
 refine(ZT st ns _ I.out b3 hs).mono ?_
 rintro e x ⟨gh,Fh,rfl,hp,hF,a⟩
 have m:=eR (j.out.Af a)
 have y:=eR (s.out.trans (a.mono s.out.size))
 have o:=eR (fy hp hF)
 have aj:w.heap.size<w1.heap.size:=j.out.lt
 have Z:=eR a.size
 clear j I s hp hF a J y3
 have J:=m.out.cell 0;have W:=m.out.cell 2
 simp at J W
 go_upto_region 7 with(fail)
 have K:=eR (m.out.alloc (.cells #[.int .i64 st,.pointer (some ⟨gh,0,none⟩),.slice none 0 0,.slice none 0 0] 74))
 have ak:w.heap.size<x.heap.size:=m.out.lt
 have al:7<=w.heap.size:=Y.out
 have ai:w1.heap.size<=x.heap.size:=Z.out
 have HK:=eR (V8 (w:=x) (st:=st) (eng:=eng) (most:=most) (n:=n) (ns:=ns) (gh:=gh) (Fh:=Fh) o.out.1 (λb a=>by have:=o.out.2 b a;omega) Zo w.heap.size Zo (λb a=>by have:=o.out.2 b a;omega))
 have aa:=eR (y.out.trans (((fx x.heap.size x).alloc (Nat.le_refl _) (.cells #[.int .i64 st,.pointer (some ⟨gh,0,none⟩),.slice none 0 0,.slice none 0 0] 74)).mono y.out.size))
 have ab:=eR (λb (a:b∈Fh)=>(by have:=o.out.2 b a;omega:w.heap.size<=b))
 clear J W m y o
 have W:=K.out.cell 2
 simp at W
 generalize am:x.heap.size=r at*
 generalize x.alloc (.cells #[.int .i64 st,.pointer (some ⟨gh,0,none⟩),.slice none 0 0,.slice none 0 0] 74)=w3 at*
 go_wp2_with fail
 go_loopw [32] (λi wr=>∃(k:Nat) (C:B5) (q:List E6) (H:Nat->Nat->Prop) (lab:Nat->Nat),k<=n/\i=.int .i64 k/\PRo w wr st eng most n ns r gh Fh k C q H lab) (λi _=>n-(intOf i).toNat)
 case atStart=>
  obtain⟨lab,k1,k2,k3⟩:=HK.out
  exact⟨0,⟨none,0,0⟩,[],λ_ _=>False,lab,ie _,rfl,k1,K.out,aa.out,k2,λb a=>(k3 b a).elim (λh=>Zo) λh=>ab.out b h⟩
 case round=>
  obtain⟨k,C,q,H,lab,hk,rfl,L⟩:=hrel
  have d:=eR L
  clear L
  by_cases an:k<n
  ·have M:(k:Int) < (n:Int):=Zo;have x0:=d.out.c.cell 0;have x1:=d.out.c.cell 1;have x2:=d.out.c.cell 2;have x4:=d.out.c.cell 4;simp at x0 x1 x2 x4;go_wp2_with (first
    |(go_at_call 23;refine(nD st eng (k:Int) (n:Int) most wr a0 b0 a1 b1 Zo Zo Zo Zo a4 b4).mono ?_;rintro e D ⟨E,gr,rfl,N,O,q1,q2,q3,P⟩;have g:=eR (fy N (fy O (fy q1 (fy q2 (fy q3 P)))));clear N O q1 q2 q3 P x0 x1 x2 x4;have HA:=eR (((fx D.heap.size D).alloc (Nat.le_refl _) (.cells (E6.l ⟨E,⟨none,0,0⟩,0,-1⟩).toArray 79)));have z:=eR ((d.out.p.cut.below g.out.2.2.2.2.2).below HA.out);have c2:=(d.out.p.below g.out.2.2.2.2.2).bk.cell 2;simp at c2;obtain⟨v',w7,Q,F,hg,R⟩:=ON _ C.v q z.out.KH (by have:=z.out.len;have:=z.out.Nt;omega) ⟨E,⟨none,0,0⟩,0,-1⟩ D.heap.size (Bk.at_ rfl) 72;obtain⟨va,vc,rfl,_⟩:=AN F;have b7:=z.out.bk.grown hg (λe=>by have:=z.out.l1 r e.symm;rw[z.out.l0] at this;omega);have f2:=b7.free 2;have c7:=b7.cell 2;simp at c7;have G:=eR (fy F (fy hg R));clear F hg R b7;generalize B:(q++[(⟨E,⟨none,0,0⟩,0,-1⟩:E6)]).length=fl at*)
    |(at_builtin;refine Yj Zr _ _ _ _ _ _ _ Zr Zr Zr Q ?_))
   have ao:D.heap.size+1<=w7.heap.size:=by have:=G.out.2.1.size;simpa using this
   have ap:wr.heap.size<=D.heap.size:=g.out.2.2.2.2.2.size;have F:=G.out.1;rw[←B] at F;have ad:=(xK g.out.1 g.out.2.1 g.out.2.2.2.1).AL (λb (a:b=E\/b=gr)=>lp D (.cells (E6.l ⟨E,⟨none,0,0⟩,0,-1⟩).toArray 79) b (by rcases a with rfl|rfl;exact g.out.1.lt;exact g.out.2.1.lt _ rfl));have aq:=g.out.2.2.1;have ar:=g.out.2.2.2.2.1;have ae:w.heap.size<=wr.heap.size:=d.out.b.size;obtain⟨af,S,p1,p2,p3⟩:=z.out.add (u:=⟨va,_,vc⟩) F G.out.2.1 (by have:=G.out.2.2;rw[←B] at this;exact this) ad (λb a=>by rw[fw (by rcases a with rfl|rfl<;>omega)];exact Nat.le_refl _) (λb a=>by rcases a with rfl|rfl<;>omega) (by simp;omega) (by rw[Aj.MO];omega);have ag:=d.out.c.lt;have T:Below w.heap.size w w7:=((d.out.b.trans (g.out.2.2.2.2.2.mono ae)).trans (HA.out.mono Zo)).grown G.out.2.1 (by simp;omega) λb a=>d.out.l b (by have:=d.out.p.l1 b a;omega);refine⟨⟨k+1,⟨va,fl,vc⟩,q++[⟨E,⟨none,0,0⟩,0,-1⟩],af,S,Zo,by go_num,⟨?_,?_,T.grown (X2 w7 r 2 _) T.size (λb e=>by cases e;omega),p3 _ (by rw[ga ag];exact d.out.lc) (by simp;omega) (λh=>by rcases h with h|h<;>omega),λb a=>?_⟩⟩,by simp[intOf];omega⟩
   ·rw[Aj.aN];rw[B] at p1;exact p1
   ·have:=((d.out.c.Af g.out.2.2.2.2.2).Af HA.out).grown G.out.2.1 (λe=>by have:=d.out.p.l1 _ e.symm;have:=d.out.lc;omega);exact this.A5 (by simp;omega) _
   ·rcases p2 b a with h|h|h
    ·by_cases hx:b<wr.heap.size
     ·rw[ga hx] at h;exact d.out.l b h
     ·omega
    ·rcases h with rfl|rfl<;>omega
    ·simp at h;omega
  ·have ah:k=n:=Zo;subst ah;have M:¬(k:Int)<(k:Int):=Zo;go_wp2_with fail;go_ret2;exact⟨r,rfl,gh,C,⟨none,0,0⟩,q,Fh,H,lab,d.out.p,d.out.b,d.out.l⟩
section
variable{w w':World}{gp gh:Nat}{P:Aj}{tv bv:B5}{ro:List E6}{Fh:List Nat}{Ft:Nat->Nat->Prop}{lab:Nat->Nat}
def DK.tvn(h:DK w gp gh P tv bv ro Fh Ft lab):tv.n=P.Av.length:=by
 rw[←h.len];obtain⟨A,c,a,_⟩:=AN h.KH;unfold B5.v at a;injection a with b d e
def DK.Vi(h:DK w gp gh P tv bv ro Fh Ft lab){i:Nat}(m:i<P.Av.length):∃g a c,tv=⟨some ⟨g,a,none⟩,P.Av.length,c⟩/\∃b:i<ro.length,w.rangeAt g (a+i*4) ro[i].l:=by
 have b:i<ro.length:=by rw[h.len];exact m
 obtain⟨g,a,d,e,f⟩:=Fa h.KH Zo;have k:=h.KH;rw[e] at k;refine⟨g,a,d,?_,b,λj u n=>?_⟩
 ·rw[←h.len];cases tv;unfold B5.v at e;injection e with f o p;subst f;subst o;subst p;rfl
 ·rw[mf];exact Cl k _ _ (GS Vj ro i b j u n)
def Ku(h:DK w gp gh P tv bv ro Fh Ft lab)(k:Int):Kp 24 #[.pointer (some ⟨gp,0,none⟩),.int .i64 k] w λe w'=>e=.returned (.bool (P.has k))/\w=w':=by
 have b:=h.bk.cell 2;simp at b;have d:=h.tvn;obtain⟨a,n,c⟩:=tv;simp only at d;subst d;simp only[B5.v] at b;unfold Aj.has;clear h;by_cases g:0<=k
 ·go_enter Tryz.func24,Tryz.ntmps24;go_wp2;go_ret;simp[g]
 ·go_enter Tryz.func24,Tryz.ntmps24;go_wp2;go_ret;simp;omega
def NH{w:World}{gv:Nat}{V:MV}{F:Nat->Prop}(h:VB w gv V F):Kp 35 #[.pointer (some ⟨gv,0,none⟩)] w λd w'=>d=.returned (.bool V.busy)/\Below w.heap.size w w':=by
 obtain⟨g,i,m,c,j,n,o⟩:=h;refine(fE (Φ:=Hg.no) (F:=λ_=>False) (G5 V) ⟨g,0,none⟩ i gv w c j.one (λ_ h=>h) (λh=>h) (λ_ h=>h.elim)).mono λd w' k=>?_;obtain⟨p1,p2,a,_⟩:=k;refine⟨p1,a.os,a.tape,a.output,a.size,λb l=>?_⟩;by_cases e:b=gv
 ·subst e;unfold Bk at c p2;rw[c,p2]
 ·exact a.A5 b l λh=>h.elim e id
def tK(h:DK w gp gh P tv bv ro Fh Ft lab):Kp 15 #[.pointer (some ⟨gp,0,none⟩)] w λa w'=>a=.returned (.pointer (some ⟨gh,0,none⟩))/\w=w':=by
 have b:=h.bk.cell 1;simp at b;clear h;go_enter Tryz.func15,Tryz.ntmps15;go_wp2;go_ret;exact⟨rfl,rfl⟩
def Pf(h:DK w gp gh P tv bv ro Fh Ft lab){k:Nat}{T:MT}(j:P.Av[k]?=some T):Kp 26 #[.pointer (some ⟨gp,0,none⟩),.int .i64 (k:Int)] w λz w'=>z=.returned (.bool (Aj.CO T))/\Below w.heap.size w w':=by
 have B:k<P.Av.length:=by
  rcases iw k P.Av.length with h|h
  ·exact h
  ·rw[ik h] at j;cases j
 have d:P.has (k:Int)=true:=by unfold Aj.has;simp;omega
 have m:=Ku h (k:Int);rw[d] at m;obtain⟨g,n,c,rfl,C,o⟩:=h.Vi B;have q:=h.th k ro[k] T (gl C) j;obtain⟨t1,t2,I,r,s,_⟩:=q;obtain⟨J,K,i,_⟩:=AN s;have t:=h.bk.cell 2;simp[B5.v] at t;have D:=o 0 _ rfl;have u:=o 1 _ rfl;simp[E6.l,i] at D u;have x:=NH r;have y:=eR h;have E:((T.queue.length:Int)==0)=T.queue.isEmpty:=by cases T.queue<;>simp<;>omega
 unfold Aj.CO;clear h o r s i t1 t2;generalize T.V.busy=b at*;generalize F:ro[k]=L at*;go_enter Tryz.func26,Tryz.ntmps26;cases b with
 |true=>
  go_wp2_with (first|(go_at_call 24;refine m.mono ?_;rintro e G ⟨rfl,rfl⟩)|(go_at_call 35;refine x.mono ?_;rintro e H ⟨rfl,a⟩));go_ret;exact⟨rfl,a⟩
 |false=>
  go_wp2_with (first|(go_at_call 24;refine m.mono ?_;rintro e G ⟨rfl,rfl⟩)|(go_at_call 35;refine x.mono ?_;rintro e H ⟨rfl,a⟩;have d2:=(a.cell (p:=⟨gp,2,none⟩) y.out.bk.lt).trans t;have d1:=(a.cell (p:=⟨g,n+k*4+1,none⟩) (y.out.KH.lt rfl)).trans u));go_ret;exact⟨rfl,a⟩
end
def Rg{c:Type}{f:c->List Value}{sz:Nat}(a:∀x,(f x).length=sz):∀(l:List c) (k:Nat) (b:k<l.length) (j:Nat) (u:Value) (x:c),f x=(f l[k]).set j u->j<sz->rows f (l.set k x)=(rows f l).set (k*sz+j) u
 |[],k,b,_,_,_,_,_=>by simp at b
 |p::l,0,_,j,u,x,d,e=>by
  simp only[List.set_cons_zero,E9,ov,ml];rw[List.set_append_left _ _ (by rw[a];exact e),d];rfl
 |p::l,k+1,b,j,u,x,d,e=>by
  simp only[List.set_cons_succ,E9];rw[Rg a l k (by simpa using b) j u x (by simpa using d) e,List.set_append_right _ _ (by rw[a,lx];omega)];congr 2;rw[a,lx];omega
def NO{d:Type}{f:d->List Value}{sz:Nat}{E:TypeId}(e:∀x,(f x).length=sz){w:World}{g b c:Nat}{l:List d}(h:Own w E sz (.slice (some ⟨g,b,none⟩) l.length c) l.length (rows f l))(k:Nat)(m:k<l.length)(j:Nat)(u:Value)(x:d)(q:f x=(f l[k]).set j u)(r:j<sz):
  Own (w.setCell ⟨g,b+k*sz+j,none⟩ u) E sz (.slice (some ⟨g,b,none⟩) (l.set k x).length c) (l.set k x).length (rows f (l.set k x)):=by
 have a:(l.set k x).length=l.length:=jc
 have n:=Rg e l k m j u x q r
 refine⟨by rw[Zb e],.inr ?_⟩
 rcases h.2 with⟨s,_⟩|⟨D,o,p,A,R,t,v,y,z,B,C⟩
 ·cases s
 ·cases t;subst y;refine⟨g,A.length,c,A,R,by rw[a],?_,rfl,by rw[a];exact z,B,by rw[n,jc];exact C⟩;refine Y1 (v.Ez _ u) ?_;rw[n];have i:k*sz+j<(rows f l).length:=by
   rw[Zb e];have:(k+1)*sz<=l.length*sz:=nv _ m;rw[lx] at this;omega
  simp only[List.setIfInBounds_toArray];rw[List.set_append_right _ _ Zo,show A.length+k*sz+j-A.length=k*sz+j from Zo,List.set_append_left _ _ i]
section
variable{w w2:World}{gp gh:Nat}{P P':Aj}{tv bv bv':B5}{ro ro':List E6}{Fh Fh':List Nat}{Ft:Nat->Nat->Prop}{lab:Nat->Nat}{k:Nat}{T':MT}{r':E6}{F':Nat->Prop}
open Classical in
def DK.Ar(h:DK w gp gh P tv bv ro Fh Ft lab)(J:k<P.Av.length)(o:P'.Av=P.Av.set k T')(u:ro'=ro.set k r')(y:P'.st=P.st)
  (X:Bk w2 gp 74 #[.int .i64 P.st,.pointer (some ⟨gh,0,none⟩),tv.v,bv'.v])(Y:Own w2 79 4 tv.v ro'.length (rows E6.l ro'))(Z:Own w2 42 10 bv'.v P'.Ap.length (rows Yr.l P'.Ap))(hp:NG w2 gh P'.heap Fh')(th:mQ w2 r' T' F')
  (A5:∀i b,i≠k->i<P.Av.length->Ft i b->w2.heap[b]?=w.heap[b]?)(aa:w.heap.size<=w2.heap.size)(ab:7<=w.heap.size)
  (n2:∀b,bv'.v.ownBlock=some b->lab b=2\/w.heap.size<=b)(z:∀b∈Fh',lab b=3\/lab b=4+k\/w.heap.size<=b)(A:∀b,F' b->lab b=3\/lab b=4+k\/w.heap.size<=b)
  (d23:∀b,bv'.v.ownBlock=some b->b∉Fh')(d24:∀b,bv'.v.ownBlock=some b->¬F' b)(d34:∀b∈Fh',¬F' b):
  ∃B g,DK w2 gp gh P' tv bv' ro' Fh' B g/\∀b,g b<1000->lab b<1000\/w.heap.size<=b:=by
 have ad:=h.bk.lt
 have l0:=h.l0
 have Nt:=h.Nt
 have C:∀b,tv.v.ownBlock=some b->b<w.heap.size:=λb a=>h.KH.lt a
 have hl:∀i r T,ro'[i]?=some r->P'.Av[i]?=some T->i=k/\r=r'/\T=T'\/i≠k/\ro[i]?=some r/\P.Av[i]?=some T:=λi r T m j=>by
  rw[u] at m;rw[o] at j;by_cases e:i=k
  ·subst e;left;have hr:i<ro.length:=by rw[h.len];exact J
   rw[ij hr] at m;rw[ij J] at j;cases m;cases j;exact⟨rfl,rfl,rfl⟩
  ·right;rw[jo (λh=>e h.symm)] at m;rw[jo (λh=>e h.symm)] at j;exact⟨e,m,j⟩
 have f:P'.Av.length=P.Av.length:=by rw[o,jc]
 let g:Nat->Nat:=λb=>if b=gp then 0 else if tv.v.ownBlock=some b then 1 else if bv'.v.ownBlock=some b then 2 else if b∈Fh' then 3 else if F' b then 4+k else if b<w.heap.size/\∃i,i≠k/\i<P.Av.length/\Ft i b then lab b else 1000
 have K:∀b c,lab b=c->b<w.heap.size->c≠0->c≠1->c≠2->c≠3->c≠4+k->b≠gp/\¬tv.v.ownBlock=some b/\¬bv'.v.ownBlock=some b/\b∉Fh'/\¬F' b:=λb c e a c0 c1 c2 L M=>
  ⟨λd=>c0 (by rw[←e,d,l0]),λd=>c1 (by rw[←e,h.l1 b d]),λd=>(n2 b d).elim (λd=>c2 (by rw[←e,d])) (λ_=>Zo),λd=>(z b d).elim (λd=>L (by rw[←e,d])) (λh=>h.elim (λd=>M (by rw[←e,d])) (λ_=>Zo)),λd=>(A b d).elim (λd=>L (by rw[←e,d])) (λh=>h.elim (λd=>M (by rw[←e,d])) (λ_=>Zo))⟩
 have p:∀b,(lab b=2\/lab b=3\/lab b=4+k\/w.heap.size<=b)->b≠gp:=λb a e=>by
  rw[e,l0] at a;omega
 have q:∀b,(lab b=2\/lab b=3\/lab b=4+k\/w.heap.size<=b)->¬tv.v.ownBlock=some b:=λb a e=>by
  have:=C b e;rw[h.l1 b e] at a;omega
 have N:∀b,bv'.v.ownBlock=some b->(lab b=2\/lab b=3\/lab b=4+k\/w.heap.size<=b):=λb a=>(n2 b a).imp id λh=>db (db h)
 have O:∀b,b∈Fh'->(lab b=2\/lab b=3\/lab b=4+k\/w.heap.size<=b):=λb a=>db (z b a)
 have Q:∀b,F' b->(lab b=2\/lab b=3\/lab b=4+k\/w.heap.size<=b):=λb a=>db (A b a)
 refine⟨λi=>if i=k then F' else Ft i,g,⟨by rw[y];exact X,Y,Z,hp,?_,?_,?_,?_,?_,?_,?_,?_,by rw[f];exact Nt⟩,?_⟩
 ·rw[u,jc,f];exact h.len
 ·intro i r T m j;rcases hl i r T m j with⟨e,rfl,rfl⟩|⟨e,m,j⟩
  ·show mQ _ _ _ (if i=k then F' else Ft i);rw[ga e];exact th
  ·show mQ _ _ _ (if i=k then F' else Ft i);rw[fw e];have s:i<P.Av.length:=by
    rcases iw i P.Av.length with h|h
    ·exact h
    ·rw[ik h] at j;cases j
   exact(h.th i r T m j).AL λb a=>A5 i b e s a
 ·exact ga rfl
 ·intro b a;have:b≠gp:=λe=>by have:=h.l1 b a;rw[e,l0] at this;omega
  show(if _ then _ else _)=1;rw[fw this,ga a]
 ·intro b a;show(if _ then _ else _)=2;rw[fw (p b (N b a)),fw (q b (N b a)),ga a]
 ·intro b a;show(if _ then _ else _)=3;rw[fw (p b (O b a)),fw (q b (O b a)),fw (λe=>d23 b e a),ga a]
 ·intro i b s a;replace a:(if i=k then F' else Ft i) b:=a;rw[f] at s;by_cases e:i=k
  ·rw[ga e] at a;show(if _ then _ else _)=4+i;rw[fw (p b (Q b a)),fw (q b (Q b a)),fw (λe=>d24 b e a),fw (λe=>d34 b e a),ga a,e]
  ·rw[fw e] at a;have x:=h.l4 i b s a;have n:=h.dG s b a;obtain⟨D,E,F,G,H⟩:=K b (4+i) x n Zo Zo Zo Zo Zo;show(if _ then _ else _)=4+i;rw[fw D,fw E,fw F,fw G,fw H,ga ⟨n,i,e,s,a⟩];exact x
 ·intro b a;have I:=h.low b a;have n:b<w.heap.size:=Zo;obtain⟨D,E,F,G,H⟩:=K b (lab b) rfl n Zo Zo Zo Zo Zo;show 1000<=(if _ then _ else _);rw[fw D,fw E,fw F,fw G,fw H];split
  ·exact I
  ·exact Nat.le_refl _
 ·intro b a;replace a:(if _ then _ else _)<1000:=a;by_cases R:b=gp
  ·left;rw[R,l0];decide
  rw[fw R] at a;by_cases S:tv.v.ownBlock=some b
  ·left;rw[h.l1 b S];decide
  rw[fw S] at a;by_cases U:bv'.v.ownBlock=some b
  ·exact(n2 b U).imp (λe=>by rw[e];decide) id
  rw[fw U] at a;by_cases V:b∈Fh'
  ·exact(z b V).elim (λe=>fq (by rw[e];decide)) λh=>h.imp (λe=>by rw[e];omega) id
  rw[fw V] at a;by_cases W:F' b
  ·exact(A b W).elim (λe=>fq (by rw[e];decide)) λh=>h.imp (λe=>by rw[e];omega) id
  rw[fw W] at a;split at a
  ·exact fq a
  ·omega
end
def lC{w:World}{gh:Nat}{p:Pl}{F:List Nat}(h:NG w gh p F)(b:p.fault=false):Kp 20 #[.pointer (some ⟨gh,0,none⟩)] w λc w'=>c=.returned .nilIface/\w=w':=by
 obtain⟨e,g,i,d,h,_⟩:=h;have a:=h.dZ;rw[b] at a;have a:d=.nilIface:=a;have j:w.cell? ⟨gh,5,none⟩=some .nilIface:=by rw[←a];exact h.bk.cell 5
 clear h a;go_enter Tryz.func20,Tryz.ntmps20;go_wp2;go_ret;exact⟨rfl,rfl⟩
def fA(V:MV)(gv d:Nat)(E:Value)(w:World)(F:Nat->Prop)(O:V.Ac=0)(a:Bk w gv 126 ((G5 V).l (.pointer (some ⟨d,0,none⟩)) E).toArray)(h:Mo d E V.M V.Bl w F)(I:¬F gv)(ok:TR V.M)(hs:V.M.R.step=0):
  Kp 39 #[.pointer (some ⟨gv,0,none⟩)] w λen w'=>en=.returned .nilIface/\
   Bk w' gv 126 ((G5 V.scan).l (.pointer (some ⟨d,0,none⟩)) .nilIface).toArray/\CI (λb=>b=gv\/F b) w w'/\
   ∃F':Nat->Prop,Mo d .nilIface V.scan.M V.scan.Bl w' F'/\¬F' gv/\(∀b,F' b->b<w'.heap.size)/\∀b,F' b->F b\/w.heap.size<=b:=by
 have c:=NH (w:=w) (gv:=gv) (V:=V) (F:=λb=>b=gv\/F b) ⟨d,E,F,a,h,I,λ_=>j3⟩
 have u:V.busy=false:=by unfold MV.busy;rw[O];rfl
 rw[u] at c
 obtain⟨J,P,k⟩:=h.rite
 have HL:=eR h.lt
 have HB:=eR a
 have K:=eR P
 have aa:=a.lt
 obtain⟨st,eng,Ac,call,op,Bl,BR,M⟩:=V
 obtain rfl:Ac=0:=O
 clear a h P u
 go_enter Tryz.func39,Tryz.ntmps39
 go_wp2_with fail
 refine c.mono ?_
 rintro e G ⟨rfl,m⟩
 have x:=eR (HB.out.Af m)
 have r:=eR (K.out.same (w':=G) λb a=>m.block b (K.out.lt b a))
 have g:=eR m
 clear HB m c K
 go_wp2_with (first
  |(refine Y2 Zr _ _ _ Zr gv 22 _ Zr Zr _ _ ((⟨st,eng,0,call,.zero,BR⟩:Dp).l (.pointer (some ⟨d,0,none⟩)) E).toArray x.out (j6 Zk) Zk Zr Zk ?_;intro w4 i;have y:=i.bk.cell 26;have f26:=i.bk.free 26;simp[Dp.l,Xi.l,Yc.l,Xe.l,DI.l,AV.l] at y)
  |(have z:Hid (Bk (World.setCell _ ⟨gv,26,none⟩ .nilIface) gv 126 ((⟨st,eng,0,call,.zero,BR⟩:Dp).l (.pointer (some ⟨d,0,none⟩)) .nilIface).toArray):=eR (Y1 (i.bk.Ez 26 _) Zk);refine Y2 Zr _ _ _ Zr gv 27 _ Zr Zr _ _ ((⟨st,eng,0,call,.zero,⟨0,0⟩⟩:Dp).l (.pointer (some ⟨d,0,none⟩)) .nilIface).toArray z.out (j6 Zk) Zk Zr Zk ?_;intro B j))
 have H:G.grownBy B (some gv):=Em (Em i.grown (X2 w4 gv 26 _)) j.grown
 have ab:w.heap.size<=G.heap.size:=g.out.size
 have ad:G.heap.size<=B.heap.size:=H.size
 have p:Hid (Mo d .nilIface M none B (λb=>b∈J)):=eR
  ⟨rfl,J,r.out.same (λb a=>H.block b (r.out.lt b a) (by intro e;cases e;exact I (k _ a))),λb=>j3⟩
 have C:=eR j.bk
 have L:¬(λb=>b∈J) gv:=λh=>I (k _ h)
 have n:=eR H
 clear i j H y f26 z r x
 refine(Um ⟨st,eng,0,call,.zero,none,.zero,M⟩ 4 EI gv d .nilIface B _ C.out p.out L ok hs (by simp[QK,EI])).mono ?_
 rintro e N ⟨rfl,Q,S,T,U,n7,W,X⟩
 have q:=eR (fy Q (fy S (fy U (fy W X))))
 clear Q S U W X C p
 go_wp2_with fail
 refine(aI _ gv d _ N T q.out.1 q.out.2.2.1 n7 (db ⟨by show(4:Int)≠1;decide,by show(4:Int)≠2;decide⟩)).mono ?_
 rintro e w8 ⟨rfl,Y,Z,F8,r8,n8,l8,a8⟩
 have o:=eR (fy Y (fy Z (fy r8 (fy l8 a8))))
 clear Y Z r8 l8 a8
 go_wp2
 have ae:B.heap.size<=N.heap.size:=q.out.2.1.size
 have af:N.heap.size<=w8.heap.size:=o.out.2.1.size
 have f7:∀b,T b->F b\/w.heap.size<=b:=λb a=>by
  rcases q.out.2.2.2.2 b a with h|h
  ·exact fq (k b h)
  ·exact db Zo
 have f8:∀b,F8 b->F b\/w.heap.size<=b:=λb a=>by
  rcases o.out.2.2.2.2 b a with h|h
  ·exact f7 b h
  ·exact db Zo
 refine js (v:=.nilIface) (by first|exact results_none rfl _ _ _|simp[results,Tryz.results39,go_sem]|rfl) rfl ?_
 refine⟨rfl,o.out.1,⟨o.out.2.1.os.trans (q.out.2.1.os.trans (n.out.os.trans g.out.os)),o.out.2.1.tape.trans (q.out.2.1.tape.trans (n.out.tape.trans g.out.tape)),o.out.2.1.output.trans (q.out.2.1.output.trans (n.out.output.trans g.out.output)),Zo,λb a hn=>?_⟩,F8,o.out.2.2.1,n8,o.out.2.2.2.1,f8⟩
 have s:b≠gv:=λe=>hn (fq e)
 have D:¬F b:=λe=>hn (db e)
 refine(o.out.2.1.A5 b Zo λh=>?_).trans ((q.out.2.1.A5 b Zo λh=>?_).trans ((n.out.block b Zo (λe=>s (by cases e;rfl))).trans (g.out.block b a)))
 ·rcases h with h|h
  ·exact s h
  ·rcases f7 b h with h|h
   ·exact D h
   ·omega
 ·rcases h with h|h
  ·exact s h
  ·exact D (k b h)
