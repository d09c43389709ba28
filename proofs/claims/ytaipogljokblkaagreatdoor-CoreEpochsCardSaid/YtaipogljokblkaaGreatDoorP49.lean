/- Core: FdG, QI, QO, QP, FdH, FdI, FdJ, EcB. -/
import Derived.Test.YtaipogljokblkaaGreatDoorP48
set_option linter.all false
set_option maxRecDepth 100000
set_option maxHeartbeats 8000000
namespace Go.Proofs.YtaipogljokblkaaGreatDoor
open Go Go.RowKit
def NQ(W:KF)(l:List MT):Nat:=(l.map λT=>Gn W T.V+T.queue.length).sum
def tf(W:KF)(nt:Nat)(v:Vw)(g:EG)(T:MT):Nat:=Fz W nt v g T.V+(W.cf+3)*T.queue.length
structure K4(st:Int)(n nt e:Nat)(P:Aj)(g:EG):Prop where
 gi:GI st n nt (P.Ap.length+255) P
 hp:Ig st (Ys st) n nt (P.Ap.length+e) P.heap g
 te:∀(i:Nat) (T:MT),P.Av[i]?=some T->TE st (Ys st) nt P.heap g i T.V
 cn:(Ys st).cn (vw P.heap) g+NQ (Ys st) P.Av<=(Ys st).mx
 s5:1<=st/\st<=5
 n6:1<=nt/\nt<=6
 Q7:n<=255
 e9:e<=900000
section
variable{st:Int}{n nt t k e:Nat}{W:KF}{P:Aj}{T:MT}{g g':EG}{V:MV}{p:Pl}{o:AV}
def zN{l:List MT}(h:l[k]?=some T):Gn W T.V+T.queue.length<=NQ W l:=by
 induction l generalizing k with
 |nil=>cases h
 |cons a r b=>
  unfold NQ at b ⊢;rw[jj,ly];cases k with
  |zero=>injection h with h;rw[h];omega
  |succ k=>have:=b (k:=k) h;omega
def Tn{l:List MT}{T':MT}(h:l[k]?=some T):NQ W (l.set k T')+(Gn W T.V+T.queue.length)=NQ W l+(Gn W T'.V+T'.queue.length):=by
 induction l generalizing k with
 |nil=>cases h
 |cons a r b=>
  cases k with
  |zero=>
   injection h with h;subst h;unfold NQ;rw[List.set_cons_zero,jj,jj,ly,ly];omega
  |succ k=>
   have:=b (k:=k) h;unfold NQ at this ⊢;rw[List.set_cons_succ,jj,jj,ly,ly];omega
def LA{M:MR}(a:Ig st W n nt t p g)(h:Mx p g k M):M.ns.length<=n:=by
 have:=Iv n (M.ns.map (·.ref.sl)) h.nd λx b=>by
  obtain⟨m,c,rfl⟩:=j7.1 b;refine a.us _ (jk λq=>?_);have:=(a.eg.tok m.ref.sl).2 q;rw[(h.nt m c).1] at this;cases this
 rwa [List.length_map] at this
def xN(h:TE st W nt p g k V)(f:V.Ac=0)(i:1<=st/\st<=5)(j:N3 st o):TE st W nt p g k (V.GY o)/\(V.GY o).M.R.step≠0/\Fz W nt (vw p) g (V.GY o)=V.M.ns.length+(W.cf+3)/\Gn W (V.GY o)=1/\Fz W nt (vw p) g V=V.M.ns.length/\Gn W V=0:=by
 obtain⟨c,l,m⟩:=h;have d:V.M.R.step=0/\g.A k=none:=by
  rcases m with q|⟨_,q⟩
  ·exact⟨q.2.1,q.2.2⟩
  ·cases q with
   |vX o h|vY o w h|wk J h|rt J h|lv h|sc h=>omega
 have a:V.M.Ag Zj=⟨(V.M.R.A8 Zj).load 3 (root 24),V.M.ns,[],[]⟩:=by
  rw[TH V.M Zd Zd,show V.M.R.Aw Zj=(V.M.R.A8 Zj).enter from rfl];unfold Xd.enter;rw[show(V.M.R.A8 Zj).EU=true by show(V.M.R.Aa==4||V.M.R.Aa==5)=true;rw[c.en];rfl];rfl
 have e:V.GY o=MV.Ag {V with op:=o,Bl:=some (Xz.new V.st o),BR:=.zero} 1 Zj:=by
  show MV.advance _=_;refine MX (Lz ?_);show(V.M.Ag Zj).R.step≠0;rw[a];show(3:Int)≠0;decide
 have b:(MV.Ag {V with op:=o,Bl:=some (Xz.new V.st o),BR:=.zero} 1 Zj).M=V.M.Ag Zj:=rfl;rw[e];refine⟨⟨⟨c.st,?_,?_,?_⟩,?_,db ⟨?_,.vX o rfl ?_ ?_ d.2 ?_ j⟩⟩,?_,?_,?_,?_,?_⟩
 ·rw[b,a];exact c.en
 ·rw[b,a];exact c.me
 ·rw[b,a];exact c.th
 ·rw[b,a];exact l.new
 ·rw[b,a];show(3:Int)≠0;decide
 ·rw[b,a];rfl
 ·rw[b,a];rfl
 ·show some (Xz.new V.st o)=some (Xz.new st o);rw[c.st]
 ·rw[b,a];show(3:Int)≠0;decide
 ·unfold Fz;rw[b,a];rfl
 ·unfold Gn;rw[b,a];rfl
 ·unfold Fz;rw[f];rfl
 ·unfold Gn;rw[d.1,f];rfl
def K4.idx(h:K4 st n nt e P g)(a:P.Av[k]?=some T):k<nt/\k<P.Av.length:=by
 have b:=h.gi.z;rcases iw k P.Av.length with q|q
 ·omega
 ·rw[ik q] at a;cases a
def K4.pick(h:K4 st n nt e P g)(B:P.Av[k]?=some T)(F:Aj.CO T=false)(hb:P.Ap.length+255<=60000):
  ∃g' T',K4 st n nt e (P.BV k T).1 g'/\(P.BV k T).1.Av[k]?=some T'/\(∀i,i≠k->(P.BV k T).1.Av[i]?=P.Av[i]?)/\(P.BV k T).1.Ap.length=P.Ap.length+1/\
   tf (Ys st) nt (vw (P.BV k T).1.heap) g' T'+(Ys st).L.Cd (vw (P.BV k T).1.heap) g'+1<=tf (Ys st) nt (vw P.heap) g T+(Ys st).L.Cd (vw P.heap) g:=by
 have J:=NR h.s5.1 h.s5.2
 obtain⟨hk,y⟩:=h.idx B
 have O:=h.n6
 have hn:=h.Q7
 obtain⟨_,_,Z,_⟩:=dB h.gi B F hb Zo
 obtain⟨v1,v2,_,_⟩:=h.gi.v k T B
 have Q:=h.te k T B
 have hr:TE st (Ys st) nt P.heap g k (Aj.ready T).V/\(Aj.ready T).V.M.R.step≠0/\tf (Ys st) nt (vw P.heap) g (Aj.ready T)<=tf (Ys st) nt (vw P.heap) g T/\Gn (Ys st) (Aj.ready T).V+(Aj.ready T).queue.length<=Gn (Ys st) T.V+T.queue.length:=by
  unfold Aj.ready;unfold Aj.CO at F;cases c:T.V.busy with
  |true=>
   refine⟨Q,λe=>?_,Nat.le_refl _,Nat.le_refl _⟩;have K:T.V.Ac≠0:=λe=>by unfold MV.busy at c;rw[e] at c;cases c
   rcases Q.s with q|q
   ·exact K q.1
   ·exact q.1 e
  |false=>
   have K:T.V.Ac=0:=by unfold MV.busy at c;simpa using c
   rw[c] at F;cases f:T.queue with
   |nil=>rw[f] at F;cases F
   |cons o r=>
    obtain⟨q1,q2,q3,q4,q5,q6⟩:=xN (o:=o) Q K h.s5 (v2 o (by rw[f];exact g6 ..));refine⟨q1,q2,?_,?_⟩
    ·unfold tf;show Fz (Ys st) nt (vw P.heap) g (T.V.GY o)+((Ys st).cf+3)*r.length<=Fz (Ys st) nt (vw P.heap) g T.V+((Ys st).cf+3)*T.queue.length;rw[q3,q5,f,jb,Nat.mul_succ];omega
    ·show Gn (Ys st) (T.V.GY o)+r.length<=Gn (Ys st) T.V+(o::r).length;rw[q4,jb];omega
 obtain⟨r1,r2,r3,r4⟩:=hr
 have ab:=zN (W:=Ys st) B
 have ad:=h.cn
 have ae:=h.e9
 obtain⟨g',r⟩:=xL J O hk h.hp Zo Zo r1 r2
 have e1:((Aj.ready T).V.step P.heap).1=MV.advance {(Aj.ready T).V with M:=(Aj.ready T).V.M.Ah (P.heap.act (Aj.ready T).V.M.R.AH).2}:=rfl
 have N:(P.BV k T).1.heap=(P.heap.act (Aj.ready T).V.M.R.AH).1:=rfl
 have z:(P.BV k T).1.Av=P.Av.set k {Aj.ready T with V:=((Aj.ready T).V.step P.heap).1,last:=P.Ap.length}:=rfl
 have G:(P.BV k T).1.Ap.length=P.Ap.length+1:=by
  unfold Aj.BV;simp only[iu,jb,mr];cases((Aj.ready T).V.step P.heap).2.2.real==1&&decide (0<=T.last)<;>simp
 have j:(P.BV k T).1.Av[k]?=some {Aj.ready T with V:=((Aj.ready T).V.step P.heap).1,last:=P.Ap.length}:=by rw[z,ij y]
 have f:=(Z.v k _ j).1.quiet
 have f:((Aj.ready T).V.step P.heap).1.quiet=true:=f
 rw[e1] at f
 obtain⟨C,A⟩:∃C:MV,C={(Aj.ready T).V with M:=(Aj.ready T).V.M.Ah (P.heap.act (Aj.ready T).V.M.R.AH).2}:=⟨_,rfl⟩
 obtain⟨w,m⟩:∃w:MT,w={Aj.ready T with V:=((Aj.ready T).V.step P.heap).1,last:=P.Ap.length}:=⟨_,rfl⟩
 have u:w.V=((Aj.ready T).V.step P.heap).1:=by rw[m]
 have H:w.queue=(Aj.ready T).queue:=by rw[m]
 have z:(P.BV k T).1.Av=P.Av.set k w:=by rw[m];exact z
 have j:(P.BV k T).1.Av[k]?=some w:=by rw[m];exact j
 have aa:(Ys st).cn (vw (P.heap.act (Aj.ready T).V.M.R.AH).1) g'+Gn (Ys st) C<=(Ys st).cn (vw P.heap) g+Gn (Ys st) (Aj.ready T).V:=by rw[A];exact r.lk
 have af:Fz (Ys st) nt (vw (P.heap.act (Aj.ready T).V.M.R.AH).1) g' C+(Ys st).L.Cd (vw (P.heap.act (Aj.ready T).V.M.R.AH).1) g'+1<=Fz (Ys st) nt (vw P.heap) g (Aj.ready T).V+(Ys st).L.Cd (vw P.heap) g:=by rw[A];exact r.tm
 have x:(Ys st).cn (vw (P.heap.act (Aj.ready T).V.M.R.AH).1) g'<=(Ys st).mx:=Zo
 have I:TE st (Ys st) nt (P.heap.act (Aj.ready T).V.M.R.AH).1 g' k ((Aj.ready T).V.step P.heap).1/\Fz (Ys st) nt (vw (P.heap.act (Aj.ready T).V.M.R.AH).1) g' ((Aj.ready T).V.step P.heap).1<=Fz (Ys st) nt (vw (P.heap.act (Aj.ready T).V.M.R.AH).1) g' C/\Gn (Ys st) ((Aj.ready T).V.step P.heap).1<=Gn (Ys st) C:=by
  rw[A];rw[e1];rcases r.s with q|q|q
  ·obtain⟨D,_,S,U⟩:=Ot J O.2 r.hp Zo x (b:=_) (l:=_) ⟨fq q,Nat.le_refl _,Nat.le_refl _⟩ f;exact⟨D,S,U⟩
  ·obtain⟨D,_,S,U⟩:=Ot J O.2 r.hp Zo x (b:=_) (l:=_) ⟨db q,Nat.le_refl _,Nat.le_refl _⟩ f;exact⟨D,S,U⟩
  ·obtain⟨D,a2⟩:=Oq q;refine⟨a2,?_,?_⟩
   ·rw[D];have h0:=q.h0;have K:=q.d;unfold Fz;simp only;exact Nat.add_le_add_left (ie _) _
   ·rw[D];have h0:=q.h0;unfold Gn;simp only;rw[show((Aj.ready T).V.M.Ah (P.heap.act (Aj.ready T).V.M.R.AH).2).R.step=0 from h0];simp
 obtain⟨f1,f2,f3⟩:=I
 refine⟨g',w,⟨?_,?_,λi X a=>?_,?_,h.s5,h.n6,h.Q7,h.e9⟩,j,λi Y=>by rw[z,jo (Ne.symm Y)],G,?_⟩
 ·refine Z.down Zo λi X a=>?_;rw[z] at a;by_cases E:i=k
  ·subst E;rw[ij y] at a;injection a with a;subst a;have:=LA r.hp f1.n;rw[u];omega
  ·rw[jo (Ne.symm E)] at a;have:=LA h.hp (h.te i X a).n;omega
 ·rw[G,N,show P.Ap.length+1+e=P.Ap.length+e+1 by omega];exact r.hp
 ·rw[N];rw[z] at a;by_cases E:i=k
  ·subst E;rw[ij y] at a;injection a with a;subst a;rw[u];exact f1
  ·rw[jo (Ne.symm E)] at a;obtain⟨i6,_⟩:=h.idx a;exact(h.te i X a).K' J r.ev E Zo Zo
 ·rw[N,z];have:=Tn (W:=Ys st) (T':=w) B;rw[u,H] at this;omega
 ·rw[N];unfold tf at r3 ⊢;rw[u,H];omega
end
def DK.K1{w w':World}{d gh:Nat}{P:Aj}{e bv:B5}{f:List E6}{Fh:List Nat}{g:Nat->Nat->Prop}{lab:Nat->Nat}(h:DK w d gh P e bv f Fh g lab)(c:∀b,lab b<1000->b<w.heap.size->w'.heap[b]?=w.heap[b]?):DK w' d gh P e bv f Fh g lab:=by
 have m:=h.Nt;refine⟨h.bk.same (c d (by rw[h.l0];decide) h.bk.lt),h.KH.kept λb a=>c b (by rw[h.l1 b a];decide) (h.KH.lt a),h.KE.kept λb a=>c b (by rw[h.l2 b a];decide) (h.KE.lt a),h.hp.same λb a=>c b (by rw[h.l3 b a];decide) (h.hp.lt b a),h.len,λi r T l j=>?_,h.l0,h.l1,h.l2,h.l3,h.l4,h.low,h.Nt⟩;have k:=Zg j;exact(h.th i r T l j).AL λb a=>c b (by rw[h.l4 i b k a];omega) (h.dG k b a)
def Tc{w:World}{E gh:Nat}{P:Aj}{M bv:B5}{N:List E6}{Fh:List Nat}{O:Nat->Nat->Prop}{lab:Nat->Nat}(h:DK w E gh P M bv N Fh O lab)(I:AT w){k:Nat}{T:MT}(Q:P.Av[k]?=some T)(hi:Aj.CO T=true):
  Kp 17 #[.pointer (some ⟨E,0,none⟩),.int .i64 (k:Int)] w λen w'=>(∃u q,en=.returned (.tuple #[.agg Yr.zero.l.toArray,.iface u (.pointer (some q))]))/\wB w E gh P lab w':=by
 have hk:k<P.Av.length:=Zg Q
 have y:P.has (k:Int)=true:=by unfold Aj.has;simp;omega
 have j:Below w.heap.size w (w.alloc (.cells Yr.zero.l.toArray 42)):=(fx _ _).alloc (Nat.le_refl _) _
 have F:=eR (h.cut.below j)
 have R:=eR (I.below j)
 have S:=eR (Bk.at_ (w:=w) (g:=w.heap.size) (cs:=Yr.zero.l.toArray) (t:=42) rfl)
 have J:=eR j
 have aa:=I.lt
 have L:=Ku F.out (k:Int)
 rw[y] at L
 have o:=Pf F.out Q
 rw[hi] at o
 clear h I j
 go_enter Tryz.func17,Tryz.ntmps17
 go_upto_region 6 with(first|(go_at_call 24;refine L.mono ?_;rintro e G ⟨rfl,rfl⟩)|(go_at_call 26;refine o.mono ?_;rintro e G ⟨rfl,p⟩))
 have c:=p.trans ((fx G.heap.size G).drew.mono p.size)
 have z:=eR (F.out.below c)
 have B:=eR (R.out.below c)
 have r:=eR (S.out.Af c)
 have a:=eR (J.out.trans (c.mono J.out.size))
 clear F R S J p c L o
 obtain⟨u,q,s⟩:=B.out.state
 refine Yh (λX=>X.cell? ⟨4,0,none⟩=some (.iface u (.pointer (some q)))) 3 Zk s (λU=>?_)
 generalize G.drew=W1 at*
 ((try simp only[ZL]);refine vT (fuel:=2) U [0,1] ?_;simp only[Yb,Xv,fs];(repeat go_big_quiet_step ((intro ab;go_simp;first|done|rfl|exact⟨rfl,rfl⟩)));refine gw ?_;(try dsimp only))
 (refine Xn 2 Zk (λK C=>?_);simp only[Xv,fs])
 go_wp2_with (refine vM r.out ?_;intro W d;have i:=eR d.bk;have m:=eR d.grown;clear d)
 have n:W.cell? ⟨4,0,none⟩=some (.iface u (.pointer (some q))):=(Gg (m.out.block 4 (by have:=a.out.size;omega) (λe=>by injection e with e;omega)) 0).trans s
 refine C.out _ _ (λ_=>n) ?_
 clear C U s n
 ((refine Xn 3 Zk (λK C=>?_);simp only[Xv,fs]);go_wp2_with fail;refine C.out _ _ (λh=>absurd h Zo) ?_;clear C)
 refine Yk Zk ?_ _
 have HD:Hid (wB w E gh P lab W):=eR (by
  have ad:w.heap.size<W1.heap.size:=r.out.lt;refine⟨M,bv,N,Fh,O,_,z.out.K1 λx D hl=>m.out.block x hl λe=>?_,⟨m.out.os.trans a.out.os,m.out.tape.trans a.out.tape,m.out.output.trans a.out.output,gb a.out.size m.out.size,λx D _=>(m.out.block x Zo λe=>by cases e;omega).trans (a.out.block x D)⟩,λb H=>?_⟩
  ·cases e;have D:(if w.heap.size<w.heap.size then lab w.heap.size else 1000)<1000:=D;rw[fw Zo] at D;omega
  ·have H:(if b<w.heap.size then lab b else 1000)<1000:=H;split at H
   ·exact fq H
   ·omega)
 have Y:=i.out.cell 0;have Z:=i.out.cell 1;have z2:=i.out.cell 2;have z3:=i.out.cell 3;have z4:=i.out.cell 4;have z5:=i.out.cell 5;have z6:=i.out.cell 6;have z7:=i.out.cell 7;have z8:=i.out.cell 8;have z9:=i.out.cell 9
 simp at Y Z z2 z3 z4 z5 z6 z7 z8 z9
 clear i m z B r a
 go_wp2_with fail
 refine js (v:=.tuple #[.agg Yr.zero.l.toArray,.iface u (.pointer (some q))]) (by simp[results,Tryz.results17,go_sem,Yr.l,AV.l,DI.l,Yr.zero,AV.zero,DI.zero,Y,Z,z2,z3,z4,z5,z6,z7,z8,z9]) rfl ?_
 exact⟨⟨u,q,rfl⟩,HD.out⟩
def La:Prop:=∀{w:World} {gp gh:Nat} {P:Aj} {a bv:B5} {b:List E6} {c:List Nat} {d:Nat->Nat->Prop} {lab:Nat->Nat} (_:DK w gp gh P a bv b c d lab) (_:AT w) {k:Nat} {T:MT} (_:P.Av[k]?=some T) (_:Aj.CO T=false)
  (_:T.V.busy=false->∀o r,T.queue=o::r->Hh T.V.st o/\TR T.V.M/\T.V.M.R.step=0/\Qi (MV.Ag {T.V with op:=o,Bl:=some (Xz.new T.V.st o),BR:=.zero} 1 Zj)) (_:WN (Aj.ready T).V P.heap) (_:-1<=T.last) (_:T.last<(P.Ap.length:Int)) (_:P.Ap.length<=100000),
  Kp 17 #[.pointer (some ⟨gp,0,none⟩),.int .i64 (k:Int)] w λe w'=>e=.returned (.tuple #[.agg (P.BV k T).2.l.toArray,.nilIface])/\wB w gp gh (P.BV k T).1 lab w'
structure PW(w0 w:World)(gp gh:Nat)(st:Int)(n nt t:Nat)(P:Aj):Prop where
 p:∃tv bv ro Fh Ft lab,DK w gp gh P tv bv ro Fh Ft lab/\∀b,lab b<1000->w0.heap.size<=b
 g:GI st n nt t P
 e:AT w
 b:Below w0.heap.size w0 w
 z:7<=w0.heap.size
section
variable{w0 w w':World}{gp gh:Nat}{st:Int}{n nt t k:Nat}{P P':Aj}{T:MT}{lab:Nat->Nat}
def PW.next(h:PW w0 w gp gh st n nt t P)(i:∀b,lab b<1000->w0.heap.size<=b)(m:wB w gp gh P' lab w'){j:Nat}(o:GI st n nt j P'):PW w0 w' gp gh st n nt j P':=by
 obtain⟨p,bv,q,r,s,c,u,a,d⟩:=m;have x:=h.b.size;have f:=h.z;have l:∀b,b<w0.heap.size->w'.heap[b]?=w.heap[b]?:=λb g=>a.A5 b Zo λv=>by have:=i b v;omega
 exact ⟨⟨p,bv,q,r,s,c,u,fun b g=>(d b g).elim (i b) fun y=>Zo⟩,o,h.e.low (fun b g=>l b Zo) (by have:=a.size;omega),
  h.b.trans ⟨a.os,a.tape,a.output,a.size,l⟩,f⟩
def PW.below(h:PW w0 w gp gh st n nt t P)(a:Below w.heap.size w w'):PW w0 w' gp gh st n nt t P:=by
 obtain⟨c,bv,d,f,i,lab,j,l⟩:=h.p;exact⟨⟨c,bv,d,f,i,lab,j.below a,l⟩,h.g,h.e.below a,h.b.trans (a.mono h.b.size),h.z⟩
def PW.Av(h:PW w0 w gp gh st n nt t P)(a:k<nt):∃T,P.Av[k]?=some T:=⟨_,gl (by rw[h.g.z];exact a)⟩
def PW.idle(h:PW w0 w gp gh st n nt t P)(a:P.Av[k]?=some T):Kp 26 #[.pointer (some ⟨gp,0,none⟩),.int .i64 (k:Int)] w λb w'=>b=.returned (.bool (Aj.CO T))/\PW w0 w' gp gh st n nt t P:=by
 obtain⟨g,bv,i,j,l,lab,c,m⟩:=h.p;refine(Pf c a).mono ?_;rintro e o ⟨rfl,d⟩;exact⟨rfl,h.below d⟩
def PW.pick(i:La)(h:PW w0 w gp gh st n nt t P)(a:P.Av[k]?=some T)(c:Aj.CO T=false)(j:t<=60000)(m:n<=1024):
  Kp 17 #[.pointer (some ⟨gp,0,none⟩),.int .i64 (k:Int)] w λo w'=>o=.returned (.tuple #[.agg (P.BV k T).2.l.toArray,.nilIface])/\PW w0 w' gp gh st n nt (t+12) (P.BV k T).1:=by
 obtain⟨z,bv,A,B,C,lab,q,r⟩:=h.p
 obtain⟨s,u,x,_⟩:=dB h.g a c j m
 have d:=h.g.v k T a
 have D:=h.g.b
 refine(i q h.e a c s u d.2.2.1 d.2.2.2 Zo).mono ?_
 rintro e E ⟨rfl,y⟩
 exact⟨rfl,h.next r y x⟩
def PW.rM(h:PW w0 w gp gh st n nt t P)(a:P.Av[k]?=some T)(b:Aj.CO T=true):
  Kp 17 #[.pointer (some ⟨gp,0,none⟩),.int .i64 (k:Int)] w λc w'=>(∃d q,c=.returned (.tuple #[.agg Yr.zero.l.toArray,.iface d (.pointer (some q))]))/\PW w0 w' gp gh st n nt t P:=by
 obtain⟨r,bv,s,u,v,lab,i,j⟩:=h.p
 refine(Tc i h.e a b).mono ?_
 rintro e x ⟨m,o⟩
 exact⟨m,h.next j o h.g⟩
end
namespace Aj
def Kg:∀(j:Nat) (P:Aj) (k:Nat),runT (j+1) P k=runT 1 (runT j P k) k
 |0,P,k=>rfl
 |j+1,P,k=>by
  cases b:P.Av[k]? with
  |none=>
   have a:P.idle k=true:=by unfold idle;rw[b]
   rw[E8 a,E8 a,E8 a]
  |some T=>
   cases a:CO T with
   |true=>
    have a:P.idle k=true:=by unfold idle;rw[b];exact a
    rw[E8 a,E8 a,E8 a]
   |false=>
    rw[Kh b a,Kh b a];exact Kg j _ k
def M6{P:Aj}{k j:Nat}(h:(runT j P k).idle k=true):∀d,runT (j+d) P k=runT j P k
 |0=>rfl
 |d+1=>by
  show runT (j+d+1) P k=_;rw[Kg,M6 h d];exact E8 h 1
def Vf{P:Aj}{k:Nat}{T:MT}(a:P.Av[k]?=some T)(h:CO T=false):runT 1 P k=(P.BV k T).1:=Kh a h 0
end Aj
def GI.up{st:Int}{n nt t a:Nat}{P:Aj}(h:GI st n nt t P)(c:t<=a):GI st n nt a P:=
 ⟨h.s,h.z,h.h,gb h.b c,λi T d=>⟨(h.v i T d).1.up c,(h.v i T d).2⟩⟩
def PW.up{a w:World}{c gh:Nat}{st:Int}{n nt t d:Nat}{P:Aj}(h:PW a w c gh st n nt t P)(f:t<=d):PW a w c gh st n nt d P:=⟨h.p,h.g.up f,h.e,h.b,h.z⟩
def qQ(H:La){q w:World}{p gh:Nat}{st:Int}{n nt t:Nat}{P:Aj}(m:Nat)(h:PW q w p gh st n nt t P)(Y:m<60000)(s:∀k,k<nt->(Aj.AI m P (k+1)).idle k=true)(Z:t+12*(m*nt)<=60000)(I:n<=1024)(h6:nt<=6):
  Kp 10 #[.pointer (some ⟨p,0,none⟩),.int .i64 (nt:Int)] w λJ w'=>J=.returned (.bool true)/\PW q w' p gh st n nt (t+12*(m*nt)) (Aj.AI m P nt):=by
 have G:=eR h
 have K:=eR s
 clear h s
 go_enter Tryz.func10,Tryz.ntmps10
 go_wp2_with fail
 go_loopw [5] (λi wr=>∃k:Nat,k<=nt/\i=.int .i64 k/\Hid (PW q wr p gh st n nt (t+12*(m*k)) (Aj.AI m P k))) (λi _=>nt-(intOf i).toNat)
 case atStart=>exact⟨0,ie _,rfl,eR G.out⟩
 case round=>
  obtain⟨k,hk,rfl,L⟩:=hrel
  by_cases d:k<nt
  ·have u:(k:Int)<(nt:Int):=Zo;go_wp2_with fail;go_loopw [6] (λi N=>∃j:Nat,j<=m/\i=.int .i64 j/\Hid (PW q N p gh st n nt (t+12*(m*k)+12*j) (Aj.runT j (Aj.AI m P k) k))) (λi _=>m-(intOf i).toNat);case atStart=>exact⟨0,ie _,rfl,eR L.out⟩
   case round=>
    obtain⟨j,hj,rfl,M⟩:=hrel;have O:(j:Int)<60000:=Zo;have Q:m*k+m<=m*nt:=by
     have:=Nat.mul_le_mul_left m (show k+1<=nt from d);rwa [Nat.mul_succ] at this
    obtain⟨T,o⟩:=M.out.Av d;have a:=M.out.idle o;go_wp2_with fail;refine a.mono ?_;rintro e w1 ⟨rfl,v⟩;cases x:Aj.CO T with
    |true=>
     have b:(Aj.runT j (Aj.AI m P k) k).idle k=true:=by unfold Aj.idle;rw[o];exact x
     have y:Aj.AI m P (k+1)=Aj.runT j (Aj.AI m P k) k:=by
      show Aj.runT m (Aj.AI m P k) k=_;have:=Aj.M6 b (m-j);rwa [show j+(m-j)=m from Zo] at this
     have c:=v.idle o;rw[x] at c;have R:=eR v;clear v a o M L G;go_wp2_with fail;refine c.mono ?_;rintro e r ⟨rfl,z⟩;have D:Hid (PW q r p gh st n nt (t+12*(m*(k+1))) (Aj.AI m P (k+1))):=eR (by rw[y,Nat.mul_succ];exact z.up Zo);clear z c R y b;go_wp2_with fail;exact⟨⟨k+1,d,by go_num,D⟩,by simp[intOf];omega⟩
    |false=>
     have E:j<m:=by
      rcases iw j m with h|h
      ·exact h
      ·have S:j=m:=Zo;subst S;have:=K.out k d;unfold Aj.idle at this;rw[show Aj.AI j P (k+1)=Aj.runT j (Aj.AI j P k) k from rfl,o] at this;simp only at this;rw[x] at this;cases this
     have C:=v.pick H o x Zo I;have y:Aj.runT (j+1) (Aj.AI m P k) k=((Aj.runT j (Aj.AI m P k) k).BV k T).1:=by rw[Aj.Kg,Aj.Vf o x]
     rw[←y] at C;clear v a o y;generalize((Aj.runT j (Aj.AI m P k) k).BV k T).2=B at C;go_wp2_with fail;refine C.mono ?_;rintro e r ⟨rfl,z⟩;have U:=(fx r.heap.size r).alloc (Nat.le_refl _) (.cells Yr.zero.l.toArray 42);have V:=eR (Bk.at_ (w:=r) (g:=r.heap.size) (cs:=Yr.zero.l.toArray) (t:=42) rfl);have D:=eR z;clear z C;go_wp2_with (refine vM V.out ?_;intro W b;have X:Hid (PW q W p gh st n nt (t+12*(m*k)+12*(j+1)) (Aj.runT (j+1) (Aj.AI m P k) k)):=eR ((D.out.below (b.below U (Nat.le_refl _))).up Zo);clear b);exact⟨⟨j+1,E,by go_num,X⟩,by simp[intOf];omega⟩
  ·have F:k=nt:=Zo;subst F;have u:¬(k:Int)<(k:Int):=Zo;go_wp2_with fail;go_ret;exact⟨rfl,L.out⟩
def vV(st:Int)(nt:Nat)(P:Aj)(g:EG)(T:MT):Nat:=tf (Ys st) nt (vw P.heap) g T+(Ys st).L.Cd (vw P.heap) g
def SL(W:KF)(l:List MT):Nat:=(l.map λT=>267+W.cb+(W.cf+3)*T.queue.length).sum
section
variable{st:Int}{n nt t k e m:Nat}{W:KF}{P:Aj}{T:MT}{g g':EG}{V:MV}{p:Pl}{o:AV}
def VX(a:P.Av[k]?=some T):P.idle k=Aj.CO T:=by unfold Aj.idle;rw[a]
def K4.runs(j:Nat):∀{P:Aj} {g:EG} {T:MT},K4 st n nt e P g->P.Av[k]?=some T->P.Ap.length+vV st nt P g T+255<=60000->
  ∃g' T',K4 st n nt e (Aj.runT j P k) g'/\(Aj.runT j P k).Av[k]?=some T'/\(∀i,i≠k->(Aj.runT j P k).Av[i]?=P.Av[i]?)/\(Aj.runT j P k).Ap.length+vV st nt (Aj.runT j P k) g' T'<=P.Ap.length+vV st nt P g T/\(Aj.CO T'=true\/vV st nt (Aj.runT j P k) g' T'+j<=vV st nt P g T):=by
 induction j with
 |zero=>intro P g T h b d;exact⟨g,T,h,b,λ_ _=>rfl,Nat.le_refl _,db (Nat.le_refl _)⟩
 |succ j f=>
  intro P g T h b d
  cases a:Aj.CO T with
  |true=>
   rw[Aj.E8 (by rw[VX b];exact a)]
   exact⟨g,T,h,b,λ_ _=>rfl,Nat.le_refl _,fq a⟩
  |false=>
   rw[Aj.Kh b a]
   obtain⟨l,r,s,u,v,A,c⟩:=h.pick b a Zo
   have c:vV st nt (P.BV k T).1 l r+1<=vV st nt P g T:=c
   obtain⟨g',T',w,x,y,B,z⟩:=f s u Zo
   exact⟨g',T',w,x,λi a=>(y i a).trans (v i a),Zo,z.imp id λq=>Zo⟩
def vh(f:I9 st W)(A:nt<=6)(u:Ig st W n nt t p g)(B:n<=255)(c:W.cn (vw p) g<=W.mx)(h:TE st W nt p g k V):Fz W nt (vw p) g V<=267+W.cb:=by
 have C:=LA u h.n;have v:=f.sm.2.2;have x:N9 nt V.M<=nt+3:=by
  unfold N9;repeat' first|with_reducible refine Ho ?_ ?_|omega
 rcases h.s with⟨i,_⟩|⟨i,h⟩
 ·unfold Fz;rw[ga i];omega
 ·cases h with
  |vX o a b|vY o w a b=>unfold Fz;rw[a,b];simp;omega
  |wk J a j r l q y z=>
   have d:V.M.R.step≠0/\V.M.R.step<11:=by
    rcases y with⟨_,h,_⟩|⟨_,h,_⟩|⟨_,h,_⟩|⟨_,h,_⟩|⟨_,h,_⟩|⟨_,h,_⟩|⟨_,h,_⟩<;>rw[h]<;>decide
   have:=f.bd q c;rw[(tt a j d).1];omega
  |rt J a j r l q b=>
   have:=f.bd q c;rw[(sN a j b.zb.1).1];omega
  |lv a b=>unfold Fz;rw[a,b];simp;omega
  |sc a r b=>
   unfold Fz;rw[a];simp[i];omega
def K4.len(h:K4 st n nt e P g)(l:Int)(a:Zn st l):(g.LL l).length<=255:=by
 have:=Iv n (g.LL l) (h.hp.eg.nd l a) λs b=>by
  refine h.hp.us _ (jk λq=>?_);have:=(h.hp.eg.tok s).2 q;rw[(h.hp.eg.pb l a s b).1] at this;cases this
 have:=h.Q7;omega
def K4.Cd(h:K4 st n nt e P g):(Ys st).L.Cd (vw P.heap) g<=(Ys st).cp:=(NR h.s5.1 h.s5.2).pb (by have:=h.cn;omega) h.len
def yE{l:List MT}{q:Nat}(b:l.length<=6)(c:NQ W l<=q):SL W l<=6*(267+W.cb)+q*(W.cf+3):=by
 have:∀l:List MT,SL W l<=l.length*(267+W.cb)+NQ W l*(W.cf+3):=λl=>by
  induction l with
  |nil=>exact ie _
  |cons a r d=>
   unfold SL NQ at d ⊢;rw[jj,jj,ly,ly,jb];generalize W.cf+3=x at*;generalize 267+W.cb=y at*;generalize(List.map (λT=>Gn W T.V+T.queue.length) r).sum=s at*;have f:(Gn W a.V+a.queue.length+s)*x=Gn W a.V*x+a.queue.length*x+s*x:=by rw[lx,lx]
   have h:x*a.queue.length=a.queue.length*x:=Nat.mul_comm _ _;have i:(r.length+1)*y=r.length*y+y:=Nat.succ_mul _ _;generalize Gn W a.V*x=z at*;omega
 have j:=this l;have u:l.length*(267+W.cb)<=6*(267+W.cb):=nv _ b;have v:NQ W l*(W.cf+3)<=q*(W.cf+3):=nv _ c;omega
def K4.rest(h:K4 st n nt e P g)(M:P.Ap.length<=3000):∀k,k<=nt->∃g',K4 st n nt e (Aj.AI 59999 P k) g'/\(∀i,i<k->(Aj.AI 59999 P k).idle i=true)/\(∀i,k<=i->(Aj.AI 59999 P k).Av[i]?=P.Av[i]?)/\
  (Aj.AI 59999 P k).Ap.length+(Ys st).L.Cd (vw (Aj.AI 59999 P k).heap) g'+SL (Ys st) (P.Av.drop k)<=59000/\∀i,i<k->∀j,j<=59999->GI st n nt 60000 (Aj.runT j (Aj.AI 59999 P i) i):=by
 have s:=NR h.s5.1 h.s5.2
 intro k
 induction k with
 |zero=>
  intro _
  have N:=yE (W:=Ys st) (l:=P.Av) (q:=(Ys st).mx) (by have:=h.gi.z;have:=h.n6.2;omega) (by have:=h.cn;omega)
  have O:=h.Cd
  have Q:=s.sm.1
  refine⟨g,h,λi b=>Zo,λ_ _=>rfl,?_,λi b=>Zo⟩
  show P.Ap.length+(Ys st).L.Cd (vw P.heap) g+SL (Ys st) P.Av<=59000
  omega
 |succ k A=>
  intro R
  obtain⟨B,c,C,u,S,D⟩:=A Zo
  have a:k<P.Av.length:=by have:=h.gi.z;omega
  have f:=gl a
  have v:(Aj.AI 59999 P k).Av[k]?=some P.Av[k]:=(u k (Nat.le_refl k)).trans f
  have E:=vh s h.n6.2 c.hp h.Q7 (by have:=c.cn;omega) (c.te k _ v)
  have WY:P.Av.drop k=P.Av[k]::P.Av.drop (k+1):=(List.drop_eq_getElem_cons a)
  have F:SL (Ys st) (P.Av.drop k)=267+(Ys st).cb+((Ys st).cf+3)*P.Av[k].queue.length+SL (Ys st) (P.Av.drop (k+1)):=by
   rw[WY];unfold SL;rw[jj,ly]
  have w:(Aj.AI 59999 P k).Ap.length+vV st nt (Aj.AI 59999 P k) B P.Av[k]+SL (Ys st) (P.Av.drop (k+1))<=59000:=by
   unfold vV tf;omega
  have run:=λj=>K4.runs (k:=k) j c v Zo
  obtain⟨g',x,G,H,y,U,I⟩:=run 59999
  have r:Aj.CO x=true:=I.resolve_right λq=>Zo
  refine⟨g',G,λi b=>?_,λi b=>(y i Zo).trans (u i Zo),?_,λi b j J=>?_⟩
  ·by_cases d:i=k
   ·subst d;show(Aj.runT 59999 (Aj.AI 59999 P i) i).idle i=true;rw[VX H];exact r
   ·have:=C i Zo;show(Aj.runT 59999 (Aj.AI 59999 P k) k).idle i=true;unfold Aj.idle at this ⊢;rw[y i d];exact this
  ·show(Aj.runT 59999 (Aj.AI 59999 P k) k).Ap.length+(Ys st).L.Cd (vw (Aj.runT 59999 (Aj.AI 59999 P k) k).heap) g'+_<=_;have:(Ys st).L.Cd (vw (Aj.runT 59999 (Aj.AI 59999 P k) k).heap) g'<=vV st nt (Aj.runT 59999 (Aj.AI 59999 P k) k) g' x:=Nat.le_add_left ..;omega
  ·by_cases d:i=k
   ·subst d;obtain⟨X,Y,K,Z,s3,s4,s5⟩:=run j;exact K.gi.up Zo
   ·exact D i Zo j J
end
def Aj.QP(P:Aj)(k:Nat)(T:MT):Aj:={P with heap:=(T.V.step P.heap).2.1,Av:=P.Av.set k {T with V:=(T.V.step P.heap).1}}
structure ScP(st:Int)(n nt k:Nat)(c D:Int)(e:Nat)(P:Aj)(g:EG)(T:MT):Prop where
 p:K4 st n nt e P g
 A:∀j,g.A j=none
 t:P.Av[k]?=some T
 s:SQ c D P.heap T.V.M
 d:(T.V.Ac=4/\T.V.M.R.step≠0)\/(T.V.Ac=0/\T.V.M.R.step=0)
section
variable{st:Int}{n nt t k e m:Nat}{c D:Int}{W:KF}{P:Aj}{T:MT}{g g':EG}{V V':MV}{p:Pl}{o:AV}
def K4.Qw(h:K4 st n nt e P g)(q:P.Av[k]?=some T){p':Pl}{g':EG}{V':MV}{e':Nat}(u:VI st n (P.Ap.length+255) V')(w:HI st n p')(x:Ig st (Ys st) n nt (P.Ap.length+e') p' g')(y:e'<=900000)(r:TE st (Ys st) nt p' g' k V')(A:∀(i:Nat) (T:MT),i≠k->P.Av[i]?=some T->TE st (Ys st) nt p' g' i T.V)
  (B:(Ys st).cn (vw p') g'+Gn (Ys st) V'<=(Ys st).cn (vw P.heap) g+Gn (Ys st) T.V):K4 st n nt e' {P with heap:=p',Av:=P.Av.set k {T with V:=V'}} g':=by
 obtain⟨J,j⟩:=h.idx q
 have d:=h.gi
 refine⟨⟨d.s,by show(P.Av.set k _).length=nt;rw[jc];exact d.z,w,d.b,λi l a=>?_⟩,x,λi l a=>?_,?_,h.s5,h.n6,h.Q7,y⟩
 ·have a:(P.Av.set k {T with V:=V'})[i]?=some l:=a;by_cases f:i=k
  ·subst f;rw[ij j] at a;injection a with a;subst a;obtain⟨K,C,E,F⟩:=d.v i T q;exact⟨u,C,E,F⟩
  ·rw[jo (Ne.symm f)] at a;exact d.v i l a
 ·have a:(P.Av.set k {T with V:=V'})[i]?=some l:=a;by_cases f:i=k
  ·subst f;rw[ij j] at a;injection a with a;subst a;exact r
  ·rw[jo (Ne.symm f)] at a;exact A i l f a
 ·have G:=Tn (W:=Ys st) (T':={T with V:=V'}) q;have M:=h.cn;show(Ys st).cn (vw p') g'+NQ (Ys st) (P.Av.set k {T with V:=V'})<=_;have H:(MT.V {T with V:=V'})=V':=rfl;have I:(MT.queue {T with V:=V'})=T.queue:=rfl;rw[H,I] at G;omega
def VI.dn(h:VI st n t V){u:Nat}(a:V.M.ns.length<=u):VI st n u V:=⟨h.cB,⟨h.base.Q9,h.base.Q8,h.base.QY,h.base.Ua,h.base.eng,a,h.base.Pz,h.base.sl,h.base.OQ⟩,h.at_⟩
def pZ(h:K4 st n nt e P g)(x:P.Av[k]?=some T)(H:T.V.Ac=0)(F:∀j,g.A j=none):ScP st n nt k (P.heap.board 24).nm (P.heap.board 24).nm e {P with Av:=P.Av.set k {T with V:=T.V.scan}} g {T with V:=T.V.scan}/\Fz (Ys st) nt (vw P.heap) g T.V.scan<=264/\T.V.scan.Ac=4/\(∀m∈T.V.scan.M.ns,m∈T.V.M.ns):=by
 obtain⟨U,y⟩:=h.idx x;obtain⟨u,z,I⟩:=h.te k T x;obtain⟨K,_⟩:=h.gi.v k T x;have G:=LA h.hp z;have L:=h.n6;have B:=h.Q7;have N:T.V.M.R.step=0:=by
  rcases I with q|⟨_,q⟩
  ·exact q.2.1
  ·cases q with
   |vX o h|vY o w h|wk J h|rt J h|lv h|sc h=>omega
 have l:T.V.M.Ag EI=⟨(T.V.M.R.A8 EI).load 12 (root 24),T.V.M.ns,[],[]⟩:=by
  show MR.scan ⟨T.V.M.R.A8 EI,T.V.M.ns,[],[]⟩=_;unfold MR.scan;have:Xd.scan (T.V.M.R.A8 EI)=(T.V.M.R.A8 EI).load 12 (root 24):=by
   unfold Xd.scan;rw[show(T.V.M.R.A8 EI).Aa=4 from u.en];rfl
  show MR.wrap ⟨T.V.M.R.A8 EI,T.V.M.ns,[],[]⟩ (Xd.scan (T.V.M.R.A8 EI))=_;rw[this];rfl
 have d:T.V.scan=MV.Ag {T.V with op:=.zero,Bl:=none,BR:=.zero} 4 EI:=by
  show MV.advance _=_;refine MX (Lz ?_);show(T.V.M.Ag EI).R.step≠0;rw[l];show(12:Int)≠0;decide
 have r:(MV.Ag {T.V with op:=.zero,Bl:=none,BR:=.zero} 4 EI).M=T.V.M.Ag EI:=rfl;have a:T.V.scan.M.R.step=12:=by rw[d,r,l];rfl
 have b:T.V.scan.Ac=4:=by rw[d];rfl
 have f:T.V.scan.M.ns=T.V.M.ns:=by rw[d,r,l]
 have C:TE st (Ys st) nt P.heap g k T.V.scan:=by
  refine⟨⟨?_,?_,?_,?_⟩,?_,db ⟨by rw[a];decide,.sc b (F k) ?_⟩⟩
  ·rw[d];exact u.st
  ·rw[d,r,l];exact u.en
  ·rw[d,r,l];exact u.me
  ·rw[d,r,l];exact u.th
  ·rw[d,r,l];exact z.new
  ·rw[d,r,l];exact .qD rfl rfl rfl
 have E:Gn (Ys st) T.V.scan=0:=by unfold Gn;rw[a,b];rfl
 have O:=h.Qw x (p':=P.heap) (g':=g) (V':=T.V.scan) (e':=e) ((yC K H).dn (by rw[f];omega)) h.gi.h h.hp h.e9 C (λi Q _ S=>h.te i Q S) (by rw[E];omega);refine⟨⟨O,F,ij y,⟨λm s=>?_,fq ⟨a,rfl⟩⟩,fq ⟨b,by show T.V.scan.M.R.step≠0;rw[a];decide⟩⟩,?_,b,λm s=>by rw[f] at s;exact s⟩
 ·have s:m∈T.V.scan.M.ns:=s;rw[f] at s;exact(z.nt m s).2.2.2
 ·unfold Fz;rw[b,a,f];simp[N9,a];omega
def pX(h:ScP st n nt k c D e P g T)(hd:T.V.Ac=4)(he:e+1<=900000)(hb:P.Ap.length<=60000):WN T.V P.heap/\∃g' T',ScP st n nt k c D (e+1) (P.QP k T) g' T'/\T'={T with V:=(T.V.step P.heap).1}/\(∀m∈T'.V.M.ns,m∈T.V.M.ns)/\(T'.V.Ac=4->Fz (Ys st) nt (vw (P.QP k T).heap) g' T'.V+1<=Fz (Ys st) nt (vw P.heap) g T.V):=by
 obtain⟨d,hA,H,K,L⟩:=h;have hW:=NR d.s5.1 d.s5.2;obtain⟨hk,N⟩:=d.idx H;obtain⟨f,hn,O⟩:=d.te k T H;obtain⟨v1,_⟩:=d.gi.v k T H;have h6:=d.n6;have Q:=d.Q7;have l:T.V.M.R.step≠0:=(L.resolve_right λq=>Zo).2;have B:T.V.Ac≠0:=Zo;have S:=cO v1 B d.gi.h Zo Zo;have U:mF nt P.heap g T.V.M:=by
  cases(O.resolve_left λq=>l q.2.1).2 with
  |vX o h|vY o w h|wk J h|rt J h|lv h=>omega
  |sc _ _ K=>exact K
 refine⟨S,?_⟩;obtain⟨g',r⟩:=SJ hW h6 hk d.hp Zo hn f.en f.th U;obtain⟨d1,d2,d3,d4⟩:=r.hd;have y:∀j,g'.A j=none:=λj=>by rw[r.ak];exact hA j
 have hq:=r.q hA c D K;obtain⟨v2,v3,_⟩:=cL v1 B d.gi.h;have e1:(T.V.step P.heap).1=MV.advance {T.V with M:=T.V.M.Ah (P.heap.act T.V.M.R.AH).2}:=rfl;have e2:(T.V.step P.heap).2.1=(P.heap.act T.V.M.R.AH).1:=rfl;obtain⟨b,u⟩:∃b:MV,b={T.V with M:=T.V.M.Ah (P.heap.act T.V.M.R.AH).2}:=⟨_,rfl⟩;have x:b.Ac=4:=by rw[u];exact hd
 have a:b.M=T.V.M.Ah (P.heap.act T.V.M.R.AH).2:=by rw[u]
 have C:rv st nt k b:=by rw[u];exact⟨f.st,d1.trans f.en,d2.trans f.me,d3.trans f.th⟩
 have E:∀m∈b.M.ns,m∈T.V.M.ns:=by rw[a];exact r.sub
 have F:∃V',(T.V.step P.heap).1=V'/\V'.M=b.M/\TE st (Ys st) nt (P.heap.act T.V.M.R.AH).1 g' k V'/\((V'.Ac=4/\V'.M.R.step≠0)\/(V'.Ac=0/\V'.M.R.step=0))/\Gn (Ys st) V'=0:=by
  rcases r.sc with⟨X,_⟩|s
  ·obtain⟨Y,a2⟩:=Oq (V:=b) ⟨C,by rw[a];exact r.no,db x,by rw[a];exact X,y k⟩;refine⟨b.advance,by rw[e1,u],by rw[Y],a2,db ?_,?_⟩
   ·rw[Y];exact⟨rfl,by show b.M.R.step=0;rw[a];exact X⟩
   ·rw[Y];unfold Gn;rw[show(MV.M {b with Ac:=0}).R.step=0 by show b.M.R.step=0;rw[a];exact X];rfl
  ·have qD:=s.zb;have z:b.M.R.step≠0:=by rw[a];omega
   refine⟨b,by rw[e1,←u];exact MX (Lz z),rfl,⟨C,by rw[a];exact r.no,db ⟨z,.sc x (y k) (by rw[a];exact s)⟩⟩,fq ⟨x,z⟩,?_⟩;unfold Gn;rw[fw z,x];rfl
 obtain⟨V',I,Z,m3,m4,m5⟩:=F;have af:=LA r.hp m3.n;have aa:VI st n (P.Ap.length+255) V':=by rw[←I];exact v2.dn (by rw[I];omega)
 have ab:HI st n (P.heap.act T.V.M.R.AH).1:=v3;have ad:=d.Qw H (p':=(P.heap.act T.V.M.R.AH).1) (g':=g') (V':=V') (e':=e+1) aa ab r.hp he m3 (fun i T2 ae G=>by
  obtain⟨i6,_⟩:=d.idx G;exact(d.te i T2 G).K' hW r.ev ae Zo Zo) (by rw[m5,r.cn];omega)
 have e3:P.QP k T={P with heap:=(P.heap.act T.V.M.R.AH).1,Av:=P.Av.set k {T with V:=V'}}:=by
  unfold Aj.QP;rw[I,e2]
 rw[e3];refine⟨g',{T with V:=V'},⟨ad,y,ij N,by show SQ c D _ V'.M;rw[Z,a];exact hq,m4⟩,by rw[I],by show ∀m∈V'.M.ns,_;rw[Z];exact E,λh4=>?_⟩;have h4:V'.Ac=4:=h4;have z:V'.M.R.step≠0:=(m4.resolve_right λq=>Zo).2;have ag:=r.le;have t4:∀(V:MV) v g,V.Ac=4->V.M.R.step≠0->Fz (Ys st) nt v g V=V.M.ns.length+N9 nt V.M:=λV v g h h'=>by
  unfold Fz;rw[h];simp[h']
 show Fz (Ys st) nt _ g' V'+1<=_;rw[t4 V' _ _ h4 z,t4 T.V _ _ hd l,Z,a];omega
def pY(h:ScP st n nt k c D e P g T)(b:T.V.Ac≠4):T.V.Ac=0/\(P.heap.board 24).nm=c+1/\(∀m∈T.V.M.ns,m.AF<=D/\c+1<m.AF+2):=by
 obtain⟨f,l⟩:=h.d.resolve_left λq=>b q.1;obtain⟨i,j⟩:=h.s;have:(P.heap.board 24).nm=c+1/\∀m∈T.V.M.ns,c+1<m.AF+2:=by
  rcases j with q|q|q|q|q|q
  ·omega
  ·omega
  ·omega
  ·omega
  ·omega
  ·exact q.2
 exact⟨f,this.1,λm a=>⟨i m a,this.2 m a⟩⟩
end
def g0(L:List Int):EG:=⟨λs=>if s∈L then .DJ else .free,λl=>if l=0 then L else[],λl s=>l=0/\s∈L,λ_=>none,λ_ _ _=>False,λ_=>0,λ_ _=>none⟩
section
variable{st:Int}{n nt t k e m:Nat}{W:KF}{P:Aj}{T:MT}{g g':EG}{V:MV}{p:Pl}{o:AV}{L:List Int}
def yg(j:∀s,(p.slot s).used=true↔s∈L)(u:L.Nodup)(v:∀s∈L,s≠0)(w:Ic (vw p) 2 ((vw p).root (Lu st 0)) L)(d:∀l,Zn st l->l≠0->((vw p).root (Lu st l)).sl=0):AA st (vw p) (g0 L):=by
 have f:∀s,(g0 L).own s=if s∈L then Tq.DJ else .free:=λ_=>rfl;have c:∀l,(g0 L).LL l=if l=0 then L else[]:=λ_=>rfl;refine⟨λs=>?_,λl i=>?_,λl i=>?_,λl i s b=>?_,λl s b=>?_,λk a h=>(by cases h),λk h=>absurd rfl h,λk h=>absurd rfl h⟩
 ·rw[f];by_cases q:s∈L
  ·rw[ga q];exact⟨λh=>(by cases h),λh=>absurd ((j s).2 q) h⟩
  ·rw[fw q];exact⟨λ_ h=>q ((j s).1 h),λ_=>rfl⟩
 ·rw[c];by_cases q:l=0
  ·rw[ga q,q];exact w
  ·rw[fw q];exact d l i q
 ·rw[c];split
  ·exact u
  ·exact List.nodup_nil
 ·rw[c] at b;by_cases q:l=0
  ·rw[ga q] at b;rw[f,ga b];exact⟨rfl,q,b⟩
  ·rw[fw q] at b;cases b
 ·obtain⟨x,r⟩:=b;rw[f,ga r];refine⟨?_,v s r,by simp,λk=>by simp⟩;rw[x];exact⟨hJ 0,by unfold xh;split<;>decide⟩
def mM(a:HB n p)(j:p.fault=false)(l:∀s,(p.slot s).used=true↔s∈L)(u:∀s∈L,1<=s/\s<=(n:Int))(v:∀s f,((p.slot s).cell f).tg=0)(c:p.board 24=Y6 1)(d:∀k:Nat,(p.board (79+k)).mark=false)(w:AA st (vw p) (g0 L))(y:W.L.si (vw p) (g0 L)):Ig st W n nt 0 p (g0 L):=by
 refine⟨w,y,⟨by rw[c];exact⟨rfl,rfl,rfl,hJ 0⟩,λk b h=>(by cases h),λk _ _=>d k,λk _ b h=>(by cases h)⟩,j,λk b h=>(by cases h),λs q=>u s ((l s).1 q),λx i=>⟨(a.Wh x i).1,(a.Wh x i).2,a.lA x i⟩,a.mN,⟨λr=>?_,λs f=>by show 0<=((p.slot s).cell f).tg/\((p.slot s).cell f).tg<=_;rw[v];exact⟨hJ 0,hJ 0⟩⟩,by rw[c];exact hJ 0⟩;show 0<=(if 0<=r/\r<24 then p.board r else Xe.zero).tg/\(if 0<=r/\r<24 then p.board r else Xe.zero).tg<=_;split
 ·rw[(a.bd r).2];exact⟨hJ 0,hJ 0⟩
 ·exact⟨hJ 0,hJ 0⟩
def VT(h:1<=n):∃(l:List Int) (m:Int),(Pl.begun n).act Pl.A1=({(Pl.begun n).BJ with free:=l,slot:=Ar (Pl.begun n).slot m ⟨1,true,Ar (λ_=>.zero) 9 (Y6 0)⟩,made:=wr ((Pl.begun n).made+1)},⟨⟨m,1,0,0,false⟩,true⟩)/\1<=m/\m<=(n:Int):=by
 obtain⟨l,m,a⟩:=He n h;have b:HB n (Pl.begun n):=(HB.fresh n).stored 24 Cy rfl;have:=b.Wh m (by rw[a];simp);exact⟨l,m,vH (p:=Pl.begun n) a,this.1,this.2⟩
def Rs{m:Int}:(∀s f,((Ar (Pl.begun n).slot m ⟨1,true,Ar (λ_=>.zero) 9 (Y6 0)⟩ s).cell f).tg=0)/\(∀s,(Ar (Pl.begun n).slot m ⟨1,true,Ar (λ_=>.zero) 9 (Y6 0)⟩ s).used=true↔s∈[m])/\(∀f,f<9->(Ar (Pl.begun n).slot m ⟨1,true,Ar (λ_=>.zero) 9 (Y6 0)⟩ m).cell f=.zero)/\(Ar (Pl.begun n).slot m ⟨1,true,Ar (λ_=>.zero) 9 (Y6 0)⟩ m).AB=1:=by
 refine⟨λs f=>?_,λs=>?_,λf a=>?_,?_⟩
 ·rw[X9];split
  ·show(Ar (λ_=>Xe.zero) 9 (Y6 0) f).tg=0;rw[X9];split<;>rfl
  ·rfl
 ·rw[X9];split
  ·rename_i e;simp[e]
  ·rename_i e;simp only[ft];exact⟨λh=>(by cases h),λh=>absurd h e⟩
 ·rw[AP];show Ar (λ_=>Xe.zero) 9 (Y6 0) f=_;rw[X9,fw Zo]
 ·rw[AP]
def zU(s1:1<=st)(s5:st<=5)(a:st=2\/st=4->1<=n):∃g,Ig st (Ys st) n nt 0 (Pl.laid st n) g/\(∀j,g.A j=none)/\(Ys st).cn (vw (Pl.laid st n)) g+64<=(Ys st).mx:=by
 obtain⟨F,_⟩:=dS st n a;have C:∀r,r≠24->(Pl.begun n).board r=.zero:=λr Z=>by
  show Ar (λ_=>Xe.zero) 24 (Y6 1) r=_;rw[X9,fw Z]
 have z:(Pl.begun n).board 24=Y6 1:=rfl;by_cases S:st=2
 ·subst S;obtain⟨l,m,ha,H,I⟩:=VT (a (fq rfl));obtain⟨J,K,M,N⟩:=@Rs n m;have e:Pl.laid 2 n=(((Pl.begun n).act Pl.A1).1.stored 0 (Yx ((Pl.begun n).act Pl.A1).2.word)).stored 1 (Yx ((Pl.begun n).act Pl.A1).2.word):=rfl;rw[ha] at e;have v:(Pl.laid 2 n).board=Ar (Ar (Pl.begun n).board 0 ⟨m,1,0,0,false⟩) 1 ⟨m,1,0,0,false⟩:=by rw[e];rfl
  have w:(Pl.laid 2 n).slot=Ar (Pl.begun n).slot m ⟨1,true,Ar (λ_=>.zero) 9 (Y6 0)⟩:=by rw[e];rfl
  have O:(Pl.laid 2 n).fault=false:=by rw[e];rfl
  generalize Pl.laid 2 n=p at*;have r0:(vw p).root 0=⟨m,1,0,0,false⟩:=by show p.board 0=_;rw[v,X9,fw Zd,X9,ga rfl]
  have U:(vw p).root 1=⟨m,1,0,0,false⟩:=by show p.board 1=_;rw[v,X9,ga rfl]
  have u:∀s,(p.slot s).used=true↔s∈[m]:=λs=>by rw[w];exact K s
  have c:(vw p).Rf ⟨m,1,0,0,false⟩:=⟨by show m≠0;omega,(u m).2 Zs,by show 1=(p.slot m).AB;rw[w];exact N.symm⟩;have Q:(vw p).cell m 2=.zero:=by show(p.slot m).cell 2=_;rw[w];exact M 2 Zd
  have D:AA 2 (vw p) (g0 [m]):=yg u Zs (fun s a=>by rw [ft.1 a];omega) (by
   show Ic (vw p) 2 ((vw p).root 0) [m];rw[r0];exact⟨rfl,c,by rw[Q];rfl⟩) λl x h=>absurd (by have:=x.1;have:=x.2;have:l<1:=x.2;omega) h
  have d:En.si (vw p) (g0 [m]):=by
   refine⟨?_,?_,λs a _=>a.2⟩
   ·rw[U];show m∈[m];simp
   ·rw[U];exact c.2.2
  refine⟨g0 [m],mM F O u (λs a=>by rw[ft.1 a];exact⟨H,I⟩) (λs f=>by rw[w];exact J s f) ?_ (λk=>?_) D d,λ_=>rfl,Nat.le_refl 64⟩
  ·rw[v,X9,fw Zd,X9,fw Zd];exact z
  ·rw[v,X9,fw Zo,X9,fw Zo,C _ Zo];rfl
 ·by_cases X:st=4
  ·subst X;obtain⟨l,m,ha,H,I⟩:=VT (a (db rfl));obtain⟨J,K,M,N⟩:=@Rs n m;have e:Pl.laid 4 n=(((Pl.begun n).act Pl.A1).1.stored 8 (Yx ((Pl.begun n).act Pl.A1).2.word)).stored 16 (Y6 1):=rfl;rw[ha] at e;have v:(Pl.laid 4 n).board=Ar (Ar (Pl.begun n).board 8 ⟨m,1,0,0,false⟩) 16 (Y6 1):=by rw[e];rfl
   have w:(Pl.laid 4 n).slot=Ar (Pl.begun n).slot m ⟨1,true,Ar (λ_=>.zero) 9 (Y6 0)⟩:=by rw[e];rfl
   have O:(Pl.laid 4 n).fault=false:=by rw[e];rfl
   generalize Pl.laid 4 n=p at*;have G:(vw p).root 8=⟨m,1,0,0,false⟩:=by show p.board 8=_;rw[v,X9,fw Zd,X9,ga rfl]
   have B:∀r,8<r->r<16->(vw p).root r=.zero:=λr h1 h2=>by
    show(if 0<=r/\r<24 then p.board r else .zero)=_;rw[ga ⟨Zo,Zo⟩,v,X9,fw Zo,X9,fw Zo,C _ Zo]
   have u:∀s,(p.slot s).used=true↔s∈[m]:=λs=>by rw[w];exact K s
   have c:(vw p).Rf ⟨m,1,0,0,false⟩:=⟨by show m≠0;omega,(u m).2 Zs,by show 1=(p.slot m).AB;rw[w];exact N.symm⟩;have y:∀f,f<9->(vw p).cell m f=.zero:=λf hf=>by show(p.slot m).cell f=_;rw[w];exact M f hf
   have D:AA 4 (vw p) (g0 [m]):=yg u Zs (fun s a=>by rw [ft.1 a];omega) (by
    show Ic (vw p) 2 ((vw p).root 8) [m];rw[G];exact⟨rfl,c,by rw[y 2 Zd];rfl⟩) λl x h=>absurd (by have:=x.1;have:l<1:=x.2;omega) h
   have d:(Zp 4).si (vw p) (g0 [m]):=by
    refine⟨⟨λl x=>?_,λl s a=>?_⟩,?_,λ_=>⟨λb b0 b8 Y=>?_,?_,λs a _=>?_⟩⟩
    ·have:l=0:=by have:=x.1;have:l<1:=x.2;omega
     subst this;show([m]:List Int).Pairwise _;simp
    ·right;rw[a.1];exact a.2
    ·show((vw p).root 8).mark=false;rw[G]
    ·by_cases q:b=0
     ·subst q;rw[show(8:Int)+0=8 from rfl,G];exact⟨by show m∈[m];simp,c.2.2,by show((vw p).cell m 0).nm=_;rw[y 0 Zd];rfl⟩
     ·rw[B (8+b) Zo Zo] at Y;exact absurd rfl Y
    ·rw[G];show m≠0;omega
    ·rw[ft.1 a.2,y 2 Zd];rfl
   refine⟨g0 [m],mM F O u (λs a=>by rw[ft.1 a];exact⟨H,I⟩) (λs f=>by rw[w];exact J s f) ?_ (λk=>?_) D d,λ_=>rfl,?_⟩
   ·rw[v,X9,fw Zd,X9,fw Zd];exact z
   ·rw[v,X9,fw Zo,X9,fw Zo,C _ Zo];rfl
   ·show([m]:List Int).length+Qp (vw p) [m]+64<=72;have:Qp (vw p) [m]=7:=by
     unfold Qp;simp only[List.all_cons,List.all_nil,Bool.and_true];rw[y 0 Zd];decide
    rw[this];simp
  ·have e:Pl.laid st n=Pl.begun n:=by unfold Pl.laid;rw[show(st==2)=false by simp[S],show(st==4)=false by simp[X]];rfl
   rw[e] at F ⊢;have u:∀s,((Pl.begun n).slot s).used=true↔s∈([]:List Int):=λs=>⟨λh=>(by cases h),λh=>(by cases h)⟩;have B:∀r,(vw (Pl.begun n)).root r=.zero:=λr=>by
    show(if 0<=r/\r<24 then(Pl.begun n).board r else .zero)=_;split
    ·exact C r Zo
    ·rfl
   have D:AA st (vw (Pl.begun n)) (g0 []):=yg u List.nodup_nil (λs a=>by cases a) (by show((vw (Pl.begun n)).root _).sl=0;rw[B];rfl) λl _ _=>by rw[B];rfl
   have R:=λ(d:(Ys st).L.si (vw (Pl.begun n)) (g0 []))=>mM (W:=Ys st) (nt:=nt) F rfl u (λs a=>by cases a) (λs f=>rfl) z (λk=>by rw[C _ Zo];rfl) D d;have E:∀l,(g0 []).LL l=[]:=λl=>by show(if l=0 then[] else[])=_;split<;>rfl
   have:st=1\/st=3\/st=5:=Zo;rcases this with rfl|rfl|rfl
   ·exact⟨g0 [],R trivial,λ_=>rfl,Nat.le_refl 64⟩
   ·refine⟨g0 [],R ⟨⟨λl _=>by rw[E];exact List.Pairwise.nil,λl s a=>by cases a.2⟩,?_,λq=>absurd q Zd⟩,λ_=>rfl,Nat.le_refl 64⟩;rw[B];rfl
   ·exact⟨g0 [],R ⟨⟨λl _=>by rw[E];exact List.Pairwise.nil,λl s a=>by cases a.2⟩,λl _=>by rw[B];rfl,λs a=>(by cases a.2),λl s _ a=>(by cases a.2),λl s a=>(by cases a.2),λs i j q=>(by cases q),λs _ a=>by cases a.2⟩,λ_=>rfl,Nat.le_refl 64⟩
def tR{most:Int}(s1:1<=st)(q:st<=5)(s:st=2\/st=4->1<=n)(t0:1<=nt)(t1:nt<=6)(w:n<=255):∃g,K4 st n nt 0 (Aj.fresh st 4 most nt n nt) g/\(Ys st).cn (vw (Aj.fresh st 4 most nt n nt).heap) g+64<=(Ys st).mx/\NQ (Ys st) (Aj.fresh st 4 most nt n nt).Av=0:=by
 obtain⟨g,x,y,z⟩:=zU (nt:=nt) s1 q s;have f:=(Pp (most:=most) s (db rfl) t0 t1).up (ie (0+255));have c:NQ (Ys st) (Aj.fresh st 4 most nt n nt).Av=0:=by
  unfold Aj.fresh;simp only;generalize List.range nt=l;induction l with
  |nil=>rfl
  |cons a r u=>
   unfold NQ at u ⊢;rw[jj,jj,ly,u];rfl
 refine⟨g,⟨f,x,λi T b=>?_,by rw[c];show(Ys st).cn (vw (Pl.laid st n)) g+0<=_;omega,⟨s1,q⟩,⟨t0,t1⟩,w,Zd⟩,z,c⟩;unfold Aj.fresh at b;simp only at b;rw[kf] at b;cases h:(List.range nt)[i]? with
 |none=>rw[h] at b;cases b
 |some j=>
  rw[h] at b;injection b with b;subst b;have A:i=j:=by
   have:=List.getElem?_eq_some_iff.1 h;obtain⟨D,v⟩:=this;rw[pz] at v;exact v
  subst A;exact⟨⟨rfl,rfl,rfl,rfl⟩,⟨λm B=>(by cases B),List.nodup_nil,qd _,λd C=>by cases C⟩,fq ⟨rfl,rfl,y i⟩⟩
def K4.put(h:K4 st n nt e P g)(x:Fn.De)(q:N3 st (Ns x.op))(v:(Ys st).cn (vw P.heap) g+NQ (Ys st) P.Av+1<=(Ys st).mx):K4 st n nt e (P.put x) g/\(P.put x).heap=P.heap/\NQ (Ys st) (P.put x).Av<=NQ (Ys st) P.Av+1/\(P.put x).Ap=P.Ap:=by
 have b:=h.gi.put x q;revert b;unfold Aj.put;cases c:P.Av[x.AW.toNat]? with
 |none=>exact λ_=>⟨h,rfl,lw _,rfl⟩
 |some T=>
  show GI st n nt (P.Ap.length+255) (P.queue x.AW.toNat T (Ns x.op))->K4 st n nt e (P.queue x.AW.toNat T (Ns x.op)) g/\(P.queue x.AW.toNat T (Ns x.op)).heap=P.heap/\NQ (Ys st) (P.queue x.AW.toNat T (Ns x.op)).Av<=NQ (Ys st) P.Av+1/\(P.queue x.AW.toNat T (Ns x.op)).Ap=P.Ap;intro b;obtain⟨w,d⟩:=h.idx c;have r:=Tn (W:=Ys st) (T':={T with queue:=T.queue++[Ns x.op],BK:=T.BK+1}) c;have s:(MT.V {T with queue:=T.queue++[Ns x.op],BK:=T.BK+1})=T.V:=rfl;have u:(MT.queue {T with queue:=T.queue++[Ns x.op],BK:=T.BK+1}).length=T.queue.length+1:=by show(T.queue++[Ns x.op]).length=_;simp
  rw[s,u] at r;have f:NQ (Ys st) (P.queue x.AW.toNat T (Ns x.op)).Av<=NQ (Ys st) P.Av+1:=by
   show NQ (Ys st) (P.Av.set x.AW.toNat {T with queue:=T.queue++[Ns x.op],BK:=T.BK+1})<=_;omega
  refine⟨⟨b,h.hp,λi j a=>?_,by show(Ys st).cn (vw P.heap) g+_<=_;omega,h.s5,h.n6,h.Q7,h.e9⟩,rfl,f,rfl⟩;have a:(P.Av.set x.AW.toNat {T with queue:=T.queue++[Ns x.op],BK:=T.BK+1})[i]?=some j:=a;by_cases l:i=x.AW.toNat
  ·subst l;rw[ij d] at a;injection a with a;subst a;exact h.te _ T c
  ·rw[jo (Ne.symm l)] at a;exact h.te i j a
def K4.fill:∀(l:List Fn.De) (P:Aj),K4 st n nt e P g->(∀x∈l,N3 st (Ns x.op))->(Ys st).cn (vw P.heap) g+NQ (Ys st) P.Av+l.length<=(Ys st).mx->K4 st n nt e (P.fill l) g
 |[],_,h,_,_=>h
 |x::l,P,h,a,b=>by
  rw[jb] at b;obtain⟨c,d,i,_⟩:=h.put x (a x (g6 ..)) Zo;exact K4.fill l (P.put x) c (λy f=>a y (gq _ f)) (by rw[d];omega)
end
def jC(O:La){s w:World}{q gh:Nat}{st:Int}{n nt t:Nat}{P:Aj}(m:Nat)(h:PW s w q gh st n nt t P)(hm:m<60000)(x:∀k,k<nt->(Aj.AI m P (k+1)).idle k=true)(ht:t<=60000)(Q:n<=1024)(h6:nt<=6)(R:∀k j,k<nt->j<=m->GI st n nt t (Aj.runT j (Aj.AI m P k) k)):
  Kp 10 #[.pointer (some ⟨q,0,none⟩),.int .i64 (nt:Int)] w λI w'=>I=.returned (.bool true)/\PW s w' q gh st n nt t (Aj.AI m P nt):=by
 have N:=eR h
 have S:=eR x
 clear h x
 go_enter Tryz.func10,Tryz.ntmps10
 go_wp2_with fail
 go_loopw [5] (λi wr=>∃k:Nat,k<=nt/\i=.int .i64 k/\Hid (PW s wr q gh st n nt t (Aj.AI m P k))) (λi _=>nt-(intOf i).toNat)
 case atStart=>exact⟨0,ie _,rfl,eR N.out⟩
 case round=>
  obtain⟨k,hk,rfl,L⟩:=hrel
  by_cases o:k<nt
  ·have y:(k:Int)<(nt:Int):=Zo;go_wp2_with fail;go_loopw [6] (λi U=>∃j:Nat,j<=m/\i=.int .i64 j/\Hid (PW s U q gh st n nt t (Aj.runT j (Aj.AI m P k) k))) (λi _=>m-(intOf i).toNat);case atStart=>exact⟨0,ie _,rfl,eR L.out⟩
   case round=>
    obtain⟨j,hj,rfl,M⟩:=hrel;have V:(j:Int)<60000:=Zo;obtain⟨T,r⟩:=M.out.Av o;have a:=M.out.idle r;go_wp2_with fail;refine a.mono ?_;rintro e w1 ⟨rfl,C⟩;cases D:Aj.CO T with
    |true=>
     have c:(Aj.runT j (Aj.AI m P k) k).idle k=true:=by unfold Aj.idle;rw[r];exact D
     have E:Aj.AI m P (k+1)=Aj.runT j (Aj.AI m P k) k:=by
      show Aj.runT m (Aj.AI m P k) k=_;have:=Aj.M6 c (m-j);rwa [show j+(m-j)=m from Zo] at this
     have d:=C.idle r;rw[D] at d;have W:=eR C;clear C a r M L N;go_wp2_with fail;refine d.mono ?_;rintro e u ⟨rfl,F⟩;have J:Hid (PW s u q gh st n nt t (Aj.AI m P (k+1))):=eR (by rw[E];exact F);clear F d W E c;go_wp2_with fail;exact⟨⟨k+1,o,by go_num,J⟩,by simp[intOf];omega⟩
    |false=>
     have G:j<m:=by
      rcases iw j m with h|h
      ·exact h
      ·have X:j=m:=Zo;subst X;have:=S.out k o;unfold Aj.idle at this;rw[show Aj.AI j P (k+1)=Aj.runT j (Aj.AI j P k) k from rfl,r] at this;simp only at this;rw[D] at this;cases this
     have v:=C.pick O r D Zo Q;have H:=R k (j+1) o G;have E:Aj.runT (j+1) (Aj.AI m P k) k=((Aj.runT j (Aj.AI m P k) k).BV k T).1:=by rw[Aj.Kg,Aj.Vf r D]
     rw[←E] at v;have v:=v.mono (λI w' (h:_/\_)=>(⟨h.1,⟨h.2.p,H,h.2.e,h.2.b,h.2.z⟩⟩:I=_/\PW s w' q gh st n nt t (Aj.runT (j+1) (Aj.AI m P k) k)));clear H;clear C a r E;generalize((Aj.runT j (Aj.AI m P k) k).BV k T).2=B at v;go_wp2_with fail;refine v.mono ?_;rintro e u ⟨rfl,F⟩;have Y:=(fx u.heap.size u).alloc (Nat.le_refl _) (.cells Yr.zero.l.toArray 42);have Z:=eR (Bk.at_ (w:=u) (g:=u.heap.size) (cs:=Yr.zero.l.toArray) (t:=42) rfl);have J:=eR F;clear F v;go_wp2_with (refine vM Z.out ?_;intro w3 c;have H3:Hid (PW s w3 q gh st n nt t (Aj.runT (j+1) (Aj.AI m P k) k)):=eR (J.out.below (c.below Y (Nat.le_refl _)));clear c);exact⟨⟨j+1,G,by go_num,H3⟩,by simp[intOf];omega⟩
  ·have K:k=nt:=Zo;subst K;have y:¬(k:Int)<(k:Int):=Zo;go_wp2_with fail;go_ret;exact⟨rfl,L.out⟩
