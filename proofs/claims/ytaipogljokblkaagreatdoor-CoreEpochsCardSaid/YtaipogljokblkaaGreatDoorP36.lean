/- Core: QH. -/
import Derived.Test.YtaipogljokblkaaGreatDoorP35
set_option linter.all false
set_option maxRecDepth 100000
set_option maxHeartbeats 8000000
namespace Go.Proofs.YtaipogljokblkaaGreatDoor
open Go Go.RowKit
def wm{k:Type}{f:k->List Value}{sz:Nat}{E:TypeId}(l:∀x,(f x).length=sz){w:World}{g c a:Nat}{d:k}{r:List k}(h:Own w E sz (.slice (some ⟨g,c,none⟩) (d::r).length a) (d::r).length (rows f (d::r))):
  Own w E sz (.slice (some ⟨g,if a=1 then c else c+sz,none⟩) r.length (a-1)) r.length (rows f r):=by
 rcases h.2 with⟨q,_⟩|⟨v,n,o,A,R,s,j,rfl,t,y,p⟩
 ·cases q
 ·cases s;simp only[jb] at t p;have u:(rows f (d::r)).length=(r.length+1)*sz:=Zb l _;have i:(rows f r).length=r.length*sz:=Zb l _;refine⟨i,.inr ?_⟩;by_cases m:a=1
  ·obtain rfl:r=[]:=jr Zo;rw[ga m];refine⟨g,A.length,a-1,A,f d++R,rfl,?_,rfl,by simp,Zo,by subst m;simp⟩;have e:rows f [d]=f d:=by simp[rows]
   rw[e] at j;exact j
  ·rw[fw m];refine⟨g,A.length+sz,a-1,A++f d,R,rfl,?_,by rw[iu,l],Zo,Zo,?_⟩
   ·rw[E9] at j;have e:A++f d++(rows f r++R)=A++(f d++rows f r++R):=by simp only[jz]
    rw[e];exact j
   ·rw[i];rw[u,lx] at p;rw[Nat.sub_mul];omega
def rT{w:World}{E:TypeId}{sz n g:Nat}{v:Value}{xs:List Value}(h:Own w E sz v n xs)(a:v.ownBlock=some g)(i:Nat):w.frozen? ⟨g,i,none⟩=false:=by
 rcases h.2 with⟨rfl,_⟩|⟨f,c,d,A,R,rfl,e,_⟩
 ·cases a
 ·cases a;exact e.free i
def DK.same{w w':World}{gp gh:Nat}{P:Aj}{tv bv:B5}{d:List E6}{Fh:List Nat}{e:Nat->Nat->Prop}{lab:Nat->Nat}(h:DK w gp gh P tv bv d Fh e lab)(c:∀b,lab b<1000->b<w.heap.size->w'.heap[b]?=w.heap[b]?):DK w' gp gh P tv bv d Fh e lab:=by
 have k:=h.Nt;refine⟨h.bk.same (c gp (by rw[h.l0];decide) h.bk.lt),h.KH.kept λb a=>c b (by rw[h.l1 b a];decide) (h.KH.lt a),h.KE.kept λb a=>c b (by rw[h.l2 b a];decide) (h.KE.lt a),h.hp.same λb a=>c b (by rw[h.l3 b a];decide) (h.hp.lt b a),h.len,λi r T j f=>?_,h.l0,h.l1,h.l2,h.l3,h.l4,h.low,h.Nt⟩;have g:=Zg f;exact(h.th i r T j f).AL λb a=>c b (by rw[h.l4 i b g a];omega) (h.dG g b a)
def DK.NA{w:World}{gp gh:Nat}{P:Aj}{bv:B5}{g a n c:Nat}{f:List E6}{Fh:List Nat}{o:Nat->Nat->Prop}{lab:Nat->Nat}(h:DK w gp gh P ⟨some ⟨g,a,none⟩,n,c⟩ bv f Fh o lab){i:Nat}(p:i<P.Av.length):∃k:i<f.length,w.rangeAt g (a+i*4) f[i].l:=by
 obtain⟨s,m,t,e,k,d⟩:=h.Vi p;injection e with j u v;injection j with j;injection j with q r x;subst q;subst r;exact⟨k,d⟩
structure PK(w:World)(lab0:Nat->Nat)(gp gh:Nat)(P:Aj)(tv:B5)(rb bb:Nat)(b:Yr)(W:World):Prop where
 p:∃bv ro Fh Ft lab,DK W gp gh P tv bv ro Fh Ft lab/\1000<=lab rb/\1000<=lab bb/\∀b,lab b<1000->lab0 b<1000\/w.heap.size<=b
 r:Bk W rb 42 Yr.zero.l.toArray
 b:Bk W bb 42 b.l.toArray
 c:CI (λb=>lab0 b<1000) w W
 e:AT W
 rz:w.heap.size<=rb
 bz:w.heap.size<=bb
 ne:rb≠bb
 z:7<=w.heap.size
def rJ{w W:World}{gp gh:Nat}{P:Aj}{tv bv:B5}{d:List E6}{Fh:List Nat}{e:Nat->Nat->Prop}{lab:Nat->Nat}{n1 bb:Nat}{b:Yr}(h:DK W gp gh P tv bv d Fh e (λb=>if b<n1 then(if b<w.heap.size then lab b else 1000) else 1000))(f:Bk W w.heap.size 42 Yr.zero.l.toArray)(a:Bk W bb 42 b.l.toArray)
  (c:Below w.heap.size w W)(g:AT W)(k:w.heap.size<bb)(m:w.heap.size<=n1)(i:7<=w.heap.size):PK w lab gp gh P tv w.heap.size bb b W:=by
 refine⟨⟨bv,d,Fh,e,_,h,?_,?_,λb a=>?_⟩,f,a,⟨c.os,c.tape,c.output,c.size,λb a _=>c.block b a⟩,g,Nat.le_refl _,Zo,Zo,i⟩
 ·show 1000<=(if _ then _ else _);split
  ·rw[fw Zo];exact Nat.le_refl _
  ·exact Nat.le_refl _
 ·show 1000<=(if _ then _ else _);split
  ·rw[fw Zo];exact Nat.le_refl _
  ·exact Nat.le_refl _
 ·by_cases j:b<w.heap.size
  ·rw[ga Zo,ga j] at a;exact fq a
  ·exact db Zo
section
variable{w W W':World}{lab0:Nat->Nat}{gp gh rb bb:Nat}{P P':Aj}{tv:B5}{b b':Yr}
def PK.below(h:PK w lab0 gp gh P tv rb bb b W)(a:Below W.heap.size W W'):PK w lab0 gp gh P tv rb bb b W':=by
 obtain⟨bv,g,i,j,f,k,l1,l2,l⟩:=h.p;exact⟨⟨bv,g,i,j,f,k.below a,l1,l2,l⟩,h.r.Af a,h.b.Af a,⟨a.os.trans h.c.os,a.tape.trans h.c.tape,a.output.trans h.c.output,gb h.c.size a.size,λb d m=>(a.block b (ib d h.c.size)).trans (h.c.A5 b d m)⟩,h.e.below a,h.rz,h.bz,h.ne,h.z⟩
def PK.box(h:PK w lab0 gp gh P tv rb bb b W)(a:W.grownBy W' (some bb))(g:Bk W' bb 42 b'.l.toArray):PK w lab0 gp gh P tv rb bb b' W':=by
 obtain⟨bv,i,j,k,f,m,l1,l2,n⟩:=h.p;have o:=h.bz;have u:=h.z;refine⟨⟨bv,i,j,k,f,m.same λx d q=>a.block x q λe=>by cases e;omega,l1,l2,n⟩,h.r.grown a (λe=>h.ne (by cases e;rfl)),g,⟨a.os.trans h.c.os,a.tape.trans h.c.tape,a.output.trans h.c.output,gb h.c.size a.size,λx d s=>(a.block x (ib d h.c.size) λe=>by cases e;omega).trans (h.c.A5 x d s)⟩,h.e.low (λx d=>a.block x (by have:=h.e.lt;omega) λe=>by cases e;omega) (gb h.e.lt a.size),h.rz,h.bz,h.ne,h.z⟩
def PK.Ar{bv bv':B5}{o ro':List E6}{Fh Fh':List Nat}{p g:Nat->Nat->Prop}{lab d:Nat->Nat}(h:PK w lab0 gp gh P tv rb bb b W)(q:DK W gp gh P tv bv o Fh p lab)(l1:1000<=lab rb)(l2:1000<=lab bb)(m:∀b,lab b<1000->lab0 b<1000\/w.heap.size<=b)
  (hp':DK W' gp gh P' tv bv' ro' Fh' g d)(f:CI (λb=>lab b<1000) W W')(j:∀b,d b<1000->lab b<1000\/W.heap.size<=b):PK w lab0 gp gh P' tv rb bb b W':=by
 have k:=h.r.lt
 have l:=h.b.lt
 have s:=h.c.size
 refine⟨⟨bv',ro',Fh',g,d,hp',?_,?_,λx i=>(j x i).elim (m x) λa=>db Zo⟩,h.r.same (f.A5 rb k Zo),h.b.same (f.A5 bb l Zo),⟨f.os.trans h.c.os,f.tape.trans h.c.tape,f.output.trans h.c.output,gb h.c.size f.size,λx i n=>(f.A5 x Zo λa=>?_).trans (h.c.A5 x i n)⟩,h.e.low (λx i=>f.A5 x (by have:=h.e.lt;omega) λa=>by have:=q.low x i;omega) (gb h.e.lt f.size),h.rz,h.bz,h.ne,h.z⟩
 ·rcases iw (d rb) 1000 with a|a
  ·rcases j rb a with a|a<;>omega
  ·exact a
 ·rcases iw (d bb) 1000 with a|a
  ·rcases j bb a with a|a<;>omega
  ·exact a
 ·rcases m x a with a|a
  ·exact n a
  ·omega
def PK.other{bv:B5}{f:List E6}{Fh:List Nat}{g:Nat->Nat->Prop}{lab:Nat->Nat}{s:Nat}(h:PK w lab0 gp gh P tv rb bb b W)(i:DK W gp gh P tv bv f Fh g lab)(l1:1000<=lab rb)(l2:1000<=lab bb)(j:∀b,lab b<1000->lab0 b<1000\/w.heap.size<=b)
  (a:W.grownBy W' (some s))(m:1000<=lab s)(n1:s≠rb)(n2:s≠bb)(n:w.heap.size<=s):PK w lab0 gp gh P tv rb bb b W':=by
 have o:=h.z
 exact⟨⟨bv,f,Fh,g,lab,i.same λx d k=>a.block x k λe=>by cases e;omega,l1,l2,j⟩,h.r.grown a (λe=>n1 (by cases e;rfl)),h.b.grown a (λe=>n2 (by cases e;rfl)),⟨a.os.trans h.c.os,a.tape.trans h.c.tape,a.output.trans h.c.output,gb h.c.size a.size,λx d l=>(a.block x (ib d h.c.size) λe=>by cases e;omega).trans (h.c.A5 x d l)⟩,h.e.low (λx d=>a.block x (by have:=h.e.lt;omega) λe=>by cases e;omega) (gb h.e.lt a.size),h.rz,h.bz,h.ne,h.z⟩
def NW{Q:Nat->Prop}(w:World)(g i:Nat)(v:Value)(h:Q g):CI Q w (w.setCell ⟨g,i,none⟩ v):=
 have a:=X2 w g i v
 ⟨a.os,a.tape,a.output,a.size,λb c d=>a.block b c λe=>d (by cases e;exact h)⟩
end
def aA{a:Type}(f:a->a)(l:List a)(i:Nat)(h:i<l.length):l.modify i f=l.set i (f l[i]):=by
 apply ni;intro j;rw[List.getElem?_modify,qa];by_cases e:i=j
 ·subst e;simp[h]
 ·simp[e]
def KN(T:MT):(Aj.ready T).last=T.last:=by
 unfold Aj.ready;cases T.V.busy
 ·cases T.queue<;>rfl
 ·rfl
def lS{Q:Nat->Prop}{w w2:World}{r:Option Nat}(g:w.grownBy w2 r)(h:∀b,r=some b->Q b):CI Q w w2:=⟨g.os,g.tape,g.output,g.size,λb a c=>g.block b a λe=>c (h b e.symm)⟩
def PK.done{w W W':World}{lab0:Nat->Nat}{gp gh rb bb:Nat}{P:Aj}{tv:B5}{b:Yr}(h:PK w lab0 gp gh P tv rb bb b W)(a:W.grownBy W' (some rb)):wB w gp gh P lab0 W':=by
 obtain⟨bv,g,i,j,d,k,l1,l2,l⟩:=h.p;have o:=h.rz;exact⟨tv,bv,g,i,j,d,k.same λx f m=>a.block x m λe=>by cases e;omega,⟨a.os.trans h.c.os,a.tape.trans h.c.tape,a.output.trans h.c.output,gb h.c.size a.size,λx f n=>(a.block x (ib f h.c.size) λe=>by cases e;omega).trans (h.c.A5 x f n)⟩,l⟩
def Aj.BN(P:Aj)(k:Nat)(T:MT):Aj:={P with heap:=((Aj.ready T).V.step P.heap).2.1,Av:=P.Av.set k {Aj.ready T with V:=((Aj.ready T).V.step P.heap).1}}
def Aj.CV(P:Aj)(k:Nat)(T:MT):Aj:={P with Av:=P.Av.set k (Aj.ready T)}
def pick_any{w:World}{gp gh:Nat}{P:Aj}{tv bv:B5}{ro:List E6}{Fh:List Nat}{Ft:Nat->Nat->Prop}{lab:Nat->Nat}(h:DK w gp gh P tv bv ro Fh Ft lab)(he:AT w){k:Nat}{T:MT}(hT:P.Av[k]?=some T)(hi:Aj.CO T=false)
  (hg:T.V.busy=false->∀o r,T.queue=o::r->Hh T.V.st o/\TR T.V.M/\T.V.M.R.step=0/\Qi (MV.Ag {T.V with op:=o,Bl:=some (Xz.new T.V.st o),BR:=.zero} 1 Zj))(hs:WN (Aj.ready T).V P.heap)(eb:-1<=T.last)(ec:T.last<(P.Ap.length:Int))(ed:P.Ap.length<=100000):
  Kp 17 #[.pointer (some ⟨gp,0,none⟩),.int .i64 (k:Int)] w λen w'=>en=.returned (.tuple #[.agg (P.BV k T).2.l.toArray,.nilIface])/\wB w gp gh (P.BV k T).1 lab w':=by
 have hk:k<P.Av.length:=Zg hT
 have b8:P.has (k:Int)=true:=by unfold Aj.has;simp;omega
 obtain⟨g,C,c,rfl,hr,a⟩:=h.Vi hk
 have bm:Below w.heap.size w (w.alloc (.cells Yr.zero.l.toArray 42)):=(fx _ _).alloc (Nat.le_refl _) _
 have HP:=eR (h.cut.below bm)
 have HE:=eR (he.below bm)
 have HX:=eR (Bk.at_ (w:=w) (g:=w.heap.size) (cs:=Yr.zero.l.toArray) (t:=42) rfl)
 have HC:=eR bm
 have ee:=he.lt
 have hh:=Ku HP.out (k:Int)
 rw[b8] at hh
 have cb:=Pf HP.out hT
 rw[hi] at cb
 obtain⟨Q,hQ⟩:∃Q,P.BV k T=Q:=⟨_,rfl⟩
 rw[hQ]
 have HQ:=eR hQ
 clear h he bm a hQ
 go_enter Tryz.func17,Tryz.ntmps17
 generalize ae:T.V.busy=bz at hg
 have cc:Aj.ready T=(bif bz then T else match T.queue with|[]=>T|op::r=>{T with V:=T.V.GY op,queue:=r}):=by unfold Aj.ready;rw[ae];rfl
 go_upto_region 7 with(first|(go_at_call 24;refine hh.mono ?_;rintro e w1 ⟨rfl,rfl⟩)|(go_at_call 26;refine cb.mono ?_;rintro e w1 ⟨rfl,ag⟩;have c2:=(HP.out.below ag).bk.cell 2;simp[B5.v] at c2;have ah:=((fx w1.heap.size w1).alloc (Nat.le_refl _) (.cells (Yr.l ⟨k,false,.zero,false,false,.zero⟩).toArray 42));have P2:=eR ((HP.out.cut.below ag).below ah);have ef:=P2.out.th k ro[k] T (gl hr) hT;obtain⟨t1,t2,Fv,hv,hq,eg⟩:=ef;obtain⟨g',e9,c',eh,fb,a⟩:=P2.out.Vi hk;cases eh;have r0:=a 0 _ rfl;simp[E6.l,Yr.l,AV.l,DI.l,AV.zero,DI.zero] at r0;have HV:=eR hv;have HB:=eR (Bk.at_ (w:=w1) (g:=w1.heap.size) (cs:=(Yr.l ⟨k,false,.zero,false,false,.zero⟩).toArray) (t:=42) rfl);have cd:=eR ((HC.out.trans (ag.mono HC.out.size)).trans (ah.mono (gb HC.out.size ag.size)));have c0:=eR ((HE.out.below ag).below ah);have c4:=eR ((HX.out.Af ag).Af ah);have fc:w.heap.size<w1.heap.size:=(HX.out.Af ag).lt;clear t1 t2 hv hq eg a ah HP HE HX HC ag))
 go_upto_region 10 with(fail)
 refine(NH HV.out).mono ?_
 rintro e w2 ⟨rfl,Z⟩
 rw[ae]
 have HK:=eR (rJ (w:=w) (lab:=lab) (P2.out.below Z) (c4.out.Af Z) (HB.out.Af Z) (cd.out.trans (Z.mono cd.out.size)) (c0.out.below Z) Zo Zs ee)
 clear P2 c4 HB cd c0 Z c2 r0 HV
 go_upto_if 39 with(fail)
 generalize c5:w1.heap.size=bb at*
 go_cut [] from 8 (λwx=>PK w lab gp gh (P.CV k T) ⟨some ⟨g,C,none⟩,P.Av.length,c⟩ w.heap.size bb ⟨k,!T.V.busy,Aj.DU T,false,false,.zero⟩ wx)
 case first=>
  cases bz
  rotate_left 1
  focus (
   have z:Hid (PK w lab gp gh (P.CV k T) ⟨some ⟨g,C,none⟩,P.Av.length,c⟩ w.heap.size bb ⟨k,!T.V.busy,Aj.DU T,false,false,.zero⟩ w2):=eR (by
    have e1:P.CV k T=P:=by unfold Aj.CV;rw[cc];show{P with Av:=P.Av.set k T}=P;rw[Vd hT]
    rw[e1,show Aj.DU T=.zero from by unfold Aj.DU;rw[ae];rfl,ae];exact HK.out)
   go_wp2_with fail
   go_meet
   case rel=>exact z.out)
  obtain⟨o,r,a2⟩:∃o r,T.queue=o::r:=by
   cases hq:T.queue with
   |nil=>unfold Aj.CO at hi;rw[ae,hq] at hi;cases hi
   |cons o r=>exact⟨o,r,rfl⟩
  obtain⟨g1,g2,g3,g4⟩:=hg rfl o r a2
  clear hg
  go_upto_region 10 with(fail)
  have z:=eR (HK.out.below (fx w2.heap.size w2).drew)
  clear HK
  obtain⟨bv,ro,Fh,Ft,lb,n,l1,l2,U⟩:=z.out.p
  obtain⟨hr,a⟩:=n.NA hk
  obtain⟨t1,t2,Fv,hv,hq,bo,a3⟩:=n.th k ro[k] T (gl hr) hT
  rw[a2] at hq
  obtain⟨L,qo,qc,a4,_⟩:=Fa hq Zs
  have ho:=hq
  rw[a4] at ho
  have a5:=Cl ho
  have r1:=a 1 _ rfl
  simp[E6.l,a4] at r1
  have o0:=a5 0 _ rfl;have o1:=a5 1 _ rfl;have o2:=a5 2 _ rfl;have o3:=a5 3 _ rfl
  simp at o0 o1 o2 o3
  have lg:lb g=1:=n.l1 g rfl
  have c8:lb L=4+k:=n.l4 k L hk ((a3 L).2 (db (by rw[a4];rfl)))
  have Nt:=n.Nt
  have ng:bb≠g:=λe=>by rw[←e] at lg;omega
  have nq:bb≠L:=λe=>by rw[←e] at c8;omega
  have c9:g<w2.drew.heap.size:=n.KH.lt rfl
  have da:L<w2.drew.heap.size:=hq.lt (by rw[a4];rfl)
  clear n t1 t2 hv hq bo a3 a ho a5
  refine Yh (λw'=>w'.cell? ⟨g,C+k*4+1,none⟩=some (.slice (some ⟨L,qo,none⟩) (r.length+1) qc)/\w'.cell? ⟨L,qo,none⟩=some (.int .i64 o.kind)/\w'.cell? ⟨L,qo+1,none⟩=some (.int .i64 o.key)/\w'.cell? ⟨L,qo+2,none⟩=some (.int .i64 o.val)/\w'.cell? ⟨L,qo+3,none⟩=some (.int .i64 o.Al)) 10 Zk ⟨r1,o0,o1,o2,o3⟩ (λD=>?_)
  have HR:Hid (w2.drew.cell? ⟨g,C+k*4+1,none⟩=some (.slice (some ⟨L,qo,none⟩) (r.length+1) qc)/\w2.drew.cell? ⟨L,qo,none⟩=some (.int .i64 o.kind)/\w2.drew.cell? ⟨L,qo+1,none⟩=some (.int .i64 o.key)/\w2.drew.cell? ⟨L,qo+2,none⟩=some (.int .i64 o.val)/\w2.drew.cell? ⟨L,qo+3,none⟩=some (.int .i64 o.Al)):=eR ⟨r1,o0,o1,o2,o3⟩
  clear r1 o0 o1 o2 o3
  generalize w2.drew=W2 at*
  have b1:=z.out.b.cell 1
  have f1:=z.out.b.free 1
  simp[Yr.l,AV.l,DI.l] at b1
  ((try simp only[ZL]);refine vT (fuel:=3) D [0,1,2,3,4,5,6] ?_;simp only[Yb,Xv,fs];(repeat (first|go_big_quiet_skip|(go_big_quiet_want;first|(go_big_quiet_op;go_big_quiet_on)|(apply g7;refine⟨λw' y=>?_,?_⟩;(· ((obtain⟨q1,q2,q3,q4,q5⟩:=y);go_simp;first|done|rfl|exact⟨rfl,rfl⟩));go_big_quiet_on;simp only[ZL]))));refine gw ?_;(try dsimp only))
  have B3:=z.out.b.Ez 1 (.bool true)
  have ce:=eR (Y1 (cs':=(Yr.l ⟨k,true,.zero,false,false,.zero⟩).toArray) B3 Zk)
  have S3:∀u:Value,(W2.setCell ⟨bb,1,none⟩ u).cell? ⟨g,C+k*4+1,none⟩=some (.slice (some ⟨L,qo,none⟩) (r.length+1) qc)/\(W2.setCell ⟨bb,1,none⟩ u).cell? ⟨L,qo,none⟩=some (.int .i64 o.kind)/\(W2.setCell ⟨bb,1,none⟩ u).cell? ⟨L,qo+1,none⟩=some (.int .i64 o.key)/\(W2.setCell ⟨bb,1,none⟩ u).cell? ⟨L,qo+2,none⟩=some (.int .i64 o.val)/\(W2.setCell ⟨bb,1,none⟩ u).cell? ⟨L,qo+3,none⟩=some (.int .i64 o.Al):=λu=>
   ⟨(lz _ _ _ _ ng).trans HR.out.1,(lz _ _ _ _ nq).trans HR.out.2.1,(lz _ _ _ _ nq).trans HR.out.2.2.1,(lz _ _ _ _ nq).trans HR.out.2.2.2.1,(lz _ _ _ _ nq).trans HR.out.2.2.2.2⟩
  have dc:=eR (z.out.box (X2 W2 bb 1 (.bool true)) ce.out)
  (refine Xn 7 Zk (λK d=>?_);simp only[Xv,fs])
  go_wp2_with fail
  refine d.out _ _ (λ_=>S3 _) ?_
  clear d D b1 f1 B3
  have D:=S3 (.bool true)
  generalize cf:W2.setCell ⟨bb,1,none⟩ (.bool true)=W3 at*
  ((try simp only[ZL]);refine vT (fuel:=1) D [8] ?_;simp only[Yb,Xv,fs];(repeat (first|go_big_quiet_skip|(go_big_quiet_want;first|(go_big_quiet_op;go_big_quiet_on)|(apply g7;refine⟨λw' y=>?_,?_⟩;(· (skip;go_simp;first|done|rfl|exact⟨rfl,rfl⟩));go_big_quiet_on;simp only[ZL]))));refine gw ?_;(try dsimp only))
  (refine Xn 9 Zk (λK d=>?_);simp only[Xv,fs])
  go_wp2_with (refine Y2 Zr _ _ _ Zr bb 2 _ Zr Zr _ _ (Yr.l ⟨k,true,o,false,false,.zero⟩).toArray ce.out (j6 Zk) Zk Zr Zk ?_;intro W4 m;have aw:=eR (dc.out.box m.grown m.bk);have cg:=eR m.grown;clear m)
  have S4:W4.cell? ⟨g,C+k*4+1,none⟩=some (.slice (some ⟨L,qo,none⟩) (r.length+1) qc)/\W4.cell? ⟨L,qo,none⟩=some (.int .i64 o.kind)/\W4.cell? ⟨L,qo+1,none⟩=some (.int .i64 o.key)/\W4.cell? ⟨L,qo+2,none⟩=some (.int .i64 o.val)/\W4.cell? ⟨L,qo+3,none⟩=some (.int .i64 o.Al):=by
   have e1:=cg.out.block g (by rw[←cf];simpa [World.setCell] using c9) (λe=>ng (by cases e;rfl));have e2:=cg.out.block L (by rw[←cf];simpa [World.setCell] using da) (λe=>nq (by cases e;rfl));exact⟨(Gg e1 _).trans D.1,(Gg e2 _).trans D.2.1,(Gg e2 _).trans D.2.2.1,(Gg e2 _).trans D.2.2.2.1,(Gg e2 _).trans D.2.2.2.2⟩
  refine d.out _ _ (λ_=>S4) ?_
  clear d D S3 S4 dc ce cg HR z cf
  refine Yk Zk ?_ _
  clear l1 l2 U ng nq c8 c9 da lg Nt a4
  go_upto_region 11 with(fail)
  have G:=eR (aw.out.below (fx W4.heap.size W4).drew)
  clear aw
  obtain⟨fd,ei,fe,ff,fg,n,l1,l2,U⟩:=G.out.p
  obtain⟨ej,a⟩:=n.NA hk
  have r0:=a 0 _ rfl
  simp[E6.l] at r0
  have hG:=zZ n G.out.e hT ej o g1 (by simpa [MV.busy] using ae) g2 g3 g4
  have b2:=G.out.b.cell 2;have b3:=G.out.b.cell 3;have b4:=G.out.b.cell 4;have b5:=G.out.b.cell 5
  simp[Yr.l,AV.l,DI.l] at b2 b3 b4 b5
  have a6:=eR (fy n (fy l1 (fy l2 U)))
  clear n l1 l2 U a
  refine Yh (λw'=>w'.cell? ⟨g,C+k*4,none⟩=some (.pointer (some ⟨ei[k].gv,0,none⟩))/\w'.cell? ⟨bb,2,none⟩=some (.int .i64 o.kind)/\w'.cell? ⟨bb,3,none⟩=some (.int .i64 o.key)/\w'.cell? ⟨bb,4,none⟩=some (.int .i64 o.val)/\w'.cell? ⟨bb,5,none⟩=some (.int .i64 o.Al)) 7 Zk ⟨r0,b2,b3,b4,b5⟩ (λD=>?_)
  clear r0 b2 b3 b4 b5
  generalize W4.drew=W5 at*
  ((try simp only[ZL]);refine vT (fuel:=2) D [0,1,2,3,4,5] ?_;simp only[Yb,Xv,fs];(repeat (first|go_big_quiet_skip|(go_big_quiet_want;first|(go_big_quiet_op;go_big_quiet_on)|(apply g7;refine⟨λw' y=>?_,?_⟩;(· ((obtain⟨q1,q2,q3,q4,q5⟩:=y);go_simp;first|done|rfl|exact⟨rfl,rfl⟩));go_big_quiet_on;simp only[ZL]))));refine gw ?_;(try dsimp only))
  (refine Xn 6 Zk (λK d=>?_);simp only[Xv,fs])
  go_wp2_with fail
  refine hG.mono ?_
  rintro e W6 ⟨rfl,ek,el,em,ax,dd,a7⟩
  have E:=eR (G.out.Ar a6.out.1 a6.out.2.1 a6.out.2.2.1 a6.out.2.2.2 ax dd a7)
  obtain⟨fh,a⟩:=ax.NA (i:=k) (by show k<(P.Av.set k _).length;rw[jc];exact hk)
  have r0:=a 0 _ rfl
  simp[E6.l] at r0
  have b2:=E.out.b.cell 2;have b3:=E.out.b.cell 3;have b4:=E.out.b.cell 4;have b5:=E.out.b.cell 5
  simp[Yr.l,AV.l,DI.l] at b2 b3 b4 b5
  clear ax dd a7 a a6 G hG
  go_wp2_with fail
  refine d.out _ _ (λ_=>⟨r0,b2,b3,b4,b5⟩) ?_
  clear d D r0 b2 b3 b4 b5
  ((refine Xn 7 Zk (λK d=>?_);simp only[Xv,fs]);go_wp2_with fail;refine d.out _ _ (λh=>absurd h Zo) ?_;clear d)
  refine Yk Zk ?_ _
  go_upto_region 14 with(fail)
  obtain⟨de,ay,eo,ep,a8,n,l1,l2,U⟩:=E.out.p
  have ch:(P.Qw k T (T.V.GY o)).Av[k]?=some {T with V:=T.V.GY o}:=by show(P.Av.set k _)[k]?=_;rw[ij hk]
  obtain⟨a9,a⟩:=n.NA (i:=k) (Zg ch)
  obtain⟨t1,t2,er,hv,hq,bo,a3⟩:=n.th k ay[k] _ (gl a9) ch
  simp only[a2] at hq
  obtain⟨bp,df,ci,ai,dg⟩:=Fa hq Zs
  have bd:=hq
  rw[ai] at bd
  have bd:=wm tr bd
  have r1:=a 1 _ rfl
  simp[E6.l,ai] at r1
  have f1:=rT n.KH (g:=g) rfl (C+k*4+1)
  have fa:1<=ci:=by simp at dg;omega
  have dh:a8 g=1:=n.l1 g rfl
  have fin:∀X Y:Nat,Own W6 35 4 (.slice (some ⟨bp,X,none⟩) r.length Y) r.length (rows AV.l r)->PK w lab gp gh (P.CV k T) ⟨some ⟨g,C,none⟩,P.Av.length,c⟩ w.heap.size bb ⟨k,!T.V.busy,Aj.DU T,false,false,.zero⟩ (W6.setCell ⟨g,C+k*4+1,none⟩ (.slice (some ⟨bp,X,none⟩) r.length Y)):=λX Y es=>by
   obtain⟨di,dj,dk,ao,ap⟩:=n.qI E.out.e.lt ch a9 rfl 1 (.slice (some ⟨bp,X,none⟩) r.length Y) {ay[k] with q:=⟨some ⟨bp,X,none⟩,r.length,Y⟩} {T with V:=T.V.GY o,queue:=r} rfl Zd ⟨t1,t2,er,hv,es,λb hb=>by have:=bo b hb;rw[ai] at this;exact this,λb=>by have:=a3 b;rw[ai] at this;exact this⟩;have q:=E.out.Ar n l1 l2 U ao (NW W6 g _ _ (by rw[dh];decide)) ap;have e1:P.CV k T={P.Qw k T (T.V.GY o) with Av:=(P.Qw k T (T.V.GY o)).Av.set k {T with V:=T.V.GY o,queue:=r}}:=by
    unfold Aj.CV Aj.Qw;simp only[ob];rw[cc,a2];rfl
   rw[e1,show Aj.DU T=o from by unfold Aj.DU;rw[ae,a2];rfl,ae];exact q
  have HF:=eR fin
  have dl:=eR bd
  clear fin bd n t1 t2 hv hq bo a3 a ai E l1 l2 U
  by_cases dm:ci=1
  subst dm
  focus (
   go_wp2_with fail
   go_meet
   case rel=>exact HF.out df 0 dl.out)
  focus (
   go_wp2_with fail
   go_meet
   case rel=>exact HF.out (df+4) (ci-1) (by have:=dl.out;rwa [fw dm] at this))
 case rest=>
  have cj:=eR hcut
  clear hcut cc ae HK
  rename World=>W7
  obtain⟨S,ck⟩:∃S,((Aj.ready T).V.step P.heap).2.2=S:=⟨_,rfl⟩
  go_upto_region 15 with(fail)
  go_cut [9,10] from 11 (λs9 et wx=>et=.nilIface/\∃sb,s9=.pointer (some ⟨sb,0,none⟩)/\sb≠bb/\Bk wx sb 99 S.l.toArray/\PK w lab gp gh (P.BN k T) ⟨some ⟨g,C,none⟩,P.Av.length,c⟩ w.heap.size bb ⟨k,!T.V.busy,Aj.DU T,false,false,.zero⟩ wx)
  case first=>
   have HK:=cj
   clear cj
   have z:=eR (HK.out.below (fx W7.heap.size W7).drew)
   clear HK
   obtain⟨de,ay,eo,ep,a8,n,l1,l2,U⟩:=z.out.p
   have be:(P.CV k T).Av[k]?=some (Aj.ready T):=by show(P.Av.set k _)[k]?=_;rw[ij hk]
   obtain⟨a9,a⟩:=n.NA (i:=k) (Zg be)
   have r0:=a 0 _ rfl
   simp[E6.l] at r0
   have c1:=n.bk.cell 1
   simp at c1
   have hG:=NJ n z.out.e be a9 hs
   refine Yh (λw'=>w'.cell? ⟨g,C+k*4,none⟩=some (.pointer (some ⟨ay[k].gv,0,none⟩))/\w'.cell? ⟨gp,1,none⟩=some (.pointer (some ⟨gh,0,none⟩))) 14 Zk ⟨r0,c1⟩ (λD=>?_)
   clear r0 c1 a
   have aa:=eR (fy n (fy l1 (fy l2 U)))
   clear n l1 l2 U
   generalize W7.drew=WA at*
   ((try simp only[ZL]);refine vT (fuel:=7) D [0,1,2,3,4,5,6,7] ?_;simp only[Yb,Xv,fs];(repeat (first|go_big_quiet_skip|(go_big_quiet_want;first|(go_big_quiet_op;go_big_quiet_on)|(apply g7;refine⟨λw' y=>?_,?_⟩;(· ((obtain⟨q1,q2⟩:=y);go_simp;first|done|rfl|exact⟨rfl,rfl⟩));go_big_quiet_on;simp only[ZL]))));refine gw ?_;(try dsimp only))
   have fS:∀ (X:World) (PX:Aj) (dn:List Nat) (dp:Nat→Nat→Prop) (dq:Nat→Nat),DK X gp gh PX ⟨some ⟨g,C,none⟩,P.Av.length,c⟩ de ay dn dp dq→k < PX.Av.length→X.cell? ⟨g,C+k*4,none⟩ = some (.pointer (some ⟨ay[k].gv,0,none⟩))∧X.cell? ⟨gp,1,none⟩ = some (.pointer (some ⟨gh,0,none⟩)):=fun X PX dn dp dq hX eu=>(by
    obtain⟨_,a⟩:=hX.NA eu;have r0:=a 0 _ rfl;have c1:=hX.bk.cell 1;simp[E6.l] at r0 c1;exact⟨r0,c1⟩)
   have bq:k<(P.CV k T).Av.length:=Zg be
   have aj:k<((P.CV k T).Av.set k {Aj.ready T with V:=((Aj.ready T).V.step (P.CV k T).heap).1}).length:=(by rw[jc];exact bq)
   have dr:({P.CV k T with heap:=((Aj.ready T).V.step (P.CV k T).heap).2.1,Av:=(P.CV k T).Av.set k {Aj.ready T with V:=((Aj.ready T).V.step (P.CV k T).heap).1}}:Aj)=P.BN k T:=(by unfold Aj.BN Aj.CV;simp only[ob])
   have hA:=(fx WA.heap.size WA).alloc (Nat.le_refl _) (.cells #[.bool false,.int .i64 0,.int .i64 0,.int .i64 0] 99)
   have N:=eR (aa.out.1.cut.below hA)
   have cl:=NJ N.out (z.out.e.below hA) be a9 hs
   have cm:=eR hA
   have bf:=eR (Bk.at_ (w:=WA) (g:=WA.heap.size) (cs:=#[.bool false,.int .i64 0,.int .i64 0,.int .i64 0]) (t:=99) rfl)
   clear hA
   refine Gz (i:=8) (j:=12) rfl rfl Zk (λK d=>?_) (λK d=>?_)
   focus (
    go_wp2_with fail
    refine hG.mono ?_
    rintro e W8 ⟨rfl,ev,ew,ak,al,az,af⟩
    have O:=eR (z.out.Ar aa.out.1 aa.out.2.1 aa.out.2.2.1 aa.out.2.2.2 al az af)
    have ab:=eR al
    clear al az af hG cl z aa N cm bf
    go_wp2_with fail
    refine d.out _ _ ⟨λ_=>fS W8 _ _ _ _ ab.out aj,?_⟩
    clear d D
    have D:=fS W8 _ _ _ _ ab.out aj
    ((try simp only[ZL]);refine vT (fuel:=3) D [9,10,11] ?_;simp only[Yb,Xv,fs];(repeat (first|go_big_quiet_skip|(go_big_quiet_want;first|(go_big_quiet_op;go_big_quiet_on)|(apply g7;refine⟨λw' y=>?_,?_⟩;(· (skip;go_simp;first|done|rfl|exact⟨rfl,rfl⟩));go_big_quiet_on;simp only[ZL]))));refine gw ?_;(try dsimp only))
    have hA:=(fx W8.heap.size W8).alloc (Nat.le_refl _) (.cells #[.bool false,.int .i64 0,.int .i64 0,.int .i64 0] 99)
    have ds:=eR (Bk.at_ (w:=W8) (g:=W8.heap.size) (cs:=#[.bool false,.int .i64 0,.int .i64 0,.int .i64 0]) (t:=99) rfl)
    have aq:W8.heap.size≠bb:=(by have:=O.out.b.lt;omega)
    (refine Xn 12 Zk (λK d=>?_);simp only[Xv,fs])
    go_wp2_with fail
    refine d.out _ _ (λ_=>fS _ _ _ _ _ (ab.out.below hA) aj) ?_
    clear d D
    have D:=fS _ _ _ _ _ (ab.out.below hA) aj
    (refine Xn 13 Zk (λK d=>?_);simp only[Xv,fs])
    go_wp2_with (refine vM ds.out ?_;intro W9 m;have cn:=m.below hA (Nat.le_refl _);have co:=eR m.bk;have ar:=eR (O.out.below cn);have am:=fS _ _ _ _ _ (ab.out.below cn) aj;clear m cn)
    refine d.out _ _ (λ_=>am) ?_
    clear d D am hA ds O ab fS
    generalize W8.heap.size=sb at*)
   rotate_left 1
   focus (
    go_wp2_with fail
    refine d.out _ _ ⟨λ_=>fS _ _ _ _ _ N.out bq,?_⟩
    clear d D hG
    have D:=fS _ _ _ _ _ N.out bq
    have bg:=eR (z.out.below cm.out)
    (refine Xn 8 Zk (λK d=>?_);simp only[Xv,fs])
    go_wp2_with fail
    refine cl.mono ?_
    rintro e W8 ⟨rfl,ev,ew,ak,al,az,af⟩
    have m1:1000<=(if w.heap.size<WA.heap.size then a8 w.heap.size else 1000):=(by have h0:=aa.out.2.1;split<;>omega)
    have m2:1000<=(if bb<WA.heap.size then a8 bb else 1000):=(by have h0:=aa.out.2.2.1;split<;>omega)
    have m3:∀b,(if b<WA.heap.size then a8 b else 1000)<1000->lab b<1000\/w.heap.size<=b:=λb hb=>(by split at hb;exact aa.out.2.2.2 b hb;omega)
    have O:=eR (bg.out.Ar N.out m1 m2 m3 al az af)
    have dt:Bk W8 WA.heap.size 99 #[.bool false,.int .i64 0,.int .i64 0,.int .i64 0]:=bf.out.same (az.A5 _ bf.out.lt (by show ¬(if _ then _ else _)<1000;rw[fw Zo];omega))
    have du:=bf.out.lt
    have ls:1000≤ak WA.heap.size:=(by
     rcases iw (ak WA.heap.size) 1000 with h'|h'
     ·rcases af _ h' with h2|h2
      ·have h2:(if _ then _ else _)<1000:=h2;rw[fw Zo] at h2;omega
      ·omega
     ·exact h')
    have k1:1000≤ak w.heap.size:=(by
     rcases iw (ak w.heap.size) 1000 with h'|h'
     ·have:=bg.out.r.lt;rcases af _ h' with h2|h2;exact absurd h2 (Nat.not_lt.mpr m1);omega
     ·exact h')
    have k2:1000≤ak bb:=(by
     rcases iw (ak bb) 1000 with h'|h'
     ·have:=bg.out.b.lt;rcases af _ h' with h2|h2;exact absurd h2 (Nat.not_lt.mpr m2);omega
     ·exact h')
    have k3:∀b,ak b<1000->lab b<1000\/w.heap.size<=b:=λb hb=>(af b hb).elim (m3 b) λh'=>db (by have:=bg.out.c.size;omega)
    have ab:=eR al
    have dv:=eR dt
    have aq:WA.heap.size≠bb:=(by have:=z.out.b.lt;omega)
    have dw:WA.heap.size≠w.heap.size:=(by have:=z.out.r.lt;omega)
    have dx:w.heap.size<=WA.heap.size:=z.out.c.size
    have am:=fS W8 _ _ _ _ al aj
    clear al az af dt cl aa N cm bf bg m1 m2 m3 z
    go_wp2_with fail
    refine d.out _ _ (λ_=>am) ?_
    clear d D
    have D:=am
    ((try simp only[ZL]);refine vT (fuel:=2) D [9,10,11] ?_;simp only[Yb,Xv,fs];(repeat (first|go_big_quiet_skip|(go_big_quiet_want;first|(go_big_quiet_op;go_big_quiet_on)|(apply g7;refine⟨λw' y=>?_,?_⟩;(· (skip;go_simp;first|done|rfl|exact⟨rfl,rfl⟩));go_big_quiet_on;simp only[ZL]))));refine gw ?_;(try dsimp only))
    (refine Xn 13 Zk (λK d=>?_);simp only[Xv,fs])
    go_wp2_with (refine vM dv.out ?_;intro W9 m;have co:=eR m.bk;have ar:=eR (O.out.other ab.out k1 k2 k3 m.grown ls dw aq dx);have am:=fS W9 _ _ _ _ (ab.out.same λx hx hl=>m.grown.block x hl λe=>by cases e;omega) aj;clear m)
    refine d.out _ _ (λ_=>am) ?_
    clear d D am dv O ab fS ls k1 k2 k3 dw dx du
    generalize WA.heap.size=sb at*)
   rotate_left 1
   all_goals (
    rw[dr] at ar
    ((refine Xn 14 Zk (λK d=>?_);simp only[Xv,fs]);go_wp2_with fail;refine d.out _ _ (λh=>absurd h Zo) ?_;clear d)
    refine Yk Zk ?_ _
    have ex:Bk W9 sb 99 S.l.toArray:=(by rw[←ck];exact co.out)
    have H:=ar.out
    clear dr aj bq be co ar
    go_wp2_with fail
    go_meet
    case rel=>exact⟨rfl,sb,rfl,aq,ex,H⟩)
  case rest=>
   obtain⟨rfl,sb,rfl,aq,dy,dz⟩:=hcut
   have HS:=eR dy
   have ar:=eR dz
   clear dy dz cj
   rename World=>W9
   go_upto_region 18 with(fail)
   have a0:=eR (HS.out.Af (fx W9.heap.size W9).drew)
   have z:=eR (ar.out.below (fx W9.heap.size W9).drew)
   clear HS ar
   have s0:=a0.out.cell 0;have s1:=a0.out.cell 1;have s2:=a0.out.cell 2;have s3:=a0.out.cell 3
   simp[Hv.l,DI.l] at s0 s1 s2 s3
   have hF:∀ (X:World),Bk X sb 99 S.l.toArray→X.cell? ⟨sb,0,none⟩ = some (.bool S.over)∧X.cell? ⟨sb,1,none⟩ = some (.int .i64 S.BR.code)∧X.cell? ⟨sb,2,none⟩ = some (.int .i64 S.BR.val)∧X.cell? ⟨sb,3,none⟩ = some (.int .i64 S.real):=fun X hX=>(by
    have s0:=hX.cell 0;have s1:=hX.cell 1;have s2:=hX.cell 2;have s3:=hX.cell 3;simp[Hv.l,DI.l] at s0 s1 s2 s3;exact⟨s0,s1,s2,s3⟩)
   refine Yh (λX=>X.cell? ⟨sb,0,none⟩=some (.bool S.over)/\X.cell? ⟨sb,1,none⟩=some (.int .i64 S.BR.code)/\X.cell? ⟨sb,2,none⟩=some (.int .i64 S.BR.val)/\X.cell? ⟨sb,3,none⟩=some (.int .i64 S.real)) 13 Zk ⟨s0,s1,s2,s3⟩ (λD=>?_)
   clear s0 s1 s2 s3
   generalize W9.drew=W9 at*
   have b6:=z.out.b.cell 6;have f6:=z.out.b.free 6
   simp[Yr.l,AV.l,DI.l] at b6
   ((try simp only[ZL]);refine vT (fuel:=5) D [0,1,2,3,4,5,6,7] ?_;simp only[Yb,Xv,fs];(repeat (first|go_big_quiet_skip|(go_big_quiet_want;first|(go_big_quiet_op;go_big_quiet_on)|(apply g7;refine⟨λw' y=>?_,?_⟩;(· ((obtain⟨q1,q2,q3,q4⟩:=y);go_simp;first|done|rfl|exact⟨rfl,rfl⟩));go_big_quiet_on;simp only[ZL]))));refine gw ?_;(try dsimp only))
   (refine Xn 8 Zk (λK d=>?_);simp only[Xv,fs])
   go_wp2_with fail
   have G1:=X2 W9 bb 6 (.bool (S.real==0))
   have N:=eR (Y1 (cs':=(Yr.l ⟨k,!T.V.busy,Aj.DU T,S.real==0,false,.zero⟩).toArray) (z.out.b.Ez 6 (.bool (S.real==0))) Zk)
   have bh:=eR (z.out.box G1 N.out)
   have br:=eR (a0.out.grown G1 (λe=>aq (by cases e;rfl)))
   refine d.out _ (W9.setCell ⟨bb,6,none⟩ (.bool (S.real==0))) (λ_=>hF _ br.out) ?_
   clear d D b6 f6 G1 N z a0
   generalize W9.setCell ⟨bb,6,none⟩ (.bool (S.real==0))=cp at*
   have D:=hF _ br.out
   have b7:=bh.out.b.cell 7;have f7:=bh.out.b.free 7
   simp[Yr.l,AV.l,DI.l] at b7
   ((try simp only[ZL]);refine vT (fuel:=3) D [9] ?_;simp only[Yb,Xv,fs];(repeat (first|go_big_quiet_skip|(go_big_quiet_want;first|(go_big_quiet_op;go_big_quiet_on)|(apply g7;refine⟨λw' y=>?_,?_⟩;(· (skip;go_simp;first|done|rfl|exact⟨rfl,rfl⟩));go_big_quiet_on;simp only[ZL]))));refine gw ?_;(try dsimp only))
   (refine Xn 10 Zk (λK d=>?_);simp only[Xv,fs])
   go_wp2_with fail
   have G1:=X2 cp bb 7 (.bool S.over)
   have N:=eR (Y1 (cs':=(Yr.l ⟨k,!T.V.busy,Aj.DU T,S.real==0,S.over,.zero⟩).toArray) (bh.out.b.Ez 7 (.bool S.over)) Zk)
   have aw:=eR (bh.out.box G1 N.out)
   have bt:=eR (br.out.grown G1 (λe=>aq (by cases e;rfl)))
   refine d.out _ (cp.setCell ⟨bb,7,none⟩ (.bool S.over)) (λ_=>hF _ bt.out) ?_
   clear d D b7 f7 G1 N bh br
   generalize cp.setCell ⟨bb,7,none⟩ (.bool S.over)=fi at*
   have D:=hF _ bt.out
   ((try simp only[ZL]);refine vT (fuel:=1) D [11] ?_;simp only[Yb,Xv,fs];(repeat (first|go_big_quiet_skip|(go_big_quiet_want;first|(go_big_quiet_op;go_big_quiet_on)|(apply g7;refine⟨λw' y=>?_,?_⟩;(· (skip;go_simp;first|done|rfl|exact⟨rfl,rfl⟩));go_big_quiet_on;simp only[ZL]))));refine gw ?_;(try dsimp only))
   (refine Xn 12 Zk (λK d=>?_);simp only[Xv,fs])
   go_wp2_with (refine Y2 Zr _ _ _ Zr bb 8 _ Zr Zr _ _ (Yr.l ⟨k,!T.V.busy,Aj.DU T,S.real==0,S.over,S.BR⟩).toArray aw.out.b (j6 Zk) Zk Zr Zk ?_;intro I m;have G:=eR (aw.out.box m.grown m.bk);have bu:=eR (bt.out.grown m.grown (λe=>aq (by cases e;rfl)));clear m)
   refine d.out _ _ (λ_=>hF _ bu.out) ?_
   clear d D aw bt
   refine Yk Zk ?_ _
   have au:(P.BN k T).Av[k]?=some {Aj.ready T with V:=((Aj.ready T).V.step P.heap).1}:=by show(P.Av.set k _)[k]?=_;rw[ij hk]
   have s3:=(hF _ bu.out).2.2.2
   obtain⟨cq,bi,ey,ez,d0,n,l1,l2,U⟩:=G.out.p
   obtain⟨a1,a⟩:=n.NA (Zg au)
   have t2:bi[k].last=T.last:=(n.th k bi[k] _ (gl a1) au).2.1.trans (KN T)
   have r3:=a 3 _ rfl
   simp[E6.l,t2] at r3
   have HP:=eR (fy n (fy l1 (fy l2 U)))
   clear n l1 l2 U a t2
   obtain⟨J,cr⟩:∃J,(bif S.real==1&&decide (0<=T.last) then P.Ap.modify T.last.toNat (λb=>{b with real:=true}) else P.Ap)=J:=⟨_,rfl⟩
   have d1:J.length=P.Ap.length:=by rw[←cr];cases S.real==1&&decide (0<=T.last)<;>simp
   have bw:=eR cr
   have d3:=eR d1
   have d5:=eR ck
   clear cr d1 ck
   go_upto_region 19 with(fail)
   go_cut [102] from 11 (λs wx=>s=.bool (S.real==1&&decide (0<=T.last))/\I=wx)
   case first=>
    by_cases hx:S.real=1
    rw[hx] at s3
    by_cases hy:0<=T.last
    focus (
     go_wp2_with fail
     go_meet
     case rel=>exact⟨by rw[hx,g5 hy];rfl,rfl⟩)
    focus (
     go_wp2_with fail
     go_meet
     case rel=>exact⟨by rw[hx,gz (show ¬0<=T.last by omega)];rfl,rfl⟩)
    focus (
     go_wp2_with fail
     go_meet
     case rel=>exact⟨by rw[show(S.real==1)=false from gz hx];rfl,rfl⟩)
   case rest=>
    obtain⟨rfl,rfl⟩:=hcut
    go_upto_if 102 with(fail)
    go_cut [] from 11 (λwx=>PK w lab gp gh {P.BN k T with Ap:=J} ⟨some ⟨g,C,none⟩,P.Av.length,c⟩ w.heap.size bb ⟨k,!T.V.busy,Aj.DU T,S.real==0,S.over,S.BR⟩ wx)
    case first=>
     by_cases hx:S.real=1
     rw[hx] at s3
     by_cases hy:0<=T.last
     rotate_left 1
     focus (
      have ht:(S.real==1&&decide (0<=T.last))=false:=(by rw[hx,gz (show ¬0<=T.last by omega)];rfl)
      have E:Hid (PK w lab gp gh {P.BN k T with Ap:=J} ⟨some ⟨g,C,none⟩,P.Av.length,c⟩ w.heap.size bb ⟨k,!T.V.busy,Aj.DU T,S.real==0,S.over,S.BR⟩ I):=eR (by rw[←bw.out,gz (show ¬0<=T.last by omega),Bool.and_false];exact G.out)
      rw[ht]
      clear HP
      go_wp2_with fail
      go_meet
      case rel=>exact E.out)
     focus (
      have ht:(S.real==1&&decide (0<=T.last))=false:=(by rw[show(S.real==1)=false from gz hx];rfl)
      have E:Hid (PK w lab gp gh {P.BN k T with Ap:=J} ⟨some ⟨g,C,none⟩,P.Av.length,c⟩ w.heap.size bb ⟨k,!T.V.busy,Aj.DU T,S.real==0,S.over,S.BR⟩ I):=eR (by rw[←bw.out,show(S.real==1)=false from gz hx,px];exact G.out)
      rw[ht]
      clear HP
      go_wp2_with fail
      go_meet
      case rel=>exact E.out)
     have ht:(S.real==1&&decide (0<=T.last))=true:=(by rw[hx,g5 hy];rfl)
     rw[ht]
     go_upto_region 20 with(fail)
     clear r3 s3 HP a1
     have bx:=eR (G.out.below (fx I.heap.size I).drew)
     obtain⟨cq,bi,ey,ez,d0,n,l1,l2,U⟩:=bx.out.p
     obtain⟨a1,a⟩:=n.NA (Zg au)
     have t2:bi[k].last=T.last:=(n.th k bi[k] _ (gl a1) au).2.1.trans (KN T)
     obtain⟨i,d6⟩:=lj hy
     have d7:i<P.Ap.length:=Zo
     have b9:i<(P.BN k T).Ap.length:=d7
     have r3:=a 3 _ rfl
     simp[E6.l,t2,d6] at r3
     obtain⟨g2,an,c2,Z,_⟩:=Fa n.KE (by show 0<P.Ap.length;omega)
     have e0:cq=⟨some ⟨g2,an,none⟩,P.Ap.length,c2⟩:=by
      obtain⟨ba,bn,bc⟩:=cq;unfold B5.v at Z;injection Z with e1 e2 e3;subst e1;subst e2;subst e3;rfl
     subst e0
     have c3:=n.bk.cell 3
     simp[B5.v] at c3
     have c6:=NP WB n.KE i b9 6 _ rfl
     have f6:=OP n.KE (an+i*10+6)
     have Zm:=n.qz bx.out.e.lt au a1 rfl i b9
     have e4:d0 g2=2:=n.l2 g2 rfl
     have bj:=eR (fy n (fy l1 (fy l2 U)))
     clear n l1 l2 U a t2 Z G bu hF
     refine Yh (λX=>X.cell? ⟨gp,3,none⟩=some (.slice (some ⟨g2,an,none⟩) P.Ap.length c2)/\X.cell? ⟨g,C+k*4+3,none⟩=some (.int .i64 i)) 8 Zk ⟨c3,r3⟩ (λD=>?_)
     clear c3 r3
     generalize I.drew=I at*
     ((try simp only[ZL]);refine vT (fuel:=3) D [0,1,2,3,4,5,6,7] ?_;simp only[Yb,Xv,fs];(repeat (first|go_big_quiet_skip|(go_big_quiet_want;first|(go_big_quiet_op;go_big_quiet_on)|(apply g7;refine⟨λw' y=>?_,?_⟩;(· ((obtain⟨q1,q2⟩:=y);go_simp;first|done|rfl|exact⟨rfl,rfl⟩));go_big_quiet_on;simp only[ZL]))));refine gw ?_;(try dsimp only))
     clear D
     ((refine Xn 8 Zk (λK d=>?_);simp only[Xv,fs]);go_wp2_with fail;refine d.out _ _ (λh=>absurd h Zo) ?_;clear d)
     ((refine Xn 9 Zk (λK d=>?_);simp only[Xv,fs]);go_wp2_with fail;refine d.out _ _ (λh=>absurd h Zo) ?_;clear d)
     (refine Xn 10 Zk (λK d=>?_);simp only[Xv,fs])
     go_wp2_with fail
     refine d.out _ _ (λh=>absurd h Zo) ?_
     clear d
     refine Yk Zk ?_ _
     obtain⟨di,dj,dk,ao,ap⟩:=Zm
     have E:Hid (PK w lab gp gh { P.BN k T with Ap:=J } ⟨some ⟨g,C,none⟩,P.Av.length,c⟩ w.heap.size bb ⟨k,!T.V.busy,Aj.DU T,S.real==0,S.over,S.BR⟩ (I.setCell ⟨g2,an+i*10+6,none⟩ (.bool true))):=eR (by
      have q:=bx.out.Ar bj.out.1 bj.out.2.1 bj.out.2.2.1 bj.out.2.2.2 ao (NW I g2 _ _ (by rw[e4];decide)) ap;have e1:(P.BN k T).Ap.set i {(P.BN k T).Ap[i] with real:=true}=J:=by
       rw[←bw.out,hx,g5 hy,d6];exact(aA (λb:Yr=>{b with real:=true}) P.Ap i d7).symm
      rw[←e1];exact q)
     generalize I.setCell ⟨g2,an+i*10+6,none⟩ (.bool true)=I at*
     clear ao ap bj bx c6 f6
     go_wp2_with fail
     go_meet
     case rel=>exact E.out
    case rest=>
     have E:=eR hcut
     clear hcut r3 s3 HP a1 G bu hF
     rename World=>WX
     obtain⟨I,rfl⟩:∃W,W=WX:=⟨_,rfl⟩
     obtain⟨⟨ba,bn,bc⟩,ct,e5,e6,bl,n,l1,l2,U⟩:=E.out.p
     have cu:({P.BN k T with Ap:=J}:Aj).Av[k]?=some {Aj.ready T with V:=((Aj.ready T).V.step P.heap).1}:=au
     obtain⟨cv,a⟩:=n.NA (Zg cu)
     obtain⟨t1,t2,t3⟩:=n.th k ct[k] _ (gl cv) cu
     have cw:bn = J.length:=(by
      obtain⟨A,c',hv,_⟩:=AN n.KE;unfold B5.v at hv;injection hv)
     subst cw
     have c3:=n.bk.cell 3
     simp[B5.v] at c3
     have r3:=a 3 _ rfl
     simp[E6.l,t2,KN] at r3
     have f3:=rT n.KH (g:=g) rfl (C+k*4+3)
     have lg:bl g=1:=n.l1 g rfl
     obtain⟨ek,el,em,ax,a7⟩:=n.qI E.out.e.lt cu cv rfl 3 (.int .i64 J.length) {ct[k] with last:=J.length} {Aj.ready T with V:=((Aj.ready T).V.step P.heap).1,last:=J.length} rfl Zd ⟨t1,rfl,t3⟩
     have cx:=eR (E.out.Ar n l1 l2 U ax (NW I g _ _ (by rw[lg];decide)) a7)
     clear ax a7 n l1 l2 U t1 t2 t3 a E
     go_upto_region 22 with(fail)
     generalize I.setCell ⟨g,C+k*4+3,none⟩ (.int .i64 J.length)=cy at*
     obtain⟨B,hB⟩:∃B:Yr,(⟨k,!T.V.busy,Aj.DU T,S.real==0,S.over,S.BR⟩:Yr)=B:=⟨_,rfl⟩
     rw[hB] at cx
     have d9:=eR hB
     clear hB
     have O:=eR (cx.out.below (fx cy.heap.size cy).drew)
     clear cx c3 r3 f3 lg cv
     obtain⟨⟨ba,bn,bc⟩,ct,e5,e6,bl,n,l1,l2,U⟩:=O.out.p
     have cz:((P.BN k T).Av.set k {Aj.ready T with V:=((Aj.ready T).V.step P.heap).1,last:=J.length})[k]?=some {Aj.ready T with V:=((Aj.ready T).V.step P.heap).1,last:=J.length}:=ij (Zg au)
     have cw:bn = J.length:=(by
      obtain⟨A,c',hv,_⟩:=AN n.KE;unfold B5.v at hv;injection hv)
     subst cw
     have c3:=n.bk.cell 3
     simp[B5.v] at c3
     have X0:=O.out.b
     refine Yh (λX=>Bk X bb 42 B.l.toArray/\X.cell? ⟨gp,3,none⟩=some (.slice ba J.length bc)) 8 Zk ⟨X0,c3⟩ (λD=>?_)
     clear c3 X0
     generalize cy.drew=ad at*
     ((try simp only[ZL]);refine vT (fuel:=5) D [0,1,2,3,4,5] ?_;simp only[Yb,Xv,fs];(repeat (first|go_big_quiet_skip|(go_big_quiet_want;first|(go_big_quiet_op;go_big_quiet_on)|(apply g7;refine⟨λw' y=>?_,?_⟩;(· ((have q1:=y.2;have y0:=y.1.cell 0;have y1:=y.1.cell 1;have y2:=y.1.cell 2;have y3:=y.1.cell 3;have y4:=y.1.cell 4;have y5:=y.1.cell 5;have y6:=y.1.cell 6;have y7:=y.1.cell 7;have y8:=y.1.cell 8;have y9:=y.1.cell 9;simp[Yr.l,AV.l,DI.l] at y0 y1 y2 y3 y4 y5 y6 y7 y8 y9);go_simp;first|done|rfl|exact⟨rfl,rfl⟩));go_big_quiet_on;simp only[ZL]))));refine gw ?_;(try dsimp only))
     (refine Xn 6 Zk (λK d=>?_);simp only[Xv,fs])
     go_wp2_with fail
     have hA:=(fx ad.heap.size ad).alloc (Nat.le_refl _) (.cells B.l.toArray 42)
     have av:=n.below hA
     have b0:=eR (O.out.below hA)
     obtain⟨u,w7,ca,ho,hg,ea⟩:=MF (ad.alloc (.cells B.l.toArray 42)) _ J av.KE (by have:=d3.out;omega) B ad.heap.size (Bk.at_ rfl) 37
     obtain⟨ua,uc,rfl,_⟩:=AN ho
     have S2:Bk (ad.alloc (.cells B.l.toArray 42)) bb 42 B.l.toArray/\(ad.alloc (.cells B.l.toArray 42)).cell? ⟨gp,3,none⟩=some (.slice ba J.length bc):=⟨b0.out.b,(by have c3:=av.bk.cell 3;simp[B5.v] at c3;exact c3)⟩
     refine d.out _ _ (λ_=>S2) ?_
     clear d D
     have D:=S2
     have fj:ad.heap.size+1<=w7.heap.size:=(by have:=hg.size;simpa using this)
     have c5:bb<ad.heap.size:=O.out.b.lt
     have fk:gp<ad.heap.size:=n.bk.lt
     have nb:∀x,(Value.slice ba J.length bc).ownBlock=some x->bl x=2:=λx hx=>n.l2 x hx
     have S3:Bk w7 bb 42 B.l.toArray/\w7.cell? ⟨gp,3,none⟩=some (.slice ba J.length bc):=⟨S2.1.grown hg (λe=>by have:=nb bb e.symm;omega),(Gg (hg.block gp (by simp;omega) (λe=>by have:=nb gp e.symm;rw[n.l0] at this;omega)) 3).trans S2.2⟩
     obtain⟨di,dj,dk,ao,ap⟩:=av.ra (u:=⟨ua,(J++[B]).length,uc⟩) b0.out.e.lt cz (by rw[av.len];exact Zg cz) ho hg ea
     have CJ:CI (λb=>bl b<1000) (ad.alloc (.cells B.l.toArray 42)) (w7.setCell ⟨gp,3,none⟩ (.slice ua (J++[B]).length uc)):=AR (lS hg λx hx=>by rw[nb x hx];decide) (NW (Q:=λb=>bl b<1000) w7 gp 3 _ (by rw[n.l0];decide)) λb hb=>fq hb
     have H:Hid (PK w lab gp gh Q.1 ⟨some ⟨g,C,none⟩,P.Av.length,c⟩ w.heap.size bb B (w7.setCell ⟨gp,3,none⟩ (.slice ua (J++[B]).length uc))):=eR (by
      have q:=b0.out.Ar av l1 l2 U ao CJ ap;have e1:Q.1={P.BN k T with Av:=(P.BN k T).Av.set k {Aj.ready T with V:=((Aj.ready T).V.step P.heap).1,last:=J.length},Ap:=J++[B]}:=by
       rw[←HQ.out,←d9.out,d3.out,←bw.out,←d5.out];unfold Aj.BV Aj.BN;simp only[ob]
      rw[e1];exact q)
     have c7:=S3.2
     have f7:=(av.bk.grown hg (λe=>by have:=nb gp e.symm;rw[n.l0] at this;omega)).free 3
     clear n av hA b0 l1 l2 U ao ap CJ S2 ea hg ho O cz nb
     generalize fm:(J++[B]).length=fl at*
     (refine Xn 7 Zk (λK d=>?_);simp only[Xv,fs])
     go_wp2_with (at_builtin;refine Yj Zr _ _ _ _ _ _ _ Zr Zr Zr ca ?_)
     refine d.out _ _ (λ_=>S3) ?_
     clear d D ca
     ((refine Xn 8 Zk (λK d=>?_);simp only[Xv,fs]);go_wp2_with fail;refine d.out _ _ (λh=>absurd h Zo) ?_;clear d)
     ((refine Xn 9 Zk (λK d=>?_);simp only[Xv,fs]);go_wp2_with fail;refine d.out _ _ (λh=>absurd h Zo) ?_;clear d)
     (refine Xn 10 Zk (λK d=>?_);simp only[Xv,fs])
     go_wp2_with fail
     refine d.out _ _ (λh=>absurd h Zo) ?_
     clear d S3 c7 f7
     refine Yk Zk ?_ _
     generalize w7.setCell ⟨gp,3,none⟩ (.slice ua fl uc)=fo at*
     have y0:=H.out.b.cell 0;have y1:=H.out.b.cell 1;have y2:=H.out.b.cell 2;have y3:=H.out.b.cell 3;have y4:=H.out.b.cell 4;have y5:=H.out.b.cell 5;have y6:=H.out.b.cell 6;have y7:=H.out.b.cell 7;have y8:=H.out.b.cell 8;have y9:=H.out.b.cell 9
     simp[Yr.l,AV.l,DI.l] at y0 y1 y2 y3 y4 y5 y6 y7 y8 y9
     have e7:Hid (Q.2=B):=eR (by rw[←HQ.out,←d9.out,←d5.out];rfl)
     clear hi hs eb ec ed b8 hh cb
     try clear hg
     try clear c5
     go_wp2_with (refine vM H.out.r ?_;intro fp m;have z0:=m.bk.cell 0;have z1:=m.bk.cell 1;have z2:=m.bk.cell 2;have z3:=m.bk.cell 3;have z4:=m.bk.cell 4;have z5:=m.bk.cell 5;have z6:=m.bk.cell 6;have z7:=m.bk.cell 7;have z8:=m.bk.cell 8;have z9:=m.bk.cell 9;simp at z0 z1 z2 z3 z4 z5 z6 z7 z8 z9;have e8:=eR m;clear m y0 y1 y2 y3 y4 y5 y6 y7 y8 y9)
     refine js (v:=.tuple #[.agg #[.int .i64 B.AW,.bool B.uV,.int .i64 B.op.kind,.int .i64 B.op.key,.int .i64 B.op.val,.int .i64 B.op.Al,.bool B.real,.bool B.ends,.int .i64 B.BR.code,.int .i64 B.BR.val],.nilIface]) (by simp[results,Tryz.results17,go_sem,z0,z1,z2,z3,z4,z5,z6,z7,z8,z9]) rfl ?_
     exact⟨by rw[e7.out];rfl,H.out.done e8.out.grown⟩
