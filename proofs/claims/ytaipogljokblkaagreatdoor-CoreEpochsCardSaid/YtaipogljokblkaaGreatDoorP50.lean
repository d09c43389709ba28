/- Core: FeB, QN, BeN, FeC. -/
import Derived.Test.YtaipogljokblkaaGreatDoorP36
import Derived.Deep.LoopGhost
import Derived.Test.YtaipogljokblkaaGreatDoorP49
set_option linter.all false
set_option maxRecDepth 100000
set_option maxHeartbeats 8000000
namespace Go.Proofs.YtaipogljokblkaaGreatDoor
open Go Go.RowKit
structure mH(w:World)(lab0:Nat->Nat)(gp gh:Nat)(P:Aj)(tv:B5)(W:World):Prop where
 p:∃bv ro Fh Ft lab,DK W gp gh P tv bv ro Fh Ft lab/\∀b,lab b<1000->lab0 b<1000\/w.heap.size<=b
 c:CI (λb=>lab0 b<1000) w W
 e:AT W
 z:7<=w.heap.size
section
variable{w W W':World}{lab0:Nat->Nat}{gp gh:Nat}{P P':Aj}{tv:B5}
def mH.below(h:mH w lab0 gp gh P tv W)(a:Below W.heap.size W W'):mH w lab0 gp gh P tv W':=by
 obtain⟨bv,ro,Fh,Ft,lab,f,g⟩:=h.p;exact⟨⟨bv,ro,Fh,Ft,lab,f.below a,g⟩,⟨a.os.trans h.c.os,a.tape.trans h.c.tape,a.output.trans h.c.output,gb h.c.size a.size,λb d i=>(a.block b (ib d h.c.size)).trans (h.c.A5 b d i)⟩,h.e.below a,h.z⟩
def mH.Ar{bv bv':B5}{ro ro':List E6}{Fh Fh':List Nat}{Ft g:Nat->Nat->Prop}{lab a:Nat->Nat}(h:mH w lab0 gp gh P tv W)(m:DK W gp gh P tv bv ro Fh Ft lab)(j:∀b,lab b<1000->lab0 b<1000\/w.heap.size<=b)
  (hp':DK W' gp gh P' tv bv' ro' Fh' g a)(d:CI (λb=>lab b<1000) W W')(n:∀b,a b<1000->lab b<1000\/W.heap.size<=b):mH w lab0 gp gh P' tv W':=by
 have o:=h.c.size
 refine⟨⟨bv',ro',Fh',g,a,hp',λx i=>(n x i).elim (j x) λf=>db Zo⟩,⟨d.os.trans h.c.os,d.tape.trans h.c.tape,d.output.trans h.c.output,gb h.c.size d.size,λx i l=>(d.A5 x Zo λf=>?_).trans (h.c.A5 x i l)⟩,h.e.low (λx i=>d.A5 x (by have:=h.e.lt;omega) λf=>by have:=m.low x i;omega) (gb h.e.lt d.size),h.z⟩
 rcases j x f with f|f
 ·exact l f
 ·omega
def mH.other{bv:B5}{ro:List E6}{Fh:List Nat}{Ft:Nat->Nat->Prop}{lab:Nat->Nat}{s:Nat}(h:mH w lab0 gp gh P tv W)(f:DK W gp gh P tv bv ro Fh Ft lab)(g:∀b,lab b<1000->lab0 b<1000\/w.heap.size<=b)
  (a:W.grownBy W' (some s))(l:1000<=lab s)(m:w.heap.size<=s):mH w lab0 gp gh P tv W':=by
 have n:=h.z
 exact⟨⟨bv,ro,Fh,Ft,lab,f.same λx d i=>a.block x i λe=>by cases e;omega,g⟩,⟨a.os.trans h.c.os,a.tape.trans h.c.tape,a.output.trans h.c.output,gb h.c.size a.size,λx d j=>(a.block x (ib d h.c.size) λe=>by cases e;omega).trans (h.c.A5 x d j)⟩,h.e.low (λx d=>a.block x (by have:=h.e.lt;omega) λe=>by cases e;omega) (gb h.e.lt a.size),h.z⟩
def mH.Bb(h:mH w lab0 gp gh P tv W):wB w gp gh P lab0 W:=by
 obtain⟨bv,ro,Fh,Ft,lab,a,b⟩:=h.p;exact⟨tv,bv,ro,Fh,Ft,lab,a,h.c,b⟩
end
section
variable{w w':World}{gp gh:Nat}{P:Aj}{tv bv:B5}{ro:List E6}{Fh:List Nat}{Ft:Nat->Nat->Prop}{lab:Nat->Nat}{k:Nat}{T:MT}
def yB(h:DK w gp gh P tv bv ro Fh Ft lab)(A:7<=w.heap.size)(o:P.Av[k]?=some T)(s:k<ro.length)(B:T.V.Ac=0)(ok:TR T.V.M)(C:T.V.M.R.step=0):
  Kp 39 #[.pointer (some ⟨ro[k].gv,0,none⟩)] w λt w'=>t=.returned .nilIface/\PaS w gp gh (P.Qw k T T.V.scan) tv bv ro lab w':=by
 have D:=Zg o
 obtain⟨t1,t2,m,u,Q,p,i⟩:=h.th k ro[k] T (gl s) o
 obtain⟨v,E,F,G,H,I,n⟩:=id u
 refine(fA T.V ro[k].gv v E w F B G H I ok C).mono λt w' J=>?_
 obtain⟨p1,p2,j,x,K,L,S,y⟩:=J
 have z:∀b,m b->b<w.heap.size:=u.lt
 have e:∀b,m b->lab b=4+k:=λb a=>h.l4 k b D ((i b).2 (fq a))
 have c:CI m w w':=⟨j.os,j.tape,j.output,j.size,λb a q=>j.A5 b a λd=>q ((n b).2 d)⟩
 have r:NG w' gh P.heap Fh:=h.hp.same λb a=>c.A5 b (h.hp.lt b a) λd=>by have:=e b d;have:=h.l3 b a;omega
 have l:m ro[k].gv:=(n _).2 (fq rfl)
 refine⟨p1,h.upV A o s i p (V':=T.V.scan) (Fv':=λb=>b=ro[k].gv\/x b) ⟨v,.nilIface,x,p2,K,L,λ_=>j3⟩ r (λb a=>?_) (λb a=>db (fq a)) (λb a d=>?_) ⟨c.os,c.tape,c.output,c.size,λb a q=>c.A5 b a λd=>q (fq d)⟩⟩
 ·rcases a with rfl|a
  ·exact fq l
  ·exact(y b a).elim (λg=>fq ((n b).2 (db g))) λg=>db (db g)
 ·have X:=h.l3 b a;have O:=h.hp.lt b a;rcases d with rfl|d
  ·have:=e _ l;omega
  ·rcases y b d with g|g
   ·have:=e b ((n b).2 (db g));omega
   ·omega
end
def jP{R:Nat->Aj->MT->Prop}{k:Nat}(hR:∀m P T,R m P T->P.Av[k]?=some T/\(T.V.busy=true->WN T.V P.heap/\∃m',m'<m/\R m' {P with heap:=(T.V.step P.heap).2.1,Av:=P.Av.set k {T with V:=(T.V.step P.heap).1}} {T with V:=(T.V.step P.heap).1}))
  {w:World}{gp gh:Nat}{P:Aj}{tv bv:B5}{ro:List E6}{Fh:List Nat}{Ft:Nat->Nat->Prop}{lab:Nat->Nat}(h:DK w gp gh P tv bv ro Fh Ft lab)(he:AT w){T:MT}(hT:P.Av[k]?=some T)(hd:T.V.Ac=0)(ok:TR T.V.M)(hs:T.V.M.R.step=0){m0:Nat}(h0:R m0 (P.Qw k T T.V.scan) {T with V:=T.V.scan}):
  Kp 19 #[.pointer (some ⟨gp,0,none⟩),.int .i64 (k:Int)] w λen w'=>en=.returned .nilIface/\∃m P' T',R m P' T'/\T'.V.busy=false/\wB w gp gh P' lab w':=by
 have hk:k<P.Av.length:=Zg hT
 have an:P.has (k:Int)=true:=by unfold Aj.has;simp;omega
 obtain⟨g,G,c,rfl,hr,a⟩:=h.Vi hk
 have h7:=he.lt
 have hh:=Ku h (k:Int)
 rw[an] at hh
 have c2:=h.bk.cell 2
 simp[B5.v] at c2
 have z:=a 0 _ rfl
 simp[E6.l] at z
 have ao:=yB h h7 hT hr hd ok hs
 have ap:Hid (mH w lab gp gh P ⟨some ⟨g,G,none⟩,P.Av.length,c⟩ w):=eR ⟨⟨bv,ro,Fh,Ft,lab,h,λb hb=>fq hb⟩,⟨rfl,rfl,rfl,Nat.le_refl _,λ_ _ _=>rfl⟩,he,h7⟩
 have HP:=eR h
 have HR:=eR hR
 have H0:=eR h0
 clear h he a hd ok hs hR h0
 go_enter Tryz.func19,Tryz.ntmps19
 go_wp2_with fail
 refine hh.mono ?_
 rintro e w1 ⟨rfl,rfl⟩
 go_wp2_with fail
 refine ao.mono ?_
 rintro e w1 ⟨rfl,a8,a9,ba,aq,ar,au⟩
 have bb:=eR (ap.out.Ar HP.out (λb hb=>fq hb) aq ar au)
 have bl:k<ro.length:=hr
 clear aq ar au ap HP ao hh c2 z
 go_wp2_with fail
 go_loopg [] m0 (λm wr=>∃Q Z,Hid (R m Q Z/\Q.Av.length=P.Av.length)/\Hid (mH w lab gp gh Q ⟨some ⟨g,G,none⟩,P.Av.length,c⟩ wr))
 case atStart=>exact⟨_,_,eR ⟨H0.out,by show(P.Av.set k _).length=_;rw[jc]⟩,bb⟩
 case round=>
  obtain⟨Q,Z,af,L⟩:=hrel
  obtain⟨bm,bc,a8,a9,ba,hp,l3⟩:=L.out.p
  obtain⟨aa,av⟩:=HR.out _ _ _ af.out.1
  have H:k<Q.Av.length:=Zg aa
  obtain⟨bd,a⟩:=hp.NA H
  obtain⟨t1,t2,Fv,hv,hq,be⟩:=hp.th k bc[k] Z (gl bd) aa
  have B:=NH hv
  have z:=a 0 _ rfl
  simp[E6.l] at z
  clear hp l3 t1 t2 hv hq be a
  cases ab:Z.V.busy with
  |false=>
   rw[ab] at B
   clear av
   go_wp2_with fail
   refine B.mono ?_
   rintro e w2 ⟨rfl,I⟩
   have HZ:=eR (L.out.below I).Bb
   clear I L z B
   go_wp2_with fail
   go_ret
   exact⟨rfl,_,_,_,af.out.1,ab,HZ.out⟩
  |true=>
   rw[ab] at B
   obtain⟨o,m',aw,ax⟩:=av ab
   go_upto_region 15 with(go_at_call 35;refine B.mono ?_;rintro e w2 ⟨rfl,I⟩)
   have q:=eR ((L.out.below I).below (fx w2.heap.size w2).drew)
   clear L B I z
   obtain⟨bf,ag,bn,bo,bg,hp,l3⟩:=q.out.p
   obtain⟨ay,a⟩:=hp.NA H
   have z:=a 0 _ rfl
   simp[E6.l] at z
   have c1:=hp.bk.cell 1
   simp at c1
   have hG:=NJ hp q.out.e aa ay o
   refine Yh (λw'=>w'.cell? ⟨g,G+k*4,none⟩=some (.pointer (some ⟨ag[k].gv,0,none⟩))/\w'.cell? ⟨gp,1,none⟩=some (.pointer (some ⟨gh,0,none⟩))) 14 Zk ⟨z,c1⟩ (λC=>?_)
   clear z c1 a
   have D:=eR (fy hp l3)
   clear hp l3
   generalize w2.drew=U at*
   ((try simp only[ZL]);refine vT (fuel:=7) C [0,1,2,3,4,5,6,7] ?_;simp only[Yb,Xv,fs];(repeat (first|go_big_quiet_skip|(go_big_quiet_want;first|(go_big_quiet_op;go_big_quiet_on)|(apply g7;refine⟨λw' ah=>?_,?_⟩;(· ((obtain⟨q1,q2⟩:=ah);go_simp;first|done|rfl|exact⟨rfl,rfl⟩));go_big_quiet_on;simp only[ZL]))));refine gw ?_;(try dsimp only))
   obtain⟨S,bp⟩:∃S,(Z.V.step Q.heap).2.2=S:=⟨_,rfl⟩
   have J:∀ (X:World) (PX:Aj) (az:List Nat) (a0:Nat→Nat→Prop) (a1:Nat→Nat),DK X gp gh PX ⟨some ⟨g,G,none⟩,P.Av.length,c⟩ bf ag az a0 a1→k < PX.Av.length→X.cell? ⟨g,G+k*4,none⟩ = some (.pointer (some ⟨ag[k].gv,0,none⟩))∧X.cell? ⟨gp,1,none⟩ = some (.pointer (some ⟨gh,0,none⟩)):=fun X PX az a0 a1 hX bh=>(by
    obtain⟨_,a⟩:=hX.NA bh;have z:=a 0 _ rfl;have c1:=hX.bk.cell 1;simp[E6.l] at z c1;exact⟨z,c1⟩)
   have u:k<(Q.Av.set k {Z with V:=(Z.V.step Q.heap).1}).length:=(by rw[jc];exact H)
   have ai:=eR (fy aw (fy ax (show(Q.Av.set k {Z with V:=(Z.V.step Q.heap).1}).length=P.Av.length by rw[jc];exact af.out.2)))
   clear ax aw
   have hA:=(fx U.heap.size U).alloc (Nat.le_refl _) (.cells #[.bool false,.int .i64 0,.int .i64 0,.int .i64 0] 99)
   have E:=eR (D.out.1.cut.below hA)
   have aj:=NJ E.out (q.out.e.below hA) aa ay o
   have ak:=eR hA
   have N:=eR (Bk.at_ (w:=U) (g:=U.heap.size) (cs:=#[.bool false,.int .i64 0,.int .i64 0,.int .i64 0]) (t:=99) rfl)
   clear hA
   refine Gz (i:=8) (j:=12) rfl rfl Zk (λK n=>?_) (λK n=>?_)
   focus (
    go_wp2_with fail
    refine hG.mono ?_
    rintro e Y ⟨rfl,bi,bj,ad,r,F,y⟩
    have O:=eR (q.out.Ar D.out.1 D.out.2 r F y)
    have d:=eR r
    clear r F y hG aj q D E ak N
    go_wp2_with fail
    refine n.out _ _ ⟨λ_=>J Y _ _ _ _ d.out u,?_⟩
    clear n C
    have C:=J Y _ _ _ _ d.out u
    ((try simp only[ZL]);refine vT (fuel:=3) C [9,10,11] ?_;simp only[Yb,Xv,fs];(repeat (first|go_big_quiet_skip|(go_big_quiet_want;first|(go_big_quiet_op;go_big_quiet_on)|(apply g7;refine⟨λw' ah=>?_,?_⟩;(· (skip;go_simp;first|done|rfl|exact⟨rfl,rfl⟩));go_big_quiet_on;simp only[ZL]))));refine gw ?_;(try dsimp only))
    have hA:=(fx Y.heap.size Y).alloc (Nat.le_refl _) (.cells #[.bool false,.int .i64 0,.int .i64 0,.int .i64 0] 99)
    have a2:=eR (Bk.at_ (w:=Y) (g:=Y.heap.size) (cs:=#[.bool false,.int .i64 0,.int .i64 0,.int .i64 0]) (t:=99) rfl)
    (refine Xn 12 Zk (λK n=>?_);simp only[Xv,fs])
    go_wp2_with fail
    refine n.out _ _ (λ_=>J _ _ _ _ _ (d.out.below hA) u) ?_
    clear n C
    have C:=J _ _ _ _ _ (d.out.below hA) u
    (refine Xn 13 Zk (λK n=>?_);simp only[Xv,fs])
    go_wp2_with (refine vM a2.out ?_;intro W9 o;have al:=o.below hA (Nat.le_refl _);have a3:=eR (O.out.below al);have s:=J _ _ _ _ _ (d.out.below al) u;clear o al)
    refine n.out _ _ (λ_=>s) ?_
    clear n C s hA a2 O d J
    generalize Y.heap.size=sb at*)
   rotate_left 1
   focus (
    go_wp2_with fail
    refine n.out _ _ ⟨λ_=>J _ _ _ _ _ E.out H,?_⟩
    clear n C hG
    have C:=J _ _ _ _ _ E.out H
    have am:=eR (q.out.below ak.out)
    (refine Xn 8 Zk (λK n=>?_);simp only[Xv,fs])
    go_wp2_with fail
    refine aj.mono ?_
    rintro e Y ⟨rfl,bi,bj,ad,r,F,y⟩
    have m3:∀b,(if b<U.heap.size then bg b else 1000)<1000->lab b<1000\/w.heap.size<=b:=λb hb=>(by split at hb;exact D.out.2 b hb;omega)
    have O:=eR (am.out.Ar E.out m3 r F y)
    have a4:Bk Y U.heap.size 99 #[.bool false,.int .i64 0,.int .i64 0,.int .i64 0]:=N.out.same (F.A5 _ N.out.lt (by show ¬(if _ then _ else _)<1000;rw[fw Zo];omega))
    have a5:=N.out.lt
    have ls:1000≤ad U.heap.size:=(by
     rcases iw (ad U.heap.size) 1000 with h'|h'
     ·rcases y _ h' with h2|h2
      ·have h2:(if _ then _ else _)<1000:=h2;rw[fw Zo] at h2;omega
      ·omega
     ·exact h')
    have k3:∀b,ad b<1000->lab b<1000\/w.heap.size<=b:=λb hb=>(y b hb).elim (m3 b) λh'=>db (by have:=am.out.c.size;omega)
    have d:=eR r
    have a6:=eR a4
    have a7:w.heap.size<=U.heap.size:=q.out.c.size
    have s:=J Y _ _ _ _ r u
    clear r F y a4 aj D E ak N am m3 q
    go_wp2_with fail
    refine n.out _ _ (λ_=>s) ?_
    clear n C
    have C:=s
    ((try simp only[ZL]);refine vT (fuel:=2) C [9,10,11] ?_;simp only[Yb,Xv,fs];(repeat (first|go_big_quiet_skip|(go_big_quiet_want;first|(go_big_quiet_op;go_big_quiet_on)|(apply g7;refine⟨λw' ah=>?_,?_⟩;(· (skip;go_simp;first|done|rfl|exact⟨rfl,rfl⟩));go_big_quiet_on;simp only[ZL]))));refine gw ?_;(try dsimp only))
    (refine Xn 13 Zk (λK n=>?_);simp only[Xv,fs])
    go_wp2_with (refine vM a6.out ?_;intro W9 o;have a3:=eR (O.out.other d.out k3 o.grown ls a7);have s:=J W9 _ _ _ _ (d.out.same λx hx hl=>o.grown.block x hl λe=>by cases e;omega) u;clear o)
    refine n.out _ _ (λ_=>s) ?_
    clear n C s a6 O d J ls k3 a7 a5
    generalize U.heap.size=sb at*)
   rotate_left 1
   all_goals (
    ((refine Xn 14 Zk (λK n=>?_);simp only[Xv,fs]);go_wp2_with fail;refine n.out _ _ (λh=>absurd h Zo) ?_;clear n)
    refine Yk Zk ?_ _
    go_wp2_with fail
    go_roundg m'
    case measure=>exact ai.out.1
    case rel=>exact⟨_,_,eR ⟨ai.out.2.1,ai.out.2.2⟩,a3⟩)
def TS(w:World)(e:TypeId)(sz n:Nat)(xs:List Value)(a:Ending)(w':World):Prop:=
 ∃v,a=.returned v/\Own w' e sz v n xs/\Below w.heap.size w w'/\(∀b,v.ownBlock=some b->w.heap.size<=b)
def PY(w:World)(t e:TypeId)(i:TypeInfo)(z:Value)(sz bytes:Nat)(q:Tryz.prog.underlying t=some (.slice e))(r:Tryz.prog.info? e=some i)(x:i.zero=some z)
  (d:i.size=sz)(n:i.bytes=bytes)(o:z.cells.size=sz)(p:0<sz)(g:Nat)(y:Bk w g e #[])(a:Addr)(m c:Nat)(b:List Value)(s:b.length=m*sz)(f:∀j u,b[j]?=some u->w.cell? (a.add j)=some u)(I:∀u∈b,u.oneCell'=true)
  (J:m<=maxLen)(B:m*bytes<=140737488355328):
  ∃v' w',(Builtin.append_ #[t,t] t #[.slice (some ⟨g,0,none⟩) 0 0,.slice (some a) m c]).run Tryz.prog w=.ok v' w'/\Own w' e sz v' m b/\w.grownBy w' none/\Gi w (.slice (some ⟨g,0,none⟩) 0 0) v':=by
 have C:Own w e sz (.slice (some ⟨g,0,none⟩) 0 0) 0 []:=⟨by simp,.inr ⟨g,0,0,[],[],rfl,by simpa using y,rfl,Nat.le_refl _,Zd,by simp⟩⟩
 by_cases D:m=0
 ·subst D;obtain rfl:b=[]:=jr (by simpa using s);refine⟨_,w,?_,C,Tw _ _,λ_ h=>fq h⟩;simp[Builtin.append_,kz q,sizeOf,typeInfo,r,Builtin.lenOf,Builtin.firstCells,loadCells,loadCellsFrom,storeCells]
 ·obtain⟨v',w',E,l⟩:=run_append_arg_grows (P:=Tryz.prog) w t t e i z sz bytes q r x d n o p ⟨g,0,none⟩ 0 0 [] Zs (λj u F=>by simp at F) a m c b s f Zo Zo (by simpa using B);simp only[ml,nV] at l;refine⟨v',w',E,Own.ZW l.1,l.2,λk v=>db ?_⟩;rcases l.1.2 with⟨rfl,_⟩|⟨K,G,L,rfl,H,_⟩
  ·cases v
  ·cases v;exact H
def lY(l:List Yr):∀u∈rows Yr.l l,u.oneCell'=true:=by
 intro u a;unfold rows at a;obtain⟨x,_,b⟩:=sx.1 a;exact tz x u b
def PL(w:World)(A:Option Addr)(c:Nat)(l:List Yr)(h:Own w 42 10 (.slice A l.length c) l.length (rows Yr.l l))(K:l.length<=100000):
  Kp 27 #[.slice A l.length c] w (TS w 42 10 l.length (rows Yr.l l)):=by
 cases A with
 |none=>
  have n:l.length=0/\c=0:=by
   rcases h.2 with⟨o,x⟩|⟨g,d,p,A,R,q,_⟩
   ·injection o with L M C;exact⟨x,C⟩
   ·cases q
  obtain⟨n,rfl⟩:=n
  have i:rows Yr.l l=[]:=jr (by rw[Zb WB,n])
  rw[i,n]
  have D:∀w,(binOp .eql 37 (.slice none 0 0) (.slice none 0 0)).run Tryz.prog w=.ok (.bool true) w:=λw=>nn (P:=Tryz.prog) w 37 42 none 0 0 0 0 Tryz.underlying37
  go_enter Tryz.func27,Tryz.ntmps27
  go_wp2_with fail
  go_ret
  exact⟨_,rfl,Own.nil,fx _ _,λb e=>by cases e⟩
 |some a=>
  obtain⟨g,d,ha⟩:∃g d,a=⟨g,d,none⟩:=by
   rcases h.2 with⟨o,x⟩|⟨g,d,p,A,R,q,_⟩
   ·cases o
   ·cases q;exact⟨_,_,rfl⟩
  subst ha
  have D:∀w,(binOp .eql 37 (.slice (some ⟨g,d,none⟩) l.length c) (.slice none 0 0)).run Tryz.prog w=.ok (.bool false) w:=λw=>nn (P:=Tryz.prog) w 37 42 (some ⟨g,d,none⟩) l.length c 0 0 Tryz.underlying37
  obtain⟨r,E,F,s,v⟩:=og VV
  obtain⟨G,H,k,y,m,z⟩:=PY (w.alloc (.cells #[] 42)) 37 42 r _ 10 72 Tryz.underlying37 E F s v rfl Zo w.heap.size (Bk.at_ rfl) ⟨g,d,none⟩ l.length c (rows Yr.l l) (Zb WB l)
   (λj u I=>by rw[nj];exact Cl (h.alloc _) j u I) (lY l) (by simp only[maxLen];omega) Zo
  have B:Below w.heap.size w H:=((fx _ _).alloc (Nat.le_refl _) _).trans (JT m Zs (by intro b e;cases e))
  have hF:∀b,G.ownBlock=some b->w.heap.size<=b:=λb e=>by
   rcases z b e with h1|h1
   ·cases h1;exact Nat.le_refl _
   ·simp at h1;omega
  have J:=eR (fy y (fy B hF));clear y B hF m z h
  go_enter Tryz.func27,Tryz.ntmps27
  go_wp2_with (at_builtin;refine Yj Zr _ _ _ _ _ _ _ Zr Zr Zr k ?_)
  go_ret
  exact⟨_,rfl,J.out⟩
def lZ{w:World}{d gh:Nat}{P:Aj}{g bv:B5}{i:List E6}{Fh:List Nat}{j:Nat->Nat->Prop}{lab:Nat->Nat}(h:DK w d gh P g bv i Fh j lab)(k:P.Ap.length<=100000):
  Kp 11 #[.pointer (some ⟨d,0,none⟩)] w (TS w 42 10 P.Ap.length (rows Yr.l P.Ap)):=by
 obtain⟨A,c,a,_⟩:=AN h.KE
 have b:=h.KE
 rw[a] at b
 have m:=PL w A c P.Ap b k
 have n:=h.bk.cell 3
 simp[a] at n
 clear h b a
 go_enter Tryz.func11,Tryz.ntmps11
 go_wp2_with fail
 refine m.mono ?_
 rintro e r ⟨v,rfl,o,p,q⟩
 go_wp2_with fail
 go_ret
 exact⟨v,rfl,o,p,q⟩
def ts(x:Xw):x.l.length=7:=rfl
def VM(x:Xw):∀u∈x.l,u.oneCell'=true:=by intro u a;simp[Xw.l,Xe.l] at a;rcases a with rfl|rfl|rfl|rfl|rfl|rfl|rfl<;>rfl
def kE(l:List Xw):∀u∈rows Xw.l l,u.oneCell'=true:=by
 intro u a;unfold rows at a;obtain⟨x,_,b⟩:=sx.1 a;exact VM x u b
def PJ(w:World)(A:Option Addr)(c:Nat)(l:List Xw)(h:Own w 201 7 (.slice A l.length c) l.length (rows Xw.l l))(K:l.length<=100000):
  Kp 82 #[.slice A l.length c] w (TS w 201 7 l.length (rows Xw.l l)):=by
 cases A with
 |none=>
  have n:l.length=0/\c=0:=by
   rcases h.2 with⟨o,x⟩|⟨g,d,p,A,R,q,_⟩
   ·injection o with L M C;exact⟨x,C⟩
   ·cases q
  obtain⟨n,rfl⟩:=n
  have i:rows Xw.l l=[]:=jr (by rw[Zb ts,n])
  rw[i,n]
  have D:∀w,(binOp .eql 64 (.slice none 0 0) (.slice none 0 0)).run Tryz.prog w=.ok (.bool true) w:=λw=>nn (P:=Tryz.prog) w 64 201 none 0 0 0 0 Tryz.underlying64
  go_enter Tryz.func82,Tryz.ntmps82
  go_wp2_with fail
  go_ret
  exact⟨_,rfl,Own.nil,fx _ _,λb e=>by cases e⟩
 |some a=>
  obtain⟨g,d,ha⟩:∃g d,a=⟨g,d,none⟩:=by
   rcases h.2 with⟨o,x⟩|⟨g,d,p,A,R,q,_⟩
   ·cases o
   ·cases q;exact⟨_,_,rfl⟩
  subst ha
  have D:∀w,(binOp .eql 64 (.slice (some ⟨g,d,none⟩) l.length c) (.slice none 0 0)).run Tryz.prog w=.ok (.bool false) w:=λw=>nn (P:=Tryz.prog) w 64 201 (some ⟨g,d,none⟩) l.length c 0 0 Tryz.underlying64
  obtain⟨r,E,F,s,v⟩:=og LI
  obtain⟨G,H,k,y,m,z⟩:=PY (w.alloc (.cells #[] 201)) 64 201 r _ 7 56 Tryz.underlying64 E F s v rfl Zo w.heap.size (Bk.at_ rfl) ⟨g,d,none⟩ l.length c (rows Xw.l l) (Zb ts l)
   (λj u I=>by rw[nj];exact Cl (h.alloc _) j u I) (kE l) (by simp only[maxLen];omega) Zo
  have B:Below w.heap.size w H:=((fx _ _).alloc (Nat.le_refl _) _).trans (JT m Zs (by intro b e;cases e))
  have hF:∀b,G.ownBlock=some b->w.heap.size<=b:=λb e=>by
   rcases z b e with h1|h1
   ·cases h1;exact Nat.le_refl _
   ·simp at h1;omega
  have J:=eR (fy y (fy B hF));clear y B hF m z h
  go_enter Tryz.func82,Tryz.ntmps82
  go_wp2_with (at_builtin;refine Yj Zr _ _ _ _ _ _ _ Zr Zr Zr k ?_)
  go_ret
  exact⟨_,rfl,J.out⟩
def bT(w:World)(n:Nat)(a:Ending)(w':World):Prop:=∃A c,a=.returned (.slice A n c)/\Below w.heap.size w w'
def bT.of{w w':World}{n:Nat}{l:List Xw}{a:Ending}(h:TS w 201 7 n (rows Xw.l l) a w'):bT w n a w':=by
 obtain⟨v,rfl,b,d,_⟩:=h;obtain⟨A,c,rfl,_⟩:=AN b;exact⟨A,c,rfl,d⟩
def Zx{w:World}{i:Nat}{M:MR}{F:List Nat}(h:Le w i M F)(m:M.ns.length<=100000):
  Kp 60 #[.pointer (some ⟨i,0,none⟩)] w (bT w M.ns.length):=by
 obtain⟨a,b,c,h,_⟩:=h
 obtain⟨A,n,j,_⟩:=AN h.on
 have d:=h.on
 have g:=(tl h.bk).1
 rw[j] at d g
 have k:=PJ w A n M.ns d m
 clear h d j
 go_enter Tryz.func60,Tryz.ntmps60
 go_wp2_with fail
 refine k.mono ?_
 rintro e p l
 obtain⟨q,r,rfl,o⟩:=bT.of l
 clear l k
 go_wp2_with fail
 go_ret
 exact⟨_,_,rfl,o⟩
def XG{w:World}{gv:Nat}{V:MV}{F:Nat->Prop}(h:VB w gv V F)(k:V.M.ns.length<=100000):
  Kp 38 #[.pointer (some ⟨gv,0,none⟩)] w (bT w V.M.ns.length):=by
 obtain⟨d,m,o,g,b,_,_⟩:=h
 have c:∃a,Le w d V.M a:=by
  cases i:V.Bl with
  |none=>rw[i] at b;obtain⟨_,a,h,_⟩:=b;exact⟨a,h⟩
  |some J=>rw[i] at b;obtain⟨a,_,h,_⟩:=b;exact⟨a,h⟩
 obtain⟨a,c⟩:=c
 have j:=Zx c k
 have p:w.cell? ⟨gv,2,none⟩=some (.pointer (some ⟨d,0,none⟩)):=g.cell 2
 clear g b c
 generalize V.M.ns.length=n at*
 go_enter Tryz.func38,Tryz.ntmps38
 go_wp2_with fail
 refine j.mono ?_
 rintro e q ⟨r,s,rfl,l⟩
 clear j
 go_wp2_with fail
 go_ret
 exact⟨_,_,rfl,l⟩
def ZF{w:World}{m gh:Nat}{P:Aj}{s bv:B5}{b:List E6}{Fh:List Nat}{t:Nat->Nat->Prop}{lab:Nat->Nat}(h:DK w m gh P s bv b Fh t lab){k:Nat}{T:MT}(d:P.Av[k]?=some T)(o:T.V.M.ns.length<=100000):
  Kp 18 #[.pointer (some ⟨m,0,none⟩),.int .i64 (k:Int)] w (bT w T.V.M.ns.length):=by
 have u:k<P.Av.length:=by
  rcases iw k P.Av.length with h|h
  ·exact h
  ·rw[ik h] at d;cases d
 have a:P.has (k:Int)=true:=by unfold Aj.has;simp;omega
 have p:=Ku h (k:Int)
 rw[a] at p
 obtain⟨g,x,c,rfl,y,q⟩:=h.Vi u
 have i:=h.th k b[k] T (gl y) d
 obtain⟨t1,t2,F,r,z,_⟩:=i
 have B:=h.bk.cell 2
 simp[B5.v] at B
 have C:=q 0 _ rfl
 simp[E6.l] at C
 have D:=XG r o
 clear h q r z t1 t2 o
 generalize T.V.M.ns.length=n at*
 generalize E:b[k]=G at*
 go_enter Tryz.func18,Tryz.ntmps18
 go_wp2_with (first|(go_at_call 24;refine p.mono ?_;rintro e H ⟨rfl,rfl⟩)|(go_at_call 38;refine D.mono ?_;rintro e I ⟨J,K,rfl,j⟩))
 go_ret
 exact⟨_,_,rfl,j⟩
structure CE(w0 wr:World)(gp gh:Nat)(st:Int)(n nt e:Nat)(P:Aj)(g:EG):Prop where
 w:PW w0 wr gp gh st n nt 60000 P
 g:K4 st n nt e P g
structure CQ(w0 wr:World)(gp gh:Nat)(st:Int)(n nt e k:Nat)(P:Aj)(g:EG)(T:MT):Prop where
 c:CE w0 wr gp gh st n nt e P g
 A:∀j,g.A j=none
 t:P.Av[k]?=some T
 d:T.V.Ac=0
 b:P.Ap.length<=59000
section
variable{w0 wr w':World}{gp gh:Nat}{st:Int}{n nt k e:Nat}{P:Aj}{T:MT}{g:EG}
def CE.any(j:La)(h:CE w0 wr gp gh st n nt e P g)(l:k<nt)(o:P.Ap.length<=3000):Kp 17 #[.pointer (some ⟨gp,0,none⟩),.int .i64 (k:Int)] wr λc w'=>(∃v,c=.returned v)/\∃P' g',CE w0 w' gp gh st n nt e P' g'/\P'.Ap.length<=P.Ap.length+1:=by
 obtain⟨T,d⟩:=h.w.Av l;have r:=h.g.Q7;cases i:Aj.CO T with
 |true=>
  refine(h.w.rM d i).mono ?_;rintro c m ⟨⟨s,q,rfl⟩,a⟩;exact⟨⟨_,rfl⟩,P,g,⟨a,h.g⟩,Zo⟩
 |false=>
  obtain⟨g',t,p1,_,_,u,_⟩:=h.g.pick d i Zo;refine(h.w.pick j d i (Nat.le_refl _) Zo).mono ?_;rintro c m ⟨rfl,a⟩;exact⟨⟨_,rfl⟩,_,g',⟨⟨a.p,p1.gi.up Zo,a.e,a.b,a.z⟩,p1⟩,Zo⟩
def CE.rest(y:La)(h:CE w0 wr gp gh st n nt e P g)(z:P.Ap.length<=3000):Kp 10 #[.pointer (some ⟨gp,0,none⟩),.int .i64 (nt:Int)] wr λu w'=>u=.returned (.bool true)/\∃P' g',∀k,k<nt->∃T,CQ w0 w' gp gh st n nt e k P' g' T:=by
 have v:=h.g.rest z;have E:=h.g.Q7;obtain⟨g',m,B,_,F,C⟩:=v nt (Nat.le_refl _);refine(jC y 59999 h.w Zd (λk a=>?_) (Nat.le_refl _) Zo h.g.n6.2 (λk j a p=>C k a j p)).mono ?_
 ·obtain⟨G,H,D,_⟩:=v (k+1) a;exact D k (Nat.lt_succ_self k)
 ·rintro u I ⟨rfl,r⟩;have d:∀(i:Nat) (T:MT),(Aj.AI 59999 P nt).Av[i]?=some T->T.V.Ac=0:=λi T x=>by
   obtain⟨a,_⟩:=m.idx x;have c:=B i a;unfold Aj.idle at c;rw[x] at c;have c:Aj.CO T=true:=c;unfold Aj.CO MV.busy at c;simp at c;exact c.1
  have t:∀j,g'.A j=none:=λj=>by
   by_cases p:j<nt
   ·obtain⟨T,l⟩:=r.Av p;have K:=d j T l;rcases(m.te j T l).s with q|⟨_,q⟩
    ·exact q.2.2
    ·cases q with
     |vX o h|vY o w h|wk J h|rt J h|lv h|sc h=>omega
   ·cases t:g'.A j with
    |none=>rfl
    |some b=>exact absurd (m.hp.ai j b t) p
  refine⟨rfl,Aj.AI 59999 P nt,g',λk a=>?_⟩;obtain⟨T,l⟩:=r.Av a;exact⟨T,⟨r,m⟩,t,l,d k T l,Zo⟩
def CQ.scan(h:CQ w0 wr gp gh st n nt e k P g T)(he:e+265<=900000):Kp 19 #[.pointer (some ⟨gp,0,none⟩),.int .i64 (k:Int)] wr λK w'=>K=.returned .nilIface/\
  ∃e' P' g' T',CQ w0 w' gp gh st n nt e' k P' g' T'/\e'<=e+265/\(P'.heap.board 24).nm=(P.heap.board 24).nm+1/\∀m∈T'.V.M.ns,m∈T.V.M.ns/\m.AF<=(P.heap.board 24).nm/\(P.heap.board 24).nm+1<m.AF+2:=by
 obtain⟨⟨D,E⟩,O,y,L,Q⟩:=h
 obtain⟨tv,bv,ro,Fh,Ft,S,U,W⟩:=D.p
 obtain⟨X,s2,s3,Y⟩:=pZ E y L O
 have F:=(E.gi.v k T y).1
 have G:T.V.M.R.step=0:=by
  rcases(E.te k T y).s with q|⟨_,q⟩
  ·exact q.2.1
  ·cases q with
   |vX o h|vY o w h|wk J h|rt J h|lv h|sc h=>omega
 refine (jP (k:=k) (R:=fun m b a=>∃ l r,ScP st n nt k (P.heap.board 24).nm (P.heap.board 24).nm l b r a∧l+m≤e+265∧(a.V.Ac = 4→Fz (Ys st) nt (vw b.heap) r a.V+1≤m)∧b.Ap = P.Ap∧∀ x∈a.V.M.ns,x∈T.V.M.ns)
  (λm b a Z=>?_) U D.e y L (SN F.base Zo) G (m0:=265) ⟨e,g,X,Nat.le_refl _,λ_=>by show Fz _ _ (vw P.heap) g T.V.scan+1<=265;omega,rfl,Y⟩).mono ?_
 ·obtain⟨l,r,c,r2,N,u,H⟩:=Z;refine⟨c.t,λi=>?_⟩;have z:a.V.Ac=4:=by
   rcases c.d with q|q
   ·exact q.1
   ·unfold MV.busy at i;rw[q.1] at i;cases i
  have aa:=N z;obtain⟨c1,g',T',c2,c3,c4,B⟩:=pX c z Zo (by rw[u];omega);subst c3;have B:(a.V.step b.heap).1.Ac=4->Fz (Ys st) nt (vw (b.QP k a).heap) g' (a.V.step b.heap).1+1<=Fz (Ys st) nt (vw b.heap) r a.V:=B;refine⟨c1,if(a.V.step b.heap).1.Ac=4 then Fz (Ys st) nt (vw (b.QP k a).heap) g' (a.V.step b.heap).1+1 else 0,?_,l+1,g',c2,?_,λh=>?_,u,λx C=>H x (c4 x C)⟩
  ·split
   ·rename_i h;have:=B h;omega
   ·omega
  ·split
   ·rename_i h;have:=B h;omega
   ·omega
  ·have h:(a.V.step b.heap).1.Ac=4:=h;rw[ga h];exact Nat.le_refl _
 ·rintro K w1 ⟨rfl,m,P',T',⟨l,r,c,r2,N,u,H⟩,j,I⟩;have z:T'.V.Ac≠4:=λq=>by unfold MV.busy at j;rw[q] at j;cases j
  obtain⟨x1,x2,x3⟩:=pY c z;exact⟨rfl,l,P',r,T',⟨⟨D.next W I (c.p.gi.up (by rw[u];omega)),c.p⟩,c.A,c.t,x1,by rw[u];exact Q⟩,Zo,x2,λx C=>⟨H x C,x3 x C⟩⟩
def CE.below(h:CE w0 wr gp gh st n nt e P g)(a:Below wr.heap.size wr w'):CE w0 w' gp gh st n nt e P g:=⟨h.w.below a,h.g⟩
def CQ.below(h:CQ w0 wr gp gh st n nt e k P g T)(a:Below wr.heap.size wr w'):CQ w0 w' gp gh st n nt e k P g T:=⟨h.c.below a,h.A,h.t,h.d,h.b⟩
def CQ.notes(h:CQ w0 wr gp gh st n nt e k P g T)(a:T.V.M.ns=[]):Kp 18 #[.pointer (some ⟨gp,0,none⟩),.int .i64 (k:Int)] wr (bT wr 0):=by
 obtain⟨i,bv,j,l,m,b,d,o⟩:=h.c.w.p;have:=ZF d h.t (by rw[a];exact ie _);rw[a] at this;exact this
def CQ.heap(h:CQ w0 wr gp gh st n nt e k P g T):Kp 15 #[.pointer (some ⟨gp,0,none⟩)] wr λa w'=>a=.returned (.pointer (some ⟨gh,0,none⟩))/\wr=w':=by
 obtain⟨i,bv,j,l,m,b,d,o⟩:=h.c.w.p;exact tK d
def CQ.fault(h:CQ w0 wr gp gh st n nt e k P g T):Kp 20 #[.pointer (some ⟨gh,0,none⟩)] wr λa w'=>a=.returned .nilIface/\wr=w':=by
 obtain⟨i,bv,j,l,m,b,d,o⟩:=h.c.w.p;exact lC d.hp h.c.g.hp.fa
def CL(w0 wr:World)(gp gh:Nat)(st:Int)(n nt k j:Nat):Prop:=∃e P g T,CQ w0 wr gp gh st n nt e k P g T/\e<=265*j/\(j=1->∃D:Int,(P.heap.board 24).nm=D+1/\∀m∈T.V.M.ns,m.AF<=D)/\(2<=j->T.V.M.ns=[])
def CL.scan{j:Nat}(h:CL w0 wr gp gh st n nt k j)(c:j<3):Kp 19 #[.pointer (some ⟨gp,0,none⟩),.int .i64 (k:Int)] wr λd w'=>d=.returned .nilIface/\CL w0 w' gp gh st n nt k (j+1):=by
 obtain⟨e,P,g,T,l,x,o,p⟩:=h;refine(l.scan Zo).mono ?_;rintro d y ⟨rfl,q,r,s,t,u,z,v,i⟩;refine⟨rfl,q,r,s,t,u,Zo,λc=>⟨_,v,λm a=>(i m a).2.1⟩,λc=>s6.2 λm a=>?_⟩;obtain⟨b,A,B⟩:=i m a;by_cases w:j=1
 ·obtain⟨D,d1,d2⟩:=o w;have:=d2 m b;omega
 ·rw[p Zo] at b;cases b
end
