/- Core: PH, PI, PJ2, PL2, PK. -/
import Derived.Test.YtaipogljokblkaaGreatDoorP18
set_option linter.all false
set_option maxRecDepth 100000
set_option maxHeartbeats 8000000
namespace Go.Proofs.YtaipogljokblkaaGreatDoor
open Go Go.RowKit
def zk(w1:World)(b o r:Nat)(x:Xe)(a c d e:Int)(f:Bool):Prop:=(w1.cell? ⟨b,o,none⟩=some (.int .i64 x.sl)/\w1.cell? ⟨b,o+1,none⟩=some (.int .i64 x.gn)/\w1.cell? ⟨b,o+2,none⟩=some (.int .i64 x.tg)/\w1.cell? ⟨b,o+3,none⟩=some (.int .i64 x.nm)/\w1.cell? ⟨b,o+4,none⟩=some (.bool x.mark))/\(w1.cell? ⟨r,4,none⟩=some (.int .i64 a)/\w1.cell? ⟨r,5,none⟩=some (.int .i64 c)/\w1.cell? ⟨r,6,none⟩=some (.int .i64 d)/\w1.cell? ⟨r,7,none⟩=some (.int .i64 e)/\w1.cell? ⟨r,8,none⟩=some (.bool f))
def zk.below{w1 w2:World}{b o r:Nat}{x:Xe}{d e f g:Int}{i:Bool}(h:zk w1 b o r x d e f g i)(j:Below w1.heap.size w1 w2)(a:b<w1.heap.size)(c:r<w1.heap.size):zk w2 b o r x d e f g i:=by
 obtain⟨⟨k,l,m,n,p⟩,q,s,t,u,v⟩:=h;have K:=(N1 j).1;exact⟨⟨(K b _ a).trans k,(K b _ a).trans l,(K b _ a).trans m,(K b _ a).trans n,(K b _ a).trans p⟩,(K r _ c).trans q,(K r _ c).trans s,(K r _ c).trans t,(K r _ c).trans u,(K r _ c).trans v⟩
def eM(w:World)(b:Nat)(T:TypeId)(cs cs':Array Value)(x y:Xe)(e:Ending)(w':World):Prop:=ys w b T (bif B7 x y then cs' else cs) ⟨x,B7 x y⟩ e w'
def YA{w w1 w2 a:World}{b:Nat}{T g:TypeId}{cs c:Array Value}{u:Value}{k:Nat}(h:Below w.heap.size w w1)(i:Gu w1 b T cs w2)(j:Gu (w2.setCell ⟨w.heap.size+1+1,k,none⟩ u) (w.heap.size+1) g c a)(q:b<w.heap.size):Aq [b] w a:=by
 have l:Aq [b] w w1:=Aq.Ai h;have m:Aq [b] w1 w2:=Aq.Ax (b:=0) i.grown (λf e=>by injection e with e;simp[e]);have n:Aq [w.heap.size+1+1] w2 (w2.setCell ⟨w.heap.size+1+1,k,none⟩ u):=Aq.Ax (b:=0) (X2 _ _ _ _) (λf e=>by injection e with e;simp[e]);have o:Aq [w.heap.size+1] (w2.setCell ⟨w.heap.size+1+1,k,none⟩ u) a:=Aq.Ax (b:=0) j.grown (λf e=>by injection e with e;simp[e]);refine(((l.trans m).seq (F1:=[w.heap.size+1+1]) ?_ n)).seq (F1:=[w.heap.size+1]) ?_ o
 ·intro x d;rw[ft.1 d];right;omega
 ·intro x d;rw[ft.1 d];right;omega
def YB(w:World)(b o:Nat)(T:TypeId)(cs cs':Array Value)(x:Xe)(a:Bx)(hb:Bk w b T cs)(N:w.rangeAt b o x.l)(ho:o+5<=cs.size)(hk:a.kind=3)(D:cs'.toList=cs.toList.take o++a.new.l++cs.toList.drop (o+5)):
  Kp 65 #[.pointer (some ⟨b,o,none⟩),.agg a.l.toArray] w (eM w b T cs cs' x a.AU):=by
 have aa:=hb.lt
 have ai:b<w.heap.size+1:=Zo
 have aj:b<w.heap.size+1+1:=Zo
 have ak:b<w.heap.size+1+1+1:=Zo
 obtain⟨q0,q1,q2,q3,q4⟩:=OF N
 have HB:=eR hb
 have ab:=eR N
 clear hb N
 (obtain⟨k,⟨O,P,Q⟩,⟨m,n,q,r,s⟩,⟨n0,n1,n2,R,S⟩⟩:=a)
 simp only at hk D
 subst hk
 show Kp 65 #[.pointer (some ⟨b,o,none⟩),.agg #[.int .i64 3,.int .i64 O,.int .i64 P,.int .i64 Q,.int .i64 m,.int .i64 n,.int .i64 q,.int .i64 r,.bool s,.int .i64 n0,.int .i64 n1,.int .i64 n2,.int .i64 R,.bool S]] w _
 have ad:=eR D
 clear D
 obtain⟨A,hA⟩:∃A,A=Obj.cells #[.int .i64 3,.int .i64 O,.int .i64 P,.int .i64 Q,.int .i64 m,.int .i64 n,.int .i64 q,.int .i64 r,.bool s,.int .i64 n0,.int .i64 n1,.int .i64 n2,.int .i64 R,.bool S] 114:=⟨_,rfl⟩
 have y:Bk (((w.alloc A).alloc (.cells #[.int .i64 0,.int .i64 0,.int .i64 0,.int .i64 0,.bool false,.bool false] 108)).alloc (.cells #[.int .i64 x.sl,.int .i64 x.gn,.int .i64 x.tg,.int .i64 x.nm,.bool x.mark,.bool false] 108)) w.heap.size 114 #[.int .i64 3,.int .i64 O,.int .i64 P,.int .i64 Q,.int .i64 m,.int .i64 n,.int .i64 q,.int .i64 r,.bool s,.int .i64 n0,.int .i64 n1,.int .i64 n2,.int .i64 R,.bool S]:=by subst hA;exact((Bk.at_ rfl).alloc _).alloc _
 have E:Bk (((w.alloc A).alloc (.cells #[.int .i64 0,.int .i64 0,.int .i64 0,.int .i64 0,.bool false,.bool false] 108)).alloc (.cells #[.int .i64 x.sl,.int .i64 x.gn,.int .i64 x.tg,.int .i64 x.nm,.bool x.mark,.bool false] 108)) (w.heap.size+1) 108 #[.int .i64 0,.int .i64 0,.int .i64 0,.int .i64 0,.bool false,.bool false]:=(Bk.at_ Zs).alloc _
 have h:Bk (((w.alloc A).alloc (.cells #[.int .i64 0,.int .i64 0,.int .i64 0,.int .i64 0,.bool false,.bool false] 108)).alloc (.cells #[.int .i64 x.sl,.int .i64 x.gn,.int .i64 x.tg,.int .i64 x.nm,.bool x.mark,.bool false] 108)) (w.heap.size+1+1) 108 #[.int .i64 x.sl,.int .i64 x.gn,.int .i64 x.tg,.int .i64 x.nm,.bool x.mark,.bool false]:=Bk.at_ Zs
 have G:=((HB.out.alloc A).alloc (.cells #[.int .i64 0,.int .i64 0,.int .i64 0,.int .i64 0,.bool false,.bool false] 108)).alloc (.cells #[.int .i64 x.sl,.int .i64 x.gn,.int .i64 x.tg,.int .i64 x.nm,.bool x.mark,.bool false] 108)
 have CW:Hid (Below w.heap.size w (((w.alloc A).alloc (.cells #[.int .i64 0,.int .i64 0,.int .i64 0,.int .i64 0,.bool false,.bool false] 108)).alloc (.cells #[.int .i64 x.sl,.int .i64 x.gn,.int .i64 x.tg,.int .i64 x.nm,.bool x.mark,.bool false] 108))):=eR vB
 have z:=eR (fy y (fy E (fy h G)))
 subst hA
 clear y E h G
 go_enter Tryz.func65,Tryz.ntmps65
 go_upto_region 8 with(fail)
 have QX:Hid (∀j u,x.l[j]?=some u->(((w.alloc (.cells #[.int .i64 3,.int .i64 O,.int .i64 P,.int .i64 Q,.int .i64 m,.int .i64 n,.int .i64 q,.int .i64 r,.bool s,.int .i64 n0,.int .i64 n1,.int .i64 n2,.int .i64 R,.bool S] 114)).alloc (.cells #[.int .i64 0,.int .i64 0,.int .i64 0,.int .i64 0,.bool false,.bool false] 108)).alloc (.cells #[.int .i64 x.sl,.int .i64 x.gn,.int .i64 x.tg,.int .i64 x.nm,.bool x.mark,.bool false] 108)).cell? ⟨b,o+j,none⟩=some u):=eR (λj u hu=>by rw[(N1 CW.out).1 b _ aa];exact ab.out j u hu)
 generalize(((w.alloc (.cells #[.int .i64 3,.int .i64 O,.int .i64 P,.int .i64 Q,.int .i64 m,.int .i64 n,.int .i64 q,.int .i64 r,.bool s,.int .i64 n0,.int .i64 n1,.int .i64 n2,.int .i64 R,.bool S] 114)).alloc (.cells #[.int .i64 0,.int .i64 0,.int .i64 0,.int .i64 0,.bool false,.bool false] 108)).alloc (.cells #[.int .i64 x.sl,.int .i64 x.gn,.int .i64 x.tg,.int .i64 x.nm,.bool x.mark,.bool false] 108))=i at*
 clear q0 q1 q2 q3 q4
 have U:zk i b o w.heap.size x m n q r s:=⟨OF QX.out,z.out.1.cell 4,z.out.1.cell 5,z.out.1.cell 6,z.out.1.cell 7,z.out.1.cell 8⟩
 refine Yh (λi=>zk i b o w.heap.size x m n q r s) 7 Zk U (λM=>?_)
 clear U
 have D1:Hid (Below w.heap.size w i.drew):=eR (CW.out.drew)
 have E1:Hid (Below i.heap.size i i.drew):=eR ((fx _ _).drew)
 have d:Hid (Bk i.drew w.heap.size 114 _/\Bk i.drew (w.heap.size+1) 108 _/\Bk i.drew (w.heap.size+1+1) 108 _/\Bk i.drew b T cs):=eR ⟨z.out.1.drew,z.out.2.1.drew,z.out.2.2.1.drew,z.out.2.2.2.drew⟩
 clear z QX CW E1
 generalize i.drew=w2 at*
 ((try simp only[ZL]);refine vT (fuel:=2) M [0,1,2,3,4] ?_;simp only[Yb,Xv,fs];(repeat go_big_quiet_step ((intro W;obtain⟨⟨q0,q1,q2,q3,q4⟩,p0,p1,p2,p3,p4⟩:=W;go_simp;first|done|rfl|exact⟨rfl,rfl⟩)));refine gw ?_;(try dsimp only))
 (refine Xn 5 Zk (λK hK=>?_);simp only[Xv,fs])
 go_wp2_with fail
 refine(qC x ⟨m,n,q,r,s⟩ w2).mono ?_
 rintro e w3 ⟨rfl,hc⟩
 have g:=hc.below
 have D3:Hid (Below w.heap.size w w3):=eR (D1.out.trans (g.mono D1.out.size))
 have H:=eR (fy (d.out.1.Af g) (fy (d.out.2.1.Af g) (fy (d.out.2.2.1.Af g) (d.out.2.2.2.Af g))))
 have I:zk w3 b o w.heap.size x m n q r s:=M.below g d.out.2.2.2.lt d.out.1.lt
 clear hc g d D1
 go_wp2_with fail
 refine hK.out _ _ (λ_=>I) ?_
 clear hK M
 have M:=I
 ((try simp only[ZL]);refine vT (fuel:=0) M [6] ?_;simp only[Yb,Xv,fs];(repeat go_big_quiet_step ((intro W;go_simp;first|done|rfl|exact⟨rfl,rfl⟩)));refine gw ?_;(try dsimp only))
 clear M I
 refine Yk Zk ?_ _
 obtain⟨y,E,h,G⟩:=H.out
 have y9:=y.cell 9;have ae:=y.cell 10;have af:=y.cell 11;have ag:=y.cell 12;have ah:=y.cell 13
 have z0:=h.cell 0;have z1:=h.cell 1;have z2:=h.cell 2;have z3:=h.cell 3;have z4:=h.cell 4;have z5:=h.cell 5
 simp at y9 ae af ag ah z0 z1 z2 z3 z4 z5
 have al:=D3.out.size
 cases X:B7 x ⟨m,n,q,r,s⟩ with
 |true=>
  have J:=eR G
  have R5:=eR h
  have R4:=eR E
  clear y E h G HB H
  have L:=eR X
  go_wp2_with (first|(refine Y2 Zr _ _ _ Zr b o _ Zr Zr _ _ cs' J.out (by exact ho) Zk Zr (by exact ad.out) ?_;intro w4 B;have C:=B.A5 R5.out Zo;have v4:=B.A5 R4.out Zo;have q0:=C.cell 0;have q1:=C.cell 1;have q2:=C.cell 2;have q3:=C.cell 3;have q4:=C.cell 4;have q5:=C.cell 5;have f5:=C.free 5;simp at q0 q1 q2 q3 q4 q5;have Y4:=eR (v4.A5 (p:=⟨w.heap.size+1+1,5,none⟩) Zs (.bool true));have Y:=eR B;clear B v4 C)|(refine vM Y4.out ?_;intro w5 c))
  (have Z:=c.bk.cell 0;have r1:=c.bk.cell 1;have r2:=c.bk.cell 2;have r3:=c.bk.cell 3;have r4:=c.bk.cell 4;have r5:=c.bk.cell 5;simp at Z r1 r2 r3 r4 r5;refine js (v:=.agg #[.int .i64 x.sl,.int .i64 x.gn,.int .i64 x.tg,.int .i64 x.nm,.bool x.mark,.bool true]) (by simp[results,Tryz.results65,go_sem,Z,r1,r2,r3,r4,r5]) rfl ?_)
  unfold eM
  rw[L.out]
  exact⟨rfl,c.A5 (Y.out.bk.A5 (p:=⟨w.heap.size+1+1,5,none⟩) (by simp;omega) (.bool true)) Zo,YA D3.out Y.out c Zo⟩
 |false=>
  have J:=eR G
  have R4:=eR E
  clear y E h G HB H
  have L:=eR X
  go_wp2_with (refine vM R4.out ?_;intro w5 c)
  (have Z:=c.bk.cell 0;have r1:=c.bk.cell 1;have r2:=c.bk.cell 2;have r3:=c.bk.cell 3;have r4:=c.bk.cell 4;have r5:=c.bk.cell 5;simp at Z r1 r2 r3 r4 r5;refine js (v:=.agg #[.int .i64 x.sl,.int .i64 x.gn,.int .i64 x.tg,.int .i64 x.nm,.bool x.mark,.bool false]) (by simp[results,Tryz.results65,go_sem,Z,r1,r2,r3,r4,r5]) rfl ?_)
  unfold eM
  rw[L.out]
  refine⟨rfl,c.A5 J.out Zo,?_⟩
  exact(Aq.Ai (F:=[b]) D3.out).seq (F1:=[w.heap.size+1]) (λx N=>by rw[ft.1 N];right;omega) (Aq.Ax (b:=0) c.grown (λb' e=>by injection e with e;simp[e]))
def KB(l m:List Int):BF (l++m)=BF l++BF m:=by simp[BF]
def aE{l:List Int}{n:Int}(h:l.getLast?=some n):l=l.dropLast++[n]:=by
 have a:l≠[]:=by intro e;subst e;simp at h
 rw[uh a] at h;injection h with h;rw[←h,List.dropLast_concat_getLast]
def rS{w:World}{g b a:Nat}{l:List Int}{n:Int}(h:Own w 3 1 (.slice (some ⟨g,b,none⟩) (l++[n]).length a) (l++[n]).length (BF (l++[n]))):
  Own w 3 1 (.slice (some ⟨g,b,none⟩) l.length a) l.length (BF l):=by
 rcases h.2 with⟨j,_⟩|⟨o,d,e,A,R,k,c,rfl,f,m,i⟩
 ·cases j
 ·cases k;rw[iu] at f;simp only[jb,mr] at f;refine⟨by rw[Dw,Nat.mul_one],.inr ⟨g,A.length,a,A,BF [n]++R,rfl,?_,rfl,Zo,m,?_⟩⟩
  ·rw[KB] at c;simp only[jz] at c;exact c
  ·rw[Dw] at i ⊢;simp only[iu,jb,mr,Dw] at i ⊢;omega
def rR{w:World}{g a b:Nat}{l:List Int}{n:Int}(h:Own w 3 1 (.slice (some ⟨g,a,none⟩) (l++[n]).length b) (l++[n]).length (BF (l++[n]))):w.cell? ⟨g,a+l.length,none⟩=some (.int .i64 n):=
 Cl h l.length _ (by rw[KB,je (by rw[Dw];omega),Dw];simp[BF])
def QH{w:World}{g d i:Nat}{p:Pl}{fr:B5}{j:Value}(h:PB w g d i p fr j)(k:Int)(l:p.free=[]):
  Kp 64 #[.pointer (some ⟨g,0,none⟩),.int .i64 k] w (λe w'=>e=.returned (.agg #[.int .i64 0,.int .i64 0,.int .i64 0,.int .i64 0,.bool false,.bool false])/\Below w.heap.size w w'):=by
 obtain⟨_,_,b,_,_,_⟩:=h.cells
 obtain⟨a,c,e,_⟩:=AN h.fo
 rw[e,l] at b
 have m:=h.bk.lt
 clear h e
 simp only[mr] at b
 go_enter Tryz.func64,Tryz.ntmps64
 go_wp2_with fail
 refine js (v:=.agg #[.int .i64 0,.int .i64 0,.int .i64 0,.int .i64 0,.bool false,.bool false]) (by simp[results,Tryz.results64,go_sem]) rfl ?_
 exact⟨rfl,vB⟩
def K0(p:Pl)(a b:Nat)(fr u:B5)(c:Value):(#[.slice (some ⟨a,0,none⟩) p.nb p.nb,.slice (some ⟨b,0,none⟩) p.ns p.ns,fr.v,.int .i64 p.steps,.int .i64 p.made,c]:Array Value).setIfInBounds 2 u.v=#[.slice (some ⟨a,0,none⟩) p.nb p.nb,.slice (some ⟨b,0,none⟩) p.ns p.ns,u.v,.int .i64 p.steps,.int .i64 p.made,c]:=rfl
def PB.H'{w:World}{g b c:Nat}{p:Pl}{fr u:B5}{d:Value}(h:PB w g b c p fr d){l:List Int}(f:Own w 3 1 u.v l.length (BF l))(a:u.v.ownBlock=fr.v.ownBlock):
  PB (w.setCell ⟨g,2,none⟩ u.v) g b c {p with free:=l} u d:=by
 have e:=X2 w g 2 u.v
 exact⟨by rw[←K0 p b c fr u d];exact h.bk.Ez 2 u.v,h.bo.A5 (p:=⟨g,2,none⟩) (Ne.symm h.n1) _,h.so.A5 (p:=⟨g,2,none⟩) (Ne.symm h.n2) _,f.grown e (db (by rw[a];exact h.f1)),h.dZ,h.n1,h.n2,h.n3,by rw[a];exact h.f1,by rw[a];exact h.f2,by rw[a];exact h.f3,h.kI,h.WW⟩
def Fe(p:Pl)(n a:Int):Jg:=⟨wr ((p.slot n).AB+1),true,Ar (λ_=>.zero) 9 (Y6 a)⟩
def VK(a:Int):List Value:=rows Xe.l ((List.range 10).map λ(j:Nat)=>Ar (λ_=>Xe.zero) 9 (Y6 a) (j:Int))
def UX(p:Pl)(n a:Int):Bp (Fe p n a)=.int .i64 (wr ((p.slot n).AB+1))::.bool true::VK a:=rfl
def hH(p:Pl)(i:Nat)(c:Int)(k:i<p.ns):
  ({p with slot:=Ar p.slot ((i:Int)+1) (Fe p ((i:Int)+1) c)}:Pl).A2.toArray.toList=
   ((p.A2.toArray.setIfInBounds (i*52) (.int .i64 (wr ((p.slot ((i:Int)+1)).AB+1)))).setIfInBounds (i*52+1) (.bool true)).toList.take (i*52+2)++VK c++
   ((p.A2.toArray.setIfInBounds (i*52) (.int .i64 (wr ((p.slot ((i:Int)+1)).AB+1)))).setIfInBounds (i*52+1) (.bool true)).toList.drop (i*52+2+50):=by
 have l:({p with slot:=Ar p.slot ((i:Int)+1) (Fe p ((i:Int)+1) c)}:Pl).A2=p.A2.take (i*52)++Bp (Fe p ((i:Int)+1) c)++p.A2.drop (i*52+52):=by
  have d:=Lv By (λ(j:Nat)=>p.slot ((j:Int)+1)) (λ(j:Nat)=>Ar p.slot ((i:Int)+1) (Fe p ((i:Int)+1) c) ((j:Int)+1)) p.ns i k (λj s=>BM _ _ Zo);simp only[AP] at d;exact d
 have t:i*52+52<=p.A2.length:=by rw[p.KI];omega
 show({p with slot:=Ar p.slot ((i:Int)+1) (Fe p ((i:Int)+1) c)}:Pl).A2=_
 rw[l,UX]
 simp only[mi]
 generalize p.A2=L at*
 have m:(L.take (i*52)).length=i*52:=by rw[sy];omega
 have e:L=L.take (i*52)++(L.drop (i*52)):=(List.take_append_drop _ _).symm
 obtain⟨a,b,r,n⟩:∃a b r,L.drop (i*52)=a::b::r:=by
  match f:L.drop (i*52) with
  |[]=>have:=iy List.length f;rw[nr] at this;simp at this;omega
  |[a]=>have:=iy List.length f;rw[nr] at this;simp at this;omega
  |a::b::r=>exact⟨a,b,r,rfl⟩
 generalize L.take (i*52)=A at*
 rw[n] at e
 subst e
 rw[←m]
 have o:∀u v:Value,((A++a::b::r).set A.length u).set (A.length+1) v=A++u::v::r:=λu v=>by
  have t1:∀(x y z:Value),(A++x::y::r).set A.length z=A++z::y::r:=λx y z=>by rw[List.set_append];simp
  have t2:∀(x y z:Value),(A++x::y::r).set (A.length+1) z=A++x::z::r:=λx y z=>by rw[List.set_append];simp;intro h;omega
  rw[t1,t2]
 rw[o]
 have q:∀u v:Value,(A++u::v::r).take (A.length+2)=A++[u,v]:=λu v=>by rw[take_add];rfl
 have g:∀u v:Value,(A++u::v::r).drop (A.length+2+50)=r.drop 50:=λu v=>by rw[mf,Gd];rfl
 rw[q,g,g]
 simp
def set4(p:Pl)(a b:Nat)(fr:B5)(c:Value)(m:Int):(#[.slice (some ⟨a,0,none⟩) p.nb p.nb,.slice (some ⟨b,0,none⟩) p.ns p.ns,fr.v,.int .i64 p.steps,.int .i64 p.made,c]:Array Value).setIfInBounds 4 (.int .i64 m)=#[.slice (some ⟨a,0,none⟩) p.nb p.nb,.slice (some ⟨b,0,none⟩) p.ns p.ns,fr.v,.int .i64 p.steps,.int .i64 m,c]:=rfl
def PB.XB{w:World}{g a b:Nat}{p:Pl}{fr:B5}{c:Value}(h:PB w g a b p fr c)(m:Int):PB (w.setCell ⟨g,4,none⟩ (.int .i64 m)) g a b {p with made:=m} fr c:=by
 have d:=X2 w g 4 (.int .i64 m);exact⟨by rw[←set4 p a b fr c m];exact h.bk.Ez 4 _,h.bo.A5 (p:=⟨g,4,none⟩) (Ne.symm h.n1) _,h.so.A5 (p:=⟨g,4,none⟩) (Ne.symm h.n2) _,h.fo.grown d (db h.f1),h.dZ,h.n1,h.n2,h.n3,h.f1,h.f2,h.f3,h.kI,h.WW⟩
def RetAl(w:World)(g a b:Nat)(p:Pl)(u:B5)(c:Value)(d:Int)(l:List Int)(n:Int)(F:List Nat)(e:Ending)(w':World):Prop:=
 e=.returned (.agg (⟨⟨n,wr ((p.slot n).AB+1),0,0,false⟩,true⟩:Xr).l.toArray)/\PB w' g a b {p with free:=l,slot:=Ar p.slot n (Fe p n d),made:=wr (p.made+1)} u c/\Aq F w w'
def QG{w:World}{g o c:Nat}{p:Pl}{fr:B5}{F:Value}(h:PB w g o c p fr F)(s:Int)(l:List Int)(i:Nat)(G:p.free=l++[(i:Int)+1])(Q:i<p.ns)(hl:l.length<=5000)(q d r:Nat)(e:fr.v=.slice (some ⟨q,d,none⟩) p.free.length r)(H:p.free.length<=r):
  Kp 64 #[.pointer (some ⟨g,0,none⟩),.int .i64 s] w (RetAl w g o c p ⟨some ⟨q,d,none⟩,l.length,r⟩ F s l ((i:Int)+1) (Zu g o c fr)):=by
 obtain⟨_,c1,B,_,c4,_⟩:=h.cells
 have R:=h.fo
 rw[e,G] at R
 have U:=rR R
 have I:=eR (rS R)
 rw[e,G] at B
 rw[G] at H
 have y:(l++[(i:Int)+1]).length=l.length+1:=by simp
 rw[y] at B H
 obtain⟨q0,q1⟩:=h.two Q
 have HH:=eR h
 have V:=h.bk.lt
 have aq:=h.so.lt
 have ar:q<w.heap.size:=h.fo.lt (by rw[e];rfl)
 have au:=h.WW
 have E:=eR e;have HF:=eR G
 clear h R e G y
 go_enter Tryz.func64,Tryz.ntmps64
 go_wp2_with fail
 go_quiet (fail)
 have W1:Below w.heap.size w ((w.alloc (.cells #[.int .i64 0,.int .i64 0,.int .i64 0,.int .i64 0,.bool false,.bool false] 108)).drewN nq):=below_drewN ((fx _ _).alloc (Nat.le_refl _) _) _
 have Z4:Bk ((w.alloc (.cells #[.int .i64 0,.int .i64 0,.int .i64 0,.int .i64 0,.bool false,.bool false] 108)).drewN nq) w.heap.size 108 #[.int .i64 0,.int .i64 0,.int .i64 0,.int .i64 0,.bool false,.bool false]:=(Bk.at_ (g:=w.heap.size) (w:=w) rfl).drewN nq
 generalize(w.alloc (.cells #[.int .i64 0,.int .i64 0,.int .i64 0,.int .i64 0,.bool false,.bool false] 108)).drewN nq=W at*
 have J:Below w.heap.size w W.drew:=W1.drew
 have Z5:=Z4.drew
 clear W1 Z4
 go_upto_region 4 with(fail)
 have S:=(N1 J).1
 refine Yh (λw'=>w'.cell? ⟨g,2,none⟩=some (.slice (some ⟨q,d,none⟩) (l.length+1) r)) 12 Zk ((S g 2 V).trans B) (λL=>?_)
 have B:=L
 have X:Hid (PB W.drew g o c p fr F):=eR (HH.out.below J)
 have hz:=J.size
 have HW:=eR J
 have f2:=X.out.bk.free 2
 clear S J
 generalize W.drew=M at*
 ((try simp only[ZL]);refine vT (fuel:=5) L [0,1,2,3,4,5,6,7,8,9] ?_;simp only[Yb,Xv,fs];(repeat go_big_quiet_step ((intro Y;have B:=Y;go_simp;first|done|rfl|exact⟨rfl,rfl⟩)));refine gw ?_;(try dsimp only))
 (refine Xn 10 Zk (λK n=>?_);simp only[Xv,fs])
 go_wp2_with fail
 refine n.out _ _ (λ_=>L) ?_
 clear n
 (refine Xn 11 Zk (λK n=>?_);simp only[Xv,fs])
 go_wp2_with fail
 refine n.out _ _ (λ_=>L) ?_
 clear n L
 ((refine Xn 12 Zk (λK n=>?_);simp only[Xv,fs]);go_wp2_with fail;refine n.out _ _ (λh=>absurd h Zo) ?_;clear n)
 ((refine Xn 13 Zk (λK n=>?_);simp only[Xv,fs]);go_wp2_with fail;refine n.out _ _ (λh=>absurd h Zo) ?_;clear n)
 (refine Xn 14 Zk (λK n=>?_);simp only[Xv,fs])
 go_wp2_with fail
 refine n.out _ _ (λh=>absurd h Zo) ?_
 clear n
 refine Yk Zk ?_ _
 have z:Hid (Own M 3 1 (.slice (some ⟨q,d,none⟩) l.length r) l.length (BF l)):=eR (I.out.kept λb Z=>HW.out.block b (by have:=I.out.lt Z;exact this))
 have a:=X.out.H' (u:=⟨some ⟨q,d,none⟩,l.length,r⟩) z.out (by rw[E.out];rfl)
 have Z6:Bk (M.setCell ⟨g,2,none⟩ (.slice (some ⟨q,d,none⟩) l.length r)) w.heap.size 108 #[.int .i64 0,.int .i64 0,.int .i64 0,.int .i64 0,.bool false,.bool false]:=Z5.A5 (p:=⟨g,2,none⟩) (by simp;omega) _
 have N:Hid (Aq (Zu g o c fr) w (M.setCell ⟨g,2,none⟩ (.slice (some ⟨q,d,none⟩) l.length r))):=eR ((Aq.Ai HW.out).trans (Aq.Ax (b:=0) (X2 _ _ _ _) (λb e=>by injection e with e;exact Ya.2 (fq e.symm))))
 have a:=eR (show PB (M.setCell ⟨g,2,none⟩ (.slice (some ⟨q,d,none⟩) l.length r)) g o c {p with free:=l} ⟨some ⟨q,d,none⟩,l.length,r⟩ F from a)
 clear z X Z5 f2 B
 generalize M.setCell ⟨g,2,none⟩ (.slice (some ⟨q,d,none⟩) l.length r)=C at*
 have av:w.heap.size<=C.heap.size:=N.out.size
 have S:=a.out.cells.2.1
 have k4:=a.out.cells.2.2.2.2.1
 have k5:=a.out.bk.free 4
 have u0:=a.out.two Q
 have v0:=u0.1;have v1:=u0.2
 have f0:=a.out.so.free (i*52)
 have f1:=a.out.so.free (i*52+1)
 simp only at S k4 v0 v1
 have an:=a.out.bk.lt
 have ao:=a.out.so.lt
 have n2:=a.out.n2
 clear u0 c1 c4 q0 q1 U
 go_wp2_with fail
 refine(zG s _).mono ?_
 rintro e w4 ⟨rfl,k⟩
 rw[show(Y6 s).l.toArray=#[.int .i64 0,.int .i64 0,.int .i64 0,.int .i64 s,.bool false] from rfl]
 have S3:=((a.out.so.Ez (i*52) (.int .i64 (wr ((p.slot ((i:Int)+1)).AB+1)))).Ez (i*52+1) (.bool true))
 rw[Gx] at S3
 have S4:=eR (S3.Af k.below)
 have G4:=eR (((a.out.bk.A5 (p:=⟨c,i*52,none⟩) n2 (.int .i64 (wrap64 ((p.slot ((i:Int)+1)).AB+1)))).A5 (p:=⟨c,i*52+1,none⟩) n2 (.bool true)).Af k.below)
 have Z7:=eR (((Z6.A5 (p:=⟨c,i*52,none⟩) (by simp;omega) (.int .i64 (wrap64 ((p.slot ((i:Int)+1)).AB+1)))).A5 (p:=⟨c,i*52+1,none⟩) (by simp;omega) (.bool true)).Af k.below)
 have O:Hid _:=eR (hH {p with free:=l} i s Q)
 simp only[Gx] at O
 have aa:Hid (i*52+2+50<=((p.A2.toArray.setIfInBounds (i*52) (.int .i64 (wrap64 ((p.slot ((i:Int)+1)).AB+1)))).setIfInBounds (i*52+1) (.bool true)).size):=eR (by simp[p.KI];omega)
 have C4:=eR k
 have ab:=eR (((a.out.bo.A5 (p:=⟨c,i*52,none⟩) a.out.n3 (.int .i64 (wrap64 ((p.slot ((i:Int)+1)).AB+1)))).A5 (p:=⟨c,i*52+1,none⟩) a.out.n3 (.bool true)).Af k.below)
 have ad:=eR (((a.out.fo.grown (X2 C c (i*52) (.int .i64 (wrap64 ((p.slot ((i:Int)+1)).AB+1)))) (db a.out.f3)).grown (X2 _ c (i*52+1) (.bool true)) (db a.out.f3)).below k.below)
 have aw:Hid (C.heap.size<=w4.heap.size):=eR (by have:=k.size;simpa [World.setCell] using this)
 clear k S3 v0 v1 f0 f1 Z6
 go_wp2_with (first|(refine Y2 Zr _ _ _ Zr c (i*52+2) _ Zr Zr _ _ (({p with free:=l,slot:=Ar p.slot ((i:Int)+1) (Fe p ((i:Int)+1) s)}:Pl).A2.toArray) S4.out (by exact aa.out) Zk Zr (by exact O.out) ?_;intro T m;have D:PB T g o c {p with free:=l,slot:=Ar p.slot ((i:Int)+1) (Fe p ((i:Int)+1) s)} ⟨some ⟨q,d,none⟩,l.length,r⟩ F:=⟨m.A5 G4.out n2,m.A5 ab.out a.out.n3,m.bk,ad.out.grown m.grown (db a.out.f3),a.out.dZ,a.out.n1,n2,a.out.n3,a.out.f1,a.out.f2,a.out.f3,a.out.kI,a.out.WW⟩;have j4:=D.cells.2.2.2.2.1;have jf:=D.bk.free 4;have jg:=(D.two Q).1;simp only[AP] at j4 jg;have Z8:=eR (m.A5 Z7.out Zo);have ae:=eR m;have af:=eR D;have ap:=D.so.lt;clear m D)|(refine Jd Zr _ _ _ Zr w.heap.size _ Zr Zr _ _ (Z8.out.A5 (p:=⟨g,4,none⟩) (by simp;omega) _) Zr Zk Zr ?_;intro w6 j))
 have r0:=j.bk.cell 0;have r1:=j.bk.cell 1;have r2:=j.bk.cell 2;have r3:=j.bk.cell 3;have r4:=j.bk.cell 4;have r5:=j.bk.cell 5
 simp at r0 r1 r2 r3 r4 r5
 refine js (v:=.agg #[.int .i64 ((i:Int)+1),.int .i64 (Fe p ((i:Int)+1) s).AB,.int .i64 0,.int .i64 0,.bool false,.bool true]) (by simp[results,Tryz.results64,go_sem,r0,r1,r2,r3,r4,r5]) rfl ?_
 have PM:=af.out.XB (wr (p.made+1))
 rw[Gx] at PM
 have ag:=HH.out.lt
 have c6:Aq [w.heap.size] _ w6:=Aq.Ax (b:=0) j.grown (λb' e=>by injection e with e;simp[e])
 have ef:fr.v.ownBlock=some q:=by rw[E.out];rfl
 have ah:=PM.CJ c6 (fun b Z P=>by
  have:b<w.heap.size:=ag b (by rcases Ya.1 Z with h|h|h|h;exact Ya.2 (fq h);exact Ya.2 (db (fq h));exact Ya.2 (d2 (fq h));exact Ya.2 (d2 (db (by rw[ef];exact h))));rw[ft.1 P] at this;omega)
 have ms:c∈Zu g o c fr:=Ya.2 (d2 (fq rfl))
 have mg:g∈Zu g o c fr:=Ya.2 (fq rfl)
 have ai:Aq (Zu g o c fr) C (C.setCell ⟨c,i*52,none⟩ (.int .i64 (wrap64 ((p.slot ((i:Int)+1)).AB+1)))):=Aq.Ax (b:=0) (X2 _ _ _ _) (λb e=>by injection e with e;rw[←e];exact ms)
 have aj:Aq (Zu g o c fr) (C.setCell ⟨c,i*52,none⟩ (.int .i64 (wrap64 ((p.slot ((i:Int)+1)).AB+1)))) _:=Aq.Ax (b:=0) (X2 _ c (i*52+1) (.bool true)) (λb e=>by injection e with e;rw[←e];exact ms)
 have ak:Aq (Zu g o c fr) w4 T:=Aq.Ax (b:=0) ae.out.grown (λb e=>by injection e with e;rw[←e];exact ms)
 have al:Aq (Zu g o c fr) T _:=Aq.Ax (b:=0) (X2 T g 4 (.int .i64 (wrap64 (p.made+1)))) (λb e=>by injection e with e;rw[←e];exact mg)
 have call:=((((N.out.trans ai).trans aj).trans (C4.out.mono (λx P=>by cases P))).trans ak).trans al
 refine⟨rfl,by rw[Gx];exact ah,call.seq (F1:=[w.heap.size]) (λx P=>by rw[ft.1 P];right;omega) c6⟩
def pD(s:Jg)(k:Nat)(y:Xe)(a:k<10):Bp {s with cell:=Ar s.cell k y}=(Bp s).take (2+k*5)++y.l++(Bp s).drop (2+k*5+5):=by
 have h:=Lv Qs (λ(j:Nat)=>s.cell (j:Int)) (λ(j:Nat)=>Ar s.cell k y (j:Int)) 10 k a (λj b=>BM _ _ Zo);simp only[AP] at h;unfold Bp;simp only;rw[h];have e:([Value.int .i64 s.AB,.bool s.used]:List Value).length=2:=rfl;rw[show 2+k*5=([Value.int .i64 s.AB,.bool s.used]:List Value).length+k*5 from rfl,take_add,mf,Gd];simp only[jz]
def place{w:World}{g d m:Nat}{p:Pl}{fr:B5}{G:Value}(h:PB w g d m p fr G)(a:Yc)(q:p.has a=true):
  ∃b o T cs,Kp 34 #[.pointer (some ⟨g,0,none⟩),.agg a.l.toArray] w (vN ⟨b,o,none⟩ w)/\b∈Zu g d m fr/\Bk w b T cs/\w.rangeAt b o (p.get a).l/\o+5<=cs.size/\
   ∀y:Xe,∃cs':Array Value,cs'.toList=cs.toList.take o++y.l++cs.toList.drop (o+5)/\∀w',Bk w' b T cs'->Aq [b] w w'->PB w' g d m (p.put a y) fr G:=by
 obtain⟨H,s,C⟩:=a
 unfold Pl.has at q
 simp only at q
 have t:∀{w':World} {b:Nat},Aq [b] w w'->(∀x∈Zu g d m fr,x≠b->w'.heap[x]?=w.heap[x]?):=λn x O D=>n.A5 x (h.lt x O) (by simpa using D)
 have I:g∈Zu g d m fr:=Ya.2 (fq rfl)
 have J:d∈Zu g d m fr:=Ya.2 (db (fq rfl))
 have K:m∈Zu g d m fr:=Ya.2 (d2 (fq rfl))
 have L:∀b,fr.v.ownBlock=some b->b∈Zu g d m fr:=λb c=>Ya.2 (d2 (db c))
 cases z:(H==0) with
 |true=>
  rw[z] at q
  simp at q
  obtain⟨X,u,P⟩:=q
  obtain⟨i,rfl⟩:∃i:Nat,C=i:=⟨C.toNat,Zo⟩
  have r:i<p.nb:=Zo
  obtain rfl:H=0:=by simpa using z
  refine⟨d,i*5,_,_,Q3 h i s r,J,h.bo,h.board r,by simp[p.bI];omega,λy=>⟨(p.put ⟨0,s,i⟩ y).B4.toArray,?_,λw' c n=>?_⟩⟩
  ·have u:=Lv Qs (λ(j:Nat)=>p.board (j:Int)) (λ(j:Nat)=>Ar p.board (i:Int) y (j:Int)) p.nb i r (λj M=>BM _ _ Zo);simp only[AP] at u;exact u
  ·exact⟨h.bk.same (t n g I h.n1),c,h.so.same (t n m K (Ne.symm h.n3)),h.fo.kept λb c=>t n b (L b c) (λe=>h.f2 (by rw[c,e])),h.dZ,h.n1,h.n2,h.n3,h.f1,h.f2,h.f3,h.kI,h.WW⟩
 |false=>
  rw[z] at q
  simp only[gx,gm,jh] at q
  obtain⟨Q,u,P⟩:=q
  obtain⟨i,rfl,r⟩:=IT Q
  obtain⟨k,rfl⟩:∃k:Nat,C=k:=⟨C.toNat,Zo⟩
  have E:k<10:=Zo
  have R:p.get ⟨(i:Int)+1,s,k⟩=(p.slot ((i:Int)+1)).cell k:=by unfold Pl.get;simp only[z];rfl
  have N:∀y,p.put ⟨(i:Int)+1,s,k⟩ y={p with slot:=Ar p.slot ((i:Int)+1) {p.slot ((i:Int)+1) with cell:=Ar (p.slot ((i:Int)+1)).cell k y}}:=λy=>by unfold Pl.put;simp only[z];rfl
  rw[R]
  refine⟨m,i*52+2+k*5,_,_,Qz h i k s r E,K,h.so,h.cell r E,by simp[p.KI];omega,λy=>⟨(p.put ⟨(i:Int)+1,s,k⟩ y).A2.toArray,?_,λw' c n=>?_⟩⟩
  ·rw[N];have u:=Lw By (λ(j:Nat)=>p.slot ((j:Int)+1)) p.ns i r;have F:=Lw By (λ(j:Nat)=>Ar p.slot ((i:Int)+1) {p.slot ((i:Int)+1) with cell:=Ar (p.slot ((i:Int)+1)).cell k y} ((j:Int)+1)) p.ns i r;have U:(List.range i).map (λ(j:Nat)=>Ar p.slot ((i:Int)+1) {p.slot ((i:Int)+1) with cell:=Ar (p.slot ((i:Int)+1)).cell k y} ((j:Int)+1))=(List.range i).map λ(j:Nat)=>p.slot ((j:Int)+1):=jl λj M=>BM _ _ (by have:=jt.1 M;omega);have V:((List.range (p.ns-i-1)).map λ(j:Nat)=>Ar p.slot ((i:Int)+1) {p.slot ((i:Int)+1) with cell:=Ar (p.slot ((i:Int)+1)).cell k y} (((i+1+j:Nat):Int)+1))=(List.range (p.ns-i-1)).map λ(j:Nat)=>p.slot (((i+1+j:Nat):Int)+1):=jl λj _=>BM _ _ Zo;simp only[AP] at F;rw[U,V,pD _ _ _ E] at F;show({p with slot:=_}:Pl).A2=p.A2.take (i*52+2+k*5)++y.l++p.A2.drop (i*52+2+k*5+5);unfold Pl.A2;simp only;rw[F,u];have W:(rows Bp ((List.range i).map λ(j:Nat)=>p.slot ((j:Int)+1))).length=i*52:=by rw[Zb By];simp
   generalize rows Bp ((List.range i).map λ(j:Nat)=>p.slot ((j:Int)+1))=A at*;generalize rows Bp ((List.range (p.ns-i-1)).map λ(j:Nat)=>p.slot (((i+1+j:Nat):Int)+1))=B at*;have Y:=By (p.slot ((i:Int)+1));generalize Bp (p.slot ((i:Int)+1))=S at*;rw[←W,show A.length+2+k*5=A.length+(2+k*5) from Zo,show A.length+(2+k*5)+5=A.length+(2+k*5+5) from Zo,take_add,Gd,List.take_append_of_le_length Zo,List.drop_append_of_le_length Zo];simp only[jz]
  ·rw[N] at c ⊢;exact⟨h.bk.same (t n g I h.n2),h.bo.same (t n d J h.n3),c,h.fo.kept λb c=>t n b (L b c) (λe=>h.f3 (by rw[c,e])),h.dZ,h.n1,h.n2,h.n3,h.f1,h.f2,h.f3,h.kI,h.WW⟩
def PB.AL{w w':World}{g a c:Nat}{p:Pl}{fr:B5}{e:Value}(h:PB w g a c p fr e)(d:∀x∈Zu g a c fr,w'.heap[x]?=w.heap[x]?):PB w' g a c p fr e:=
 ⟨h.bk.same (d g (Ya.2 (fq rfl))),h.bo.same (d a (Ya.2 (db (fq rfl)))),h.so.same (d c (Ya.2 (d2 (fq rfl)))),h.fo.kept λb f=>d b (Ya.2 (d2 (db f))),h.dZ,h.n1,h.n2,h.n3,h.f1,h.f2,h.f3,h.kI,h.WW⟩
def RetTo(w:World)(g a c b:Nat)(fr:B5)(d:Value)(r:Pl × Xr)(e:Ending)(w':World):Prop:=e=.returned (.agg r.2.l.toArray)/\PB w' g a c r.1 fr d/\Aq [b] w w'
def gK{w:World}{g q r:Nat}{p:Pl}{fr:B5}{s:Value}(h:PB w g q r p fr s)(a:Bx)(b o:Nat)(T:TypeId)(cs:Array Value)(m:Bk w b T cs)(t:w.rangeAt b o (p.get a.AJ).l)(z:o+5<=cs.size)
  (A:∀y:Xe,∃cs':Array Value,cs'.toList=cs.toList.take o++y.l++cs.toList.drop (o+5)/\∀w',Bk w' b T cs'->Aq [b] w w'->PB w' g q r (p.put a.AJ y) fr s)(d:a.kind=1\/a.kind=2\/a.kind=3):
  Kp 65 #[.pointer (some ⟨b,o,none⟩),.agg a.l.toArray] w (RetTo w g q r b fr s (p.touch a)):=by
 have AL:∀{w'},Bk w' b T cs->Aq [b] w w'->PB w' g q r p fr s:=λi c=>h.AL λx t=>by
  by_cases e:x=b
  ·subst e;unfold Bk at i m;rw[i,m]
  ·exact c.A5 x (h.lt x t) (by simpa using e)
 rcases d with d|d|d
 ·refine(YD w b o T cs (p.get a.AJ) a m t d).mono λe w' j=>?_;obtain⟨k,i,c⟩:=j;have n:p.touch a=(p,⟨p.get a.AJ,true⟩):=by unfold Pl.touch;rw[d];rfl
  rw[n];exact⟨k,AL i c,c⟩
 ·obtain⟨cs',u,v⟩:=A a.new;refine(YC w b o T cs cs' a m z d u).mono λe w' j=>?_;obtain⟨k,i,c⟩:=j;have n:p.touch a=(p.put a.AJ a.new,⟨.zero,true⟩):=by unfold Pl.touch;rw[d];rfl
  rw[n];exact⟨k,v w' i c,c⟩
 ·obtain⟨cs',u,v⟩:=A a.new;refine(YB w b o T cs cs' (p.get a.AJ) a m t z d u).mono λe w' j=>?_;unfold eM at j;have n:p.touch a=bif B7 (p.get a.AJ) a.AU then(p.put a.AJ a.new,⟨p.get a.AJ,true⟩) else(p,⟨p.get a.AJ,false⟩):=by unfold Pl.touch;rw[d];rfl
  rw[n];cases B:B7 (p.get a.AJ) a.AU with
  |true=>
   rw[B] at j;obtain⟨k,i,c⟩:=j;exact⟨k,v w' i c,c⟩
  |false=>
   rw[B] at j;obtain⟨k,i,c⟩:=j;exact⟨k,AL i c,c⟩
def set3(p:Pl)(a b:Nat)(fr:B5)(c:Value)(m:Int):(#[.slice (some ⟨a,0,none⟩) p.nb p.nb,.slice (some ⟨b,0,none⟩) p.ns p.ns,fr.v,.int .i64 p.steps,.int .i64 p.made,c]:Array Value).setIfInBounds 3 (.int .i64 m)=#[.slice (some ⟨a,0,none⟩) p.nb p.nb,.slice (some ⟨b,0,none⟩) p.ns p.ns,fr.v,.int .i64 m,.int .i64 p.made,c]:=rfl
def PB.BN{w:World}{g a b:Nat}{p:Pl}{fr:B5}{c:Value}(h:PB w g a b p fr c)(m:Int):PB (w.setCell ⟨g,3,none⟩ (.int .i64 m)) g a b {p with steps:=m} fr c:=by
 have d:=X2 w g 3 (.int .i64 m);exact⟨by rw[←set3 p a b fr c m];exact h.bk.Ez 3 _,h.bo.A5 (p:=⟨g,3,none⟩) (Ne.symm h.n1) _,h.so.A5 (p:=⟨g,3,none⟩) (Ne.symm h.n2) _,h.fo.grown d (db h.f1),h.dZ,h.n1,h.n2,h.n3,h.f1,h.f2,h.f3,h.kI,h.WW⟩
def AT.CJ{w w':World}{F:List Nat}(h:AT w)(a:Aq F w w')(hF:∀b∈F,7<=b):AT w':=by
 obtain ⟨c,d,f,g,i,j,l,m⟩:=h;have k:∀ {b:Nat},b < 7→(∃ T q,w.cell? ⟨b,0,none⟩ = some (.iface T (.pointer (some q))))→∃ T q,w'.cell? ⟨b,0,none⟩ = some (.iface T (.pointer (some q))):=fun {b} o ⟨T,q,e⟩=>⟨T,q,by
  have:=a.A5 b Zo (λn=>by have:=hF b n;omega);unfold World.cell? at*;rw[this];exact e⟩
 exact⟨k Zd c,k Zd d,k Zd f,k Zd g,k Zd i,k Zd j,k Zd l,gb m a.size⟩
def Bk.range{w:World}{b:Nat}{T:TypeId}{cs:List Value}(h:Bk w b T cs.toArray):w.rangeAt b 0 cs:=λj u a=>by rw[ml,h.cell];simpa using a
def WS(w:World)(g a b:Nat)(F:List Nat)(r:Pl × Xr)(e:Ending)(w':World):Prop:=
 e=.returned (.tuple #[.agg r.2.l.toArray,.nilIface])/\∃c d,PB w' g a b r.1 c d/\Aq F w w'/\∀x∈Zu g a b c,x∈F\/w.heap.size<=x
def JN{w:World}{g Q R:Nat}{p:Pl}{fr:B5}{fv:Value}(h:PB w g Q R p fr fv)(he:AT w)(a3:7<=g)(a:Bx)(hv:p.valid a=true)(hr:p.right a=true)(hk:a.kind=1\/a.kind=2\/a.kind=3):
  Kp 42 #[.pointer (some ⟨g,0,none⟩),.agg a.l.toArray] w (WS w g Q R (Zu g Q R fr) (p.act a)):=by
 have i:=eR (fy hv (fy hr hk))
 clear hv hr hk
 (obtain⟨k,⟨m,n,r⟩,⟨z,B,C,D,E⟩,⟨n0,n1,n2,F,G⟩⟩:=a)
 show Kp 42 #[.pointer (some ⟨g,0,none⟩),.agg #[.int .i64 k,.int .i64 m,.int .i64 n,.int .i64 r,.int .i64 z,.int .i64 B,.int .i64 C,.int .i64 D,.bool E,.int .i64 n0,.int .i64 n1,.int .i64 n2,.int .i64 F,.bool G]] w _
 (have a6:=h.bk.lt;have a7:=he.lt;have HH:=eR (h.below (w':=((w.alloc (.cells #[.int .i64 k,.int .i64 m,.int .i64 n,.int .i64 r,.int .i64 z,.int .i64 B,.int .i64 C,.int .i64 D,.bool E,.int .i64 n0,.int .i64 n1,.int .i64 n2,.int .i64 F,.bool G] 114)).alloc (.cells #[.int .i64 0,.int .i64 0,.int .i64 0,.int .i64 0,.bool false,.bool false] 108))) vB);have HE:=eR (he.below (w':=((w.alloc (.cells #[.int .i64 k,.int .i64 m,.int .i64 n,.int .i64 r,.int .i64 z,.int .i64 B,.int .i64 C,.int .i64 D,.bool E,.int .i64 n0,.int .i64 n1,.int .i64 n2,.int .i64 F,.bool G] 114)).alloc (.cells #[.int .i64 0,.int .i64 0,.int .i64 0,.int .i64 0,.bool false,.bool false] 108))) vB);have XA:Bk ((w.alloc (.cells #[.int .i64 k,.int .i64 m,.int .i64 n,.int .i64 r,.int .i64 z,.int .i64 B,.int .i64 C,.int .i64 D,.bool E,.int .i64 n0,.int .i64 n1,.int .i64 n2,.int .i64 F,.bool G] 114)).alloc (.cells #[.int .i64 0,.int .i64 0,.int .i64 0,.int .i64 0,.bool false,.bool false] 108)) w.heap.size 114 #[.int .i64 k,.int .i64 m,.int .i64 n,.int .i64 r,.int .i64 z,.int .i64 B,.int .i64 C,.int .i64 D,.bool E,.int .i64 n0,.int .i64 n1,.int .i64 n2,.int .i64 F,.bool G]:=(Bk.at_ rfl).alloc _;have X4:Bk ((w.alloc (.cells #[.int .i64 k,.int .i64 m,.int .i64 n,.int .i64 r,.int .i64 z,.int .i64 B,.int .i64 C,.int .i64 D,.bool E,.int .i64 n0,.int .i64 n1,.int .i64 n2,.int .i64 F,.bool G] 114)).alloc (.cells #[.int .i64 0,.int .i64 0,.int .i64 0,.int .i64 0,.bool false,.bool false] 108)) (w.heap.size+1) 108 #[.int .i64 0,.int .i64 0,.int .i64 0,.int .i64 0,.bool false,.bool false]:=Bk.at_ Zs;have HC:Hid (Below w.heap.size w ((w.alloc (.cells #[.int .i64 k,.int .i64 m,.int .i64 n,.int .i64 r,.int .i64 z,.int .i64 B,.int .i64 C,.int .i64 D,.bool E,.int .i64 n0,.int .i64 n1,.int .i64 n2,.int .i64 F,.bool G] 114)).alloc (.cells #[.int .i64 0,.int .i64 0,.int .i64 0,.int .i64 0,.bool false,.bool false] 108))):=eR vB;have hz:w.heap.size+1<((w.alloc (.cells #[.int .i64 k,.int .i64 m,.int .i64 n,.int .i64 r,.int .i64 z,.int .i64 B,.int .i64 C,.int .i64 D,.bool E,.int .i64 n0,.int .i64 n1,.int .i64 n2,.int .i64 F,.bool G] 114)).alloc (.cells #[.int .i64 0,.int .i64 0,.int .i64 0,.int .i64 0,.bool false,.bool false] 108)).heap.size:=Zs;have I:=eR h.lt;clear h he)
 go_enter Tryz.func42,Tryz.ntmps42
 go_wp2_with fail
 refine(FQ HH.out ⟨k,⟨m,n,r⟩,⟨z,B,C,D,E⟩,⟨n0,n1,n2,F,G⟩⟩).mono ?_
 rintro e w1 ⟨rfl,H⟩
 rw[i.out.1]
 have H1:=eR (HH.out.below H);have E1:=eR (HE.out.below H)
 have aa:=XA.Af H;have ab:=X4.Af H
 have C1:Hid (Below w.heap.size w w1):=eR (HC.out.trans (H.mono HC.out.size))
 clear HH HE XA X4 H HC
 have c3:=H1.out.cells.2.2.2.1
 have f3:=H1.out.bk.free 3
 have a8:=H1.out.bk.lt
 have an:g≠w.heap.size:=Zo
 have ao:g≠w.heap.size+1:=Zo
 have V:=eR (aa.A5 (p:=⟨g,3,none⟩) (Ne.symm an) (.int .i64 (wrap64 (p.steps+1))))
 have ad:=eR (ab.A5 (p:=⟨g,3,none⟩) (Ne.symm ao) (.int .i64 (wrap64 (p.steps+1))))
 go_wp2_with (refine ny Zr _ _ Zr w.heap.size 0 Zr [.int .i64 k,.int .i64 m,.int .i64 n,.int .i64 r,.int .i64 z,.int .i64 B,.int .i64 C,.int .i64 D,.bool E,.int .i64 n0,.int .i64 n1,.int .i64 n2,.int .i64 F,.bool G] _ V.out.range Tryz.underlying114 Zr Zk ?_)
 have P2:=H1.out.BN (wrap64 (p.steps+1))
 have W:Aq [g] w1 (w1.setCell ⟨g,3,none⟩ (.int .i64 (wrap64 (p.steps+1)))):=Aq.Ax (b:=0) (X2 _ _ _ _) (λb e=>by injection e with e;simp[e])
 have E2:=E1.out.CJ W (by simp;omega)
 refine(FP P2 E2 ⟨k,⟨m,n,r⟩,⟨z,B,C,D,E⟩,⟨n0,n1,n2,F,G⟩⟩ i.out.1).mono ?_
 intro e w2 hr
 rw[show({p with steps:=wrap64 (p.steps+1)}:Pl).right ⟨k,⟨m,n,r⟩,⟨z,B,C,D,E⟩,⟨n0,n1,n2,F,G⟩⟩=true from i.out.2.1] at hr
 obtain⟨rfl,J⟩:=hr
 have H2:=eR (P2.below J)
 have X:=V.out.Af J
 have Y:=eR (ad.out.Af J)
 have C2:Hid (Aq (Zu g Q R fr) w w2):=eR (((Aq.Ai C1.out).trans (W.mono (λx O=>fq (by rw[ft.1 O];exact Ya.2 (fq rfl))))).trans (Aq.Ai J))
 have y0:=X.cell 0
 have ae:=eR X
 simp at y0
 have af:w.heap.size+1<w2.heap.size:=Y.out.lt
 clear P2 W E2 J V ad X aa ab H1 E1 C1 c3 f3 hz
 have ap:(k==4)=false:=by have:=i.out.2.2;simp;omega
 have aq:(k==5)=false:=by have:=i.out.2.2;simp;omega
 go_upto_region 18 with(fail)
 refine Yh (λw'=>Bk w' w.heap.size 114 #[.int .i64 k,.int .i64 m,.int .i64 n,.int .i64 r,.int .i64 z,.int .i64 B,.int .i64 C,.int .i64 D,.bool E,.int .i64 n0,.int .i64 n1,.int .i64 n2,.int .i64 F,.bool G]) 6 Zk ae.out.drew (λhS=>?_)
 have H3:=eR (H2.out.below (fx _ _).drew)
 have ag:=eR Y.out.drew
 have C3:Hid (Aq (Zu g Q R fr) w w2.drew):=eR (C2.out.trans (Aq.Ai (fx _ _).drew))
 have ar:w.heap.size+1<w2.drew.heap.size:=af
 clear H2 Y C2 af ae y0
 generalize w2.drew=w3 at*
 have ah:({p with steps:=wrap64 (p.steps+1)}:Pl).has ⟨m,n,r⟩=true:=by
  have h1:=i.out.1;have h2:=i.out.2.2;unfold Pl.valid at h1;simp only at h1;rw[show(k==1||(k==2||k==3))=true from by rcases h2 with h|h|h<;>subst h<;>rfl] at h1;exact h1
 obtain⟨b,o,T,cs,L,P,ai,aj,au,S⟩:=place H3.out ⟨m,n,r⟩ ah
 have HP:=eR (fy L (fy ai (fy aj S)))
 have U:=H3.out.lt b P
 have a9:b≠w.heap.size:=λe=>by
  rcases Ya.1 P with h1|h1|h1|h1
  ·omega
  ·have:=I.out Q (Ya.2 (db (fq rfl)));omega
  ·have:=I.out R (Ya.2 (d2 (fq rfl)));omega
  ·have:=I.out b (Ya.2 (d2 (db h1)));omega
 have ba:b<w.heap.size:=I.out b P
 clear L ai aj S ah
 ((try simp only[ZL]);refine vT (fuel:=4) hS [0,1,2,4] ?_;simp only[Yb,Xv,fs];(repeat go_big_quiet_step ((intro c;have y0:=c.cell 0;have y1:=c.cell 1;have y2:=c.cell 2;have y3:=c.cell 3;have y4:=c.cell 4;have y5:=c.cell 5;have y6:=c.cell 6;have y7:=c.cell 7;have y8:=c.cell 8;have y9:=c.cell 9;have ya:=c.cell 10;have yb:=c.cell 11;have yc:=c.cell 12;have yd:=c.cell 13;simp at y0 y1 y2 y3 y4 y5 y6 y7 y8 y9 ya yb yc yd;go_simp;first|done|rfl|exact⟨rfl,rfl⟩)));refine gw ?_;(try dsimp only))
 (refine Xn 3 Zk (λK M=>?_);simp only[Xv,fs])
 go_wp2_with fail
 refine HP.out.1.mono ?_
 rintro e w4 ⟨rfl,s⟩
 have a5:=s.size
 have H4:=eR (H3.out.below s)
 have HT:=eR (gK H4.out ⟨k,⟨m,n,r⟩,⟨z,B,C,D,E⟩,⟨n0,n1,n2,F,G⟩⟩ b o T cs (HP.out.2.1.Af s) (λj u hu=>by rw[(N1 s).1 b _ U];exact HP.out.2.2.1 j u hu) au (λy=>by obtain⟨av,h1,h2⟩:=HP.out.2.2.2 y;exact⟨av,h1,λw' h3 hc=>h2 w' h3 ((Aq.Ai s).trans hc)⟩) i.out.2.2)
 have Z:=hS.Af s
 have ak:=eR (ag.out.Af s)
 have C4:Hid (Aq (Zu g Q R fr) w w4):=eR (C3.out.trans (Aq.Ai s))
 have aw:w.heap.size+1<w4.heap.size:=Zo
 clear s H3 HP ag C3 ar U
 go_wp2_with fail
 refine M.out _ _ (λ_=>Z) ?_
 clear M hS
 (refine Xn 5 Zk (λK M=>?_);simp only[Xv,fs])
 go_wp2_with fail
 refine HT.out.mono ?_
 rintro e w5 ⟨rfl,al,N⟩
 have am:=eR al
 have C5:Hid (Aq (Zu g Q R fr) w w5):=eR (C4.out.trans (N.mono (λx O=>fq (by rw[ft.1 O];exact P))))
 have ax:=Z.CJ N (by simp;omega)
 have ay:=eR (ak.out.CJ N (by simp;omega))
 have bc:w.heap.size+1<w5.heap.size:=by have:=N.size;omega
 clear al N HT C4 ak aw H4
 obtain⟨q,hq⟩:∃q,q=({p with steps:=wrap64 (p.steps+1)}:Pl).touch ⟨k,⟨m,n,r⟩,⟨z,B,C,D,E⟩,⟨n0,n1,n2,F,G⟩⟩:=⟨_,rfl⟩
 have HQ:=eR hq
 rw[←hq] at am ⊢
 clear hq
 obtain⟨q1,⟨⟨r0,r1,r2,r3,r4⟩,r5⟩⟩:=q
 rw[show(⟨⟨r0,r1,r2,r3,r4⟩,r5⟩:Xr).l.toArray=#[.int .i64 r0,.int .i64 r1,.int .i64 r2,.int .i64 r3,.bool r4,.bool r5] from rfl]
 go_wp2_with fail
 refine M.out _ _ (λ_=>ax) ?_
 clear M Z
 (refine Xn 6 Zk (λK M=>?_);simp only[Xv,fs])
 go_wp2_with (refine vM ay.out ?_;intro w6 d)
 refine M.out _ _ (λh=>absurd h Zo) ?_
 clear M
 ((refine Xn 7 Zk (λK M=>?_);simp only[Xv,fs]);go_wp2_with fail;refine M.out _ _ (λh=>absurd h Zo) ?_;clear M)
 refine Yk Zk ?_ _
 go_wp2_with fail
 have s0:=d.bk.cell 0;have s1:=d.bk.cell 1;have s2:=d.bk.cell 2;have s3:=d.bk.cell 3;have s4:=d.bk.cell 4;have s5:=d.bk.cell 5
 simp at s0 s1 s2 s3 s4 s5
 refine js (v:=.tuple #[.agg #[.int .i64 r0,.int .i64 r1,.int .i64 r2,.int .i64 r3,.bool r4,.bool r5],.nilIface]) (by simp[results,Tryz.results42,go_sem,s0,s1,s2,s3,s4,s5]) rfl ?_
 have ea:p.act ⟨k,⟨m,n,r⟩,⟨z,B,C,D,E⟩,⟨n0,n1,n2,F,G⟩⟩=(q1,⟨⟨r0,r1,r2,r3,r4⟩,r5⟩):=by
  rw[HQ.out];unfold Pl.act;rw[Gx];simp only;rw[show({p with steps:=wrap64 (p.steps+1)}:Pl).right ⟨k,⟨m,n,r⟩,⟨z,B,C,D,E⟩,⟨n0,n1,n2,F,G⟩⟩=true from i.out.2.1,ap,aq];rfl
 rw[ea]
 have c6:Aq [w.heap.size+1] w5 w6:=Aq.Ax (b:=0) d.grown (λb' e=>by injection e with e;simp[e])
 have az:=I.out
 exact⟨rfl,fr,fv,am.out.CJ c6 (λx O h1=>by have:=az x O;rw[ft.1 h1] at this;omega),C5.out.seq (F1:=[w.heap.size+1]) (λx O=>by rw[ft.1 O];right;omega) c6,λx O=>fq O⟩
