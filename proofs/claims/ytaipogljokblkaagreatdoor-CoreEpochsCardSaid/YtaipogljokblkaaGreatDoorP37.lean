/- Core: DcA, QK, DcB. -/
import Derived.Test.YtaipogljokblkaaGreatDoorP35
set_option linter.all false
set_option maxRecDepth 100000
set_option maxHeartbeats 8000000
namespace Go.Proofs.YtaipogljokblkaaGreatDoor.Fn
open Go Go.RowKit
def sC(s:ByteArray)(k:Nat)(p:Addr)(w:World)(c:w.cell? p=some (.string (rest s k)))(u:w.frozen? p=false):
  Kp 28 #[.pointer (some p)] w λe w'=>e=.returned (.int .i64 (Jl s k))/\w.setCell p (.string (rest s (k+1)))=w':=by
 by_cases h:k<s.size
 ·have d:0<(rest s k).size:=by rw[M7];omega
  have g:=jB s k h d;have a:=jA s k;generalize m:rest s k=r at*;generalize b:rest s (k+1)=v at*;have o:r.toList.isEmpty=false:=Jf d;have q:=eR g;clear g;have t:=eR a;clear a;clear m b;go_enter Tryz.func28,Tryz.ntmps28;go_wp2;go_ret;exact⟨yI (by rw[←q.out];exact nA _),by rw[t.out]⟩
 ·have i:Jl s k=0:=by unfold Jl;rw[dif_neg h]
  have j:rest s (k+1)=rest s k:=by rw[IH s k Zo,IH s (k+1) Zo]
  rw[j,SI c,i];have l:=IH s k Zo;rw[l] at c;clear j i l;go_enter Tryz.func28,Tryz.ntmps28;go_wp2;go_ret;exact⟨rfl,rfl⟩
def Gq(st kind x y:Int):Lf:=
 if kind=1\/kind=4 then⟨kind,0,256*x+y,0⟩
 else if kind=6 then⟨kind,x,y,if st=5 then y%3+1 else 0⟩
 else if kind=7\/kind=8 then⟨kind,x,0,0⟩
 else⟨kind,0,0,0⟩
def tT(st kind x y:Int)(w:World)(a:0<=x)(b:x<=255)(c:0<=y)(d:y<=255):
  Kp 30 #[.int .i64 st,.int .i64 kind,.int .i64 x,.int .i64 y] w (RetV (Gq st kind x y).v w):=by
 go_enter Tryz.func30,Tryz.ntmps30
 go_wp2
 all_goals
  go_returns
  refine⟨?_,by go_grown⟩
  simp_all [Gq,Lf.v]
def BO(st:Int):List Int:=if st=1 then[1,2,3] else if st=2 then[4,5] else if 3<=st/\st<=5 then[6,7,8] else[]
def kP(st:Int)(w:World)(a:1<=st)(b:st<=5):
  Kp 29 #[.int .i64 st] w λe w'=>e=.returned (.slice (some ⟨w.heap.size,0,none⟩) (BO st).length (BO st).length)/\
   w.alloc (.cells ((BO st).map (Value.int .i64)).toArray 3)=w':=by
 go_enter Tryz.func29,Tryz.ntmps29
 go_wp2
 all_goals
  go_returns
  simp_all [BO]
structure De where
 AW:Int
 op:Lf
 deriving DecidableEq
structure sg where
 st:Int
 en:Int
 th:Int
 sl:Int
 no:Int
 ops:List De
 EZ:List Int
 deriving DecidableEq
def De.cells(t:De):List Value:=[.int .i64 t.AW,.int .i64 t.op.kind,.int .i64 t.op.key,.int .i64 t.op.val,.int .i64 t.op.Al]
def D0(l:List De):List Value:=l.flatMap De.cells
def BF(l:List Int):List Value:=l.map (Value.int .i64)
def Sl(w:World)(B sz:Nat)(A:Option Addr)(n:Nat)(xs:List Value):Prop:=
 xs.length=n*sz/\(0<n->∃b a,A=some ⟨b,a,none⟩/\b<B/\∀j u,xs[j]?=some u->w.cell? ⟨b,a+j,none⟩=some u)
section
variable{w w':World}{B B' sz n:Nat}{A:Option Addr}{xs:List Value}
def Sl.AL(h:Sl w B sz A n xs)(d:∀b o,b<B->w'.cell? ⟨b,o,none⟩=w.cell? ⟨b,o,none⟩):Sl w' B sz A n xs:=
 ⟨h.1,fun f=>by
  obtain⟨b,a,e,c,g⟩:=h.2 f;exact⟨b,a,e,c,λj u i=>(d _ _ c).trans (g j u i)⟩⟩
def Sl.more(h:Sl w B sz A n xs)(f:B<=B'):Sl w B' sz A n xs:=
 ⟨h.1,fun c=>by
  obtain⟨b,a,e,g,d⟩:=h.2 c;exact⟨b,a,e,Zo,d⟩⟩
def Sl.below(h:Sl w B sz A n xs)(a:Below B w w'):Sl w' B sz A n xs:=h.AL λb o c=>a.cell (p:=⟨b,o,none⟩) c
def Sl.uU{C:Nat}(h:Sl w B sz A n xs)(b:Below C w w')(a:B<=C):Sl w' B sz A n xs:=h.below (b.mono a)
def Sl.ZX{base:Nat}{e:TypeId}{c:Nat}(h:w.ownsRow base e sz (.slice A n c) n xs):Sl w w.heap.size sz A n xs:=by
 refine⟨h.1,λb=>?_⟩;obtain⟨g,d,f,_,a⟩:=h.form b;have i:A=some ⟨g,0,none⟩:=by injection f
 subst i;have k:=h.cells (g:=g) rfl;refine⟨g,0,rfl,a,λj u l=>?_⟩;have:=k j u l;simp only[Addr.add] at this;split at this
 ·rename_i m;subst m;simpa using this
 ·simpa using this
end
def Dw(l:List Int):(BF l).length=l.length:=by simp[BF]
def YJ(l:List De):∀(i:Nat) (_:i<l.length) (j:Nat),j<5->(D0 l)[i*5+j]?=(l[i]).cells[j]?:=by
 induction l with
 |nil=>intro i h;simp at h
 |cons a l b=>
  intro i h j c;have ha:(De.cells a).length=5:=rfl;cases i with
  |zero=>
   simp only[D0,List.flatMap_cons,ov,ml,nf];rw[ke Zo]
  |succ i=>
   simp only[D0,List.flatMap_cons,List.getElem_cons_succ];rw[je Zo,ha,show(i+1)*5+j-5=i*5+j from Zo];exact b i (by simpa using h) j c
def Sl.vk{w:World}{B:Nat}{A:Option Addr}{l:List De}(h:Sl w B 5 A l.length (D0 l)){i:Nat}(d:i<l.length):
  ∃b a,A=some ⟨b,a,none⟩/\b<B/\w.cell? ⟨b,a+i*5,none⟩=some (.int .i64 l[i].AW)/\w.cell? ⟨b,a+i*5+1,none⟩=some (.int .i64 l[i].op.kind)/\
   w.cell? ⟨b,a+i*5+2,none⟩=some (.int .i64 l[i].op.key)/\w.cell? ⟨b,a+i*5+3,none⟩=some (.int .i64 l[i].op.val)/\w.cell? ⟨b,a+i*5+4,none⟩=some (.int .i64 l[i].op.Al):=by
 obtain⟨b,a,e,f,c⟩:=h.2 Zo
 have g:=YJ l i d
 exact⟨b,a,e,f,c _ _ (g 0 Zo),c _ _ (g 1 Zo),c _ _ (g 2 Zo),c _ _ (g 3 Zo),c _ _ (g 4 Zo)⟩
def sg.v(x:sg)(A:Option Addr)(c:Nat)(a:Option Addr)(b:Nat):Value:=
 .agg #[.int .i64 x.st,.int .i64 x.en,.int .i64 x.th,.int .i64 x.sl,.int .i64 x.no,.slice A x.ops.length c,.slice a x.EZ.length b]
end Go.Proofs.YtaipogljokblkaaGreatDoor.Fn
namespace Go.Proofs.YtaipogljokblkaaGreatDoor
open Go Go.RowKit
def Ns(o:Fn.Lf):AV:=⟨o.kind,o.key,o.val,o.Al⟩
def Aj.put(P:Aj)(t:Fn.De):Aj:=
 match P.Av[t.AW.toNat]? with
 |some T=>P.queue t.AW.toNat T (Ns t.op)
 |none=>P
def Aj.fill(P:Aj)(l:List Fn.De):Aj:=l.foldl Aj.put P
structure Qj(st:Int)(n k:Nat)(P:Aj):Prop where
 s:P.st=st
 z:P.Av.length=n
 b:P.Ap=[]
 t:∀(i:Nat) (T:MT),P.Av[i]?=some T->0<=T.BK/\T.BK<=k/\T.queue.length<=k
def Qj.put{st:Int}{n k:Nat}{P:Aj}(h:Qj st n k P)(t:Fn.De):Qj st n (k+1) (P.put t):=by
 unfold Aj.put;cases c:P.Av[t.AW.toNat]? with
 |none=>exact⟨h.s,h.z,h.b,λi T a=>by have:=h.t i T a;omega⟩
 |some T=>
  refine⟨h.s,?_,h.b,λi d a=>?_⟩
  ·show(P.Av.set _ _).length=n;rw[jc];exact h.z
  ·have a:(P.Av.set t.AW.toNat {T with queue:=T.queue++[Ns t.op],BK:=T.BK+1})[i]?=some d:=a;have f:=Zg c;by_cases e:t.AW.toNat=i
   ·subst e;rw[ij f] at a;injection a with a;subst a;have:=h.t _ _ c;simp;omega
   ·rw[jo e] at a;have:=h.t i d a;omega
def RF(P:Aj)(l:List Fn.De)(k:Nat)(h:k<l.length):P.fill (l.take (k+1))=(P.fill (l.take k)).put l[k]:=by
 unfold Aj.fill;rw[m8,gl h,Option.toList_some,List.foldl_append];rfl
def Qj.fill{st:Int}{n:Nat}{P:Aj}(h:Qj st n 0 P)(l:List Fn.De):∀k,k<=l.length->Qj st n k (P.fill (l.take k)):=by
 intro k;induction k with
 |zero=>intro _;exact h
 |succ k a=>
  intro b;rw[RF P l k b];exact(a Zo).put _
def aO(st eng most:Int)(n ns:Nat):Qj st n 0 (Aj.fresh st eng most n ns n):=
 ⟨rfl,Aj.MO _ _ _ _ _ _,rfl,fun i T a=>by
  unfold Aj.fresh at a;simp only at a;rw[kf] at a;cases b:(List.range n)[i]? with
  |none=>rw[b] at a;cases a
  |some j=>rw[b] at a;injection a with a;subst a;exact⟨hJ _,hJ _,Nat.le_refl _⟩⟩
structure t9(w wr:World)(st eng most:Int)(n ns gp gh:Nat)(ops:List Fn.De)(x:Array Value)(k:Nat):Prop where
 p:∃tv bv ro Fh Ft lab,DK wr gp gh ((Aj.fresh st eng most n ns n).fill (ops.take k)) tv bv ro Fh Ft lab/\∀b,lab b<1000->w.heap.size<b
 c:Bk wr w.heap.size 47 x
 b:Below w.heap.size w wr
 e:AT wr
def t9.below{w wr a:World}{st eng most:Int}{n ns i gh:Nat}{d:List Fn.De}{x:Array Value}{k:Nat}(h:t9 w wr st eng most n ns i gh d x k)(f:Below wr.heap.size wr a):t9 w a st eng most n ns i gh d x k:=by
 obtain⟨j,bv,l,m,o,g,q,r⟩:=h.p;exact⟨⟨j,bv,l,m,o,g,q.below f,r⟩,h.c.Af f,h.b.trans (f.mono h.b.size),h.e.below f⟩
def t9.next{w wr a:World}{st eng most:Int}{n ns j gh:Nat}{d:List Fn.De}{x:Array Value}{k:Nat}{lab:Nat->Nat}(h:t9 w wr st eng most n ns j gh d x k)(q:7<=w.heap.size)(p:∀b,lab b<1000->w.heap.size<b)(r:wB wr j gh ((Aj.fresh st eng most n ns n).fill (d.take (k+1))) lab a):t9 w a st eng most n ns j gh d x (k+1):=by
 obtain⟨s,bv,t,u,v,g,y,f,l⟩:=r;have B:=h.b.size;have m:=h.c.lt;have o:∀b,b<=w.heap.size->b<wr.heap.size->a.heap[b]?=wr.heap[b]?:=λb i z=>f.A5 b z λA=>by have:=p b A;omega
 exact ⟨⟨s,bv,t,u,v,g,y,fun b i=>(l b i).elim (p b) fun C=>Zo⟩,h.c.same (o _ (Nat.le_refl _) m),
  h.b.trans ⟨f.os,f.tape,f.output,f.size,λb i=>o b Zo Zo⟩,h.e.low (λb i=>o b Zo Zo) (by have:=f.size;omega)⟩
def RY(st eng most:Int)(n ns:Nat)(w:World)(he:AT w)(a0:1<=st)(b0:st<=5)(a1:1<=eng)(b1:eng<=5)(a2:1<=n)(b2:n<=6)(b3:ns<=1024)(a4:1<=most)(b4:most<=64)(hs:st=2\/st=4->1<=ns)
  (a:List Fn.De)(A M:Option Go.Addr)(c N O:Nat)(hl:Fn.Sl w w.heap.size 5 A a.length (Fn.D0 a))(ad:a.length<=64)(P:∀t∈a,0<=t.AW/\t.AW<(n:Int)/\Hh st (Ns t.op)):
  Kp 13 #[.agg #[.int .i64 st,.int .i64 eng,.int .i64 (n:Int),.int .i64 (ns:Int),.int .i64 most,.slice A a.length c,.slice M O N]] w λen w'=>∃u gh C bv D Fh E lab,en=.returned (.pointer (some ⟨u,0,none⟩))/\DK w' u gh ((Aj.fresh st eng most n ns n).fill a) C bv D Fh E lab/\Below w.heap.size w w'/\∀b,lab b<1000->w.heap.size<=b:=by
 have v:=(fx w.heap.size w).alloc (Nat.le_refl _) (.cells #[.int .i64 st,.int .i64 eng,.int .i64 (n:Int),.int .i64 (ns:Int),.int .i64 most,.slice A a.length c,.slice M O N] 47)
 have x:=eR (Bk.at_ (w:=w) (cs:=#[.int .i64 st,.int .i64 eng,.int .i64 (n:Int),.int .i64 (ns:Int),.int .i64 most,.slice A a.length c,.slice M O N]) (t:=47) rfl)
 have HC:=eR v
 have HE:=eR (he.below v)
 have HS:=eR hl
 have HO:=eR P
 have HI:=eR ((aO st eng most n ns).fill a)
 have aa:=he.lt
 have ae:(a.length:Int)<=64:=Zo
 clear he v hl P
 go_enter Tryz.func13,Tryz.ntmps13
 have y0:=x.out.cell 0;have y1:=x.out.cell 1;have y2:=x.out.cell 2;have y3:=x.out.cell 3;have y4:=x.out.cell 4
 simp at y0 y1 y2 y3 y4
 go_wp2_with fail
 refine(ZS st eng most n ns _ HE.out a0 b0 a1 b1 a2 b2 b3 a4 b4 hs).mono ?_
 rintro e w1 ⟨u,gh,C,bv,D,Fh,E,lab,rfl,o,F,d⟩
 have HB:Hid (t9 w w1 st eng most n ns u gh a #[.int .i64 st,.int .i64 eng,.int .i64 (n:Int),.int .i64 (ns:Int),.int .i64 most,.slice A a.length c,.slice M O N] 0):=eR ⟨⟨C,bv,D,Fh,E,lab,o,λb h=>by have:=d b h;simp at this;omega⟩,x.out.Af F,HC.out.trans (F.mono HC.out.size),HE.out.below F⟩
 clear o F d x HC HE y0 y1 y2 y3 y4
 go_wp2_with fail
 go_loopw [5] (λi wr=>∃(k:Nat),k<=a.length/\i=.int .i64 k/\t9 w wr st eng most n ns u gh a #[.int .i64 st,.int .i64 eng,.int .i64 (n:Int),.int .i64 (ns:Int),.int .i64 most,.slice A a.length c,.slice M O N] k) (λi _=>a.length-(intOf i).toNat)
 case atStart=>exact⟨0,ie _,rfl,HB.out⟩
 case round=>
  obtain⟨k,hk,rfl,L⟩:=hrel
  have Q:=eR L
  clear L
  have l:=Q.out.c.cell 5
  simp at l
  by_cases m:k<a.length
  ·have R:(k:Int)<(a.length:Int):=Zo;obtain⟨b,g,rfl,af,_⟩:=HS.out.vk m;go_upto_region 7 with(fail);have j:=eR (Q.out.below (fx wr.heap.size wr).drew);clear Q l;have l:=j.out.c.cell 5;simp at l;obtain⟨b',S,e',_,q,G,H,I,J⟩:=(HS.out.below j.out.b).vk m;cases e';obtain⟨o1,o2,o3⟩:=HO.out a[k] (nu m);obtain⟨i,y⟩:=lj o1;rw[y] at q o2;have W:=HI.out k hk;obtain⟨C,bv,D,Fh,E,lab,o,d⟩:=j.out.p;obtain⟨T,Y⟩:∃T,((Aj.fresh st eng most n ns n).fill (a.take k)).Av[i]?=some T:=⟨_,gl (by rw[W.z];omega)⟩;obtain⟨t1,t2,t3⟩:=W.t i T Y;have hq:Kp 9 #[.pointer (some ⟨u,0,none⟩),.int .i64 (i:Int),.agg #[.int .i64 a[k].op.kind,.int .i64 a[k].op.key,.int .i64 a[k].op.val,.int .i64 a[k].op.Al]] _ _:=jL o j.out.e Y (Ns a[k].op) (by rw[W.s];exact o3) t1 Zo Zo;have r:((Aj.fresh st eng most n ns n).fill (a.take k)).queue i T (Ns a[k].op)=(Aj.fresh st eng most n ns n).fill (a.take (k+1)):=by
    rw[RF _ _ _ m];unfold Aj.put;rw[y,kq,Y]
   rw[r] at hq;have HQ:=eR d;clear r Y t1 t2 t3 o d W o1 o2 o3;refine Yh (λX=>X.cell? ⟨w.heap.size,5,none⟩=some (.slice (some ⟨b,g,none⟩) a.length c)/\X.cell? ⟨b,g+k*5,none⟩=some (.int .i64 i)/\X.cell? ⟨b,g+k*5+1,none⟩=some (.int .i64 a[k].op.kind)/\X.cell? ⟨b,g+k*5+2,none⟩=some (.int .i64 a[k].op.key)/\X.cell? ⟨b,g+k*5+3,none⟩=some (.int .i64 a[k].op.val)/\X.cell? ⟨b,g+k*5+4,none⟩=some (.int .i64 a[k].op.Al)) 15 Zk ⟨l,q,G,H,I,J⟩ (λZ=>?_);clear l q G H I J;generalize wr.drew=w0 at*;((try simp only[ZL]);refine vT (fuel:=2) Z [0,1,2,3,4,5,6,7,8,9,10,11,12] ?_;simp only[Yb,Xv,fs];(repeat (first|go_big_quiet_skip|(go_big_quiet_want;first|(go_big_quiet_op;go_big_quiet_on)|(apply g7;refine⟨λw' V=>?_,?_⟩;(· ((obtain⟨q1,q2,q3,q4,q5,q6⟩:=V);go_simp;first|done|rfl|exact⟨rfl,rfl⟩));go_big_quiet_on;simp only[ZL]))));refine gw ?_;(try dsimp only));(refine Xn 13 Zk (λK hK=>?_);simp only[Xv,fs]);go_wp2_with fail;refine hq.mono ?_;rintro e w2 ⟨rfl,hr⟩;have B:=eR (j.out.next aa HQ.out hr);clear hr hq HQ j;have l:=B.out.c.cell 5;simp at l;obtain⟨b',S,e',_,q,G,H,I,J⟩:=(HS.out.below B.out.b).vk m;cases e';rw[y] at q;go_wp2_with fail;refine hK.out _ _ (λ_=>⟨l,q,G,H,I,J⟩) ?_;clear hK Z;have Z:=fy l (fy q (fy G (fy H (fy I J))));clear l q G H I J;((try simp only[ZL]);refine vT (fuel:=0) Z [14] ?_;simp only[Yb,Xv,fs];(repeat (first|go_big_quiet_skip|(go_big_quiet_want;first|(go_big_quiet_op;go_big_quiet_on)|(apply g7;refine⟨λw' V=>?_,?_⟩;(· (skip;go_simp;first|done|rfl|exact⟨rfl,rfl⟩));go_big_quiet_on;simp only[ZL]))));refine gw ?_;(try dsimp only));refine Yk Zk ?_ _;go_wp2_with fail;refine⟨⟨k+1,Zo,by go_num,B.out⟩,by simp[intOf];omega⟩
  ·have ab:k=a.length:=Zo;subst ab;have R:¬(a.length:Int)<(a.length:Int):=Zo;go_wp2_with fail;go_ret;obtain⟨C,bv,D,Fh,E,lab,o,d⟩:=Q.out.p;rw[np] at o;exact⟨u,rfl,gh,C,bv,D,Fh,E,lab,o,Q.out.b,λb F=>Nat.le_of_lt (d b F)⟩
end Go.Proofs.YtaipogljokblkaaGreatDoor
namespace Go.Proofs.YtaipogljokblkaaGreatDoor.Fn
open Go Go.RowKit
def KR(st:Int)(b:Nat):Int:=(BO st)[b%(BO st).length]?.getD 0
def So(s:ByteArray)(st a:Int)(i:Nat):De:=
 ⟨(Jl s (6+4*i):Int)%a,Gq st (KR st (Jl s (7+4*i))) (Jl s (8+4*i)) (Jl s (9+4*i))⟩
def MC(s:ByteArray)(a:Int)(n i:Nat):Int:=(Jl s (6+4*n+i):Int)%a
def CU(s:ByteArray):Int:=(Jl s 0:Int)%5+1
def TB(s:ByteArray):Int:=(Jl s 1:Int)%5+1
def EP(s:ByteArray):Int:=(Jl s 2:Int)%6+1
def Ld(s:ByteArray):Int:=(Jl s 3:Int)
def NV(s:ByteArray):Int:=(Jl s 4:Int)%64+1
def dN(s:ByteArray):Nat:=Jl s 5%65
def dP(s:ByteArray):Nat:=min (s.size-(6+4*dN s)) 4096
def Fm(s:ByteArray)(k:Nat):List De:=(List.range k).map (So s (CU s) (EP s))
def Dr(s:ByteArray)(k:Nat):List Int:=(List.range k).map (MC s (EP s) (dN s))
def dec(s:ByteArray):sg:=⟨CU s,TB s,EP s,Ld s,NV s,Fm s (dN s),Dr s (dP s)⟩
def Mp(s:ByteArray)(k b:Nat)(w:World)(e:Ending)(w':World):Prop:=
 e=.returned (.int .i64 (Jl s k))/\Bk w' b 85 #[.string (rest s (k+1))]/\w.grownBy w' (some b)/\w'.heap.size=w.heap.size
def Fc(s:ByteArray)(k b:Nat)(w:World)(h:Bk w b 85 #[.string (rest s k)]):
  Kp 28 #[.pointer (some ⟨b,0,none⟩)] w (Mp s k b w):=
 (sC s k ⟨b,0,none⟩ w (by rw[h.cell];rfl) (h.free 0)).mono λe d ⟨a,c⟩=>by
  subst c;exact⟨a,by simpa using h.Ez 0 (.string (rest s (k+1))),X2 _ _ _ _,by simp[World.setCell]⟩
structure DW(w wr:World)(s:ByteArray)(k:Nat)(xc:Array Value):Prop where
 o:Bk wr w.heap.size 47 #[.int .i64 0,.int .i64 0,.int .i64 0,.int .i64 0,.int .i64 0,.slice none 0 0,.slice none 0 0]
 r:Bk wr (w.heap.size+1) 85 #[.string (rest s k)]
 x:Bk wr (w.heap.size+2) 47 xc
 below:Below w.heap.size w wr
def DW.next{w wr w':World}{s:ByteArray}{k:Nat}{a:Array Value}{e:Ending}(D:DW w wr s k a)(h:Mp s k (w.heap.size+1) wr e w'):
  DW w w' s (k+1) a:=
 ⟨D.o.grown h.2.2.1 Zs,h.2.1,D.x.grown h.2.2.1 Zs,D.below.grown h.2.2.1 D.below.size Zs⟩
def DW.Ez{w wr:World}{s:ByteArray}{k:Nat}{a:Array Value}(D:DW w wr s k a)(i:Nat)(u:Value):
  DW w (wr.setCell ⟨w.heap.size+2,i,none⟩ u) s k (a.setIfInBounds i u):=
 ⟨D.o.A5 Zs u,D.r.A5 Zs u,D.x.Ez i u,D.below.setCell Zs u⟩
def DW.more{w wr w':World}{s:ByteArray}{k:Nat}{a:Array Value}(D:DW w wr s k a)(h:Below wr.heap.size wr w'):DW w w' s k a:=
 ⟨D.o.Af h,D.r.Af h,D.x.Af h,D.below.trans (h.mono D.below.size)⟩
def Ec(s:ByteArray)(v v':Value):Array Value:=#[.int .i64 (CU s),.int .i64 (TB s),.int .i64 (EP s),.int .i64 (Ld s),.int .i64 (NV s),v,v']
def Ts(s:ByteArray):Array Value:=((BO (CU s)).map (Value.int .i64)).toArray
structure L1(w wr:World)(s:ByteArray)(kb p k:Nat)(v:Value):Prop where
 d:DW w wr s p (Ec s v (.slice none 0 0))
 kk:Bk wr kb 3 (Ts s)
 own:wr.ownsRow (kb+1) 91 5 v k (D0 (Fm s k))
 kb:w.heap.size+2<kb
def DW.drew{w wr:World}{s:ByteArray}{k:Nat}{a:Array Value}(D:DW w wr s k a):DW w wr.drew s k a:=⟨D.o,D.r,D.x,D.below.drew⟩
def L1.drew{w wr:World}{s:ByteArray}{a p k:Nat}{v:Value}(L:L1 w wr s a p k v):L1 w wr.drew s a p k v:=⟨L.d.drew,L.kk,L.own,L.kb⟩
def L1.next{w wr w':World}{s:ByteArray}{a p k:Nat}{v:Value}{e:Ending}(L:L1 w wr s a p k v)(h:Mp s p (w.heap.size+1) wr e w'):L1 w w' s a (p+1) k v:=
 ⟨L.d.next h,L.kk.grown h.2.2.1 (by have:=L.kb;simp;omega),L.own.kept h.2.2.1 (by
  cases b:v.ownBlock with
  |none=>simp
  |some g=>right;intro e;have:=(L.own.lt g b).1;have:=L.kb;simp at e;omega),L.kb⟩
def L1.more{w wr w':World}{s:ByteArray}{a p k:Nat}{v:Value}(L:L1 w wr s a p k v)(h:Below wr.heap.size wr w'):L1 w w' s a p k v:=
 ⟨L.d.more h,L.kk.Af h,kA L.own h,L.kb⟩
def L1.th{w wr:World}{s:ByteArray}{a p k:Nat}{v:Value}(L:L1 w wr s a p k v):wr.cell? ⟨w.heap.size+1+1,2,none⟩=some (.int .i64 (EP s)):=by
 have:=L.d.x.cell 2;simpa [Ec] using this
def L1.st{w wr:World}{s:ByteArray}{a p k:Nat}{v:Value}(L:L1 w wr s a p k v):wr.cell? ⟨w.heap.size+1+1,0,none⟩=some (.int .i64 (CU s)):=by
 have:=L.d.x.cell 0;simpa [Ec] using this
def L1.ops{w wr:World}{s:ByteArray}{a p k:Nat}{v:Value}(L:L1 w wr s a p k v):wr.cell? ⟨w.heap.size+1+1,5,none⟩=some v:=by
 have:=L.d.x.cell 5;simpa [Ec] using this
def L1.kind{w wr:World}{s:ByteArray}{f p k:Nat}{v:Value}(L:L1 w wr s f p k v)(b:Nat):wr.cell? ⟨f,b%(BO (CU s)).length,none⟩=some (.int .i64 (KR (CU s) b)):=by
 have h:=L.kk.cell (b%(BO (CU s)).length);have d:CU s=1\/CU s=2\/CU s=3\/CU s=4\/CU s=5:=by unfold CU;omega
 rw[h];unfold Ts KR;rcases d with e|e|e|e|e<;>rw[e]
 ·have:b%3<3:=oy _ Zo;generalize a:b%3=c at this;simp[BO,a];match c,this with
  |0,_=>rfl
  |1,_=>rfl
  |2,_=>rfl
 ·have:b%2<2:=oy _ Zo;generalize a:b%2=c at this;simp[BO,a];match c,this with
  |0,_=>rfl
  |1,_=>rfl
 all_goals
  have:b%3<3:=oy _ Zo
  generalize a:b%3=c at this
  simp[BO,a]
  match c,this with
  |0,_=>rfl
  |1,_=>rfl
  |2,_=>rfl
def Wq(s:ByteArray)(k:Nat):Fm s (k+1)=Fm s k++[So s (CU s) (EP s) k]:=by
 simp[Fm,pg]
def HY(s:ByteArray)(k:Nat):(Fm s k).length=k:=by simp[Fm]
def Qv(a b:List De):D0 (a++b)=D0 a++D0 b:=by simp[D0]
def Ou(s:ByteArray)(p:Nat):De:=⟨(Jl s p:Int)%EP s,Gq (CU s) (KR (CU s) (Jl s (p+1))) (Jl s (p+1+1)) (Jl s (p+1+1+1))⟩
def gL(s:ByteArray)(k:Nat):Ou s (6+4*k)=So s (CU s) (EP s) k:=by
 unfold Ou So;rw[show 6+4*k+1=7+4*k from Zo,show 7+4*k+1=8+4*k from Zo,show 8+4*k+1=9+4*k from Zo]
def L1.push{w f b:World}{s:ByteArray}{j p k:Nat}{v v':Value}(L:L1 w f s j p k v)(o:Obj)
  (h:b.ownsRow (j+1) 91 5 v' (k+1) (D0 (Fm s k)++(Ou s (6+4*k)).cells))(i:(f.alloc o).grownBy b v.ownBlock)(A:p=6+4*k+4):
  L1 w (b.setCell ⟨w.heap.size+2,5,none⟩ v') s j (6+4*(k+1)) (k+1) v':=by
 have l:=L.kb
 have c:∀g,g<=j->some g≠v.ownBlock:=by
  intro g n e;have:=(L.own.lt g e.symm).1;omega
 have q:=L.d.below.size
 have u:=L.kk.lt
 have y:Bk b (w.heap.size+2) 47 (Ec s v (.slice none 0 0)):=(L.d.x.alloc o).grown i (c _ Zo)
 have D:DW w b s p (Ec s v (.slice none 0 0)):=
  ⟨(L.d.o.alloc o).grown i (c _ Zo),(L.d.r.alloc o).grown i (c _ Zo),y,
   (L.d.below.alloc q o).grown i (by simp;omega) (λg e=>by have:=(L.own.lt g e).1;omega)⟩
 have m:=D.Ez 5 v'
 have e:(Ec s v (.slice none 0 0)).setIfInBounds 5 v'=Ec s v' (.slice none 0 0):=rfl
 rw[e] at m
 refine⟨by rw[show 6+4*(k+1)=p from Zo];exact m,((L.kk.alloc o).grown i (c _ Zo)).A5 (by simp;omega) _,?_,l⟩
 have z:=Zf h (a:=⟨w.heap.size+2,5,none⟩) (by simp;omega) v'
 rw[Wq,Qv,←gL]
 simpa [D0] using z
def L1.XC{w b a:World}{s:ByteArray}{f p k:Nat}{v:Value}(L:L1 w b s f p k v)(o:Obj)(g:(b.alloc o).grownBy a v.ownBlock):
  a.cell? ⟨w.heap.size+1+1,5,none⟩=some v/\a.cell? ⟨w.heap.size+1+1,0,none⟩=some (.int .i64 (CU s))/\a.frozen? ⟨w.heap.size+1+1,5,none⟩=false:=by
 have h:=L.kb
 have c:Bk a (w.heap.size+2) 47 (Ec s v (.slice none 0 0)):=(L.d.x.alloc o).grown g (by intro e;have:=(L.own.lt _ e.symm).1;omega)
 exact⟨by have:=c.cell 5;simpa [Ec] using this,by have:=c.cell 0;simpa [Ec] using this,c.free 5⟩
def kB{w:World}{b k:Nat}{e e':TypeId}{sz c n l:Nat}{v v':Value}{xs d:List Value}(h:w.ownsRow b e sz v n xs)(h':w.ownsRow k e' c v' l d)(f:e≠e'):
  v.ownBlock=none\/v.ownBlock≠v'.ownBlock:=by
 rcases h.2 with⟨rfl,_⟩|⟨g,m,q,rfl,_,o,_⟩
 ·left;rfl
 ·right;rcases h'.2 with⟨rfl,_⟩|⟨r,i,j,rfl,_,a,_⟩
  ·simp[Value.ownBlock]
  ·simp only[Value.ownBlock,j5,ne_eq,gu];intro p;subst p;rw[o] at a;simp at a;exact f a.2
structure L2(w wr:World)(s:ByteArray)(kb p j:Nat)(v v':Value):Prop where
 d:DW w wr s p (Ec s v v')
 own:wr.ownsRow (kb+1) 91 5 v (dN s) (D0 (Fm s (dN s)))
 VE:wr.ownsRow (kb+1) 3 1 v' j (BF (Dr s j))
 kl:kb<wr.heap.size
 kb:w.heap.size+2<kb
def L1.two{w wr:World}{s:ByteArray}{a p:Nat}{v:Value}(L:L1 w wr s a p (dN s) v):L2 w wr s a p 0 v (.slice none 0 0):=
 ⟨L.d,L.own,⟨rfl,.inl ⟨rfl,rfl⟩⟩,L.kk.lt,L.kb⟩
def L2.drew{w wr:World}{s:ByteArray}{a p j:Nat}{v v':Value}(L:L2 w wr s a p j v v'):L2 w wr.drew s a p j v v':=⟨L.d.drew,L.own,L.VE,L.kl,L.kb⟩
def L2.next{w wr w':World}{s:ByteArray}{b p j:Nat}{v v':Value}{e:Ending}(L:L2 w wr s b p j v v')(h:Mp s p (w.heap.size+1) wr e w'):L2 w w' s b (p+1) j v v':=by
 have a:∀ {e c n x f},wr.ownsRow (b+1) e c x n f→w'.ownsRow (b+1) e c x n f:=fun {e c n x f} i=>i.kept h.2.2.1 (by
  cases k:x.ownBlock with
  |none=>simp
  |some g=>right;intro e;have:=(i.lt g k).1;have:=L.kb;simp at e;omega)
 exact⟨L.d.next h,a L.own,a L.VE,by have:=h.2.2.1.size;have:=L.kl;omega,L.kb⟩
def L2.th{w wr:World}{s:ByteArray}{a p j:Nat}{v v':Value}(L:L2 w wr s a p j v v'):wr.cell? ⟨w.heap.size+1+1,2,none⟩=some (.int .i64 (EP s)):=by
 have:=L.d.x.cell 2;simpa [Ec] using this
def L2.EZ{w wr:World}{s:ByteArray}{a p j:Nat}{v v':Value}(L:L2 w wr s a p j v v'):wr.cell? ⟨w.heap.size+1+1,6,none⟩=some v':=by
 have:=L.d.x.cell 6;simpa [Ec] using this
def L2.left{w wr:World}{s:ByteArray}{a p j:Nat}{v v':Value}(L:L2 w wr s a p j v v'):wr.cell? ⟨w.heap.size+1,0,none⟩=some (.string (rest s p)):=by
 have:=L.d.r.cell 0;simpa using this
def L2.XC{w b a:World}{s:ByteArray}{f p j:Nat}{v v':Value}(L:L2 w b s f p j v v')(o:Obj)(g:(b.alloc o).grownBy a v'.ownBlock):
  a.cell? ⟨w.heap.size+1+1,6,none⟩=some v'/\a.cell? ⟨w.heap.size+1+1,2,none⟩=some (.int .i64 (EP s))/\a.frozen? ⟨w.heap.size+1+1,6,none⟩=false:=by
 have h:=L.kb
 have c:Bk a (w.heap.size+2) 47 (Ec s v v'):=(L.d.x.alloc o).grown g (by intro e;have:=(L.VE.lt _ e.symm).1;omega)
 exact⟨by have:=c.cell 6;simpa [Ec] using this,by have:=c.cell 2;simpa [Ec] using this,c.free 6⟩
def QD(s:ByteArray)(j:Nat):Dr s (j+1)=Dr s j++[MC s (EP s) (dN s) j]:=by
 simp[Dr,pg]
def L2.push{w i c:World}{s:ByteArray}{k p j:Nat}{v v' b:Value}(L:L2 w i s k p j v v')(o:Obj)
  (l:c.ownsRow (k+1) 3 1 b (j+1) (BF (Dr s j)++[.int .i64 (MC s (EP s) (dN s) j)]))(h:(i.alloc o).grownBy c v'.ownBlock):
  L2 w (c.setCell ⟨w.heap.size+2,6,none⟩ b) s k p (j+1) v b:=by
 have m:=L.kb
 have f:∀g,g<=k->some g≠v'.ownBlock:=by
  intro g q e;have:=(L.VE.lt g e.symm).1;omega
 have u:=L.d.below.size
 have y:=L.kl
 have D:DW w c s p (Ec s v v'):=
  ⟨(L.d.o.alloc o).grown h (f _ Zo),(L.d.r.alloc o).grown h (f _ Zo),(L.d.x.alloc o).grown h (f _ Zo),
   (L.d.below.alloc u o).grown h (by simp;omega) (λg e=>by have:=(L.VE.lt g e).1;omega)⟩
 have n:=D.Ez 6 b
 have e:(Ec s v v').setIfInBounds 6 b=Ec s v b:=rfl
 rw[e] at n
 have z:c.ownsRow (k+1) 91 5 v (dN s) (D0 (Fm s (dN s))):=(L.own.alloc o).kept h (kB L.own L.VE Zd)
 refine⟨n,Zf z (a:=⟨w.heap.size+2,6,none⟩) (by simp;omega) b,?_,?_,m⟩
 ·have A:=Zf l (a:=⟨w.heap.size+2,6,none⟩) (by simp;omega) b;rw[QD];simpa [BF] using A
 ·have:=h.size;simp[World.setCell] at this ⊢;omega
def Rx(w:World)(b:Nat):Nat:=match w.cell? ⟨b,0,none⟩ with|some (.string t)=>t.size|_=>0
def L2.Rx{w wr:World}{s:ByteArray}{a p j:Nat}{v v':Value}(L:L2 w wr s a p j v v'):Rx wr (w.heap.size+1)=s.size-p:=by
 unfold Go.Proofs.YtaipogljokblkaaGreatDoor.Fn.Rx;rw[L.left];simp[M7]
def Rq{w:World}{base:Nat}{e:TypeId}{sz n:Nat}{v:Value}{xs:List Value}(h:w.ownsRow base e sz v n xs):∃A c,v=.slice A n c:=by
 obtain⟨f,d⟩:=h;rcases mv n with h0|h0
 ·subst h0;rcases d with⟨rfl,_⟩|⟨g,a,i,b,j,r⟩
  ·exact⟨_,_,rfl⟩
  ·exact⟨_,_,b⟩
 ·obtain⟨g,a,b,_⟩:=World.ownsRow.form (w:=w) (base:=base) (e:=e) (xs:=xs) ⟨f,d⟩ h0;exact⟨_,_,b⟩
def eQ(s:ByteArray)(w:World)(e:Ending)(w':World):Prop:=
 ∃A c a b,e=.returned ((dec s).v A c a b)/\Sl w' w'.heap.size 5 A (dec s).ops.length (D0 (dec s).ops)/\Sl w' w'.heap.size 1 a (dec s).EZ.length (BF (dec s).EZ)/\
  Below w.heap.size w w'
def Gr(s:ByteArray)(k:Nat):(Dr s k).length=k:=by simp[Dr]
def O'(s:ByteArray)(A:Option Addr)(c:Nat)(a:Option Addr)(b:Nat):
  Value.agg #[.int .i64 (CU s),.int .i64 (TB s),.int .i64 (EP s),.int .i64 (Ld s),.int .i64 (NV s),.slice A (dN s) c,.slice a (dP s) b]=(dec s).v A c a b:=by
 simp[sg.v,dec,HY,Gr]
def L2.out{w wr:World}{s:ByteArray}{b p:Nat}{A e:Option Addr}{c f:Nat}(M:L2 w wr s b p (dP s) (.slice A (dN s) c) (.slice e (dP s) f))(u0 u1 u2 u3 u4 u5 u6:Value):
  eQ s w (.returned (.agg #[.int .i64 (CU s),.int .i64 (TB s),.int .i64 (EP s),.int .i64 (Ld s),.int .i64 (NV s),.slice A (dN s) c,.slice e (dP s) f]))
   (((((((wr.setCell ⟨w.heap.size,0,none⟩ u0).setCell ⟨w.heap.size,1,none⟩ u1).setCell ⟨w.heap.size,2,none⟩ u2).setCell ⟨w.heap.size,3,none⟩ u3).setCell ⟨w.heap.size,4,none⟩ u4).setCell ⟨w.heap.size,5,none⟩ u5).setCell ⟨w.heap.size,6,none⟩ u6):=by
 have l:=M.kb
 have g:=M.own
 have j:=M.VE
 have k:=M.d.below
 refine⟨A,c,e,f,by rw[O'],?_,?_,?_⟩
 ·have a:∀i,(⟨w.heap.size,i,none⟩:Addr).block<b+1:=λi=>by simp;omega
  have:=Zf (Zf (Zf (Zf (Zf (Zf (Zf g (a 0) u0) (a 1) u1) (a 2) u2) (a 3) u3) (a 4) u4) (a 5) u5) (a 6) u6;have h:=Sl.ZX this;simpa [dec,HY] using h
 ·have a:∀i,(⟨w.heap.size,i,none⟩:Addr).block<b+1:=λi=>by simp;omega
  have:=Zf (Zf (Zf (Zf (Zf (Zf (Zf j (a 0) u0) (a 1) u1) (a 2) u2) (a 3) u3) (a 4) u4) (a 5) u5) (a 6) u6;have h:=Sl.ZX this;simpa [dec,Gr] using h
 ·exact((((((k.setCell Zs u0).setCell Zs u1).setCell Zs u2).setCell Zs u3).setCell Zs u4).setCell Zs u5).setCell Zs u6
def tU(st kind x y:Int)(w:World)(a:0<=x)(b:x<=255)(c:0<=y)(d:y<=255):
  Kp 30 #[.int .i64 st,.int .i64 kind,.int .i64 x,.int .i64 y] w
   (RetV (.agg #[.int .i64 (Gq st kind x y).kind,.int .i64 (Gq st kind x y).key,.int .i64 (Gq st kind x y).val,.int .i64 (Gq st kind x y).Al]) w):=
 tT st kind x y w a b c d
def tE:(Tryz.prog.info? 91).map (λi=>(i.zero,i.size,i.bytes))=some (some (.agg #[.int .i64 0,.int .i64 0,.int .i64 0,.int .i64 0,.int .i64 0]),5,40):=Zk
def Tu:(Tryz.prog.info? 3).map (λi=>(i.zero,i.size,i.bytes))=some (some (.int .i64 0),1,8):=Zk
end Go.Proofs.YtaipogljokblkaaGreatDoor.Fn
