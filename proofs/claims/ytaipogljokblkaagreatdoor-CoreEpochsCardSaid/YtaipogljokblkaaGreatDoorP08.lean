/- Core: Size, Sl, LN, SvA, SvB, SvD, SvE, SvF, SvG, FnC, FnRoot, FnLitanystart, FnVaultstart, FnSteeplestart, FnFits. -/
import Derived.Laws.AppendOwn
import Derived.Test.YtaipogljokblkaaGreatDoorP07
import Derived.Laws.StructEq
set_option linter.all false
set_option maxRecDepth 100000
set_option maxHeartbeats 8000000
namespace Go.Proofs.YtaipogljokblkaaGreatDoor
open Go Go.RowKit
@[go_sem] theorem size_le {n m:Nat} (h:n<m):n<=m:=Nat.le_of_lt h
@[go_sem] theorem size_lt_add {n m k:Nat} (h:n<m):n<m+k:=ib h (l5 _ _)
@[go_sem] theorem size_le_add {n m k:Nat} (h:n<=m):n<=m+k:=gb h (l5 _ _)
def BF(l:List Int):List Value:=l.map (Value.int .i64)
def Sl(w:World)(B sz:Nat)(A:Option Addr)(n:Nat)(xs:List Value):Prop:=
 xs.length=n*sz/\(0<n->∃b a,A=some ⟨b,a,none⟩/\b<B/\∀j u,xs[j]?=some u->w.cell? ⟨b,a+j,none⟩=some u)
section
variable{w w':World}{B B' sz n:Nat}{A:Option Addr}{xs:List Value}
def Sl.AL(h:Sl w B sz A n xs)(d:∀b o,b<B->w'.cell? ⟨b,o,none⟩=w.cell? ⟨b,o,none⟩):Sl w' B sz A n xs:=
 ⟨h.1,fun f=>by
  obtain⟨b,a,e,c,g⟩:=h.2 f;exact⟨b,a,e,c,λj u i=>(d _ _ c).trans (g j u i)⟩⟩
def Sl.more(h:Sl w B sz A n xs)(f:B<=B'):Sl w B' sz A n xs:=
 ⟨h.1,fun c=>by
  obtain⟨b,a,e,g,d⟩:=h.2 c;exact⟨b,a,e,Zo,d⟩⟩
def Sl.below(h:Sl w B sz A n xs)(a:Below B w w'):Sl w' B sz A n xs:=h.AL λb o c=>a.cell (p:=⟨b,o,none⟩) c
def Sl.uU{C:Nat}(h:Sl w B sz A n xs)(b:Below C w w')(a:B<=C):Sl w' B sz A n xs:=h.below (b.mono a)
def Sl.ZX{base:Nat}{e:TypeId}{c:Nat}(h:w.ownsRow base e sz (.slice A n c) n xs):Sl w w.heap.size sz A n xs:=by
 refine⟨h.1,λb=>?_⟩;obtain⟨g,d,f,_,a⟩:=h.form b;have i:A=some ⟨g,0,none⟩:=by injection f
 subst i;have k:=h.cells (g:=g) rfl;refine⟨g,0,rfl,a,λj u l=>?_⟩;have:=k j u l;simp only[Addr.add] at this;split at this
 ·rename_i m;subst m;simpa using this
 ·simpa using this
end
def Dw(l:List Int):(BF l).length=l.length:=by simp[BF]
def Sl.up{w w':World}{sz n:Nat}{A:Option Addr}{xs:List Value}(h:Sl w w.heap.size sz A n xs)(a:Below w.heap.size w w'):Sl w' w'.heap.size sz A n xs:=(h.below a).more a.size
def kS:(Tryz.prog.info? 51).map (λi=>(i.zero,i.size,i.bytes))=some (some (.agg Xe.zero.l.toArray),5,40):=Zk
def LI:(Tryz.prog.info? 201).map (λi=>(i.zero,i.size,i.bytes))=some (some (.agg Xw.zero.l.toArray),7,56):=Zk
def tF:(Tryz.prog.info? 169).map (λi=>(i.zero,i.size,i.bytes))=some (some (.agg BL.zero.l.toArray),3,24):=Zk
def Tu:(Tryz.prog.info? 3).map (λi=>(i.zero,i.size,i.bytes))=some (some (.int .i64 0),1,8):=Zk
def Gx(n:Int):wr n=wrap64 n:=IntWalk.i64_left n
def rows{α:Type}(f:α->List Value)(l:List α):List Value:=l.flatMap f
section
variable{α:Type}{f:α->List Value}{sz:Nat}
def E9(p:α)(l:List α):rows f (p::l)=f p++rows f l:=rfl
def Jx(l m:List α):rows f (l++m)=rows f l++rows f m:=by simp[rows]
def Zb(a:∀x,(f x).length=sz)(l:List α):(rows f l).length=l.length*sz:=by
 induction l with
 |nil=>simp[rows]
 |cons p l b=>rw[E9,iu,b,a,jb,lx];omega
def GS(a:∀x,(f x).length=sz)(l:List α):∀(i:Nat) (_:i<l.length) (j:Nat) (u:Value),(f l[i])[j]?=some u->(rows f l)[i*sz+j]?=some u:=by
 induction l with
 |nil=>intro i h;simp at h
 |cons p l d=>
  intro i h j u b;rw[E9];have k:j<sz:=by
   rcases iw j sz with c|c
   ·exact c
   ·rw[ik (by rw[a];exact c)] at b;cases b
  cases i with
  |zero=>
   rw[ke (by rw[a];omega)];simpa using b
  |succ i=>
   have g:=d i (by simpa using h) j u (by simpa using b);have e:(i+1)*sz+j-sz=i*sz+j:=by rw[lx];omega
   rw[je (by rw[a,lx];omega),a,e];exact g
def qJ(a:∀x,∀u∈f x,u.oneCell'=true)(l:List α):∀u∈rows f l,u.oneCell'=true:=by
 intro u b;obtain⟨p,_,c⟩:=sx.1 b;exact a p u c
end
def uQ{w:World}{g:Nat}{t:TypeId}{cs:List Value}(h:Bk w g t cs.toArray):∀j u,cs[j]?=some u->w.cell? ((⟨g,0,none⟩:Addr).add j)=some u:=by
 intro j u a;rw[nj,ml,h.cell];simpa using a
def Qs(x:Xe):x.l.length=5:=rfl
def Q6(x:Xw):x.l.length=7:=rfl
def F4(x:BL):x.l.length=3:=rfl
def wone(x:Xe):∀u∈x.l,u.oneCell'=true:=by intro u a;simp[Xe.l] at a;rcases a with rfl|rfl|rfl|rfl|rfl<;>rfl
def none_(x:Xw):∀u∈x.l,u.oneCell'=true:=by intro u a;simp[Xw.l,Xe.l] at a;rcases a with rfl|rfl|rfl|rfl|rfl|rfl|rfl<;>rfl
def sone(x:BL):∀u∈x.l,u.oneCell'=true:=by intro u a;simp[BL.l] at a;rcases a with rfl|rfl|rfl<;>rfl
def Cb{α:Type}{f:α->List Value}{sz bytes:Nat}{T E:TypeId}{z:Value}(j:∀x,(f x).length=sz)(k:∀x,∀u∈f x,u.oneCell'=true)(m:Tryz.prog.underlying T=some (.slice E))
  (n:(Tryz.prog.info? E).map (λi=>(i.zero,i.size,i.bytes))=some (some z,sz,bytes))(a:z.cells.size=sz)(c:0<sz)(d:bytes<=1000)
  (w:World)(v:Value)(l:List α)(h:Own w E sz v l.length (rows f l))(y:l.length<=100000)(x:α)(b:Nat)(o:Bk w b E (f x).toArray)(t:TypeId):
  ∃v' w',(Builtin.append_ #[T,T] t #[v,.slice (some ⟨b,0,none⟩) 1 1]).run Tryz.prog w=.ok v' w'/\
   Own w' E sz v' (l++[x]).length (rows f (l++[x]))/\w.grownBy w' v.ownBlock/\Gi w v v':=by
 obtain⟨i,p,q,e,g⟩:=og n
 have r:(l.length+1)*bytes<=140737488355328:=gb (Nat.mul_le_mul (show l.length+1<=100001 by omega) d) Zd
 have s:=ZU (P:=Tryz.prog) w T t E i z sz bytes m p q e g a c v l.length (rows f l) h ⟨b,0,none⟩ 1 1 (f x) (by rw[j,Nat.one_mul]) (uQ o) (k x) Zo (by simp only[maxLen];omega) r
 rw[Jx,iu]
 simpa [rows] using s
def NP{α:Type}{f:α->List Value}{sz:Nat}{E:TypeId}(c:∀x,(f x).length=sz){w:World}{g a b:Nat}{l:List α}(h:Own w E sz (.slice (some ⟨g,a,none⟩) l.length b) l.length (rows f l))(k:Nat)(d:k<l.length):w.rangeAt g (a+k*sz) (f l[k]):=by
 intro j u e;rw[mf];exact Cl h _ _ (GS c l k d j u e)
def Fa{w:World}{t:TypeId}{sz:Nat}{v:Value}{n:Nat}{xs:List Value}(h:Own w t sz v n xs)(d:0<n):∃g b a,v=.slice (some ⟨g,b,none⟩) n a/\n<=a:=by
 rcases h.2 with⟨_,e⟩|⟨g,b,a,A,R,rfl,_,_,c,_⟩
 ·omega
 ·exact⟨g,b,a,rfl,c⟩
def AN{w:World}{t:TypeId}{sz:Nat}{v:Value}{n:Nat}{xs:List Value}(h:Own w t sz v n xs):∃a b,v=.slice a n b/\n<=b/\b<=maxLen:=by
 rcases h.2 with⟨rfl,rfl⟩|⟨g,c,b,A,R,rfl,_,_,d,e,_⟩
 ·exact⟨none,0,rfl,Nat.le_refl _,Zd⟩
 ·exact⟨_,b,rfl,d,e⟩
def Sl.IL{w:World}{E:TypeId}{sz n:Nat}{a:Option Addr}{c:Nat}{xs:List Value}(h:Own w E sz (.slice a n c) n xs):Sl w w.heap.size sz a n xs:=by
 refine⟨h.1,λd=>?_⟩;obtain⟨g,b,e,i,_⟩:=Fa h d;injection i with j l k;subst j;subst k;exact⟨g,b,rfl,h.lt rfl,Cl h⟩
def Sl.row{α:Type}{f:α->List Value}{sz:Nat}(d:∀x,(f x).length=sz){w:World}{B:Nat}{a:Option Addr}{l:List α}(h:Sl w B sz a l.length (rows f l))(k:Nat)(g:k<l.length):
  ∃b c,a=some ⟨b,c,none⟩/\b<B/\w.rangeAt b (c+k*sz) (f l[k]):=by
 obtain⟨b,c,e,i,m⟩:=h.2 Zo
 refine⟨b,c,e,i,λj u n=>?_⟩
 rw[mf]
 exact m _ _ (GS d l k g j u n)
def OF{w:World}{b o:Nat}{x:Xe}(h:w.rangeAt b o x.l):w.cell? ⟨b,o,none⟩=some (.int .i64 x.sl)/\w.cell? ⟨b,o+1,none⟩=some (.int .i64 x.gn)/\w.cell? ⟨b,o+2,none⟩=some (.int .i64 x.tg)/\w.cell? ⟨b,o+3,none⟩=some (.int .i64 x.nm)/\w.cell? ⟨b,o+4,none⟩=some (.bool x.mark):=
 ⟨h 0 _ rfl,h 1 _ rfl,h 2 _ rfl,h 3 _ rfl,h 4 _ rfl⟩
def v6{w:World}{b o:Nat}{x:BL}(h:w.rangeAt b o x.l):w.cell? ⟨b,o,none⟩=some (.bool x.is)/\w.cell? ⟨b,o+1,none⟩=some (.int .i64 x.low)/\w.cell? ⟨b,o+2,none⟩=some (.int .i64 x.KS):=
 ⟨h 0 _ rfl,h 1 _ rfl,h 2 _ rfl⟩
def OE{w:World}{b o:Nat}{x:Xw}(h:w.rangeAt b o x.l):w.cell? ⟨b,o,none⟩=some (.int .i64 x.ref.sl)/\w.cell? ⟨b,o+1,none⟩=some (.int .i64 x.ref.gn)/\w.cell? ⟨b,o+2,none⟩=some (.int .i64 x.ref.tg)/\w.cell? ⟨b,o+3,none⟩=some (.int .i64 x.ref.nm)/\w.cell? ⟨b,o+4,none⟩=some (.bool x.ref.mark)/\w.cell? ⟨b,o+5,none⟩=some (.int .i64 x.A9)/\w.cell? ⟨b,o+6,none⟩=some (.int .i64 x.AF):=
 ⟨h 0 _ rfl,h 1 _ rfl,h 2 _ rfl,h 3 _ rfl,h 4 _ rfl,h 5 _ rfl,h 6 _ rfl⟩
def Mb{b:Type}{l:List b}{p:b->Bool}{k:Nat}(c:k<l.length)(h:∀x∈l.take k,p x=false)(d:p l[k]=false):∀x∈l.take (k+1),p x=false:=by
 intro x a;rw[m8,gl c] at a;rcases gy.1 a with a|a
 ·exact h x a
 ·have:x=l[k]:=by simpa using a
  rw[this];exact d
def eG{a:Type}{l:List a}{p:a->Bool}{k:Nat}(b:k<l.length)(c:p l[k]=true):l.any p=true:=List.any_eq_true.2 ⟨_,nu b,c⟩
def any_none{a:Type}{l:List a}{p:a->Bool}(h:∀x∈l.take l.length,p x=false):l.any p=false:=by
 rw[np] at h;rw[qb];intro x b;rw[h x b];simp
def FX{a b:Bool}(h:a=b):Ending.returned (.bool a)=.returned (.bool b):=by rw[h]
def QJ(b:Bool)(w:World)(e:Ending)(w':World):Prop:=e=.returned (.bool b)/\Below w.heap.size w w'
def GQ(a:List Xe)(n:Xw):Bool:=a.any λx=>x.sl==n.ref.sl
def YW(n:Xw)(gk:Nat)(a:Option Addr)(c B:Nat)(d:List Xe)(w:World)(L:Bk w gk 103 #[.slice a d.length c])(M:Sl w w.heap.size 5 a d.length (rows Xe.l d))(W:d.length<=100000):
  Kp 115 #[.agg n.l.toArray,.pointer (some ⟨gk,0,none⟩)] w (QJ (GQ d n) w):=by
 obtain⟨⟨n0,n1,n2,m,o⟩,q,r⟩:=n
 show Kp 115 #[.agg #[.int .i64 n0,.int .i64 n1,.int .i64 n2,.int .i64 m,.bool o,.int .i64 q,.int .i64 r],.pointer (some ⟨gk,0,none⟩)] w _
 have N:Bk (w.alloc (.cells #[.int .i64 n0,.int .i64 n1,.int .i64 n2,.int .i64 m,.bool o,.int .i64 q,.int .i64 r] 201)) w.heap.size 201 #[.int .i64 n0,.int .i64 n1,.int .i64 n2,.int .i64 m,.bool o,.int .i64 q,.int .i64 r]:=Bk.at_ rfl
 have g:Below w.heap.size w (w.alloc (.cells #[.int .i64 n0,.int .i64 n1,.int .i64 n2,.int .i64 m,.bool o,.int .i64 q,.int .i64 r] 201)):=(fx _ _).alloc (Nat.le_refl _) _
 have D:=L.alloc (.cells #[.int .i64 n0,.int .i64 n1,.int .i64 n2,.int .i64 m,.bool o,.int .i64 q,.int .i64 r] 201)
 have O:=D.cell 0
 simp at O
 go_enter Tryz.func115,Tryz.ntmps115
 go_wp2_with fail
 generalize w.alloc (.cells #[.int .i64 n0,.int .i64 n1,.int .i64 n2,.int .i64 m,.bool o,.int .i64 q,.int .i64 r] 201)=E at*
 go_loopw [8] (λi wr=>∃k:Nat,k<=d.length/\i=.int .i64 k/\Below E.heap.size E wr/\Hid (∀x∈d.take k,(x.sl==n0)=false)) (λi _=>d.length-(intOf i).toNat)
 case atStart=>exact⟨0,ie _,rfl,fx _ _,by intro x P;simp at P⟩
 case round=>
  obtain⟨k,Q,rfl,h,HI⟩:=hrel
  have X:=h.size
  have u:=(M.below g).uU h g.size
  have Y:=D.Af h
  have F:=N.Af h
  by_cases j:k<d.length
  ·obtain⟨b,R,rfl,S,T⟩:=u.row Qs k j;obtain⟨Z,q1,q2,q3,q4⟩:=OF T;have G:Bk (wr.alloc (.cells #[.int .i64 0,.int .i64 0,.int .i64 0,.int .i64 0,.bool false] 51)) wr.heap.size 51 #[.int .i64 0,.int .i64 0,.int .i64 0,.int .i64 0,.bool false]:=Bk.at_ rfl;have H:=F.alloc (.cells #[.int .i64 0,.int .i64 0,.int .i64 0,.int .i64 0,.bool false] 51);have s:=h.alloc h.size (.cells #[.int .i64 0,.int .i64 0,.int .i64 0,.int .i64 0,.bool false] 51);have I:=F.lt;cases J:(d[k].sl==n0) with
   |true=>
    have v:=eR (eG (p:=λx:Xe=>x.sl==n0) j J);go_wp2_with (refine vM G ?_;intro U e;have y:=e.bk.cell 0;have z:=(e.A5 H Zo).cell 0;simp at y z);go_ret;exact⟨FX v.out.symm,g.trans ((e.below s Zo).mono g.size)⟩
   |false=>
    have K:=Mb (p:=λx:Xe=>x.sl==n0) j HI.out J;have V:=eR K;clear K;go_wp2_with (refine vM G ?_;intro U e;have y:=e.bk.cell 0;have z:=(e.A5 H Zo).cell 0;simp at y z);go_roundw
    case rel=>exact⟨k+1,Zo,by go_num,e.below s Zo,V.out⟩
    case measure=>simp[intOf];omega
  ·have C:k=d.length:=Zo;subst C;have v:=eR (any_none HI.out);go_wp2_with fail;go_ret;exact⟨FX v.out.symm,g.trans (h.mono g.size)⟩
def oZ(a b:Int)(x:BL):Bool:=x.is&&(decide (x.low<=b)&&decide (a<=x.KS))
def gZ(a:List BL)(n:Xw):Bool:=a.any (oZ n.A9 n.AF)
def qm(a b:Int)(x:Int):Bool:=decide (0<x)&&(decide (a<=x)&&decide (x<=b))
def tX(a:List Int)(n:Xw):Bool:=a.any (qm n.A9 n.AF)
def Cn(a:Int)(n:Xw):Bool:=bif decide (a< -9223372036854775806) then true else decide (wr (a-2)<n.AF)
def Wk(n:Xw)(gk:Nat)(a:Int)(w:World)(i:Bk w gk 3 #[.int .i64 a]):
  Kp 118 #[.agg n.l.toArray,.pointer (some ⟨gk,0,none⟩)] w (QJ (Cn a n) w):=by
 obtain⟨⟨n0,n1,n2,b,c⟩,e,g⟩:=n
 show Kp 118 #[.agg #[.int .i64 n0,.int .i64 n1,.int .i64 n2,.int .i64 b,.bool c,.int .i64 e,.int .i64 g],.pointer (some ⟨gk,0,none⟩)] w _
 have j:Bk (w.alloc (.cells #[.int .i64 n0,.int .i64 n1,.int .i64 n2,.int .i64 b,.bool c,.int .i64 e,.int .i64 g] 201)) w.heap.size 201 #[.int .i64 n0,.int .i64 n1,.int .i64 n2,.int .i64 b,.bool c,.int .i64 e,.int .i64 g]:=Bk.at_ rfl
 have h:Below w.heap.size w (w.alloc (.cells #[.int .i64 n0,.int .i64 n1,.int .i64 n2,.int .i64 b,.bool c,.int .i64 e,.int .i64 g] 201)):=(fx _ _).alloc (Nat.le_refl _) _
 have k:=i.alloc (.cells #[.int .i64 n0,.int .i64 n1,.int .i64 n2,.int .i64 b,.bool c,.int .i64 e,.int .i64 g] 201)
 have m:=k.cell 0
 have o:=j.cell 6
 simp at m o
 cases d:decide (a< -9223372036854775806) with
 |true=>
  go_enter Tryz.func118,Tryz.ntmps118
  go_wp2_with fail
  go_ret
  exact⟨FX (by simp only[Cn,d,i9,gx,Gx]),h⟩
 |false=>
  go_enter Tryz.func118,Tryz.ntmps118
  go_wp2_with fail
  go_ret
  exact⟨FX (by simp only[Cn,d,i9,gx,Gx]),h⟩
def FE(w:World)(v:Value)(l:List Xw)(h:Own w 201 7 v l.length (rows Xw.l l))(a:l.length<=100000)(x:Xw)(b:Nat)(c:Bk w b 201 x.l.toArray)(t:TypeId):
  ∃v' w',(Builtin.append_ #[64,64] t #[v,.slice (some ⟨b,0,none⟩) 1 1]).run Tryz.prog w=.ok v' w'/\
   Own w' 201 7 v' (l++[x]).length (rows Xw.l (l++[x]))/\w.grownBy w' v.ownBlock/\Gi w v v':=
 Cb Q6 none_ Tryz.underlying64 LI rfl Zd Zd w v l h a x b c t
def Pu{p:Xw->Bool}{l:List Xw}{k:Nat}(a:k<l.length)(h:p l[k]=true):(l.take (k+1)).filter p=(l.take k).filter p++[l[k]]:=by
 rw[m8,gl a,oh];simp[h]
def Pv{p:Xw->Bool}{l:List Xw}{k:Nat}(a:k<l.length)(h:p l[k]=false):(l.take (k+1)).filter p=(l.take k).filter p:=by
 rw[m8,gl a,oh];simp[h]
def Pw{p:Xw->Bool}{l:List Xw}(k:Nat)(a:l.length<=100000):((l.take k).filter p).length<=100000:=
 gb (jy _ _) (by rw[sy];omega)
def bU(w:World)(p:Xw->Bool)(l:List Xw)(e:Ending)(w':World):Prop:=
 ∃v u,e=.returned (.tuple #[v,u])/\Own w' 201 7 v (l.filter λn=>!p n).length (rows Xw.l (l.filter λn=>!p n))/\Own w' 201 7 u (l.filter p).length (rows Xw.l (l.filter p))/\
  Below w.heap.size w w'/\(∀b,v.ownBlock=some b->w.heap.size<=b)/\(∀b,u.ownBlock=some b->w.heap.size<=b)/\(∀b,v.ownBlock=some b->u.ownBlock≠some b)
def P8(p:Xw->Bool)(f gk:Nat)(T:TypeId)(kv:Value)(a:Option Addr)(c:Nat)(l:List Xw)(w:World)(hs:Sl w w.heap.size 7 a l.length (rows Xw.l l))(hl:l.length<=100000)(hk:Bk w gk T #[kv])
  (M:∀args w',(callFunc f args).run Tryz.prog w'=.ok (.enter f args) w')(hf:∀n w',Below w.heap.size w w'->Kp f #[.agg n.l.toArray,.pointer (some ⟨gk,0,none⟩)] w' (QJ (p n) w')):
  Kp 114 #[.slice a l.length c,.func (.func f) #[] #[.pointer (some ⟨gk,0,none⟩)]] w (bU w p l):=by
 go_enter Tryz.func114,Tryz.ntmps114
 go_wp2_with fail
 go_loopw [4,5,10] (fun v u i wr=>∃ k:Nat,k≤l.length∧i = .int .i64 k∧Below w.heap.size w wr ∧
   Own wr 201 7 v ((l.take k).filter λn=>!p n).length (rows Xw.l ((l.take k).filter λn=>!p n))/\Own wr 201 7 u ((l.take k).filter p).length (rows Xw.l ((l.take k).filter p))/\
   (∀b,v.ownBlock=some b->w.heap.size<=b)/\(∀b,u.ownBlock=some b->w.heap.size<=b)/\(∀b,v.ownBlock=some b->u.ownBlock≠some b)) (λ_ _ i _=>l.length-(intOf i).toNat)
 case atStart=>exact⟨0,ie _,rfl,fx _ _,Own.nil,Own.nil,by simp[Value.ownBlock],by simp[Value.ownBlock],by simp[Value.ownBlock]⟩
 case round=>
  obtain⟨k,ab,rfl,N,o,q,V,W,s⟩:=hrel
  have hz:=N.size
  have O:=hs.below N
  by_cases x:k<l.length
  ·obtain⟨b,ad,rfl,ae,hr⟩:=O.row Q6 k x;obtain⟨q0,q1,q2,q3,q4,q5,q6⟩:=OE hr;have X1:Bk (wr.alloc (.cells #[.int .i64 0,.int .i64 0,.int .i64 0,.int .i64 0,.bool false,.int .i64 0,.int .i64 0] 201)) wr.heap.size 201 #[.int .i64 0,.int .i64 0,.int .i64 0,.int .i64 0,.bool false,.int .i64 0,.int .i64 0]:=Bk.at_ rfl;have Y:=N.alloc N.size (.cells #[.int .i64 0,.int .i64 0,.int .i64 0,.int .i64 0,.bool false,.int .i64 0,.int .i64 0] 201);have o4:=o.alloc (.cells #[.int .i64 0,.int .i64 0,.int .i64 0,.int .i64 0,.bool false,.int .i64 0,.int .i64 0] 201);have o5:=q.alloc (.cells #[.int .i64 0,.int .i64 0,.int .i64 0,.int .i64 0,.bool false,.int .i64 0,.int .i64 0] 201);have P:∀b,u4.ownBlock=some b->b<wr.heap.size:=λb m=>o.lt m;have Q:∀b,u5.ownBlock=some b->b<wr.heap.size:=λb m=>q.lt m;have G:=hf l[k];have ec:l[k].l.toArray=#[.int .i64 l[k].ref.sl,.int .i64 l[k].ref.gn,.int .i64 l[k].ref.tg,.int .i64 l[k].ref.nm,.bool l[k].ref.mark,.int .i64 l[k].A9,.int .i64 l[k].AF]:=rfl;rw[ec] at G;clear hf o q hs O hr;go_wp2_with (refine vM X1 ?_;intro w2 d;have Z:=d.bk.cell 0;have r1:=d.bk.cell 1;have r2:=d.bk.cell 2;have r3:=d.bk.cell 3;have r4:=d.bk.cell 4;have r5:=d.bk.cell 5;have r6:=d.bk.cell 6;simp at Z r1 r2 r3 r4 r5 r6);have y:=d.below Y hz;refine(G w2 y).mono ?_;rintro e K ⟨rfl,r⟩;have F:=y.trans (r.mono y.size);have H:=d.bk.Af r;have Z:=H.cell 0;have r1:=H.cell 1;have r2:=H.cell 2;have r3:=H.cell 3;have r4:=H.cell 4;have r5:=H.cell 5;have r6:=H.cell 6;simp at Z r1 r2 r3 r4 r5 r6;have R:=(o4.grown d.grown (by cases I:u4.ownBlock with|none=>exact fq rfl|some b=>exact db (λe=>by have:=P b I;cases e;omega))).below r;have S:=(o5.grown d.grown (by cases I:u5.ownBlock with|none=>exact fq rfl|some b=>exact db (λe=>by have:=Q b I;cases e;omega))).below r;clear G;cases X:p l[k] with
   |true=>
    have U:=Pu (p:=p) x (by simp[X]);have fn:=Pv (p:=(λn=>!p n)) x (by simp[X]);obtain⟨v',w5,z,B,C,g⟩:=FE (K.alloc (.cells #[.int .i64 l[k].ref.sl,.int .i64 l[k].ref.gn,.int .i64 l[k].ref.tg,.int .i64 l[k].ref.nm,.bool l[k].ref.mark,.int .i64 l[k].A9,.int .i64 l[k].AF] 201)) u5 ((l.take k).filter p) (S.alloc _) (Pw k hl) l[k] K.heap.size (Bk.at_ rfl) 64;rw[←U] at B;have FO:=eR fn;have L:=eR (fy B (fy C g));clear B C g U fn;go_wp2_with (at_builtin;refine Yj Zr _ _ _ _ _ _ _ Zr Zr Zr z ?_);obtain⟨B,C,g⟩:=L.out;have z3:=r.size;have z2:=d.size;simp at z2;have D:=(F.alloc F.size (.cells #[.int .i64 l[k].ref.sl,.int .i64 l[k].ref.gn,.int .i64 l[k].ref.tg,.int .i64 l[k].ref.nm,.bool l[k].ref.mark,.int .i64 l[k].A9,.int .i64 l[k].AF] 201));have j:∀b,v'.ownBlock=some b->u5.ownBlock=some b\/K.heap.size<=b:=λb m=>(g b m).imp id (λh=>by simp at h;omega);have J:Below w.heap.size w w5:=D.grown C D.size (λb e=>W b e);have E:=(R.alloc (.cells #[.int .i64 l[k].ref.sl,.int .i64 l[k].ref.gn,.int .i64 l[k].ref.tg,.int .i64 l[k].ref.nm,.bool l[k].ref.mark,.int .i64 l[k].A9,.int .i64 l[k].AF] 201)).grown C (by cases I:u4.ownBlock with|none=>exact fq rfl|some b=>exact db (Ne.symm (s b I)));rw[←FO.out] at E;go_roundw
    case rel=>exact⟨k+1,Zo,by go_num,J,E,B,V,λb m=>(j b m).elim (W b) (λh=>Zo),λb m M=>(j b M).elim (s b m) (λh=>by have:=P b m;omega)⟩
    case measure=>simp[intOf];omega
   |false=>
    have U:=Pu (p:=(λn=>!p n)) x (by simp[X]);have fn:=Pv (p:=p) x (by simp[X]);obtain⟨v',w5,z,B,C,g⟩:=FE (K.alloc (.cells #[.int .i64 l[k].ref.sl,.int .i64 l[k].ref.gn,.int .i64 l[k].ref.tg,.int .i64 l[k].ref.nm,.bool l[k].ref.mark,.int .i64 l[k].A9,.int .i64 l[k].AF] 201)) u4 ((l.take k).filter (λn=>!p n)) (R.alloc _) (Pw k hl) l[k] K.heap.size (Bk.at_ rfl) 64;rw[←U] at B;have FO:=eR fn;have L:=eR (fy B (fy C g));clear B C g U fn;go_wp2_with (at_builtin;refine Yj Zr _ _ _ _ _ _ _ Zr Zr Zr z ?_);obtain⟨B,C,g⟩:=L.out;have z3:=r.size;have z2:=d.size;simp at z2;have D:=(F.alloc F.size (.cells #[.int .i64 l[k].ref.sl,.int .i64 l[k].ref.gn,.int .i64 l[k].ref.tg,.int .i64 l[k].ref.nm,.bool l[k].ref.mark,.int .i64 l[k].A9,.int .i64 l[k].AF] 201));have j:∀b,v'.ownBlock=some b->u4.ownBlock=some b\/K.heap.size<=b:=λb m=>(g b m).imp id (λh=>by simp at h;omega);have J:Below w.heap.size w w5:=D.grown C D.size (λb e=>V b e);have E:=(S.alloc (.cells #[.int .i64 l[k].ref.sl,.int .i64 l[k].ref.gn,.int .i64 l[k].ref.tg,.int .i64 l[k].ref.nm,.bool l[k].ref.mark,.int .i64 l[k].A9,.int .i64 l[k].AF] 201)).grown C (by cases I:u5.ownBlock with|none=>exact fq rfl|some b=>exact db (λe=>s b e.symm I));rw[←FO.out] at E;go_roundw
    case rel=>exact⟨k+1,Zo,by go_num,J,B,E,λb m=>(j b m).elim (V b) (λh=>Zo),W,λb m M=>(j b m).elim (λh=>s b h M) (λh=>by have:=Q b M;omega)⟩
    case measure=>simp[intOf];omega
  ·have aa:k=l.length:=Zo;subst aa;rw[np] at o q;have L:=eR (fy o q);clear o q;go_wp2_with fail;go_ret2;exact⟨_,_,rfl,L.out.1,L.out.2,N,V,W,s⟩
def RH{f:Nat}{fn:Func}(a:Tryz.prog.funcs[f]?=some fn)(b:(fn.name== "runtime.NumGoroutine")=false)(c:fn.body.isNone=false)(args:Array Value)(w:World):(callFunc f args).run Tryz.prog w=.ok (.enter f args) w:=Dh a b c args w
def iA(l:List Xw)(a:Option Addr)(c:Nat)(d:List Xe)(g:Option Addr)(j:Nat)(w:World)(s:Sl w w.heap.size 7 a l.length (rows Xw.l l))(x:l.length<=100000)(y:Sl w w.heap.size 5 g d.length (rows Xe.l d))(m:d.length<=100000):
  Kp 108 #[.slice a l.length c,.slice g d.length j] w (bU w (GQ d) l):=by
 have o:Bk (w.alloc (.cells #[.slice g d.length j] 103)) w.heap.size 103 #[.slice g d.length j]:=Bk.at_ rfl
 have i:Below w.heap.size w (w.alloc (.cells #[.slice g d.length j] 103)):=(fx _ _).alloc (Nat.le_refl _) _
 have B:(w.alloc (.cells #[.slice g d.length j] 103)).heap.size=w.heap.size+1:=by simp
 have H:=P8 (GQ d) 115 w.heap.size 103 (.slice g d.length j) a c l _ (s.up i) x o (RH Tryz.func115 Zk Zk) (λn z k=>YW n w.heap.size g j 0 d z (o.Af k) ((y.up i).up k) m)
 go_enter Tryz.func108,Tryz.ntmps108
 go_wp2_with fail
 generalize w.alloc (.cells #[.slice g d.length j] 103)=C at*
 refine H.mono ?_
 rintro e D ⟨v,u,rfl,p,q,k,f1,f2,f3⟩
 have r:=eR (fy p q);clear p q
 go_wp2_with fail
 go_ret2
 exact⟨v,u,rfl,r.out.1,r.out.2,i.trans (k.mono i.size),λb h=>gb Zo (f1 b h),λb h=>gb Zo (f2 b h),f3⟩
def aS(l:List Xw)(a:Option Addr)(c:Nat)(d:Int)(w:World)(p:Sl w w.heap.size 7 a l.length (rows Xw.l l))(q:l.length<=100000):
  Kp 111 #[.slice a l.length c,.int .i64 d] w (bU w (Cn d) l):=by
 have j:Bk (w.alloc (.cells #[.int .i64 d] 3)) w.heap.size 3 #[.int .i64 d]:=Bk.at_ rfl
 have g:Below w.heap.size w (w.alloc (.cells #[.int .i64 d] 3)):=(fx _ _).alloc (Nat.le_refl _) _
 have s:(w.alloc (.cells #[.int .i64 d] 3)).heap.size=w.heap.size+1:=by simp
 have H:=P8 (Cn d) 118 w.heap.size 3 (.int .i64 d) a c l _ (p.up g) q j (RH Tryz.func118 Zk Zk) (λn r i=>Wk n w.heap.size d r (j.Af i))
 go_enter Tryz.func111,Tryz.ntmps111
 go_wp2_with fail
 generalize w.alloc (.cells #[.int .i64 d] 3)=x at*
 refine H.mono ?_
 rintro e y ⟨v,u,rfl,k,m,i,f1,f2,f3⟩
 have o:=eR (fy k m);clear k m
 go_wp2_with fail
 go_ret2
 exact⟨v,u,rfl,o.out.1,o.out.2,g.trans (i.mono g.size),λb h=>gb Zo (f1 b h),λb h=>gb Zo (f2 b h),f3⟩
def FG(a:Int)(s:BL):Bool:=s.is&&!(s.low==a)
def CM(a:Int)(l:List BL):Bool:=!l.any (FG a)
def zK(d:Int)(a:Option Addr)(c:Nat)(l:List BL)(w:World)(z:Sl w w.heap.size 3 a l.length (rows BL.l l))(G:l.length<=100000):
  Kp 98 #[.int .i64 d,.slice a l.length c] w (QJ (CM d l) w):=by
 go_enter Tryz.func98,Tryz.ntmps98
 go_wp2_with fail
 go_loopw [9] (λi wr=>∃k:Nat,k<=l.length/\i=.int .i64 k/\Below w.heap.size w wr/\Hid (∀x∈l.take k,FG d x=false)) (λi _=>l.length-(intOf i).toNat)
 case atStart=>exact⟨0,ie _,rfl,fx _ _,by intro x B;simp at B⟩
 case round=>
  obtain⟨k,C,rfl,j,HI⟩:=hrel
  have H:=j.size
  have q:=z.below j
  by_cases g:k<l.length
  ·obtain⟨b,D,rfl,E,F⟩:=q.row F4 k g;obtain⟨I,J,K⟩:=v6 F;have r:Bk (wr.alloc (.cells #[.bool false,.int .i64 0,.int .i64 0] 169)) wr.heap.size 169 #[.bool false,.int .i64 0,.int .i64 0]:=Bk.at_ rfl;have h:=j.alloc j.size (.cells #[.bool false,.int .i64 0,.int .i64 0] 169);cases d1:l[k].is with
   |true=>
    cases d2:(l[k].low==d) with
    |false=>
     have m:FG d l[k]=true:=by simp only[FG,d1,d2,k9,Bool.true_and]
     have s:=eR (eG (p:=FG d) g m);have d3:(l[k].low !=d)=true:=by simp only[bne,d2,k9]
     go_wp2_with (refine vM r ?_;intro y e;have n:=e.bk.cell 0;have o:=e.bk.cell 1;simp at n o);go_ret;exact⟨FX (by simp only[CM,s.out,iv]),e.below h Zo⟩
    |true=>
     have m:FG d l[k]=false:=by simp only[FG,d1,d2,iv,Bool.and_false]
     have u:=eR (Mb (p:=FG d) g HI.out m);have d3:(l[k].low !=d)=false:=by simp only[bne,d2,iv]
     go_wp2_with (refine vM r ?_;intro y e;have n:=e.bk.cell 0;have o:=e.bk.cell 1;simp at n o);go_roundw
     case rel=>exact⟨k+1,Zo,by go_num,e.below h Zo,u.out⟩
     case measure=>simp[intOf];omega
   |false=>
    have m:FG d l[k]=false:=by simp only[FG,d1,px]
    have u:=eR (Mb (p:=FG d) g HI.out m);go_wp2_with (refine vM r ?_;intro y e;have n:=e.bk.cell 0;have o:=e.bk.cell 1;simp at n o);go_roundw
    case rel=>exact⟨k+1,Zo,by go_num,e.below h Zo,u.out⟩
    case measure=>simp[intOf];omega
  ·have v:k=l.length:=Zo;subst v;have s:=eR (any_none HI.out);go_wp2_with fail;go_ret;exact⟨FX (by simp only[CM,s.out,k9]),j⟩
def MH(v:Xw)(l:List Xw):Int:=match l.findIdx? (λn=>n==v) with
 |some i=>i
 |none=>-1
def aP{a:Type}{p:a->Bool}{l:List a}{k:Nat}(b:k<l.length)(h:∀x∈l.take k,p x=false)(c:p l[k]=true):l.findIdx? p=some k:=by
 rw[List.findIdx?_eq_some_iff_getElem];refine⟨b,c,λj e=>?_⟩;have d:j<l.length:=Zo;have:=h l[j] (by rw[List.mem_take_iff_getElem];exact⟨j,Zo,rfl⟩);simp[this]
def zH{n m:Xw}(h:(n==m)=false):n.ref.sl≠m.ref.sl\/(n.ref.sl=m.ref.sl/\n.ref.gn≠m.ref.gn)\/(n.ref.sl=m.ref.sl/\n.ref.gn=m.ref.gn/\n.ref.tg≠m.ref.tg)\/(n.ref.sl=m.ref.sl/\n.ref.gn=m.ref.gn/\n.ref.tg=m.ref.tg/\n.ref.nm≠m.ref.nm)\/
  (n.ref.sl=m.ref.sl/\n.ref.gn=m.ref.gn/\n.ref.tg=m.ref.tg/\n.ref.nm=m.ref.nm/\n.ref.mark≠m.ref.mark)\/(n.ref.sl=m.ref.sl/\n.ref.gn=m.ref.gn/\n.ref.tg=m.ref.tg/\n.ref.nm=m.ref.nm/\n.ref.mark=m.ref.mark/\n.A9≠m.A9)\/
  (n.ref.sl=m.ref.sl/\n.ref.gn=m.ref.gn/\n.ref.tg=m.ref.tg/\n.ref.nm=m.ref.nm/\n.ref.mark=m.ref.mark/\n.A9=m.A9/\n.AF≠m.AF):=by
 obtain⟨⟨a,b,c,d,e⟩,f,g⟩:=n
 obtain⟨⟨i,j,k,l,o⟩,p,q⟩:=m
 simp only[lm,ne_eq,Xw.mk.injEq,Xe.mk.injEq] at h
 simp only
 by_cases r:a=i
 ·by_cases s:b=j
  ·by_cases t:c=k
   ·by_cases u:d=l
    ·by_cases v:e=o
     ·by_cases w:f=p
      ·by_cases x:g=q
       ·exact absurd ⟨⟨r,s,t,u,v⟩,w,x⟩ h
       ·simp[*]
      ·simp[*]
     ·simp[*]
    ·simp[*]
   ·simp[*]
  ·simp[*]
 ·simp[*]
def QB(v:Xw)(a:Option Addr)(c:Nat)(l:List Xw)(w:World)(z:Sl w w.heap.size 7 a l.length (rows Xw.l l))(hl:l.length<=100000):
  Kp 100 #[.slice a l.length c,.agg v.l.toArray] w (λe w'=>e=.returned (.int .i64 (MH v l))/\Below w.heap.size w w'):=by
 obtain⟨⟨n0,n1,n2,d,g⟩,h,j⟩:=v
 show Kp 100 #[.slice a l.length c,.agg #[.int .i64 n0,.int .i64 n1,.int .i64 n2,.int .i64 d,.bool g,.int .i64 h,.int .i64 j]] w _
 have o:Bk (w.alloc (.cells #[.int .i64 n0,.int .i64 n1,.int .i64 n2,.int .i64 d,.bool g,.int .i64 h,.int .i64 j] 201)) w.heap.size 201 #[.int .i64 n0,.int .i64 n1,.int .i64 n2,.int .i64 d,.bool g,.int .i64 h,.int .i64 j]:=Bk.at_ rfl
 have q:Below w.heap.size w (w.alloc (.cells #[.int .i64 n0,.int .i64 n1,.int .i64 n2,.int .i64 d,.bool g,.int .i64 h,.int .i64 j] 201)):=(fx _ _).alloc (Nat.le_refl _) _
 have r:=z.up q
 go_enter Tryz.func100,Tryz.ntmps100
 go_wp2_with fail
 generalize w.alloc (.cells #[.int .i64 n0,.int .i64 n1,.int .i64 n2,.int .i64 d,.bool g,.int .i64 h,.int .i64 j] 201)=H at*
 go_loopw [8] (λi wr=>∃k m:Nat,k<=l.length/\i=.int .i64 k/\H.drewN m=wr/\Hid (∀x∈l.take k,(x==(⟨⟨n0,n1,n2,d,g⟩,h,j⟩:Xw))=false)) (λi _=>l.length-(intOf i).toNat)
 case atStart=>exact⟨0,0,ie _,rfl,rfl,by intro x I;simp at I⟩
 case round=>
  obtain⟨k,m,J,rfl,rfl,HI⟩:=hrel
  have K:=o.cell 0;have L:=o.cell 1;have M:=o.cell 2;have N:=o.cell 3;have O:=o.cell 4;have P:=o.cell 5;have Q:=o.cell 6
  simp at K L M N O P Q
  by_cases s:k<l.length
  ·obtain⟨b,R,rfl,S,D⟩:=r.row Q6 k s;obtain⟨T,U,V,W,X,Y,Z⟩:=OE D;have BH:=eR (fy o (fy q (fy z r)));clear o q z r D;cases u:(l[k]==(⟨⟨n0,n1,n2,d,g⟩,h,j⟩:Xw)) with
   |true=>
    have B:=eR (aP (p:=λn=>n==(⟨⟨n0,n1,n2,d,g⟩,h,j⟩:Xw)) s HI.out u);have E:l[k]=(⟨⟨n0,n1,n2,d,g⟩,h,j⟩:Xw):=by simpa using u
    rw[E] at T U V W X Y Z;clear E u;go_wp2_with fail;go_quiet (fail);go_wp2_with fail;go_ret;exact⟨iy Ending.returned (show Value.int .i64 (k:Int)=_ from by simp only[MH,B.out]),below_drewN (below_drewN BH.out.2.1 _) _⟩
   |false=>
    have HN:=eR (Mb (p:=λn=>n==(⟨⟨n0,n1,n2,d,g⟩,h,j⟩:Xw)) s HI.out u);have y:((⟨⟨n0,n1,n2,d,g⟩,h,j⟩:Xw)==l[k])=false:=by rw[←u];exact BEq.comm
    have F:=zH y;clear u y;simp only at F;rcases F with d0|⟨d0,d1⟩|⟨d0,d1,d2⟩|⟨d0,d1,d2,d3⟩|⟨d0,d1,d2,d3,d4⟩|⟨d0,d1,d2,d3,d4,d5⟩|⟨d0,d1,d2,d3,d4,d5,d6⟩;all_goals
     go_wp2_with fail
     go_quiet (fail)
     go_wp2_with fail
     go_roundw
     case rel=>exact⟨k+1,_,Zo,by go_num,rfl,HN.out⟩
     case measure=>simp[intOf];omega
  ·have C:k=l.length:=Zo;subst C;have B:Hid (MH (⟨⟨n0,n1,n2,d,g⟩,h,j⟩:Xw) l=-1):=by
    have G:=HI.out;rw[np] at G;unfold MH;rw[List.findIdx?_eq_none_iff.2 G];exact rfl
   go_wp2_with fail;go_ret;exact⟨iy Ending.returned (show Value.int .i64 (-1:Int)=_ from by rw[B.out]),below_drewN q _⟩
end Go.Proofs.YtaipogljokblkaaGreatDoor
namespace Go.Proofs.YtaipogljokblkaaGreatDoor.Fn
open Go Go.RowKit
def F9(st:Int)(o:Lf):Prop:=
 (st=1/\o.key=0/\o.Al=0/\((o.kind=1/\0<=o.val/\o.val<=1073741824)\/((o.kind=2\/o.kind=3)/\o.val=0)))\/
 (st=2/\o.key=0/\o.Al=0/\((o.kind=4/\0<=o.val/\o.val<=1073741824)\/(o.kind=5/\o.val=0)))\/
 ((st=3\/st=4)/\0<=o.key/\o.key<=255/\o.Al=0/\((o.kind=6/\0<=o.val/\o.val<=1073741824)\/((o.kind=7\/o.kind=8)/\o.val=0)))\/
 (st=5/\0<=o.key/\o.key<=255/\((o.kind=6/\0<=o.val/\o.val<=1073741824/\1<=o.Al/\o.Al<=3)\/((o.kind=7\/o.kind=8)/\o.val=0/\o.Al=0)))
instance(st:Int)(o:Lf):Decidable (F9 st o):=by unfold F9;infer_instance
def JJ(st:Int)(o:Lf):Bool:=decide (F9 st o)
def JG(o:Lf):Prop:=0<=o.key/\o.key<=255/\((o.kind=6/\0<=o.val/\o.val<=1073741824/\0<=o.Al/\o.Al<=3)\/((o.kind=7\/o.kind=8)/\o.val=0/\o.Al=0))
instance(o:Lf):Decidable (JG o):=by unfold JG;infer_instance
def MN(o:Lf):Bool:=decide (JG o)
def DM(o:Lf):MN o=true↔JG o:=by simp[MN]
def BG(st:Int)(o:Lf):JJ st o=true↔F9 st o:=by simp[JJ]
def GV(o:Lf)(w:World):
  Kp 69 #[o.v] w (QJ (MN o) w):=by
 obtain⟨kind,a,b,c⟩:=o
 simp only[Lf.v]
 go_enter Tryz.func69,Tryz.ntmps69
 go_wp2
 all_goals
  go_ret
  refine⟨FX ?_,vB⟩
  rw[Bool.eq_iff_iff,DM,JG]
  simp at*
  omega
def Dt(n:Int)(T:TypeId)(u:Value)(w:World):
  Kp 31 #[.int .i64 n,.iface T u] w λe w'=>
   e=.returned (.iface 143 (.pointer (some ⟨w.heap.size,0,none⟩)))/\w.alloc (.cells #[.int .i64 n,.iface T u] 145)=w':=by
 go_enter Tryz.func31,Tryz.ntmps31
 go_wp2
 go_ret
 exact⟨rfl,rfl⟩
def KZ(ok:Bool)(w:World)(e:Ending)(w':World):Prop:=
 (∃v a,e=.returned (.tuple #[v,a])/\(if ok then a=.nilIface else ∃T p,a=.iface T (.pointer (some p))))/\Below w.heap.size w w'
def GU{ok:Bool}{w w':World}{v:Value}(h:ok=true)(a:Below w.heap.size w w'):KZ ok w (.returned (.tuple #[v,.nilIface])) w':=
 ⟨⟨_,_,rfl,by rw[ga h]⟩,a⟩
def It{ok:Bool}{w w':World}{v:Value}{T:TypeId}{p:Addr}(h:ok=false)(a:Below w.heap.size w w'):KZ ok w (.returned (.tuple #[v,.iface T (.pointer (some p))])) w':=
 ⟨⟨_,_,rfl,by rw[h];exact⟨_,_,rfl⟩⟩,a⟩
def Q4(o:Lf)(w:World)(T:TypeId)(u:Value)(a:w.cell? ⟨0,0,none⟩=some (.iface T u)):
  Kp 48 #[o.v] w (KZ (JJ 1 o) w):=by
 obtain⟨kind,b,c,h⟩:=o
 simp only[Lf.v]
 have d:=ki w _ a
 go_enter Tryz.func48,Tryz.ntmps48
 go_wp2_with (go_at_call 31;refine(Dt _ _ _ _).mono ?_;rintro e i ⟨rfl,rfl⟩)
 all_goals
  go_ret2
  first
   |(refine GU ?_ vB;simp at*;rw[BG,F9];simp;omega)
   |(refine It ?_ vB;simp at*;rw[kt,Ne,BG,F9];simp;omega)
def MU(o:Lf)(w:World)(T:TypeId)(u:Value)(a:w.cell? ⟨0,0,none⟩=some (.iface T u)):
  Kp 49 #[o.v] w (KZ (JJ 2 o) w):=by
 obtain⟨kind,b,c,h⟩:=o
 simp only[Lf.v]
 have d:=ki w _ a
 go_enter Tryz.func49,Tryz.ntmps49
 go_wp2_with (go_at_call 31;refine(Dt _ _ _ _).mono ?_;rintro e i ⟨rfl,rfl⟩)
 all_goals
  go_ret2
  first
   |(refine GU ?_ vB;simp at*;rw[BG,F9];simp;omega)
   |(refine It ?_ vB;simp at*;rw[kt,Ne,BG,F9];simp;omega)
end Go.Proofs.YtaipogljokblkaaGreatDoor.Fn
namespace Go.Proofs.YtaipogljokblkaaGreatDoor.Fn
open Go Go.RowKit
def QF(n:Int)(w:World)(a:0<=n)(b:n<24):
  Kp 14 #[.int .i64 n] w λe w'=>e=.returned (.tuple #[.agg #[.int .i64 0,.int .i64 0,.int .i64 n],.nilIface])/\
   w.alloc (.cells #[.int .i64 0,.int .i64 0,.int .i64 n] 54)=w':=by
 go_enter Tryz.func14,Tryz.ntmps14
 go_wp2
 go_returns
 exact⟨by simp,rfl⟩
def vN(w:World)(e:Ending)(w':World):Prop:=(∃p,e=.returned (.pointer p))/\Below w.heap.size w w'
def OW(a b c k:Int)(o:Lf)(w:World):
  Kp 70 #[.agg #[.int .i64 a,.int .i64 b,.int .i64 c],.int .i64 k,o.v] w (vN w):=by
 obtain⟨kind,d,e,g⟩:=o
 simp only[Lf.v]
 go_enter Tryz.func70,Tryz.ntmps70
 go_wp2
 all_goals
  go_ret
  exact⟨⟨_,rfl⟩,vB⟩
end Go.Proofs.YtaipogljokblkaaGreatDoor.Fn
namespace Go.Proofs.YtaipogljokblkaaGreatDoor.Fn
open Go Go.RowKit
def NB(o:Lf)(w:World)(T:TypeId)(u:Value)(s:w.cell? ⟨0,0,none⟩=some (.iface T u)):
  Kp 50 #[o.v] w (KZ (JJ 3 o) w):=by
 obtain⟨kind,b,c,j⟩:=o
 simp only[Lf.v]
 have k:=ki w _ s
 simp at k
 cases t:MN ⟨kind,b,c,j⟩
 all_goals
  have d:=t
  first|rw[kt,Ne,DM,JG] at d|rw[DM,JG] at d
  simp at d
  have x:=eR d;clear d
  go_enter Tryz.func50,Tryz.ntmps50
  go_wp2_with (first|(go_at_call 69;refine(GV ⟨kind,b,c,j⟩ _).mono ?_;rintro e l ⟨rfl,a⟩;obtain⟨m,n⟩:=N1 a;have y:w.heap.size<l.heap.size:=(by have h:=a.size;simp at h;omega))|(go_at_call 31;refine(Dt _ _ _ _).mono ?_;rintro e z ⟨rfl,rfl⟩)|(go_at_call 14;refine(QF _ _ Zo Zo).mono ?_;rintro e z ⟨rfl,rfl⟩)|(go_at_call 70;refine(OW _ _ _ _ ⟨kind,b,c,j⟩ _).mono ?_;rintro e B ⟨⟨p2,rfl⟩,i⟩))
  all_goals
   go_ret2
   have d:=x.out
   have p:Below w.heap.size w l:=((fx _ _).alloc (Nat.le_refl _) _).trans (a.mono Zs)
   have q:w.heap.size<=l.heap.size:=Zo
   try (have r:Below w.heap.size w B:=((p.alloc q _).alloc (by simp;omega) _).trans (i.mono (by simp;omega)))
   try clear i
   clear m n a
   first
    |(refine GU ?_ vB;clear p;(try clear r);(try simp at*);rw[BG,F9];simp;omega)
    |(refine It ?_ vB;clear p;(try simp at*);rw[kt,Ne,BG,F9];simp;omega)
end Go.Proofs.YtaipogljokblkaaGreatDoor.Fn
namespace Go.Proofs.YtaipogljokblkaaGreatDoor.Fn
open Go Go.RowKit
def Oh(o:Lf)(w:World)(T:TypeId)(u:Value)(p:w.cell? ⟨0,0,none⟩=some (.iface T u)):
  Kp 51 #[o.v] w (KZ (JJ 4 o) w):=by
 obtain⟨kind,c,d,m⟩:=o
 simp only[Lf.v]
 have i:=ki w _ p
 simp at i
 cases q:MN ⟨kind,c,d,m⟩
 all_goals
  have b:=q
  first|rw[kt,Ne,DM,JG] at b|rw[DM,JG] at b
  simp at b
  have r:=eR b;clear b
  go_enter Tryz.func51,Tryz.ntmps51
  go_wp2_with (first|(go_at_call 69;refine(GV ⟨kind,c,d,m⟩ _).mono ?_;rintro e j ⟨rfl,a⟩;obtain⟨k,l⟩:=N1 a;have s:w.heap.size<j.heap.size:=(by have h:=a.size;simp at h;omega))|(go_at_call 31;refine(Dt _ _ _ _).mono ?_;rintro e x ⟨rfl,rfl⟩))
  all_goals
   go_ret2
   have b:=r.out
   have n:Below w.heap.size w j:=((fx _ _).alloc (Nat.le_refl _) _).trans (a.mono Zs)
   have t:w.heap.size<=j.heap.size:=Zo
   clear k l a
   first
    |(refine GU ?_ vB;clear n;(try simp at*);rw[BG,F9];simp;omega)
    |(refine It ?_ vB;clear n;(try simp at*);rw[kt,Ne,BG,F9];simp;omega)
end Go.Proofs.YtaipogljokblkaaGreatDoor.Fn
namespace Go.Proofs.YtaipogljokblkaaGreatDoor.Fn
open Go Go.RowKit
def M4(o:Lf)(w:World)(T:TypeId)(u:Value)(p:w.cell? ⟨0,0,none⟩=some (.iface T u)):
  Kp 52 #[o.v] w (KZ (JJ 5 o) w):=by
 obtain⟨kind,c,d,m⟩:=o
 simp only[Lf.v]
 have i:=ki w _ p
 simp at i
 cases q:MN ⟨kind,c,d,m⟩
 all_goals
  have b:=q
  first|rw[kt,Ne,DM,JG] at b|rw[DM,JG] at b
  simp at b
  have r:=eR b;clear b
  go_enter Tryz.func52,Tryz.ntmps52
  go_wp2_with (first|(go_at_call 69;refine(GV ⟨kind,c,d,m⟩ _).mono ?_;rintro e j ⟨rfl,a⟩;obtain⟨k,l⟩:=N1 a;have s:w.heap.size<j.heap.size:=(by have h:=a.size;simp at h;omega))|(go_at_call 31;refine(Dt _ _ _ _).mono ?_;rintro e x ⟨rfl,rfl⟩))
  all_goals
   go_ret2
   have b:=r.out
   have n:Below w.heap.size w j:=((fx _ _).alloc (Nat.le_refl _) _).trans (a.mono Zs)
   have t:w.heap.size<=j.heap.size:=Zo
   clear k l a
   first
    |(refine GU ?_ vB;clear n;(try simp at*);rw[BG,F9];simp;omega)
    |(refine It ?_ vB;clear n;(try simp at*);rw[kt,Ne,BG,F9];simp;omega)
end Go.Proofs.YtaipogljokblkaaGreatDoor.Fn
namespace Go.Proofs.YtaipogljokblkaaGreatDoor.Fn
open Go Go.RowKit
def LP{ok:Bool}{a:Value}(h:if ok then a=.nilIface else ∃T p,a=.iface T (.pointer (some p)))(w:World):
  (binOp .eql 28 a .nilIface).run Tryz.prog w=.ok (.bool ok) w:=by
 cases ok
 ·obtain⟨T,p,rfl⟩:=(by simpa using h:∃T p,a=.iface T (.pointer (some p)));simp[go_sem]
 ·obtain rfl:a=.nilIface:=by simpa using h
  simp[go_sem]
def LQ{ok:Bool}{a:Value}(h:if ok then a=.nilIface else ∃T p,a=.iface T (.pointer (some p)))(x:Operand)(w:World):
  (eqGuard .eql 28 x (.const .nilIface) a .nilIface).run Tryz.prog w=.ok () w:=by
 cases ok
 ·obtain⟨T,p,rfl⟩:=(by simpa using h:∃T p,a=.iface T (.pointer (some p)));simp[go_sem]
 ·obtain rfl:a=.nilIface:=by simpa using h
  simp[go_sem]
def tW(st:Int)(o:Lf)(w:World)(T:TypeId)(u:Value)(q:w.cell? ⟨0,0,none⟩=some (.iface T u)):
  Kp 25 #[.int .i64 st,o.v] w (QJ (JJ st o) w):=by
 have k:=ki w _ q
 simp at k
 obtain⟨kind,b,c,j⟩:=o
 simp only[Lf.v]
 have d:∀o:Obj,(w.alloc o).cell? ⟨0,0,none⟩=some (.iface T u):=λo=>(kg w o _ k).trans q
 go_enter Tryz.func25,Tryz.ntmps25
 go_wp2_with (first|(go_at_call 48;refine(Q4 ⟨kind,b,c,j⟩ _ T u (d _)).mono ?_;rintro e m ⟨⟨n,p,rfl,a⟩,h⟩;have l:=LP a;have i:=LQ a)|(go_at_call 49;refine(MU ⟨kind,b,c,j⟩ _ T u (d _)).mono ?_;rintro e m ⟨⟨n,p,rfl,a⟩,h⟩;have l:=LP a;have i:=LQ a)|(go_at_call 50;refine(NB ⟨kind,b,c,j⟩ _ T u (d _)).mono ?_;rintro e m ⟨⟨n,p,rfl,a⟩,h⟩;have l:=LP a;have i:=LQ a)|(go_at_call 51;refine(Oh ⟨kind,b,c,j⟩ _ T u (d _)).mono ?_;rintro e m ⟨⟨n,p,rfl,a⟩,h⟩;have l:=LP a;have i:=LQ a)|(go_at_call 52;refine(M4 ⟨kind,b,c,j⟩ _ T u (d _)).mono ?_;rintro e m ⟨⟨n,p,rfl,a⟩,h⟩;have l:=LP a;have i:=LQ a))
 all_goals try go_ret
 rotate_right
 ·have s:JJ st ⟨kind,b,c,j⟩=false:=by rw[kt,Ne,BG,F9];simp at*;omega
  exact⟨by rw[s];rfl,vB⟩
 all_goals
  have r:st=1\/st=2\/st=3\/st=4\/st=5:=by simp at*;omega
  rcases r with rfl|rfl|rfl|rfl|rfl
  all_goals first
   |(exfalso;clear h a l i q d;simp at*;done)
   |exact⟨rfl,((fx _ _).alloc (Nat.le_refl _) _).trans (h.mono Zs)⟩
end Go.Proofs.YtaipogljokblkaaGreatDoor.Fn
