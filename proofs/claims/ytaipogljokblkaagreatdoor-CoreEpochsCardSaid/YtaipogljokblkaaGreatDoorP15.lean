/- Core: VB0, CWalk, VB1, VB2, JA, Rfn, CLitN, CVb, Rfx, Rfv, Rfw. -/
import Derived.Test.YtaipogljokblkaaGreatDoorP09
set_option linter.all false
set_option maxRecDepth 100000
set_option maxHeartbeats 8000000
namespace Go.Proofs.YtaipogljokblkaaGreatDoor
open Go Go.RowKit
def NI{b:Int}(h:0<=b/\b<8):wr (8+b)=8+b:=xx _ Zo Zo
def Uq{b:Int}(h:0<=b/\b<8):decide (wr (8+b)<0)=false:=gz (by rw[NI h];omega)
def Up{b:Int}(h:0<=b/\b<8):decide (24<=wr (8+b))=false:=gz (by rw[NI h];omega)
def Uo{b:Int}(h:0<=b/\b<8):decide (0<=wr (8+b))=true:=g5 (by rw[NI h];omega)
def Un{b:Int}(h:0<=b/\b<8):decide (wr (8+b)<24)=true:=g5 (by rw[NI h];omega)
def Eg{k:Int}{z:Int}(c:0<=k)(d:1<=z)(e:z<=8):0<=Int.tmod k z/\Int.tmod k z<8:=by
 have a:=pj z c;have b:=oi k (show 0<z by omega);omega
def Gm{b:Int}(a:0<=b)(c:b<8):0<=Bb b/\Bb b<8:=by
 have h:b=0\/b=1\/b=2\/b=3\/b=4\/b=5\/b=6\/b=7:=Zo;rcases h with rfl|rfl|rfl|rfl|rfl|rfl|rfl|rfl<;>decide
def mY(W:Xj)(x:Xr):Env:=IB [W.ii,x.ii] [W.bb,x.bb]
def wE:St:=⟨[],[(1,261,(ct [vs 0 9,[.bV 0],vs 9 4,[.bV 1],vs 13 15,[.bV 2],vs 28 4,[.bV 3,.iV 32,.bV 4]]))],[],10,0⟩
def eU:List SV:=[.c (.ptr 1 0),.agg ((ct [vs 33 4,[.bV 5,.bV 6]]))]
def Ik(W:Xj)(x:Xr)(a:Nat)(w:World)(b:Bk w a 261 W.l.toArray):Kp 162 #[.pointer (some ⟨a,0,none⟩),.agg x.l.toArray] w λc w'=>c=.returned (IE (W.step x).2)/\Bk w' a 261 ((W.step x).1.l).toArray/\Aq [a] w w':=by
 refine p1 (mY W x) [] 60 wE eU (W.step x) (λr=>(IE r.2,(r.1.l).toArray)) X6 CF b ?_;exact vS1
end Go.Proofs.YtaipogljokblkaaGreatDoor
namespace Go.Proofs.YtaipogljokblkaaGreatDoor
open Go Go.RowKit
def Sd(pw pi:Option Go.Addr)(J':Xc)(V:Value)(I0:Option Xf)(c:Nat)(w:World)(en:Ending)(w':World):Prop:=
 en = .returned V∧Aq [c] w w'∧((J'.inner = I0∧Bk w' c 186 (J'.l (.pointer pw) (.pointer pi)).toArray) ∨
  ∃a d I,J'.inner=some I/\Bk w' c 186 (J'.l (.pointer pw) (.pointer (some ⟨a,0,none⟩))).toArray/\K5 w' a I (a::d)/\∀b∈a::d,w.heap.size<=b)
section
variable{e:Env}{gs:List Nat}{hp hp':Heap}{w w':World}{v:SV}{en:Ending}{k':Nat->Nat}{V:Value}{g:Nat}{c1 c2 c3:List SC}{ls:List Nat}{pw pi:Option Go.Addr}{J':Xc}{I0:Option Xf}
def uw(h:Hu e (DF gs) hp w v hp' en w' k')(l1:FH 1 (Ym hp)=true)(b:DF gs 1=g)(c:(1,186,c1)∈hp')(d:Yp e k' c1=(J'.l (.pointer pw) (.pointer pi)).toArray)(f:v.den e k'=V)
  (a:I3 hp' hp=ls)(hF:∀l∈ls,DF gs l∈[g])(i:J'.inner=I0):Sd pw pi J' V I0 g w en w':=
 ⟨h.ret.trans (by rw[f]),Gs h.CJ a hF,fq ⟨i,Ib h c ((h.ext 1 (BA.1 l1)).trans b) d⟩⟩
def ux(h:Hu e (DF gs) hp w v hp' en w' k')(l1:FH 1 (Ym hp)=true)(d:DF gs 1=g)(f:(1,186,c1)∈hp'){l2:Nat}(c:(l2,206,c2)∈hp')(n2:FH l2 (Ym hp)=false){I:Xf}
  (i:Yp e k' c1=(J'.l (.pointer pw) (.pointer (some ⟨k' l2,0,none⟩))).toArray)(j:v.den e k'=V)(a:I3 hp' hp=ls)(hF:∀l∈ls,DF gs l∈[g])(k:J'.inner=some I)
  (m:Yp e k' c2=(I.l (.pointer none)).toArray)(n:I.walk=none):Sd pw pi J' V I0 g w en w':=by
 have o:w.heap.size<=k' l2:=(h.new _ c).resolve_left λp=>absurd (BA.2 p) (by rw[n2];simp)
 refine⟨h.ret.trans (by rw[j]),Gs h.CJ a hF,db ⟨k' l2,[],I,k,Ib h f ((h.ext 1 (BA.1 l1)).trans d) i,⟨⟨.pointer none,[],rfl,Ib h c rfl m,?_⟩,by simp⟩,λb q=>?_⟩⟩
 ·rw[n];exact⟨rfl,rfl⟩
 ·rw[ft.1 q];exact o
def wL(h:Hu e (DF gs) hp w v hp' en w' k')(l1:FH 1 (Ym hp)=true)(m:DF gs 1=g)(n:(1,186,c1)∈hp'){l2:Nat}(d:(l2,206,c2)∈hp')(n2:FH l2 (Ym hp)=false){I:Xf}
  {a:Nat}(f:(a,261,c3)∈hp')(o:FH a (Ym hp)=false)(c:(l2==a)=false){W:Xj}
  (p:Yp e k' c1=(J'.l (.pointer pw) (.pointer (some ⟨k' l2,0,none⟩))).toArray)(q:v.den e k'=V)(i:I3 hp' hp=ls)(hF:∀l∈ls,DF gs l∈[g])(r:J'.inner=some I)
  (s:Yp e k' c2=(I.l (.pointer (some ⟨k' a,0,none⟩))).toArray)(u:I.walk=some W)(x:Yp e k' c3=W.l.toArray):Sd pw pi J' V I0 g w en w':=by
 have y:w.heap.size<=k' l2:=(h.new _ d).resolve_left λj=>absurd (BA.2 j) (by rw[n2];simp)
 have z:w.heap.size<=k' a:=(h.new _ f).resolve_left λj=>absurd (BA.2 j) (by rw[o];simp)
 have A:¬(k' l2=k' a):=λB=>by
  have:=h.inj _ d _ f B;simp only at this;rw[this] at c;simp at c
 refine⟨h.ret.trans (by rw[q]),Gs h.CJ i hF,db ⟨k' l2,[k' a],I,r,Ib h n ((h.ext 1 (BA.1 l1)).trans m) p,⟨⟨.pointer (some ⟨k' a,0,none⟩),[k' a],rfl,Ib h d rfl s,?_⟩,by simp[A]⟩,λb k=>?_⟩⟩
 ·rw[u];exact⟨k' a,rfl,rfl,Ib h f rfl x⟩
 ·rcases gf.1 k with rfl|k
  ·exact y
  ·rw[ft.1 k];exact z
end
def EK(a b:Int):Prop:=b=a\/b=Bb a\/b=Bb (Bb a)\/b=Bb (Bb (Bb a))
def Uf{a b:Int}(h:EK a b)(c:(b==a)=false)(c1:(Bb a==b)=false)(c2:(Bb (Bb a)==b)=false)(c3:(Bb (Bb (Bb a))==b)=false):False:=by
 simp only[lm,ne_eq] at c c1 c2 c3;rcases h with h|h|h|h
 ·exact c h
 ·exact c1 h.symm
 ·exact c2 h.symm
 ·exact c3 h.symm
def Jb(Rep:World->List Nat->Prop)(V:Value)(F:List Nat)(w:World)(en:Ending)(w':World):Prop:=
 ∃a,en=.returned V/\Rep w' a/\(∀b∈a,b∈F\/w.heap.size<=b)/\Aq F w w'
section
variable{w w':World}{g:Nat}{F F1:List Nat}{q:Value}
def DD.same{o:Option Xj}(h:DD w q o F)(a:∀b∈F,w'.heap[b]?=w.heap[b]?):DD w' q o F:=by
 cases o with
 |none=>exact h
 |some W=>obtain⟨g,rfl,rfl,c⟩:=h;exact⟨g,rfl,rfl,c.same (a g Zs)⟩
def DD.lt{o:Option Xj}(h:DD w q o F):∀b∈F,b<w.heap.size:=by
 cases o with
 |none=>obtain⟨rfl,rfl⟩:=h;simp
 |some W=>obtain⟨g,rfl,rfl,a⟩:=h;intro b c;rw[ft.1 c];exact a.lt
def K5.same{J:Xf}(h:K5 w g J F)(a:∀b∈F,w'.heap[b]?=w.heap[b]?):K5 w' g J F:=by
 obtain⟨⟨q,F1,rfl,c,d⟩,e⟩:=h;exact⟨⟨q,F1,rfl,c.same (a g Zs),d.same λb f=>a b (by simp[f])⟩,e⟩
def K5.lt{J:Xf}(h:K5 w g J F):∀b∈F,b<w.heap.size:=by
 obtain⟨⟨q,F1,rfl,a,c⟩,d⟩:=h;intro b hm;rcases gf.1 hm with rfl|hm
 ·exact a.lt
 ·exact c.lt b hm
def Ci.same{o:Option Xb}(h:Ci w q o F)(a:∀b∈F,w'.heap[b]?=w.heap[b]?):Ci w' q o F:=by
 cases o with
 |none=>exact h
 |some W=>obtain⟨g,rfl,rfl,c⟩:=h;exact⟨g,rfl,rfl,c.same (a g Zs)⟩
def Ci.lt{o:Option Xb}(h:Ci w q o F):∀b∈F,b<w.heap.size:=by
 cases o with
 |none=>obtain⟨rfl,rfl⟩:=h;simp
 |some W=>obtain⟨g,rfl,rfl,a⟩:=h;intro b c;rw[ft.1 c];exact a.lt
def WM.same{J:Xa}(h:WM w g J F)(a:∀b∈F,w'.heap[b]?=w.heap[b]?):WM w' g J F:=by
 obtain⟨⟨q,F1,rfl,c,d⟩,e⟩:=h;exact⟨⟨q,F1,rfl,c.same (a g Zs),d.same λb f=>a b (by simp[f])⟩,e⟩
def WM.lt{J:Xa}(h:WM w g J F):∀b∈F,b<w.heap.size:=by
 obtain⟨⟨q,F1,rfl,a,c⟩,d⟩:=h;intro b hm;rcases gf.1 hm with rfl|hm
 ·exact a.lt
 ·exact c.lt b hm
def Gw(w:World)(q:Value)(o:Option Xf)(F:List Nat):Prop:=
 match o with
 |none=>q=.pointer none/\F=[]
 |some I=>∃a F1,q=.pointer (some ⟨a,0,none⟩)/\F=a::F1/\K5 w a I F
def Gw.same{o:Option Xf}(h:Gw w q o F)(a:∀b∈F,w'.heap[b]?=w.heap[b]?):Gw w' q o F:=by
 cases o with
 |none=>exact h
 |some I=>obtain⟨c,F1,rfl,rfl,d⟩:=h;exact⟨c,F1,rfl,rfl,d.same a⟩
def Gw.lt{o:Option Xf}(h:Gw w q o F):∀b∈F,b<w.heap.size:=by
 cases o with
 |none=>obtain⟨rfl,rfl⟩:=h;simp
 |some I=>obtain⟨c,F1,rfl,rfl,a⟩:=h;exact a.lt
def Gw.nodup{o:Option Xf}(h:Gw w q o F):F.Nodup:=by
 cases o with
 |none=>obtain⟨rfl,rfl⟩:=h;simp
 |some I=>obtain⟨b,F1,rfl,rfl,a⟩:=h;exact a.2
def NE(w:World)(g:Nat)(J:Xc)(F:List Nat):Prop:=
 ∃pw pi Fw Fi,F=g::(Fw++Fi)/\Bk w g 186 (J.l (.pointer pw) (.pointer pi)).toArray/\DD w (.pointer pw) J.walk Fw/\Gw w (.pointer pi) J.inner Fi/\F.Nodup
def NE.same{J:Xc}(h:NE w g J F)(a:∀b∈F,w'.heap[b]?=w.heap[b]?):NE w' g J F:=by
 obtain⟨pw,pi,Fw,Fi,rfl,d,e,f,i⟩:=h;exact⟨pw,pi,Fw,Fi,rfl,d.same (a g Zs),e.same λb c=>a b (by simp[c]),f.same λb c=>a b (by simp[c]),i⟩
def NE.lt{J:Xc}(h:NE w g J F):∀b∈F,b<w.heap.size:=by
 obtain⟨pw,pi,Fw,Fi,rfl,a,c,d,e⟩:=h;intro b hm;simp only[gf,gy] at hm;rcases hm with rfl|hm|hm
 ·exact a.lt
 ·exact c.lt b hm
 ·exact d.lt b hm
end
section
variable{w w':World}{g:Nat}{Fw Fi:List Nat}{pw pi:Option Go.Addr}{J J':Xc}{V:Value}{en:Ending}
def Cr(e:DD w (.pointer pw) J.walk Fw)(f:Gw w (.pointer pi) J.inner Fi)(h:(g::(Fw++Fi)).Nodup)(j:J'.walk=J.walk)(k:J'.inner=J.inner)
  (m:en=.returned V)(c:Bk w' g 186 (J'.l (.pointer pw) (.pointer pi)).toArray)(d:Aq [g] w w'):Jb (λw F=>NE w g J' F) V (g::(Fw++Fi)) w en w':=by
 have i:∀b∈Fw++Fi,b∉[g]:=λb a n=>(ja.1 h).1 (by rw[←ft.1 n];exact a)
 refine⟨g::(Fw++Fi),m,⟨pw,pi,Fw,Fi,rfl,c,?_,?_,h⟩,λb c=>fq c,d.mono λx o=>fq (by rw[ft.1 o];simp)⟩
 ·rw[j];exact e.same λb a=>d.A5 b (e.lt b a) (i b (by simp[a]))
 ·rw[k];exact f.same λb a=>d.A5 b (f.lt b a) (i b (by simp[a]))
def Ll{j:List Nat}(E:DD w (.pointer pw) J.walk Fw)(k:Gw w (.pointer pi) J.inner Fi)(m:(g::(Fw++Fi)).Nodup)(v:J'.inner=J.inner)(y:g∈j)(d:∀b∈j,b∈g::Fw)
  (z:Gh (λw q F1=>DD w q J'.walk F1) 186 (λq=>J'.l q (.pointer pi)) V g j w en w'):Jb (λw F=>NE w g J' F) V (g::(Fw++Fi)) w en w':=by
 obtain⟨G,A,⟨⟨q,F1,rfl,n,f⟩,c⟩,i,r⟩:=z
 have o:∀b∈Fi,b∉j:=λb hm B=>by
  have h1:=d b B;have s:=(ja.1 m);have C:=h9.1 s.2;rcases gf.1 h1 with rfl|h1
  ·exact s.1 (by simp[hm])
  ·exact C.2.2 b h1 b hm rfl
 have hold:∀b∈F1,b∈g::Fw\/w.heap.size<=b:=λb hm=>(i b (by simp[hm])).imp (d b) id
 obtain⟨e,rfl⟩:∃e,q=.pointer e:=by
  cases u:J'.walk with
  |none=>rw[u] at f;exact⟨none,f.1⟩
  |some W=>rw[u] at f;obtain⟨H,rfl,_⟩:=f;exact⟨_,rfl⟩
 refine⟨g::(F1++Fi),A,⟨e,pi,F1,Fi,rfl,n,f,?_,?_⟩,λb hm=>?_,r.mono λx D=>fq (by have:=d x D;simp only[gf,gy] at this ⊢;rcases this with h|h<;>simp[h])⟩
 ·rw[v];exact k.same λb hm=>r.A5 b (k.lt b hm) (o b hm)
 ·rw[ja] at m c ⊢;refine⟨λhm=>?_,h9.2 ⟨c.2,k.nodup,λa ha b n p=>?_⟩⟩
  ·rcases gy.1 hm with h|h
   ·exact c.1 h
   ·exact m.1 (by simp[h])
  ·subst p;rcases hold a ha with h|h
   ·rcases gf.1 h with rfl|h
    ·exact c.1 ha
    ·exact(h9.1 m.2).2.2 a h a n rfl
   ·have:=k.lt a n;omega
 ·simp only[gf,gy] at hm ⊢;rcases hm with rfl|hm|hm
  ·exact fq (fq rfl)
  ·rcases hold b hm with h|h
   ·rcases gf.1 h with rfl|h
    ·exact fq (fq rfl)
    ·exact fq (db (fq h))
   ·exact db h
  ·exact fq (db (db hm))
def cD(e:DD w (.pointer pw) J.walk Fw)(o:Gw w (.pointer pi) J.inner Fi)(p:g<w.heap.size)(d:(g::(Fw++Fi)).Nodup)(l:J'.walk=J.walk)
  (r:Sd pw pi J' V J.inner g w en w'):Jb (λw F=>NE w g J' F) V (g::(Fw++Fi)) w en w':=by
 obtain⟨m,i,h|h⟩:=r
 ·exact Cr e o d l h.1 m h.2 i
 ·obtain⟨f,F1,I,s,j,n,c⟩:=h;have t:∀b∈Fw,b∉[g]:=λb hm u=>(ja.1 d).1 (by rw[←ft.1 u];simp[hm]);refine⟨g::(Fw++f::F1),m,⟨pw,some ⟨f,0,none⟩,Fw,f::F1,rfl,j,?_,?_,?_⟩,λb hm=>?_,i.mono λx v=>fq (by rw[ft.1 v];simp)⟩
  ·rw[l];exact e.same λb hm=>i.A5 b (e.lt b hm) (t b hm)
  ·rw[s];exact⟨f,F1,rfl,rfl,n⟩
  ·rw[ja] at d ⊢;refine⟨λhm=>?_,h9.2 ⟨(h9.1 d.2).1,n.2,λa ha b j k=>?_⟩⟩
   ·rcases gy.1 hm with h|h
    ·exact d.1 (by simp[h])
    ·have:=c g h;omega
   ·subst k;have y:=e.lt a ha;have z:=c a j;omega
  ·simp only[gf,gy] at hm ⊢;rcases hm with rfl|hm|hm
   ·exact fq (fq rfl)
   ·exact fq (db (fq hm))
   ·exact db (c b (by simp only[gf];exact hm))
end
def wA{w:World}{k:Nat->Nat}{e:Env}{l:Nat}{T:TypeId}{cs:List SC}(h:Bk w (k l) T (Yp e k cs)):∀x∈([(l,T,cs)]:Heap),Bk w (k x.1) x.2.1 (Yp e k x.2.2):=λx a=>by
 rw[ft.1 a];exact h
def bl2{w:World}{k:Nat->Nat}{e:Env}{l b:Nat}{T T':TypeId}{cs cs':List SC}(h:Bk w (k l) T (Yp e k cs))(h':Bk w (k b) T' (Yp e k cs')):∀x∈([(l,T,cs),(b,T',cs')]:Heap),Bk w (k x.1) x.2.1 (Yp e k x.2.2):=λx a=>by
 rcases gf.1 a with rfl|a
 ·exact h
 ·rw[ft.1 a];exact h'
def Uh(x:Xr):(Cq none x).2.2=false:=rfl
def Uj:Li none=false:=rfl
def RQ(x:Xr):(Yg none x).2.2=false:=rfl
def Uk(x:Xr):Li (Cq none x).1=false:=rfl
def RT(x:Xr):((Bh (Yg none x).1).sl==0)=true:=rfl
def Kb{w:World}{o:Option Xj}(h:(o.map λW=>W.l.toArray)=none):DD w (.pointer none) o []:=by
 cases o with
 |none=>exact⟨rfl,rfl⟩
 |some W=>cases h
def Ka{w:World}{g:Nat}{o:Option Xj}{cs:Array Value}(h:(o.map λW=>W.l.toArray)=some cs)(a:Bk w g 261 cs):DD w (.pointer (some ⟨g,0,none⟩)) o [g]:=by
 cases o with
 |none=>cases h
 |some W=>cases h;exact⟨g,rfl,rfl,a⟩
def Gf{w:World}{o:Option Xb}(h:(o.map λW=>W.l.toArray)=none):Ci w (.pointer none) o []:=by
 cases o with
 |none=>exact⟨rfl,rfl⟩
 |some W=>cases h
def Ge{w:World}{g:Nat}{o:Option Xb}{cs:Array Value}(h:(o.map λW=>W.l.toArray)=some cs)(a:Bk w g 284 cs):Ci w (.pointer (some ⟨g,0,none⟩)) o [g]:=by
 cases o with
 |none=>cases h
 |some W=>cases h;exact⟨g,rfl,rfl,a⟩
def sS(J:Xf)(x:Xr):Env:=IB [J.ii,x.ii,(Xj.step (Xj.new J.start J.key) x).1.ii,(Xj.step (Xj.new J.start J.key) x).2.1.ii] [J.bb,x.bb,(Xj.step (Xj.new J.start J.key) x).1.bb,(Xj.step (Xj.new J.start J.key) x).2.1.bb,[(Xj.step (Xj.new J.start J.key) x).2.2]]
def zR:St:=⟨[],[(1,206,(ct [vs 0 9,[.bV 0],vs 9 4,[.bV 1],vs 13 12,[.lit (.pointer none)],vs 25 4,[.bV 2,.iV 29]]))],[],10,0⟩
def kL:List SV:=[.c (.ptr 1 0),.agg ((ct [vs 30 4,[.bV 3,.bV 4]]))]
def xm:List X8:=[⟨true,162,261,(ct [zs 9,[.bool (.lit false)],zs 4,[.bool (.lit false)],zs 4,vs 17 4,vs 17 3,zs 4,[.bool (.lit false)],zs 4,[.bool (.lit false),.int (.lit 0),.bool (.lit false)]]),[.agg ((ct [vs 30 4,[.bV 3,.bV 4]]))],.Jt [(true,(ct [vs 67 8,[.bV 10],vs 75 4,[.bV 11],vs 79 4])),(false,[.bV 12])],(ct [vs 34 9,[.bV 5],vs 43 4,[.bV 6],vs 47 15,[.bV 7],vs 62 4,[.bV 8,.iV 66,.bV 9]])⟩]
def sT(J:Xf)(x:Xr)(a:Nat)(w:World)(d:Bk w a 206 (({J with walk:=none}:Xf).l (.pointer none)).toArray)(c:[a].Nodup):Kp 154 #[.pointer (some ⟨a,0,none⟩),.agg x.l.toArray] w λe w'=>∃F',e=.returned (Yq (Xf.next {J with walk:=none} x).2)/\K5 w' a (Xf.next {J with walk:=none} x).1 F'/\(∀b∈F',b∈[a]\/w.heap.size<=b)/\Aq [a] w w':=by
 refine p2 (sS J x) xm 60 zR kL 27 206 261 (Xf.next {J with walk:=none} x) (λr=>Yq r.2) (λr q=>r.1.l q) (λr=>r.1.walk.map λW=>W.l.toArray) (λr w q i=>DD w q r.1.walk i) (Yz (Cz Tryz.func162 λg w j=>Ik (Xj.new J.start J.key) x g w j) X6) CF (wA (Y1 d Zk)) c (λ_ _ h=>Kb h) (λ_ _ _ _ h k=>Ka h k) ?_;exact vS10
def oB(J:Xc)(pw:Option Go.Addr)(pi:Option Go.Addr)(x:Xr):Env:=IA [J.last.ii,J.op.ii,[J.size,J.wanted,J.Ao,J.child],J.base.ii,J.node.ii,J.sentinel.ii,J.answer.ii,J.count.ii,[x.word.gn,x.word.tg,x.word.nm,Bb J.Ao]] [J.bb,x.bb] [.pointer pw,.pointer pi] (AS rfl)
def xD:St:=⟨[],[(1,186,(ct [[.int (.lit 2)],vs 0 8,[.bV 0],vs 8 4,[.bV 1],vs 12 16,[.bV 2],vs 28 4,[.bV 3],vs 32 4,[.bV 4,.Ba 0,.Ba 1],vs 36 6,[.bV 5]]))],[(.lt (.add (.lit 8) (.var 45)) (.lit 0),false),(.le (.lit 24) (.add (.lit 8) (.var 45)),false),(.le (.lit 0) (.add (.lit 8) (.var 45)),true),(.lt (.add (.lit 8) (.var 45)) (.lit 24),true)],10,0⟩
def fR:List SV:=[.c (.ptr 1 0),.agg ((ct [[.int (.lit 0)],vs 42 3,[.bV 6,.bV 7]]))]
def ve:List X8:=[⟨false,182,0,[],[.c (.iV 22)],.c (.iV 45),[]⟩]
def oC(J:Xc)(pw:Option Go.Addr)(pi:Option Go.Addr)(x:Xr)(d:Nat)(w:World)(e:Bk w d 186 (({J with pc:=2}:Xc).l (.pointer pw) (.pointer pi)).toArray)(a:0<=J.Ao)(c:J.Ao<8):Kp 176 #[.pointer (some ⟨d,0,none⟩),.agg ({x with word:={x.word with sl:=0}}:Xr).l.toArray] w λg w'=>g=.returned (Yq (Xc.BC ({J with pc:=2}:Xc) ({x with word:={x.word with sl:=0}}:Xr)).2)/\Bk w' d 186 ((Xc.BC ({J with pc:=2}:Xc) ({x with word:={x.word with sl:=0}}:Xr)).1.l (.pointer pw) (.pointer pi)).toArray/\Aq [d] w w':=by
 refine p1 (oB J pw pi x) ve 80 xD fR (Xc.BC ({J with pc:=2}:Xc) ({x with word:={x.word with sl:=0}}:Xr)) (λr=>(Yq r.2,(r.1.l (.pointer pw) (.pointer pi)).toArray)) (Yz (G6 Tryz.func182 λw=>NN _ w a c) X6) (Cp (Uq (b:=(Bb J.Ao)) (Gm a c)) (Cp (Up (b:=(Bb J.Ao)) (Gm a c)) (Cp (Uo (b:=(Bb J.Ao)) (Gm a c)) (Cp (Un (b:=(Bb J.Ao)) (Gm a c)) CF)))) e ?_;exact vS1
def nZ(J:Xc)(pw:Option Go.Addr)(pi:Option Go.Addr)(x:Xr):Env:=IA [J.last.ii,J.op.ii,[J.size,J.wanted,J.Ao,J.child],J.base.ii,J.node.ii,J.sentinel.ii,J.answer.ii,J.count.ii,x.ii,[Yw J.child]] [J.bb,[x.word.mark]] [.pointer pw,.pointer pi] (AS rfl)
def xC:St:=⟨[],[(1,186,(ct [[.int (.lit 3)],vs 0 8,[.bV 0],vs 8 4,[.bV 1],vs 12 16,[.bV 2],vs 28 4,[.bV 3],vs 32 4,[.bV 4,.Ba 0,.Ba 1],vs 36 6,[.bV 5]]))],[],10,0⟩
def fQ:List SV:=[.c (.ptr 1 0),.agg ((ct [vs 42 4,[.bV 6,.bool (.lit true)]]))]
def vd:List X8:=[⟨false,189,0,[],[.c (.iV 23)],.c (.iV 46),[]⟩]
def oA(J:Xc)(pw:Option Go.Addr)(pi:Option Go.Addr)(x:Xr)(a:Nat)(w:World)(d:Bk w a 186 (({J with pc:=3}:Xc).l (.pointer pw) (.pointer pi)).toArray)(b:0<=J.child)(c:J.child<8):Kp 176 #[.pointer (some ⟨a,0,none⟩),.agg ({x with ok:=true}:Xr).l.toArray] w λe w'=>e=.returned (Yq (Xc.Am ({J with pc:=3}:Xc) ({x with ok:=true}:Xr)).2)/\Bk w' a 186 ((Xc.Am ({J with pc:=3}:Xc) ({x with ok:=true}:Xr)).1.l (.pointer pw) (.pointer pi)).toArray/\Aq [a] w w':=by
 refine p1 (nZ J pw pi x) vd 80 xC fQ (Xc.Am ({J with pc:=3}:Xc) ({x with ok:=true}:Xr)) (λr=>(Yq r.2,(r.1.l (.pointer pw) (.pointer pi)).toArray)) (Yz (G6 Tryz.func189 λw=>KV _ w b c) X6) CF d ?_;exact vS1
def nO(J:Xc)(pw:Option Go.Addr)(pi:Option Go.Addr)(x:Xr):Env:=IA [J.last.ii,J.op.ii,[J.size,J.wanted,J.Ao,J.child],J.base.ii,J.node.ii,J.sentinel.ii,J.answer.ii,J.count.ii,x.ii] [J.bb,[x.word.mark]] [.pointer pw,.pointer pi] (AS rfl)
def wX:St:=⟨[],[(1,186,(ct [[.int (.lit 8)],vs 0 8,[.bV 0],vs 8 4,[.bV 1],vs 12 16,[.bV 2],vs 28 4,[.bV 3],vs 32 4,[.bV 4,.Ba 0,.Ba 1],vs 36 6,[.bV 5]]))],[(.lt (.add (.lit 8) (.var 23)) (.lit 0),false),(.le (.lit 24) (.add (.lit 8) (.var 23)),false),(.le (.lit 0) (.add (.lit 8) (.var 23)),true),(.lt (.add (.lit 8) (.var 23)) (.lit 24),true)],10,0⟩
def fL:List SV:=[.c (.ptr 1 0),.agg ((ct [vs 42 4,[.bV 6,.bool (.lit true)]]))]
def nP(J:Xc)(pw:Option Go.Addr)(pi:Option Go.Addr)(x:Xr)(d:Nat)(w:World)(e:Bk w d 186 (({J with pc:=8}:Xc).l (.pointer pw) (.pointer pi)).toArray)(a:0<=J.child)(c:J.child<8):Kp 176 #[.pointer (some ⟨d,0,none⟩),.agg ({x with ok:=true}:Xr).l.toArray] w λg w'=>g=.returned (Yq (Xc.Am ({J with pc:=8}:Xc) ({x with ok:=true}:Xr)).2)/\Bk w' d 186 ((Xc.Am ({J with pc:=8}:Xc) ({x with ok:=true}:Xr)).1.l (.pointer pw) (.pointer pi)).toArray/\Aq [d] w w':=by
 refine p1 (nO J pw pi x) [] 80 wX fL (Xc.Am ({J with pc:=8}:Xc) ({x with ok:=true}:Xr)) (λr=>(Yq r.2,(r.1.l (.pointer pw) (.pointer pi)).toArray)) X6 (Cp (Uq (b:=J.child) ⟨a,c⟩) (Cp (Up (b:=J.child) ⟨a,c⟩) (Cp (Uo (b:=J.child) ⟨a,c⟩) (Cp (Un (b:=J.child) ⟨a,c⟩) CF)))) e ?_;repeat' (first|with_reducible (first|refine pN ?_|refine pA ?_|refine pO ?_|refine pB ?_|refine pF ?_|refine pT ?_|refine Jz (by first|(show(Xc.pc _==_)=_;with_unfolding_all rfl)|(show(AV.kind _==_)=_;with_unfolding_all rfl)|(show(Xr.ok _)=_;with_unfolding_all rfl)|(show(Xe.nm _==_)=_;with_unfolding_all rfl)|(show(Xe.sl _==_)=_;with_unfolding_all rfl)) ?_|refine Jy (by first|(show(Xc.pc _==_)=_;with_unfolding_all rfl)|(show(AV.kind _==_)=_;with_unfolding_all rfl)|(show(Xr.ok _)=_;with_unfolding_all rfl)|(show(Xe.nm _==_)=_;with_unfolding_all rfl)|(show(Xe.sl _==_)=_;with_unfolding_all rfl)) ?_|refine pC ?_ ?_)|unfold Xc.D8|refine Hl ?_|refine Hm ?_|refine Ed (DB _ _ _) ?_|exact l1)
def nS(J:Xc)(pw:Option Go.Addr)(pi:Option Go.Addr)(x:Xr):Env:=IA [J.last.ii,J.op.ii,[J.size,J.wanted,J.Ao,J.child],J.base.ii,J.node.ii,J.sentinel.ii,J.answer.ii,J.count.ii,x.ii] [J.bb,x.bb] [.pointer pw,.pointer pi] (AS rfl)
def wZ:St:=⟨[],[(1,186,(ct [[.int (.lit 6)],vs 0 8,[.bV 0],vs 8 4,[.bV 1],vs 12 16,[.bV 2],vs 28 4,[.bV 3],vs 32 4,[.bV 4,.Ba 0,.Ba 1],vs 36 6,[.bV 5]]))],[(.lt (.add (.lit 8) (.var 23)) (.lit 0),false),(.le (.lit 24) (.add (.lit 8) (.var 23)),false),(.le (.lit 0) (.add (.lit 8) (.var 23)),true),(.lt (.add (.lit 8) (.var 23)) (.lit 24),true)],10,0⟩
def fN:List SV:=[.c (.ptr 1 0),.agg ((ct [vs 42 4,[.bV 6,.bV 7]]))]
def nT(J:Xc)(pw:Option Go.Addr)(pi:Option Go.Addr)(x:Xr)(d:Nat)(w:World)(e:Bk w d 186 (({J with pc:=6}:Xc).l (.pointer pw) (.pointer pi)).toArray)(a:0<=J.child)(c:J.child<8):Kp 176 #[.pointer (some ⟨d,0,none⟩),.agg x.l.toArray] w λg w'=>g=.returned (Yq (Xc.Am ({J with pc:=6}:Xc) x).2)/\Bk w' d 186 ((Xc.Am ({J with pc:=6}:Xc) x).1.l (.pointer pw) (.pointer pi)).toArray/\Aq [d] w w':=by
 refine p1 (nS J pw pi x) [] 80 wZ fN (Xc.Am ({J with pc:=6}:Xc) x) (λr=>(Yq r.2,(r.1.l (.pointer pw) (.pointer pi)).toArray)) X6 (Cp (Uq (b:=J.child) ⟨a,c⟩) (Cp (Up (b:=J.child) ⟨a,c⟩) (Cp (Uo (b:=J.child) ⟨a,c⟩) (Cp (Un (b:=J.child) ⟨a,c⟩) CF)))) e ?_;exact vS1
def nL(J:Xc)(pw:Option Go.Addr)(pi:Option Go.Addr)(x:Xr):Env:=IA [J.last.ii,J.op.ii,[J.size,J.wanted,J.Ao,J.child],J.base.ii,J.node.ii,J.sentinel.ii,J.answer.ii,J.count.ii,[x.word.gn,x.word.tg,x.word.nm]] [J.bb,x.bb] [.pointer pw,.pointer pi] (AS rfl)
def wV:St:=⟨[],[(1,186,(ct [[.int (.lit 9)],vs 0 8,[.bV 0],vs 8 4,[.bV 1],vs 12 16,[.bV 2],vs 28 4,[.bV 3],vs 32 4,[.bV 4,.Ba 0,.Ba 1],vs 36 6,[.bV 5]]))],[(.lt (.add (.lit 8) (.var 23)) (.lit 0),false),(.le (.lit 24) (.add (.lit 8) (.var 23)),false),(.le (.lit 0) (.add (.lit 8) (.var 23)),true),(.lt (.add (.lit 8) (.var 23)) (.lit 24),true)],10,0⟩
def fI:List SV:=[.c (.ptr 1 0),.agg ((ct [[.int (.lit 0)],vs 42 3,[.bV 6,.bV 7]]))]
def nM(J:Xc)(pw:Option Go.Addr)(pi:Option Go.Addr)(x:Xr)(d:Nat)(w:World)(e:Bk w d 186 (({J with pc:=9}:Xc).l (.pointer pw) (.pointer pi)).toArray)(a:0<=J.child)(c:J.child<8):Kp 176 #[.pointer (some ⟨d,0,none⟩),.agg ({x with word:={x.word with sl:=0}}:Xr).l.toArray] w λg w'=>g=.returned (Yq (Xc.Am ({J with pc:=9}:Xc) ({x with word:={x.word with sl:=0}}:Xr)).2)/\Bk w' d 186 ((Xc.Am ({J with pc:=9}:Xc) ({x with word:={x.word with sl:=0}}:Xr)).1.l (.pointer pw) (.pointer pi)).toArray/\Aq [d] w w':=by
 refine p1 (nL J pw pi x) [] 80 wV fI (Xc.Am ({J with pc:=9}:Xc) ({x with word:={x.word with sl:=0}}:Xr)) (λr=>(Yq r.2,(r.1.l (.pointer pw) (.pointer pi)).toArray)) X6 (Cp (Uq (b:=J.child) ⟨a,c⟩) (Cp (Up (b:=J.child) ⟨a,c⟩) (Cp (Uo (b:=J.child) ⟨a,c⟩) (Cp (Un (b:=J.child) ⟨a,c⟩) CF)))) e ?_;exact vS1
end Go.Proofs.YtaipogljokblkaaGreatDoor
namespace Go.Proofs.YtaipogljokblkaaGreatDoor
open Go Go.RowKit
def xa:SC:=.lit (.pointer none)
def inV(h:Heap):Option Nat:=gM 43 h
def VF(e:Env)(k:Nat->Nat)(a:SV × Heap):Value × Array Value × Option (Array Value × Option (Array Value)):=
 (a.1.den e k,Yp e k ((cellAt 1 a.2).set 43 xa),(inV a.2).map λl=>(Yp e k ((cellAt l a.2).set 27 xa),((cellAt l a.2)[27]?.bind N6).map λm=>Yp e k (cellAt m a.2)))
def yR(i:Nat):SC->Bool
 |.Ba j=>j==i
 |_=>false
def yQ{i:Nat}{c:SC}(h:yR i c=true):c=.Ba i:=by
 unfold yR at h;split at h
 ·simp at h;subst h;rfl
 ·cases h
def okW(hp:Heap)(h:Heap)(l:Nat):SC->Bool:=λc=>kG c||(match N6 c with|some m=>!(l==m)&&tC 261 m h&&!FH m (Ym hp)|none=>false)
def wu (hp:Heap) (h:Heap):SC→Bool:=fun c=>yR 1 c || (match N6 c with
 |some l=>tC 206 l h&&!FH l (Ym hp)&&(match(cellAt l h)[27]? with|some d=>okW hp h l d|none=>false)
 |none=>false)
def kD(hp:Heap)(a:SV × Heap):Bool:=
 tC 186 1 a.2&&(match(cellAt 1 a.2)[43]? with|some c=>wu hp a.2 c|none=>false)&&(I3 a.2 hp).all (·==1)
def QV(e:Env)(hp:Heap)(pw:Option Go.Addr)(I0:Option Xf)(a:SV × Heap)(r:Xc × Value):Prop:=kD hp a=true/\
 ((r.1.inner = I0∧∀ k,VF e k a = (r.2,(r.1.l (.pointer pw) (.pointer none)).toArray,none)) ∨
  ∃I,r.1.inner=some I/\∀k,VF e k a=(r.2,(r.1.l (.pointer pw) (.pointer none)).toArray,some ((I.l (.pointer none)).toArray,I.walk.map λW=>W.l.toArray)))
section
variable{t:Yd (SV × Heap)}{e:Env}{hp:Heap}{s:Gj}{a:Xc × Xi}{pw:Option Go.Addr}{I0:Option Xf}{V:Xc × Xi->Value}
def yV(b:a.1.inner=I0)(c:(t.lv s).all (mK (kD hp))=true)(d:∀k,(t.lv s).map (λo=>o.map (VF e k))=(t.lv s).map λ_=>some (V a,(a.1.l (.pointer pw) (.pointer none)).toArray,none)):PO t e (λx r=>QV e hp pw I0 x (r.1,V r)) s a:=
 Km (VF e) (λr=>(V r,(r.1.l (.pointer pw) (.pointer none)).toArray,none)) (kD hp) c d λ_ h f=>⟨h,fq ⟨b,f⟩⟩
def yW(I:Xf)(b:a.1.inner=some I)(c:(t.lv s).all (mK (kD hp))=true)(d:∀k,(t.lv s).map (λo=>o.map (VF e k))=(t.lv s).map λ_=>some (V a,(a.1.l (.pointer pw) (.pointer none)).toArray,some ((I.l (.pointer none)).toArray,I.walk.map λW=>W.l.toArray))):PO t e (λx r=>QV e hp pw I0 x (r.1,V r)) s a:=
 Km (VF e) (λr=>(V r,(r.1.l (.pointer pw) (.pointer none)).toArray,some ((I.l (.pointer none)).toArray,I.walk.map λW=>W.l.toArray))) (kD hp) c d λ_ h f=>⟨h,db ⟨I,b,f⟩⟩
end
def pP{f:Type}{l:List f}{i:Nat}{c:f}(b:l[i]?=some c):l.set i c=l:=by
 apply ni;intro j;rw[qa];split
 ·rename_i d;subst d;split
  ·exact b.symm
  ·rename_i g;rw[ik Zo] at b;cases b
 ·rfl
def O9{e:Env}{k:Nat->Nat}{cs:List SC}{i:Nat}{c:SC}{L:Value->List Value}(d:cs[i]?=some c)(f:∀q,L q=(L (.pointer none)).set i q)(h:Yp e k (cs.set i xa)=(L (.pointer none)).toArray):Yp e k cs=(L (c.den e k)).toArray:=by
 have b:=iy Array.toList h;rw[f (c.den e k)];unfold Yp at b ⊢;simp only[List.map_set] at b;rw[←b,ob,←List.map_set,pP d]
def poV{P:Program}{e:Env}{S:List X8}{n f:Nat}{args:List SV}{st:St}{g:Nat}{cs:List SC}{w:World}{k:Array Value}{r:Xc × Xi}{V:Xc × Xi->Value}{pw pi:Option Go.Addr}{I0:Option Xf}(hm:P.follows .mixedOrders=true)(hS:E5 P e S)(hp:st.hp=[(1,186,cs)])(A:Bd e st.Co)
  (hb:Bk w g 186 (Yp e (DF [g]) cs))(aa:e.val 1=.pointer pi)
  (h:PO (Dq (exec P S n (.call f args) st)) e (λx r=>QV e st.hp pw I0 x (r.1,V r)) st.Co r)(p:Rt (Ym st.hp) st.hp=true:=by kernel_rfl)(C:args.all (Jk (Ym st.hp))=true:=by kernel_rfl)(ha:k=(args.map (SV.den e (DF [g]))).toArray:=by kernel_rfl)(ab:HJ S=true:=by kernel_rfl)(ad:¬f=DG:=by decide):
  Calls P f k w λen w'=>Sd pw pi r.1 (V r) I0 g w en w':=by
 obtain⟨⟨v,M⟩,Q,D,b⟩:=h A
 refine(CZ hm hS Q A (Db [g]) (λz R=>?_) p C (λz R y hy _=>?_) ha ab ad).mono λen w' hx=>?_
 ·rw[hp] at R;rw[ft.1 R];exact Y1 (show Bk w (DF [g] 1) _ _ from hb) rfl
 ·rw[hp] at R hy;rw[ft.1 R,ft.1 hy]
 obtain⟨k',q⟩:=hx
 unfold kD at D
 simp only[gm] at D
 obtain⟨⟨o1,i⟩,o3⟩:=D
 have Z:=IQ o1
 have l1:FH 1 (Ym st.hp)=true:=BA.2 (by rw[hp];exact ft.2 rfl)
 have E:∀l∈I3 M st.hp,DF [g] l∈[g]:=λl hl=>by
  have:=g9.1 o3 l hl;obtain rfl:l=1:=by simpa using this
  exact ft.2 rfl
 have T:∀(J:Xc) (q:Value),J.l (.pointer pw) q=(J.l (.pointer pw) (.pointer none)).set 43 q:=λJ q=>Zk
 have ae:∀(I:Xf) (q:Value),I.l q=(I.l (.pointer none)).set 27 q:=λI q=>Zk
 (try simp only at Z i)
 cases N:(cellAt 1 M)[43]? with
 |none=>rw[N] at i;cases i
 |some c=>
  rw[N] at i
  have i:wu st.hp M c=true:=i
  unfold wu at i
  rw[ka] at i
  rcases b with⟨hi,b⟩|⟨I,hi,b⟩
  ·have F:=b k';unfold VF inV gM at F;simp only[N,sv] at F;injection F with O u;injection u with u B;(try simp only at O u);have af:N6 c=none:=by
    cases U:N6 c with
    |none=>rfl
    |some l=>rw[U] at B;cases B
   rw[af] at i;simp only[im,or_false] at i;have G:=yQ i;subst G;have X:=O9 N (T _) u;have e5:(SC.Ba 1).den e k'=.pointer pi:=aa;rw[e5] at X;exact uw q l1 rfl Z X O rfl E hi
  ·have F:=b k';unfold VF inV gM at F;simp only[N,sv] at F;injection F with O u;injection u with u B;(try simp only at O u);cases U:N6 c with
   |none=>rw[U] at B;cases B
   |some l=>
    rw[U] at B i;have G:=Sp U;subst G;simp only[j5,gu,jd] at B;obtain⟨e5,o⟩:=B;simp only[show yR 1 (SC.ptr l 0)=false from rfl,im,false_or,gm,jp] at i;obtain⟨⟨o4,o5⟩,j⟩:=i;have m2:=IQ o4;have X:=O9 N (T _) u;cases hd:(cellAt l M)[27]? with
    |none=>rw[hd] at j;cases j
    |some d=>
     rw[hd] at j o;have j:okW st.hp M l d=true:=j;unfold okW at j;have Y:=O9 hd (ae I) e5;simp only[sv] at o;cases hn:kG d with
     |true=>
      have H:=dE hn;subst H;have K:I.walk=none:=by
       cases K:I.walk with
       |none=>rfl
       |some W=>rw[K] at o;cases o
      exact ux q l1 rfl Z m2 o5 X O rfl E hi Y K
     |false=>
      rw[hn,Bool.false_or] at j;cases L:N6 d with
      |none=>rw[L] at j;cases j
      |some m=>
       rw[L] at j o;have H:=Sp L;subst H;have j:(!(l==m)&&tC 261 m M&&!FH m (Ym st.hp))=true:=j;simp only[gm,jp] at j;obtain⟨⟨o7,o8⟩,o9⟩:=j;cases K:I.walk with
       |none=>rw[K] at o;cases o
       |some W=>
        rw[K] at o;simp only[j5,gu] at o;exact wL q l1 rfl Z m2 o5 (IQ o8) o9 o7 X O rfl E hi Y K o
def aV(J:Xc)(h:EK J.wanted J.Ao):J.CD=bif J.Ao==J.wanted then J.perform else bif Bb J.wanted==J.Ao then({J with child:=J.wanted,pc:=3},Xu) else
  bif Bb (Bb J.wanted)==J.Ao then({J with child:=Bb J.wanted,pc:=3},Xu) else bif Bb (Bb (Bb J.wanted))==J.Ao then({J with child:=Bb (Bb J.wanted),pc:=3},Xu) else(J,Xi.zero):=by
 unfold Xc.CD Bv
 cases a:J.Ao==J.wanted with
 |true=>rfl
 |false=>
  cases b:Bb J.wanted==J.Ao with
  |true=>rfl
  |false=>
   cases c:Bb (Bb J.wanted)==J.Ao with
   |true=>rfl
   |false=>
    cases d:Bb (Bb (Bb J.wanted))==J.Ao with
    |true=>rfl
    |false=>exact(Uf h a b c d).elim
