/- Core: Base, Mem, Store, SymA, Run, Sto, FnA, Qlr. -/
import Derived.WalkSpells
import Derived.WalkLawsBesides
import Derived.Deep.Draws
import Derived.Laws.OwnMore
import Derived.Deep.AppendLies
import Derived.Laws.Rows
import Derived.Test.YtaipogljokblkaaGreatDoorP01
import Derived.OwnWalk
import Derived.Deep.MidRow
import Derived.Deep.AppendSrc
import Derived.Laws.CopyOwn
import Derived.IntWalk
import Derived.Test.YtaipogljokblkaaGreatDoorRows
import Derived.Deep.QuietTactic
import Derived.Deep.RegionHeld3
set_option linter.all false
set_option maxRecDepth 100000
set_option maxHeartbeats 8000000
namespace Go.Proofs.YtaipogljokblkaaGreatDoor
open Go Go.RowKit
def Jl(s:ByteArray)(n:Nat):Nat:=if h:n<s.size then s[n].toNat else 0
def IW(s:ByteArray)(n:Nat):Jl s n<256:=by
 unfold Jl;split
 ·exact UInt8.toNat_lt _
 ·omega
def rest(s:ByteArray)(k:Nat):ByteArray:=s.extract k s.size
def M7(s:ByteArray)(k:Nat):(rest s k).size=s.size-k:=by
 simp[rest]
def below_drewN{B:Nat}{a w:World}(h:Below B a w)(n:Nat):Below B a (w.drewN n):=⟨h.os,h.tape,h.output,h.size,h.block⟩
def N1{W w1:World}(a:Below W.heap.size W w1):(∀b o,b<W.heap.size->w1.cell? ⟨b,o,none⟩=W.cell? ⟨b,o,none⟩)/\(∀b o,b<W.heap.size->w1.frozen? ⟨b,o,none⟩=W.frozen? ⟨b,o,none⟩):=
 ⟨λb o h=>a.cell (p:=⟨b,o,none⟩) h,λb o h=>a.frozen (p:=⟨b,o,none⟩) h⟩
def SI{w:World}{p:Addr}{v:Value}(h:w.cell? p=some v):w.setCell p v=w:=by
 have b:(w.setCell p v).heap=w.heap:=by
  apply p5;intro i;simp only[World.setCell,pk];by_cases d:p.block=i
  ·subst d;unfold World.cell? at h;cases g:w.heap[p.block]? with
   |none=>simp[g] at h
   |some o=>
    cases o<;>simp[g] at h;rename_i c e f;obtain⟨k,a⟩:=h;simp[k];apply p5;intro j;rw[n4];split
    ·rename_i l;subst l;split
     ·exact a.symm
     ·rename_i m;rw[ln Zo] at a;cases a
    ·rfl
  ·simp[d]
 cases w;simp only[World.setCell] at b ⊢;rw[b]
def iZ(s:ByteArray):rest s 0=s:=by
 simp[rest]
def jA(s:ByteArray)(k:Nat):(rest s k).extract 1 (rest s k).size=rest s (k+1):=by
 apply ByteArray.ext;simp[rest,ByteArray.data_extract,Array.extract_extract];congr 1;omega
def jB(s:ByteArray)(k:Nat)(h:k<s.size)(h':0<(rest s k).size):(rest s k)[0].toNat=Jl s k:=by
 unfold Jl;rw[dif_pos h];simp[rest,ByteArray.getElem_extract]
def Bk(w:World)(g:Nat)(t:TypeId)(cs:Array Value):Prop:=w.heap[g]?=some (.cells cs t (0,0))
section
variable{w w':World}{g:Nat}{t:TypeId}{cs:Array Value}
def Bk.lt(h:Bk w g t cs):g<w.heap.size:=by
 unfold Bk at h;rcases iw g w.heap.size with a|a
 ·exact a
 ·rw[ln a] at h;cases h
def Bk.cell(h:Bk w g t cs)(i:Nat):w.cell? ⟨g,i,none⟩=cs[i]?:=by
 unfold Bk at h;simp[World.cell?,h]
def Bk.free(h:Bk w g t cs)(i:Nat):w.frozen? ⟨g,i,none⟩=false:=by
 unfold Bk at h;simp[World.frozen?,h]
def Bk.same(h:Bk w g t cs)(a:w'.heap[g]?=w.heap[g]?):Bk w' g t cs:=by unfold Bk at*;rw[a];exact h
theorem Bk.new(w:World)(t:TypeId)(cs:Array Value):Bk (w.alloc (.cells cs t)) w.heap.size t cs:=by
 show(w.heap.push _)[w.heap.size]?=_;simp
def Bk.at_{w:World}{t:TypeId}{cs:Array Value}{g:Nat}(h:g=w.heap.size):Bk (w.alloc (.cells cs t)) g t cs:=by subst h;exact Bk.new w t cs
def Bk.drew(h:Bk w g t cs):Bk w.drew g t cs:=h
def Bk.drewN(h:Bk w g t cs)(n:Nat):Bk (w.drewN n) g t cs:=h
def Bk.alloc(h:Bk w g t cs)(o:Obj):Bk (w.alloc o) g t cs:=h.same (lp w o g h.lt)
def Bk.Ez(h:Bk w g t cs)(i:Nat)(u:Value):Bk (w.setCell ⟨g,i,none⟩ u) g t (cs.setIfInBounds i u):=by
 unfold Bk at*;simp[World.setCell,pk,h]
def Bk.A5(h:Bk w g t cs){p:Addr}(a:g≠p.block)(u:Value):Bk (w.setCell p u) g t cs:=h.same (Below.heap_setCell w p u g a)
def Bk.below{B:Nat}(h:Bk w g t cs)(a:Below B w w')(b:g<B):Bk w' g t cs:=h.same (a.block g b)
def Bk.Af(h:Bk w g t cs)(a:Below w.heap.size w w'):Bk w' g t cs:=h.below a h.lt
def Bk.grown{row:Option Nat}(h:Bk w g t cs)(a:w.grownBy w' row)(b:some g≠row):Bk w' g t cs:=h.same (a.block g h.lt b)
end
def X2(w:World)(b i:Nat)(u:Value):w.grownBy (w.setCell ⟨b,i,none⟩ u) (some b):=
 ⟨rfl,rfl,rfl,by simp[World.setCell],λk _ a=>Below.heap_setCell w ⟨b,i,none⟩ u k (λe=>a (by simp[e]))⟩
def Pk{w w':World}(h:Below w.heap.size w w')(row:Option Nat):w.grownBy w' row:=⟨h.os,h.tape,h.output,h.size,λk a _=>h.block k a⟩
def JT{w w':World}{row:Option Nat}(h:w.grownBy w' row){B:Nat}(a:B<=w.heap.size)(c:∀b,row=some b->B<=b):Below B w w':=
 (fx B w).grown h a c
def kA{w w':World}{base:Nat}{e:TypeId}{sz n:Nat}{v:Value}{xs:List Value}(h:w.ownsRow base e sz v n xs)(a:Below w.heap.size w w'):w'.ownsRow base e sz v n xs:=
 h.kept (Pk a none) (by cases b:v.ownBlock<;>simp)
def Zf{w:World}{base:Nat}{e:TypeId}{sz n:Nat}{v:Value}{xs:List Value}(h:w.ownsRow base e sz v n xs){a:Addr}(ha:a.block<base)(u:Value):(w.setCell a u).ownsRow base e sz v n xs:=
 ownsRow_setCell_below h ha u
def Jv{g:Nat}{t:TypeId}:∀(vs:List Value) (o:Nat) (w:World) (C:Array Value),Bk w g t C->o+vs.length<=C.size->
  ∃d,Bk (w.setCells g o vs) g t d/\d.toList=C.toList.take o++vs++C.toList.drop (o+vs.length)/\w.grownBy (w.setCells g o vs) (some g)/\(w.setCells g o vs).heap.size=w.heap.size
 |[],o,w,C,h,_=>⟨C,h,by simp,⟨rfl,rfl,rfl,Nat.le_refl _,λ_ _ _=>rfl⟩,rfl⟩
 |v::r,o,w,C,h,j=>by
  simp only[jb] at j;have l:=h.Ez o v;obtain⟨d,m,n,b,p⟩:=Jv r (o+1) _ _ l (by simp;omega);have a:=X2 w g o v;have f:(w.setCell ⟨g,o,none⟩ v).heap.size=w.heap.size:=by simp[World.setCell]
  refine⟨d,m,?_,?_,p.trans f⟩
  ·rw[n];have e:(C.setIfInBounds o v).toList=C.toList.take o++v::C.toList.drop (o+1):=by
    rw[mi,p7,ga (by simp;omega)]
   rw[e];have i:∀A B:List Value,A.length=o->(A++v::B).take (o+1)++r++(A++v::B).drop (o+1+r.length)=A++(v::r)++B.drop r.length:=by
    intro A B q;subst q;rw[oa,show A.length+1+r.length=A.length+(1+r.length) from Zo,oe];simp[Nat.add_comm 1 r.length]
   rw[i _ _ (by simp;omega),List.drop_drop];congr 2;simp;omega
  ·exact⟨b.os.trans a.os,b.tape.trans a.tape,b.output.trans a.output,gb a.size b.size,λk s c=>(b.block k Zo c).trans (a.block k s c)⟩
structure Gu(w:World)(g:Nat)(t:TypeId)(cs:Array Value)(w':World):Prop where
 bk:Bk w' g t cs
 grown:w.grownBy w' (some g)
 size:w'.heap.size=w.heap.size
section
variable{w w':World}{g:Nat}{t:TypeId}{cs:Array Value}
def Gu.below(h:Gu w g t cs w'){B:Nat}{a:World}(c:Below B a w)(d:B<=g):Below B a w':=c.grown h.grown (by have:=h.bk.lt;have:=h.size;omega) (λb e=>by cases e;exact d)
def Gu.A5(h:Gu w g t cs w'){k:Nat}{u:TypeId}{ds:Array Value}(b:Bk w k u ds)(a:k≠g):Bk w' k u ds:=b.grown h.grown (by simpa using a)
end
section
variable{P:Program}
def Jd{c:Array Oper}{rest:List Oper}{op:Oper}{a:Act}{w:World}{Q:Exit->Act->World->Prop}(f:op.guard=none)(i:TypeId)(x y:Operand)(m:op.op=.store i x y)
  (g:Nat)(b:Array Value)(n:a.eval x=.pointer (some ⟨g,0,none⟩))(o:a.eval y=.agg b)(t:TypeId)(cs:Array Value)(k:Bk w g t cs)(d:cs.size=b.size)
  (p:(P.info? i).map (·.size)=some b.size)(q:b.toList.all (·.oneCell')=true)
  (h:∀w',Gu w g t b w'->wpList P c Q rest (a.put op.dst undef) w'):wpList P c Q (op::rest) a w:=by
 obtain⟨l,r,s,u,v⟩:=Jv b.toList 0 w cs k (by simp[d])
 have e:l=b:=by
  apply kx.1;rw[s];simp[d]
 subst e
 refine wpList_store_mid f i x y m g 0 l n o (λj z=>⟨?_,?_⟩) p (by rw[←Array.all_toList];exact q) (h _ ⟨r,u,v⟩)
 ·rw[ml,k.cell,mn Zo];rfl
 ·rw[ml];exact k.free j
def vM{c:Array Oper}{rest:List Oper}{op:Oper}{a:Act}{w:World}{Q:Exit->Act->World->Prop}{d:TypeId}{x y:Operand}{g:Nat}{b:Array Value}{t:TypeId}{cs:Array Value}(i:Bk w g t cs)(h:∀w',Gu w g t b w'->wpList P c Q rest (a.put op.dst undef) w')(e:op.guard=none:=by rfl)(j:op.op=.store d x y:=by rfl)(k:a.eval x=.pointer (some ⟨g,0,none⟩):=by rfl)(l:a.eval y=.agg b:=by rfl)(f:cs.size=b.size:=by rfl)(m:(P.info? d).map (·.size)=some b.size:=by kernel_rfl)(n:b.toList.all (·.oneCell')=true:=by rfl):wpList P c Q (op::rest) a w:=Jd e d x y j g b k l t cs i f m n h
end
inductive Tm where
 |lit (n:Int)|var (i:Nat)|add (a b:Tm)|sub (a b:Tm)|mul (a b:Tm)|quo (a:Tm) (d:Int)|rem (a:Tm) (d:Int)
 deriving DecidableEq
inductive BT where
 |lit (b:Bool)|var (i:Nat)|eq (a b:Tm)|lt (a b:Tm)|le (a b:Tm)|not (a:BT)|and (a b:BT)|or (a b:BT)|beq (a b:BT)|nil (i:Nat)|kH (i:Nat)
 deriving DecidableEq
inductive SC where
 |lit (v:Value)|int (t:Tm)|bool (b:BT)|Ba (i:Nat)|ptr (l o:Nat)|xw (t:TypeId) (l o:Nat)|vt (i:Nat) (n:Tm)
inductive SV where
 |c (x:SC)|agg (l:List SC)|Jt (l:List (Bool × List SC))
inductive Yd(α:Type) where
 |leaf (a:α)|br (b:BT) (t e:Yd α)|fail (why:String)
structure Env where
 int:Nat->Int
 bool:Nat->Bool
 val:Nat->Value
 one:∀i,(val i).oneCell'=true
def Tm.den(e:Env):Tm->Int
 |.lit n=>n
 |.var i=>e.int i
 |.add a b=>IntKind.i64.wrap (a.den e+b.den e)
 |.sub a b=>IntKind.i64.wrap (a.den e-b.den e)
 |.mul a b=>IntKind.i64.wrap (a.den e*b.den e)
 |.quo a d=>IntKind.i64.wrap ((a.den e).tdiv d)
 |.rem a d=>(a.den e).tmod d
def V1:Value->Bool
 |.pointer (some _)=>false
 |_=>true
def ww:Value->Bool
 |.iface _ _=>false
 |_=>true
def BT.den(e:Env):BT->Bool
 |.kH i=>ww (e.val i)
 |.nil i=>V1 (e.val i)
 |.lit b=>b
 |.var i=>e.bool i
 |.eq a b=>a.den e==b.den e
 |.lt a b=>decide (a.den e<b.den e)
 |.le a b=>decide (a.den e<=b.den e)
 |.not a=>!a.den e
 |.and a b=>a.den e&&b.den e
 |.or a b=>a.den e||b.den e
 |.beq a b=>a.den e==b.den e
def WY:Value->Option Addr × Nat
 |.slice a _ c=>(a,c)
 |_=>(none,0)
abbrev SC.bV(n:Nat):SC:=.bool (.var n)
abbrev SC.iV(n:Nat):SC:=.int (.var n)
def SC.den(e:Env)(β:Nat->Nat):SC->Value
 |.lit v=>v
 |.int t=>.int .i64 (t.den e)
 |.bool b=>.bool (b.den e)
 |.Ba i=>e.val i
 |.ptr l o=>.pointer (some ⟨β l,o,none⟩)
 |.xw t l o=>.iface t (.pointer (some ⟨β l,o,none⟩))
 |.vt i n=>.slice (WY (e.val i)).1 (n.den e).toNat (WY (e.val i)).2
def Yp(e:Env)(β:Nat->Nat)(l:List SC):Array Value:=(l.map (SC.den e β)).toArray
def T6(e:Env)(β:Nat->Nat)(p:Bool × List SC):Value:=if p.1 then .agg (Yp e β p.2) else(p.2.headD (.lit undef)).den e β
def SV.den(e:Env)(β:Nat->Nat):SV->Value
 |.c x=>x.den e β
 |.agg l=>.agg (Yp e β l)
 |.Jt l=>.tuple (l.map (T6 e β)).toArray
def Yd.bind{c β:Type}:Yd c->(c->Yd β)->Yd β
 |.leaf a,f=>f a
 |.br b t e,f=>.br b (t.bind f) (e.bind f)
 |.fail w,_=>.fail w
def Yd.BD{c:Type}(e:Env):Yd c->Option c
 |.leaf a=>some a
 |.br b t f=>match b.den e with
  |true=>t.BD e
  |false=>f.BD e
 |.fail _=>none
def Tm.mk(f:Int->Int->Int)(g:Tm->Tm->Tm):Tm->Tm->Tm
 |.lit a,.lit b=>.lit (IntKind.i64.wrap (f a b))
 |a,b=>g a b
def Tm.sG:Tm->Int->Tm
 |.lit a,d=>.lit (IntKind.i64.wrap (a.tdiv d))
 |a,d=>.quo a d
def Tm.sF:Tm->Int->Tm
 |.lit a,d=>.lit (a.tmod d)
 |a,d=>.rem a d
def BT.VQ:Tm->Tm->BT
 |.lit a,.lit b=>.lit (a==b)
 |a,b=>if a=b then .lit true else .eq a b
def BT.zI:Tm->Tm->BT
 |.lit a,.lit b=>.lit (decide (a<b))
 |a,b=>.lt a b
def BT.zJ:Tm->Tm->BT
 |.lit a,.lit b=>.lit (decide (a<=b))
 |a,b=>.le a b
def BT.LC:BT->BT
 |.lit b=>.lit (!b)
 |.not b=>b
 |b=>.not b
def BT.dF:BT->BT->BT
 |.lit true,b=>b
 |.lit false,_=>.lit false
 |a,.lit true=>a
 |_,.lit false=>.lit false
 |a,b=>.and a b
def BT.xg:BT->BT->BT
 |.lit true,_=>.lit true
 |.lit false,b=>b
 |_,.lit true=>.lit true
 |a,.lit false=>a
 |a,b=>.or a b
def BT.sH:BT->BT->BT
 |.lit true,b=>b
 |.lit false,b=>b.LC
 |a,.lit true=>a
 |a,.lit false=>a.LC
 |a,b=>if a=b then .lit true else .beq a b
abbrev Gj:=List (BT × Bool)
def J7(b:BT):Gj->Option Bool
 |[]=>none
 |(x,v)::r=>if x=b then some v else J7 b r
def known(s:Gj):BT->BT
 |.lit b=>.lit b
 |.not a=>(known s a).LC
 |b=>match J7 b s with
  |some v=>.lit v
  |none=>b
def IZ(b:BT)(v:Bool)(s:Gj):Gj:=
 match b,v with
 |.not x,v=>(x,!v)::s
 |.and x y,true=>(x,true)::(y,true)::s
 |.or x y,false=>(x,false)::(y,false)::s
 |b,v=>(b,v)::s
def KP:Value->SC
 |.int .i64 n=>.int (.lit n)
 |.bool b=>.bool (.lit b)
 |v=>.lit v
def ofValue:Value->SV
 |.agg a=>.agg (a.toList.map KP)
 |v=>.c (KP v)
abbrev FB:SV:=.c (.lit undef)
def SC.one:SC->Bool
 |.lit v=>v.oneCell'
 |_=>true
def SV.cells?:SV->Option (List SC)
 |.c x=>if x.one then some [x] else none
 |.agg l=>some l
 |.Jt _=>none
abbrev Heap:=List (Nat × TypeId × List SC)
abbrev Xo:=List (Nat × SV)
structure St where
 fr:Xo
 hp:Heap
 Co:Gj
 nx:Nat
 sz:Nat
def vW:Nat:=1000000
def St.ph(st:St):Nat:=st.nx/vW
def MK(j n:Nat):Nat:=j*vW+n%vW
def DG:Nat:=1000000000
def HU(t:Nat):Xo->SV
 |[]=>FB
 |(k,v)::r=>if k==t then v else if k<t then FB else HU t r
def tD(t:Nat)(x:SV):Xo->Xo
 |[]=>[(t,x)]
 |(k,v)::r=>if k==t then(t,x)::r else if k<t then(t,x)::(k,v)::r else(k,v)::tD t x r
def ev(fr:Xo):Operand->SV
 |.tmp t=>HU t fr
 |.const v=>ofValue v
 |.global g=>.c (.ptr (2*g) 0)
 |.func f=>.c (.lit (.func (.func f) #[] #[]))
def EW(a:Option Nat)(v:SV)(st:St):St:=
 match a with
 |some d=>{st with fr:=tD d v st.fr}
 |none=>st
def Ee(l:Nat):Heap->Option (TypeId × List SC)
 |[]=>none
 |(k,t,a)::r=>if k==l then some (t,a) else Ee l r
def KL(l:Nat)(cs:List SC)(h:Heap):Heap:=h.map λx=>if x.1==l then(x.1,x.2.1,cs) else x
def QA(x:Nat × TypeId × List SC):Heap->Heap
 |[]=>[x]
 |y::r=>if y.1<x.1 then y::QA x r else x::y::r
section
variable(P:Program)
def Pd(t:TypeId):Option Bool:=
 match P.underlying t with
 |some (.struct _)|some (.array _ _)=>some true
 |some _=>some false
 |none=>none
def OM(t:TypeId)(cs:List SC)(a:Nat):Option SV:=
 match Pd P t,P.info? t with
 |some true,some i=>if a+i.size<=cs.length then some (.agg ((cs.drop a).take i.size)) else none
 |some false,some _=>match cs[a]? with
  |some x=>if x.one then some (.c x) else none
  |none=>none
 |_,_=>none
def splice(cs:List SC)(a:Nat)(vs:List SC):List SC:=cs.take a++vs++cs.drop (a+vs.length)
def N'(t:TypeId)(x y:SC):Option BT:=
 match P.underlying t,x,y with
 |some .bool,.bool a,.bool b=>some (BT.sH a b)
 |some (.int .i64),.int a,.int b=>some (BT.VQ a b)
 |some (.pointer _),.lit (.pointer none),.lit (.pointer none)=>some (.lit true)
 |some (.pointer _),.ptr _ _,.lit (.pointer none)=>some (.lit false)
 |some (.pointer _),.lit (.pointer none),.ptr _ _=>some (.lit false)
 |some (.interface _),.xw _ _ _,.lit .nilIface=>some (.lit false)
 |_,_,_=>none
def eqF(xs a:List SC):List Field->Option BT
 |[]=>some (.lit true)
 |f::r=>if f.name= "_" then none else
  match Pd P f.type,xs[f.offset]?,a[f.offset]? with
  |some false,some x,some y=>match N' P f.type x y with
   |some b=>match eqF xs a r with
    |some c=>some (BT.dF b c)
    |none=>none
   |none=>none
  |_,_,_=>none
def zi(t:TypeId):SV->SV->Option BT
 |.c x,.c y=>if x.one&&y.one then N' P t x y else none
 |.agg a,.agg b=>match P.underlying t with
  |some (.struct d)=>if P.stoodInHeld t||P.eqGuardType P.depth t then none else eqF P a b d.toList
  |_=>none
 |_,_=>none
def ym(op:BinOp)(t:TypeId)(x y:SV):Option SV:=
 match op,x,y with
 |.eql,.c (.int a),.c (.int b)=>some (.c (.bool (BT.VQ a b)))
 |.neq,.c (.int a),.c (.int b)=>some (.c (.bool (BT.VQ a b).LC))
 |.lss,.c (.int a),.c (.int b)=>some (.c (.bool (BT.zI a b)))
 |.leq,.c (.int a),.c (.int b)=>some (.c (.bool (BT.zJ a b)))
 |.gtr,.c (.int a),.c (.int b)=>some (.c (.bool (BT.zI b a)))
 |.geq,.c (.int a),.c (.int b)=>some (.c (.bool (BT.zJ b a)))
 |.add,.c (.int a),.c (.int b)=>some (.c (.int (Tm.mk (·+·) .add a b)))
 |.sub,.c (.int a),.c (.int b)=>some (.c (.int (Tm.mk (· -·) .sub a b)))
 |.mul,.c (.int a),.c (.int b)=>some (.c (.int (Tm.mk (·*·) .mul a b)))
 |.quo,.c (.int a),.c (.int (.lit d))=>if d=0 then none else some (.c (.int (a.sG d)))
 |.rem,.c (.int a),.c (.int (.lit d))=>if d=0 then none else some (.c (.int (a.sF d)))
 |.eql,x,y=>match zi P t x y with
  |some b=>some (.c (.bool b))
  |none=>none
 |.neq,x,y=>match zi P t x y with
  |some b=>some (.c (.bool b.LC))
  |none=>none
 |_,_,_=>none
def Wg(place:Nat->Option (Nat × Nat))(a:List SC):List (Nat × SV)->Option (List SC)
 |[]=>some a
 |(i,v)::rest=>
  match place i,v.cells? with
  |some (b,size),some l=>if l.length=size/\b+l.length<=a.length then Wg place (splice a b l) rest else none
  |_,_=>none
def rO(fr:Xo)(l:List (Nat × Operand)):List (Nat × SV):=l.map λp=>(p.1,ev fr p.2)
def V2(s:Gj)(op:BinOp)(t:TypeId)(x:SV)(y:Operand):Option SV:=
 match op,x,y,P.underlying t with
 |.eql,.c (.Ba i),.const (.pointer none),some (.pointer _)=>if J7 (.nil i) s=some false then some (.c (.bool (.lit false))) else none
 |.neq,.c (.Ba i),.const (.pointer none),some (.pointer _)=>if J7 (.nil i) s=some false then some (.c (.bool (.lit true))) else none
 |.eql,.c (.lit .nilIface),.const .nilIface,some (.interface _)=>some (.c (.bool (.lit true)))
 |.neq,.c (.lit .nilIface),.const .nilIface,some (.interface _)=>some (.c (.bool (.lit false)))
 |_,_,_,_=>none
def Rj(fr:Xo)(s:Gj):Op->Option SV
 |.move x|.assign x=>some (ev fr x)
 |.pick c a b=>match ev fr c with
  |.c (.bool q)=>match known s q with
   |.lit true=>some (ev fr a)
   |.lit false=>some (ev fr b)
   |m=>match ev fr a,ev fr b with
    |.c (.bool (.lit true)),.c (.bool y)=>some (.c (.bool (BT.xg m y)))
    |.c (.bool x),.c (.bool (.lit false))=>some (.c (.bool (BT.dF m x)))
    |_,_=>none
  |_=>none
 |.nilCheck x=>match ev fr x with
  |.c (.ptr l o)=>some (.c (.ptr l o))
  |.c (.Ba i)=>if J7 (.kH i) s=some false then some (.c (.Ba i)) else none
  |_=>none
 |.fieldAddr s x f=>match P.underlying s,ev fr x with
  |some (.struct d),.c (.ptr l o)=>match d[f]? with
   |some g=>match P.info? g.type with
    |some i=>if i.size=0 then none else some (.c (.ptr l (o+g.offset)))
    |none=>none
   |none=>none
  |_,_=>none
 |.field t x f=>match P.underlying t,ev fr x with
  |some (.struct d),.agg h=>match d[f]? with
   |some g=>OM P g.type h g.offset
   |none=>none
  |_,_=>none
 |.extract t i=>match ev fr t with
  |.Jt l=>match l[i]? with
   |some (true,h)=>some (.agg h)
   |some (false,[x])=>some (.c x)
   |_=>none
  |_=>none
 |.binOp op t x y _=>match V2 P s op t (ev fr x) y with
  |some v=>some v
  |none=>ym P op t (ev fr x) (ev fr y)
 |.unOp .not _ x=>match ev fr x with
  |.c (.bool b)=>some (.c (.bool b.LC))
  |_=>none
 |.indexAddr t x n=>match P.underlying t,ev fr x,ev fr n with
  |some (.array j e),.c (.ptr l o),.c (.int (.lit i))=>match P.info? e with
   |some k=>if 0<=i/\i<(j:Int) then some (.c (.ptr l (o+i.toNat*k.size))) else none
   |none=>none
  |_,_,_=>none
 |.build t parts=>match P.info? t,P.underlying t with
  |some p,some (.struct d)=>match p.zero,d.toList.mapM (λf=>(P.info? f.type).map λi=>(f.offset,i.size)) with
   |some z,some r=>match Wg (r.toArray[·]?) (z.cells.toList.map KP) (rO fr parts.toList) with
    |some l=>some (.agg l)
    |none=>none
   |_,_=>none
  |_,_=>none
 |.makeInterface t x=>match P.underlying t,ev fr x with
  |some (.pointer _),.c (.ptr l o)=>some (.c (.xw t l o))
  |some (.pointer _),.c (.lit (.pointer none))=>some (.c (.lit (.iface t (.pointer none))))
  |_,_=>none
 |_=>none
def Pj(e:Array Oper)(o:Oper)(st:St):Option BT:=
 match o.guard with
 |none=>some (.lit true)
 |some (j,a)=>match(e[j]?).bind (·.dst) with
  |some d=>match HU d st.fr with
   |.c (.bool b)=>some (if a then known st.Co b else(known st.Co b).LC)
   |_=>none
  |none=>none
def kV(a:Option Nat)(i:Tm)(l o size:Nat):List Nat->St->Yd St
 |[],_=>.fail "index"
 |j::r,st=>match known st.Co (BT.VQ i (.lit (j:Int))) with
  |.lit true=>.leaf (EW a (.c (.ptr l (o+j*size))) st)
  |.lit false=>kV a i l o size r st
  |b=>.br b (.leaf (EW a (.c (.ptr l (o+j*size))) {st with Co:=IZ b true st.Co})) (kV a i l o size r {st with Co:=IZ b false st.Co})
def YY(callf:Nat->List SV->St->Yd (SV × St))(lab:Nat)(o:Oper)(st:St):Yd St:=
 match Rj P st.fr st.Co o.op with
 |some v=>.leaf (EW o.dst v st)
 |none=>
 match o.op with
 |.indexAddr t x h=>match P.underlying t,ev st.fr x,ev st.fr h with
  |some (.array g e),.c (.ptr l of),.c (.int i)=>match P.info? e with
   |some d=>kV o.dst i l of d.size (List.range g) st
   |none=>.fail o.pos
  |_,_,_=>.fail o.pos
 |.load t a=>match ev st.fr a with
  |.c (.ptr l i)=>match Ee l st.hp with
   |some (_,b)=>match OM P t b i with
    |some v=>.leaf (EW o.dst v st)
    |none=>.fail o.pos
   |none=>.fail o.pos
  |_=>.fail o.pos
 |.alloc t=>match(P.info? t).bind (·.zero),Ee lab st.hp with
  |some z,none=>match(ofValue z).cells? with
   |some b=>.leaf (EW o.dst (.c (.ptr lab 0)) {st with hp:=QA (lab,t,b) st.hp})
   |none=>.fail o.pos
  |_,_=>.fail o.pos
 |.box t x=>match(ev st.fr x).cells?,Ee lab st.hp with
  |some b,none=>.leaf (EW o.dst (.c (.ptr lab 0)) {st with hp:=QA (lab,t,b) st.hp})
  |_,_=>.fail o.pos
 |.store t a x=>match ev st.fr a,(ev st.fr x).cells?,P.info? t with
  |.c (.ptr l i),some vs,some d=>match Ee l st.hp with
   |some (_,b)=>if vs.length=d.size/\i+vs.length<=b.length/\vs.all SC.one=true then .leaf (EW o.dst FB {st with hp:=KL l (splice b i vs) st.hp}) else .fail o.pos
   |none=>.fail o.pos
  |_,_,_=>.fail o.pos
 |.call c=>match c.callee with
  |.value (.func f)=>if f=DG then .fail o.pos else(callf f (c.args.toList.map (ev st.fr)) st).bind λr=>.leaf (EW o.dst r.1 {r.2 with fr:=st.fr,sz:=st.sz})
  |.invoke t name=>if name= "Next" then(callf DG (ev st.fr t::c.args.toList.map (ev st.fr)) st).bind λr=>.leaf (EW o.dst r.1 {r.2 with fr:=st.fr,sz:=st.sz}) else .fail o.pos
  |.builtin .len=>match c.args.toList.map (ev st.fr),(c.argTypes[0]?).bind P.underlying with
   |[.c (.vt _ n)],some (.slice _)=>match known st.Co (.le (.lit 0) n) with
    |.lit true=>.leaf (EW o.dst (.c (.int n)) st)
    |_=>.fail o.pos
   |_,_=>.fail o.pos
  |_=>.fail o.pos
 |_=>.fail o.pos
def zd(o:Oper)(st:St):Bool:=
 match o.dst with
 |some d=>decide (d<st.sz)
 |none=>true
def Oz(callf:Nat->List SV->St->Yd (SV × St))(a:Array Oper)(lab:Nat)(o:Oper)(st:St):Yd St:=
 if zd o st=false then .fail "slot" else
 match Pj a o st with
 |none=>.fail o.pos
 |some (.lit true)=>YY P callf lab o st
 |some (.lit false)=>.leaf (EW o.dst FB st)
 |some b=>.br b (YY P callf lab o {st with Co:=IZ b true st.Co}) (.leaf (EW o.dst FB {st with Co:=IZ b false st.Co}))
def pQ(callf:Nat->List SV->St->Yd (SV × St))(a:Array Oper):List Oper->Nat->St->Yd St
 |[],_,st=>.leaf st
 |o::rest,k,st=>(Oz P callf a (2*(st.nx%vW+k)+1) o st).bind (pQ callf a rest (k+1))
def maxH(h:Heap)(n:Nat):Nat:=h.foldl (λm x=>if m<=x.1/2 then x.1/2+1 else m) n
def bump(st:St):St:={st with nx:=MK st.ph (maxH st.hp (st.nx%vW))}
def sV:Value->Value->Bool
 |.int j a,.int k b=>decide (j=k)&&decide (a=b)
 |.bool a,.bool b=>a==b
 |.pointer none,.pointer none=>true
 |.nilIface,.nilIface=>true
 |.nilFunc,.nilFunc=>true
 |.slice none 0 0,.slice none 0 0=>true
 |.iface s (.pointer none),.iface t (.pointer none)=>decide (s=t)
 |.tuple a,.tuple b=>a.size==0&&b.size==0
 |_,_=>false
def SC.same:SC->SC->Bool
 |.lit a,.lit b=>sV a b
 |.int a,.int b=>decide (a=b)
 |.bool a,.bool b=>decide (a=b)
 |.Ba a,.Ba b=>decide (a=b)
 |.ptr a b,.ptr c d=>decide (a=c)&&decide (b=d)
 |.xw t a b,.xw u c d=>decide (t=u)&&decide (a=c)&&decide (b=d)
 |.vt a b,.vt c d=>decide (a=c)&&decide (b=d)
 |_,_=>false
def EV{a:Type}(f:a->a->Bool):List a->List a->Bool
 |[],[]=>true
 |x::r,y::s=>f x y&&EV f r s
 |_,_=>false
def SV.same:SV->SV->Bool
 |.c x,.c y=>x.same y
 |.agg l,.agg m=>EV SC.same l m
 |.Jt l,.Jt m=>EV (λp q=>p.1==q.1&&EV SC.same p.2 q.2) l m
 |_,_=>false
def St.same(s t:St):Bool:=
 EV (λp q=>decide (p.1=q.1)&&p.2.same q.2) s.fr t.fr&&EV (λp q=>decide (p.1=q.1)&&decide (p.2.1=q.2.1)&&EV SC.same p.2.2 q.2.2) s.hp t.hp&&EV (λp q=>decide (p=q)) s.Co t.Co&&decide (s.nx=t.nx)&&decide (s.sz=t.sz)
def Yd.same:Yd St->Yd St->Bool
 |.leaf s,.leaf t=>s.same t
 |.br b x y,.br c u v=>decide (b=c)&&x.same u&&y.same v
 |_,_=>false
abbrev Node:=Nat × Yd St
def L3:Op->Bool
 |.move _|.assign _|.pick _ _ _|.nilCheck _|.fieldAddr _ _ _|.field _ _ _|.extract _ _|.binOp _ _ _ _ _|.unOp _ _ _|.build _ _|.makeInterface _ _=>true
 |_=>false
structure bW where
 pred:Nat
 look:Nat
 dst:Nat
 plain:Bool
def OJ:List Edge->Nat
 |[]=>0
 |e::r=>if Region.binds .any e then(1<<<e.on)|||OJ r else OJ r
def No:List Nat->Nat
 |[]=>0
 |t::r=>(1<<<t)|||No r
def Wm:Option Nat->Nat
 |some d=>1<<<d
 |none=>0
def F3(a:Array Oper):List Oper->List bW
 |[]=>[]
 |o::r=>⟨OJ o.after.toList,No (o.looksAt a),Wm o.dst,L3 o.op&&o.guard.isNone⟩::F3 a r
def Hy(L:Nat):List bW->Nat->List Nat
 |[],_=>[]
 |x::r,i=>if !L.testBit i&&(x.pred&&& L)==x.pred then i::Hy L r (i+1) else Hy L r (i+1)
def Wd(L i:Nat)(a:bW):List bW->Nat->Bool
 |[],_=>true
 |y::r,j=>(j==i||L.testBit j||y.pred.testBit i||((a.dst&&& (y.look|||y.dst))==0&&(y.dst&&& a.look)==0))&&Wd L i a r (j+1)
def OK(L:Nat)(a:List bW):List bW->Nat->Option Nat
 |[],_=>none
 |x::r,i=>if x.plain&&!L.testBit i&&(x.pred&&& L)==x.pred&&Wd L i x a 0 then some i else OK L a r (i+1)
def Gl(a:List bW)(L:Nat):List Nat:=
 match OK L a a 0 with
 |some i=>[i]
 |none=>Hy L a 0
def TI(callf:Nat->List SV->St->Yd (SV × St))(a:Array Oper)(b:Node)(i:Nat):Node:=
 (b.1 ||| (1 <<< i),b.2.bind fun st=>match a[i]? with
  |some o=>Oz P callf a (2*(st.nx%vW+i)+1) o st
  |none=>.fail "no operation")
def NT(callf:Nat->List SV->St->Yd (SV × St))(a:Array Oper)(b:List bW):List Node->Option (List Node)
 |[]=>some []
 |nd::r=>match Gl b nd.1 with
  |[]=>none
  |p::c=>match NT callf a b r with
   |some l=>some ((p::c).map (TI P callf a nd)++l)
   |none=>none
def dX(L:Nat):List Node->Option (Yd St)
 |[]=>none
 |n::r=>if n.1==L then some n.2 else dX L r
def OR:List Node->List Node->Option (List Node)
 |[],a=>some a
 |n::r,a=>match dX n.1 a with
  |some T=>if n.2.same T then OR r a else none
  |none=>OR r (n::a)
def uS(callf:Nat->List SV->St->Yd (SV × St))(c:Array Oper)(a:List bW):Nat->List Node->Option (Yd St)
 |0,b=>match b with
  |[(L,T)]=>match Hy L a 0 with
   |[]=>some T
   |_=>none
  |_=>none
 |m+1,b=>match NT P callf c a b with
  |some ss=>match OR ss [] with
   |some ns=>uS callf c a m ns
   |none=>none
  |none=>none
def vz(callf:Nat->List SV->St->Yd (SV × St))(b:Array Oper)(st:St):Yd St:=
 if Region.noSelect b then
  match uS P callf b (F3 b b.toList) b.size [(0,.leaf st)] with
  |some T=>T.bind λs=>.leaf (bump s)
  |none=>.fail "a region whose orders part"
 else .fail "select"
def SC.kO:SC->List Nat
 |.ptr l _|.xw _ l _=>[l]
 |_=>[]
def SV.kO:SV->List Nat
 |.c x=>x.kO
 |.agg l=>l.flatMap SC.kO
 |.Jt l=>l.flatMap λp=>p.2.flatMap SC.kO
def FH(l:Nat):List Nat->Bool
 |[]=>false
 |k::r=>k==l||FH l r
def tw(h:Heap)(AL:List Nat):List Nat:=
 h.foldl (λa x=>if FH x.1 a then(x.2.2.flatMap SC.kO).foldl (λa l=>if FH l a then a else l::a) a else a) AL
def okC(ls:List Nat):SC->Bool
 |.ptr l _|.xw _ l _=>l%2==0||FH l ls
 |_=>true
def J5(ls:List Nat):List SC->Bool
 |[]=>true
 |x::r=>okC ls x&&J5 ls r
def okP(ls:List Nat):List (Bool × List SC)->Bool
 |[]=>true
 |x::r=>J5 ls x.2&&okP ls r
def Jk(ls:List Nat):SV->Bool
 |.c x=>okC ls x
 |.agg l=>J5 ls l
 |.Jt l=>okP ls l
def Rt(ls:List Nat):Heap->Bool
 |[]=>true
 |x::r=>J5 ls x.2.2&&Rt ls r
def Rz(ls:List Nat):Heap->Heap
 |[]=>[]
 |x::r=>if FH x.1 ls then x::Rz ls r else Rz ls r
def Ym:Heap->List Nat
 |[]=>[]
 |x::r=>x.1::Ym r
def uZ(ls:List Nat):List Nat->Bool
 |[]=>true
 |l::r=>FH l ls&&uZ ls r
def G'(e:Heap)(v:SV)(h:Heap):Option Heap:=
 let a:=Ym e
 let b:=Rz a h
 if Jk a v&&Rt a b&&uZ (Ym b) a then some b else
 let k:=tw h (tw h (v.kO++a))
 let c:=Rz k h
 let d:=Ym c
 if Jk d v&&Rt d c&&uZ d a then some c else none
def SR(st:St):ResultVar->Option SV
 |.tmp t=>some (HU t st.fr)
 |.cell a t=>match HU a st.fr with
  |.c (.ptr l i)=>match Ee l st.hp with
   |some (_,b)=>OM P t b i
   |none=>none
  |_=>none
def SV.comp:SV->Option (Bool × List SC)
 |.c x=>some (false,[x])
 |.agg l=>some (true,l)
 |.Jt _=>none
def M9(st:St):List ResultVar->Option (List (Bool × List SC))
 |[]=>some []
 |r::a=>match SR P st r,M9 st a with
  |some v,some l=>match v.comp with
   |some p=>some (p::l)
   |none=>none
  |_,_=>none
def yK(fn:Func)(st:St):Option SV:=
 match fn.results.toList with
 |[r]=>SR P st r
 |a=>match M9 P st a with
  |some l=>some (.Jt l)
  |none=>none
structure X8 where
 self:Bool
 f:Nat
 ty:TypeId
 cells:List SC
 rest:List SV
 out:SV
 E4:List SC
def GO(s:X8):Option Nat:=match s.E4.getLast? with
 |some (.Ba n)=>if s.self&&s.E4.length==s.cells.length+1 then some n else none
 |_=>none
def dV(f:Nat)(a:TypeId)(cs:List SC)(rest:List SV):List X8->Option X8
 |[]=>none
 |s::r=>if s.self&&!(f==DG)&&(GO s).isNone&&s.f==f&&s.ty==a&&EV SC.same cs s.cells&&EV SV.same rest s.rest&&Jk [] s.out&&J5 [] s.cells&&J5 [] s.E4&&s.rest.all (Jk []) then some s else dV f a cs rest r
def dW(f:Nat)(args:List SV):List X8->Option SV
 |[]=>none
 |s::r=>if !s.self&&!(f==DG)&&s.ty==0&&s.f==f&&EV SV.same args s.rest&&Jk [] s.out&&s.rest.all (Jk []) then some s.out else dW f args r
def vo(S:List X8)(f:Nat)(args:List SV)(st:St):Option (SV × St):=
 match args with
 |.c (.ptr l 0)::rest=>match Ee l st.hp with
  |some (a,b)=>match dV f a b rest S with
   |some s=>some (s.out,{st with hp:=KL l s.E4 st.hp})
   |none=>none
  |none=>none
 |_=>none
def holds(a:Gj):SC->Bool
 |.bool q=>decide (known a q=.lit true)
 |_=>false
def dY(a:Gj)(f ph:Nat)(args:List SV):List X8->Option (SV × Nat)
 |[]=>none
 |s::r=>if s.cells.all (holds a)&&!s.self&&!(s.ty==0)&&s.f==f&&(s.ty-1)%100==ph&&EV SV.same args s.rest&&Jk [] s.out&&s.rest.all (Jk []) then some (s.out,(s.ty-1)/100) else dY a f ph args r
def We(f ph a:Nat)(b:TypeId)(cs:List SC)(rest:List SV):List X8->Option (X8 × Nat)
 |[]=>none
 |s::r=>match GO s with
  |some n=>if s.self&&!(f==DG)&&s.f==f&&s.ty==b&&EV SC.same cs s.cells&&EV SV.same rest s.rest&&Jk [] s.out&&J5 [] s.cells&&J5 [] s.E4.dropLast&&s.rest.all (Jk [])&&(n-1)%100==ph&&n/10000==a then some (s,(n-1)%10000/100) else We f ph a b cs rest r
  |none=>We f ph a b cs rest r
def vn(S:List X8)(f:Nat)(args:List SV)(st:St):Option (SV × St):=
 match args with
 |.c (.ptr l a)::rest=>match Ee l st.hp with
  |some (b,d)=>match We f st.ph a b d rest S with
   |some (s,j)=>some (s.out,{st with hp:=KL l s.E4.dropLast st.hp,nx:=MK j st.nx})
   |none=>none
  |none=>none
 |_=>none
def vm(S:List X8)(f:Nat)(args:List SV)(st:St):Option (SV × St):=
 match dW f args S with
 |some v=>some (v,st)
 |none=>match dY st.Co f st.ph args S with
  |some (v,j)=>some (v,{st with nx:=MK j st.nx})
  |none=>match vn S f args st with
   |some r=>some r
   |none=>vo S f args st
inductive Ex where
 |normal|exit (i:Nat)|ret
inductive Task where
 |code (c:Code)|call (f:Nat) (args:List SV)
def PV:Nat->List SV->Xo->Xo
 |_,[],a=>a
 |k,v::r,a=>PV (k+1) r ((k,v)::a)
def exec(S:List X8):Nat->Task->St->Yd (Ex × SV × St)
 |0,_,_=>.fail "fuel"
 |n+1,.code c,st=>
  match c with
  |.skip|.label _=>.leaf (.normal,FB,st)
  |.ret=>.leaf (.ret,FB,st)
  |.exit i=>.leaf (.exit i,FB,st)
  |.seq a b=>(exec S n (.code a) st).bind λr=>match r.1 with
   |.normal=>exec S n (.code b) r.2.2
   |_=>.leaf r
  |.cond c x y=>match ev st.fr c with
   |.c (.bool q)=>match known st.Co q with
    |.lit true=>exec S n (.code x) st
    |.lit false=>exec S n (.code y) st
    |k=>.br k (exec S n (.code x) {st with Co:=IZ k true st.Co}) (exec S n (.code y) {st with Co:=IZ k false st.Co})
   |_=>.fail "cond"
  |.block i b=>(exec S n (.code b) st).bind λr=>match r.1 with
   |.exit j=>if j=i then .leaf (.normal,r.2) else .leaf r
   |_=>.leaf r
  |.loop b=>(exec S n (.code b) st).bind λr=>match r.1 with
   |.normal=>exec S n (.code (.loop b)) r.2.2
   |_=>.leaf r
  |.region _ e g=>
   let d:=λf args s=>(exec S n (.call f args) s).bind λr=>.leaf r.2
   match g with
   |true=>(vz P d e st).bind λs=>.leaf (.normal,FB,s)
   |false=>(pQ P d e e.toList 0 st).bind λs=>.leaf (.normal,FB,bump s)
  |_=>.fail "code"
 |n+1,.call f args,st=>
  match vm S f args st with
  |some r=>.leaf (.normal,r.1,r.2)
  |none=>
  if f=DG then .fail "a method" else
  match P.funcs[f]? with
  |none=>.fail "no function"
  |some fn=>if fn.name== "runtime.NumGoroutine" then .fail "name" else
   match fn.body with
   |none=>.fail "no body"
   |some c=>(exec S n (.code c) {st with fr:=PV 0 args [],nx:=MK st.ph (st.nx+100),sz:=fn.ntmps}).bind λr=>
    match r.1 with
    |.exit _=>.fail "exit"
    |_=>match yK P fn r.2.2 with
     |none=>.fail "results"
     |some v=>match G' st.hp v r.2.2.hp with
      |none=>.fail "what is left"
      |some h=>.leaf (.normal,v,{fr:=st.fr,hp:=h,Co:=r.2.2.Co,nx:=MK r.2.2.ph st.nx,sz:=st.sz})
end
def Own(w:World)(e:TypeId)(sz:Nat)(v:Value)(n:Nat)(xs:List Value):Prop:=
 xs.length = n*sz∧((v = .slice none 0 0∧n = 0) ∨
  ∃g c b A R,v=.slice (some ⟨g,c,none⟩) n b/\Bk w g e (A++(xs++R)).toArray/\A.length=c/\n<=b/\b<=maxLen/\b*sz<=xs.length+R.length)
section
variable{w w':World}{e:TypeId}{sz n:Nat}{v:Value}{xs:List Value}
def Own.nil:Own w e sz (.slice none 0 0) 0 []:=⟨by simp,.inl ⟨rfl,rfl⟩⟩
def Own.lt(h:Own w e sz v n xs){g:Nat}(b:v.ownBlock=some g):g<w.heap.size:=by
 rcases h.2 with⟨rfl,_⟩|⟨i,c,d,A,R,rfl,f,_⟩
 ·cases b
 ·cases b;exact f.lt
def Own.kept(h:Own w e sz v n xs)(d:∀g,v.ownBlock=some g->w'.heap[g]?=w.heap[g]?):Own w' e sz v n xs:=by
 refine⟨h.1,?_⟩;rcases h.2 with h|⟨g,b,c,A,R,rfl,f,r⟩
 ·exact .inl h
 ·exact .inr ⟨g,b,c,A,R,rfl,f.same (d g rfl),r⟩
def Own.grown{row:Option Nat}(h:Own w e sz v n xs)(d:w.grownBy w' row)(b:v.ownBlock=none\/v.ownBlock≠row):Own w' e sz v n xs:=
 h.kept fun g c=>d.block g (h.lt c) (fun e=>by
  rcases b with h0|h0
  ·rw[c] at h0;cases h0
  ·exact h0 (c.trans e))
def Own.below(h:Own w e sz v n xs)(b:Below w.heap.size w w'):Own w' e sz v n xs:=h.kept λg c=>b.block g (h.lt c)
def Own.alloc(h:Own w e sz v n xs)(o:Obj):Own (w.alloc o) e sz v n xs:=h.below ((fx _ _).alloc (Nat.le_refl _) _)
def Own.drew(h:Own w e sz v n xs):Own w.drew e sz v n xs:=h.kept λ_ _=>rfl
def Own.ZW{base:Nat}(h:w.ownsRow base e sz v n xs):Own w e sz v n xs:=by
 refine⟨h.1,?_⟩;rcases h.2 with h|⟨g,b,c,d,_,f,i,j,l,k⟩
 ·exact .inl h
 ·refine .inr ⟨g,0,b,[],c.toList.drop (n*sz),d,?_,rfl,i,j,?_⟩
  ·unfold Bk;rw[f,←k];simp
  ·have m:=h.1;simp;omega
def Cl{g b c:Nat}(h:Own w e sz (.slice (some ⟨g,b,none⟩) n c) n xs):∀j u,xs[j]?=some u->w.cell? ⟨g,b+j,none⟩=some u:=by
 rcases h.2 with⟨h,_⟩|⟨p,i,k,A,R,l,m,rfl,_⟩
 ·cases h
 ·cases l;intro j u d;rw[m.cell];have q:j<xs.length:=by
   rcases iw j xs.length with f|f
   ·exact f
   ·rw[ik f] at d;cases d
  simp only[lu];rw[je Zo,ke Zo];simpa using d
end
section
variable{P:Program}
def Qy(w:World)(t e j:TypeId)(z:Value)(k:P.underlying t=some (.slice e))(l:∀w,(zeroValue e).run P w=.ok z w)(m:∀u∈(Builtin.zeroCells z.cells 1).toList,u.oneCell'=true)
  (g o c:Nat)(d:Array Value)(h:TypeId)(p:w.heap[g]?=some (.cells d h (0,0)))(f:o+z.cells.size<=d.size):
  (Builtin.clear_ #[t] j #[.slice (some ⟨g,o,none⟩) 1 c]).run P w=.ok (.tuple #[]) (w.setRow g (d.toList.take o++(Builtin.zeroCells z.cells 1).toList++d.toList.drop (o+z.cells.size)).toArray):=by
 have i:(Builtin.zeroCells z.cells 1).toList.length=z.cells.size:=by rw[mo,size_zeroCells];simp
 have b:=p8 P g o h (Builtin.zeroCells z.cells 1).toList 0 d w p (by rw[i];simpa using f) m
 simp only[l9] at b
 rw[i] at b
 simp[Builtin.clear_,kz k,l,b]
def Gy(w:World)(t x e:TypeId)(i:TypeInfo)(y:P.underlying t=some (.slice e))(z:P.info? e=some i)
  (g f d h:Nat)(p:Array Value)(s:TypeId)(A:w.heap[g]?=some (.cells p s (0,0)))
  (a:Addr)(m c:Nat)(b:List Value)(B:b.length=m*i.size)(k:∀j u,b[j]?=some u->w.cell? (a.add j)=some u)(C:∀u∈b,u.oneCell'=true)
  (l:d+m<=h)(q:f+d*i.size+b.length<=p.size):
  (Builtin.append_ #[t,t] x #[.slice (some ⟨g,f,none⟩) d h,.slice (some a) m c]).run P w=
   .ok (.slice (some ⟨g,f,none⟩) (d+m) h) (w.setRow g (p.toList.take (f+d*i.size)++b++p.toList.drop (f+d*i.size+b.length)).toArray):=by
 have D:=run_firstCells_some (P:=P) w i.size m a m c b B k
 have r:=p8 P g (f+d*i.size) s b 0 p w A (by simpa using q) C
 simp only[l9] at r
 simp[Builtin.append_,kz y,sizeOf,typeInfo,z,Builtin.lenOf,l,D,nj,r]
def Gi(w:World)(v v':Value):Prop:=∀g,v'.ownBlock=some g->v.ownBlock=some g\/w.heap.size<=g
def take_add{b:Type}(A B:List b)(n:Nat):(A++B).take (A.length+n)=A++B.take n:=oa n
def Gd{b:Type}(A B:List b)(n:Nat):(A++B).drop (A.length+n)=B.drop n:=oe n
def GX(w:World)(g:Nat)(cs:Array Value):w.grownBy (w.setRow g cs) (some g):=
 ⟨rfl,rfl,rfl,by simp,λk _ b=>setRow_other w g k _ (λe=>b (by simp[e]))⟩
def Tw(w:World)(row:Option Nat):w.grownBy w row:=⟨rfl,rfl,rfl,Nat.le_refl _,λ_ _ _=>rfl⟩
def Wa{w w':World}(h:w.grownBy w' none)(row:Option Nat):w.grownBy w' row:=⟨h.os,h.tape,h.output,h.size,λk b _=>h.block k b Zs⟩
def Em{w w1 w2:World}{row:Option Nat}(h:w.grownBy w1 row)(h':w1.grownBy w2 row):w.grownBy w2 row:=
 ⟨h'.os.trans h.os,h'.tape.trans h.tape,h'.output.trans h.output,gb h.size h'.size,λk b c=>(h'.block k (ib b h.size) c).trans (h.block k b c)⟩
def Tx{w w1:World}{row:Option Nat}(h:w.drew.grownBy w1 row):w.grownBy w1 row:=⟨h.os,h.tape,h.output,h.size,h.block⟩
def Bk.row{w:World}{g:Nat}{t:TypeId}{cs cs':Array Value}(h:Bk w g t cs):Bk (w.setRow g cs') g t cs':=setRow_heap w g cs cs' t (0,0) h
def ZU(w:World)(t F e:TypeId)(i:TypeInfo)(z:Value)(sz bytes:Nat)(G:P.underlying t=some (.slice e))(H:P.info? e=some i)(J:i.zero=some z)
  (d:i.size=sz)(s:i.bytes=bytes)(x:z.cells.size=sz)(y:0<sz)(v:Value)(n:Nat)(xs:List Value)(h:Own w e sz v n xs)
  (a:Addr)(m c:Nat)(b:List Value)(B:b.length=m*sz)(f:∀j u,b[j]?=some u->w.cell? (a.add j)=some u)(K:∀u∈b,u.oneCell'=true)(hm:0<m)
  (L:n+m<=maxLen)(M:(n+m)*bytes<=140737488355328):
  ∃v' w',(Builtin.append_ #[t,t] F #[v,.slice (some a) m c]).run P w=.ok v' w'/\Own w' e sz v' (n+m) (xs++b)/\w.grownBy w' v.ownBlock/\Gi w v v':=by
 have N:∀{v':Value} {w':World} {k:Nat} {O:List Value},w'.ownsRow w.heap.size e sz v' k O->Gi w v v':=λ{v' w' k O} q g r=>by
  rcases q.2 with⟨rfl,_⟩|⟨V,p,As,rfl,W,_⟩
  ·cases r
  ·cases r;exact db W
 rcases h.2 with⟨rfl,rfl⟩|⟨g,X,p,A,R,rfl,S,rfl,hn,Y,hs⟩
 ·obtain rfl:xs=[]:=jr (by simpa using h.1);obtain⟨v',w',C,q,r,_⟩:=run_append_own (P:=P) w w.heap.size t F e i z sz bytes G H J d s x y (.slice none 0 0) 0 [] (World.ownsRow_nil w _ e sz) a m c b B f K L M (Nat.le_refl _);exact⟨v',w',C,Own.ZW q,r,N q⟩
 ·by_cases l:n+m<=p
  ·have T:=h.1;have I:(n+m)*sz<=p*sz:=nv _ l;rw[lx] at I;have D:A.length+n*sz+b.length<=(A++(xs++R)).toArray.size:=by simp;omega
   subst d;have C:=Gy (P:=P) w t F e i G H g A.length n p _ e S a m c b B f K l D;refine⟨_,_,C,⟨by rw[iu,T,B,lx],.inr ⟨g,A.length,p,A,R.drop (m*i.size),rfl,?_,rfl,l,Y,?_⟩⟩,GX _ _ _,λV Z=>fq Z⟩
   ·have E:=S.row (cs':=(((A++(xs++R)).toArray.toList.take (A.length+n*i.size))++b++((A++(xs++R)).toArray.toList.drop (A.length+n*i.size+b.length))).toArray);have U:((A++(xs++R)).toArray.toList.take (A.length+n*i.size))++b++((A++(xs++R)).toArray.toList.drop (A.length+n*i.size+b.length))=A++(xs++b++R.drop (m*i.size)):=by
     rw[←T,←B];show(A++(xs++R)).take (A.length+xs.length)++b++(A++(xs++R)).drop (A.length+xs.length+b.length)=_;rw[mf,take_add,Gd,Gd,nz]
     ·simp
     ·rfl
    rw[U] at E;rw[U];exact E
   ·simp;omega
  ·obtain⟨v',w',C,q,r⟩:=run_append_arg_grows (P:=P) w t F e i z sz bytes G H J d s x y ⟨g,A.length,none⟩ n p xs h.1 (λj u hj=>by rw[nj];exact Cl h j u hj) a m c b B f Zo L M;exact⟨v',w',C,Own.ZW q,Wa r _,N q⟩
section
variable{w w':World}{ops:Array Oper}{rest:List Oper}{o:Oper}{a:Act}{Q:Exit->Act->World->Prop}
def Yj(c:o.guard=none)(s x:Operand)(t f:TypeId)(vs g v:Value)(d:o.op=.call {callee:=.builtin .append,args:=#[s,x],argTypes:=#[t,f]})(i:a.eval s=vs)(j:a.eval x=g)
  (b:(Builtin.append_ #[t,f] o.type #[vs,g]).run P w=.ok v w')(h:wpList P ops Q rest (a.put o.dst v) w'):wpList P ops Q (o::rest) a w:=
 wpList_plain c λK k=>by
  unfold Oper.wp;simp[execOp,d,resolve,invoke,builtin,i,j,b,Result.andThen];exact k _ _ h
def Ij(c:o.guard=none)(s:Operand)(t:TypeId)(vs v:Value)(d:o.op=.call {callee:=.builtin .clear,args:=#[s],argTypes:=#[t]})(f:a.eval s=vs)
  (b:(Builtin.clear_ #[t] o.type #[vs]).run P w=.ok v w')(h:wpList P ops Q rest (a.put o.dst v) w'):wpList P ops Q (o::rest) a w:=
 wpList_plain c λK g=>by
  unfold Oper.wp;simp[execOp,d,resolve,invoke,builtin,f,b,Result.andThen];exact g _ _ h
end
end
section
variable{P:Program}
def Y2{c:Array Oper}{rest:List Oper}{op:Oper}{a:Act}{w:World}{Q:Exit->Act->World->Prop}(d:op.guard=none)(f:TypeId)(x y:Operand)(m:op.op=.store f x y)
  (g o:Nat)(b:Array Value)(n:a.eval x=.pointer (some ⟨g,o,none⟩))(p:a.eval y=.agg b)(t:TypeId)(cs cs':Array Value)(i:Bk w g t cs)(k:o+b.size<=cs.size)
  (q:(P.info? f).map (·.size)=some b.size)(r:b.toList.all (·.oneCell')=true)(l:cs'.toList=cs.toList.take o++b.toList++cs.toList.drop (o+b.size))
  (h:∀w',Gu w g t cs' w'->wpList P c Q rest (a.put op.dst undef) w'):wpList P c Q (op::rest) a w:=by
 obtain⟨s,u,v,z,A⟩:=Jv b.toList o w cs i (by simpa using k)
 have e:s=cs':=by
  apply kx.1;rw[v,l];simp
 subst e
 refine wpList_store_mid d f x y m g o b n p (λj B=>⟨?_,?_⟩) q (by rw[←Array.all_toList];exact r) (h _ ⟨u,z,A⟩)
 ·rw[i.cell,mn Zo];rfl
 ·exact i.free _
end
end Go.Proofs.YtaipogljokblkaaGreatDoor
namespace Go.Proofs.YtaipogljokblkaaGreatDoor.Fn
open Go Go.RowKit
def nA(b:UInt8):wrap64 (b.toNat:Int)=b.toNat:=by
 have:=UInt8.toNat_lt b;exact IntWalk.wrap64_in _ Zo
def FX{a b:Bool}(h:a=b):Ending.returned (.bool a)=.returned (.bool b):=by rw[h]
def yI{k:IntKind}{a b:Int}(h:a=b):Ending.returned (.int k a)=.returned (.int k b):=by rw[h]
def IH(s:ByteArray)(k:Nat)(h:s.size<=k):rest s k=⟨#[]⟩:=by
 apply ByteArray.ext;simp[rest,ByteArray.data_extract];omega
def Jf{r:ByteArray}(h:0<r.size):r.toList.isEmpty=false:=by
 rw[Go.ByteArray.toList_eq];cases b:r.data.toList with
 |nil=>
  have:r.data.size=0:=by rw[←mo,b];rfl
  rw[ByteArray.size_data] at this;omega
 |cons a l=>rfl
def QJ(b:Bool)(w:World)(e:Ending)(w':World):Prop:=e=.returned (.bool b)/\Below w.heap.size w w'
structure Lf where
 kind:Int
 key:Int
 val:Int
 Al:Int
 deriving DecidableEq
def Lf.v(o:Lf):Value:=.agg #[.int .i64 o.kind,.int .i64 o.key,.int .i64 o.val,.int .i64 o.Al]
def RetV(v:Value)(w:World)(e:Ending)(w':World):Prop:=e=.returned v/\Below w.heap.size w w'
end Go.Proofs.YtaipogljokblkaaGreatDoor.Fn
namespace Go.Proofs.YtaipogljokblkaaGreatDoor
open Go Go.RowKit
