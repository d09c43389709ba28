/- Core: SymA. -/
import Derived.Test.YtaipogljokblkaaGreatDoorE01
set_option linter.all false
set_option maxRecDepth 100000
set_option maxHeartbeats 8000000
namespace Go.Proofs.YtaipogljokblkaaGreatDoor
open Go Go.RowKit
set_option linter.unusedSimpArgs false
set_option linter.unusedVariables false
set_option linter.unusedSectionVars false
inductive Tm where
 |lit (n:Int)|var (i:Nat)|add (a b:Tm)|sub (a b:Tm)|mul (a b:Tm)|quo (a:Tm) (d:Int)|rem (a:Tm) (d:Int)
 deriving DecidableEq
inductive BT where
 |lit (b:Bool)|var (i:Nat)|eq (a b:Tm)|lt (a b:Tm)|le (a b:Tm)|not (a:BT)|and (a b:BT)|or (a b:BT)|beq (a b:BT)|nil (i:Nat)|fD (i:Nat)
 deriving DecidableEq
inductive SC where
 |lit (v:Value)|int (t:Tm)|bool (b:BT)|AN (i:Nat)|ptr (l o:Nat)|zT (t:TypeId) (l o:Nat)|yL (i:Nat) (n:Tm)
inductive SV where
 |c (x:SC)|agg (l:List SC)|IU (l:List (Bool × List SC))
inductive Xz(α:Type) where
 |leaf (a:α)|br (b:BT) (t e:Xz α)|fail (why:String)
structure Env where
 int:Nat->Int
 bool:Nat->Bool
 val:Nat->Value
 one:∀i,(val i).oneCell'=true
def Tm.den(e:Env):Tm->Int
 |.lit n=>n
 |.var i=>e.int i
 |.add a b=>IntKind.i64.wrap (a.den e+b.den e)
 |.sub a b=>IntKind.i64.wrap (a.den e-b.den e)
 |.mul a b=>IntKind.i64.wrap (a.den e*b.den e)
 |.quo a d=>IntKind.i64.wrap ((a.den e).tdiv d)
 |.rem a d=>(a.den e).tmod d
def noPtr:Value->Bool
 |.pointer (some _)=>false
 |_=>true
def zF:Value->Bool
 |.iface _ _=>false
 |_=>true
def BT.den(e:Env):BT->Bool
 |.fD i=>zF (e.val i)
 |.nil i=>noPtr (e.val i)
 |.lit b=>b
 |.var i=>e.bool i
 |.eq a b=>a.den e==b.den e
 |.lt a b=>decide (a.den e<b.den e)
 |.le a b=>decide (a.den e<=b.den e)
 |.not a=>!a.den e
 |.and a b=>a.den e&&b.den e
 |.or a b=>a.den e||b.den e
 |.beq a b=>a.den e==b.den e
def ZJ:Value->Option Addr × Nat
 |.slice a _ c=>(a,c)
 |_=>(none,0)
def SC.den(e:Env)(β:Nat->Nat):SC->Value
 |.lit v=>v
 |.int t=>.int .i64 (t.den e)
 |.bool b=>.bool (b.den e)
 |.AN i=>e.val i
 |.ptr l o=>.pointer (some ⟨β l,o,none⟩)
 |.zT t l o=>.iface t (.pointer (some ⟨β l,o,none⟩))
 |.yL i n=>.slice (ZJ (e.val i)).1 (n.den e).toNat (ZJ (e.val i)).2
def Yj(e:Env)(β:Nat->Nat)(l:List SC):Array Value:=(l.map (SC.den e β)).toArray
def RZ(e:Env)(β:Nat->Nat)(p:Bool × List SC):Value:=if p.1 then .agg (Yj e β p.2) else(p.2.headD (.lit undef)).den e β
def SV.den(e:Env)(β:Nat->Nat):SV->Value
 |.c x=>x.den e β
 |.agg l=>.agg (Yj e β l)
 |.IU l=>.tuple (l.map (RZ e β)).toArray
def Xz.bind{α β:Type}:Xz α->(α->Xz β)->Xz β
 |.leaf a,f=>f a
 |.br b t e,f=>.br b (t.bind f) (e.bind f)
 |.fail w,_=>.fail w
def Xz.By{α:Type}(e:Env):Xz α->Option α
 |.leaf a=>some a
 |.br b t f=>match b.den e with
  |true=>t.By e
  |false=>f.By e
 |.fail _=>none
def Tm.mk(f:Int->Int->Int)(g:Tm->Tm->Tm):Tm->Tm->Tm
 |.lit a,.lit b=>.lit (IntKind.i64.wrap (f a b))
 |a,b=>g a b
def Tm.nG:Tm->Int->Tm
 |.lit a,d=>.lit (IntKind.i64.wrap (a.tdiv d))
 |a,d=>.quo a d
def Tm.nF:Tm->Int->Tm
 |.lit a,d=>.lit (a.tmod d)
 |a,d=>.rem a d
def BT.Um:Tm->Tm->BT
 |.lit a,.lit b=>.lit (a==b)
 |a,b=>if a=b then .lit true else .eq a b
def BT.uE:Tm->Tm->BT
 |.lit a,.lit b=>.lit (decide (a<b))
 |a,b=>.lt a b
def BT.uG:Tm->Tm->BT
 |.lit a,.lit b=>.lit (decide (a<=b))
 |a,b=>.le a b
def BT.KT:BT->BT
 |.lit b=>.lit (!b)
 |.not b=>b
 |b=>.not b
def BT.Z9:BT->BT->BT
 |.lit true,b=>b
 |.lit false,_=>.lit false
 |a,.lit true=>a
 |_,.lit false=>.lit false
 |a,b=>.and a b
def BT.zI:BT->BT->BT
 |.lit true,_=>.lit true
 |.lit false,b=>b
 |_,.lit true=>.lit true
 |a,.lit false=>a
 |a,b=>.or a b
def BT.nH:BT->BT->BT
 |.lit true,b=>b
 |.lit false,b=>b.KT
 |a,.lit true=>a
 |a,.lit false=>a.KT
 |a,b=>if a=b then .lit true else .beq a b
abbrev FH:=List (BT × Bool)
def Jj(b:BT):FH->Option Bool
 |[]=>none
 |(x,v)::r=>if x=b then some v else Jj b r
def known(s:FH):BT->BT
 |.lit b=>.lit b
 |.not a=>(known s a).KT
 |b=>match Jj b s with
  |some v=>.lit v
  |none=>b
def IC(b:BT)(v:Bool)(s:FH):FH:=
 match b,v with
 |.not x,v=>(x,!v)::s
 |.and x y,true=>(x,true)::(y,true)::s
 |.or x y,false=>(x,false)::(y,false)::s
 |b,v=>(b,v)::s
def Kq:Value->SC
 |.int .i64 n=>.int (.lit n)
 |.bool b=>.bool (.lit b)
 |v=>.lit v
def ofValue:Value->SV
 |.agg cs=>.agg (cs.toList.map Kq)
 |v=>.c (Kq v)
abbrev EQ:SV:=.c (.lit undef)
def SC.one:SC->Bool
 |.lit v=>v.oneCell'
 |_=>true
def SV.cells?:SV->Option (List SC)
 |.c x=>if x.one then some [x] else none
 |.agg l=>some l
 |.IU _=>none
abbrev Yh:=List (Nat × TypeId × List SC)
abbrev Vk:=List (Nat × SV)
structure St where
 fr:Vk
 hp:Yh
 BM:FH
 nx:Nat
 sz:Nat
def rA:Nat:=1000000
def St.ph(st:St):Nat:=st.nx/rA
def LO(j n:Nat):Nat:=j*rA+n%rA
def Dl:Nat:=1000000000
def Hk(t:Nat):Vk->SV
 |[]=>EQ
 |(k,v)::r=>if k==t then v else if k<t then EQ else Hk t r
def oD(t:Nat)(x:SV):Vk->Vk
 |[]=>[(t,x)]
 |(k,v)::r=>if k==t then(t,x)::r else if k<t then(t,x)::(k,v)::r else(k,v)::oD t x r
def ev(fr:Vk):Operand->SV
 |.tmp t=>Hk t fr
 |.const v=>ofValue v
 |.global g=>.c (.ptr (2*g) 0)
 |.func f=>.c (.lit (.func (.func f) #[] #[]))
def Dc(dst:Option Nat)(v:SV)(st:St):St:=
 match dst with
 |some d=>{st with fr:=oD d v st.fr}
 |none=>st
def DI(l:Nat):Yh->Option (TypeId × List SC)
 |[]=>none
 |(k,t,cs)::r=>if k==l then some (t,cs) else DI l r
def Km(l:Nat)(cs:List SC)(h:Yh):Yh:=h.map λx=>if x.1==l then(x.1,x.2.1,cs) else x
def Pj(x:Nat × TypeId × List SC):Yh->Yh
 |[]=>[x]
 |y::r=>if y.1<x.1 then y::Pj x r else x::y::r
section
variable(P:Program)
def NV(t:TypeId):Option Bool:=
 match P.underlying t with
 |some (.struct _)|some (.array _ _)=>some true
 |some _=>some false
 |none=>none
def NH(t:TypeId)(cs:List SC)(off:Nat):Option SV:=
 match NV P t,P.info? t with
 |some true,some i=>if off+i.size<=cs.length then some (.agg ((cs.drop off).take i.size)) else none
 |some false,some _=>match cs[off]? with
  |some x=>if x.one then some (.c x) else none
  |none=>none
 |_,_=>none
def splice(cs:List SC)(off:Nat)(vs:List SC):List SC:=cs.take off++vs++cs.drop (off+vs.length)
def eqC(t:TypeId)(x y:SC):Option BT:=
 match P.underlying t,x,y with
 |some .bool,.bool a,.bool b=>some (BT.nH a b)
 |some (.int .i64),.int a,.int b=>some (BT.Um a b)
 |some (.pointer _),.lit (.pointer none),.lit (.pointer none)=>some (.lit true)
 |some (.pointer _),.ptr _ _,.lit (.pointer none)=>some (.lit false)
 |some (.pointer _),.lit (.pointer none),.ptr _ _=>some (.lit false)
 |some (.interface _),.zT _ _ _,.lit .nilIface=>some (.lit false)
 |_,_,_=>none
def eqF(xs ys:List SC):List Field->Option BT
 |[]=>some (.lit true)
 |f::r=>if f.name= "_" then none else
  match NV P f.type,xs[f.offset]?,ys[f.offset]? with
  |some false,some x,some y=>match eqC P f.type x y with
   |some b=>match eqF xs ys r with
    |some c=>some (BT.Z9 b c)
    |none=>none
   |none=>none
  |_,_,_=>none
def eqS(t:TypeId):SV->SV->Option BT
 |.c x,.c y=>if x.one&&y.one then eqC P t x y else none
 |.agg xs,.agg ys=>match P.underlying t with
  |some (.struct fs)=>if P.stoodInHeld t||P.eqGuardType P.depth t then none else eqF P xs ys fs.toList
  |_=>none
 |_,_=>none
def binS(op:BinOp)(t:TypeId)(x y:SV):Option SV:=
 match op,x,y with
 |.eql,.c (.int a),.c (.int b)=>some (.c (.bool (BT.Um a b)))
 |.neq,.c (.int a),.c (.int b)=>some (.c (.bool (BT.Um a b).KT))
 |.lss,.c (.int a),.c (.int b)=>some (.c (.bool (BT.uE a b)))
 |.leq,.c (.int a),.c (.int b)=>some (.c (.bool (BT.uG a b)))
 |.gtr,.c (.int a),.c (.int b)=>some (.c (.bool (BT.uE b a)))
 |.geq,.c (.int a),.c (.int b)=>some (.c (.bool (BT.uG b a)))
 |.add,.c (.int a),.c (.int b)=>some (.c (.int (Tm.mk (·+·) .add a b)))
 |.sub,.c (.int a),.c (.int b)=>some (.c (.int (Tm.mk (· -·) .sub a b)))
 |.mul,.c (.int a),.c (.int b)=>some (.c (.int (Tm.mk (·*·) .mul a b)))
 |.quo,.c (.int a),.c (.int (.lit d))=>if d=0 then none else some (.c (.int (a.nG d)))
 |.rem,.c (.int a),.c (.int (.lit d))=>if d=0 then none else some (.c (.int (a.nF d)))
 |.eql,x,y=>match eqS P t x y with
  |some b=>some (.c (.bool b))
  |none=>none
 |.neq,x,y=>match eqS P t x y with
  |some b=>some (.c (.bool b.KT))
  |none=>none
 |_,_,_=>none
def U4(place:Nat->Option (Nat × Nat))(cells:List SC):List (Nat × SV)->Option (List SC)
 |[]=>some cells
 |(i,v)::rest=>
  match place i,v.cells? with
  |some (off,size),some l=>if l.length=size/\off+l.length<=cells.length then U4 place (splice cells off l) rest else none
  |_,_=>none
def mO(fr:Vk)(l:List (Nat × Operand)):List (Nat × SV):=l.map λp=>(p.1,ev fr p.2)
def nilS(s:FH)(op:BinOp)(t:TypeId)(x:SV)(y:Operand):Option SV:=
 match op,x,y,P.underlying t with
 |.eql,.c (.AN i),.const (.pointer none),some (.pointer _)=>if Jj (.nil i) s=some false then some (.c (.bool (.lit false))) else none
 |.neq,.c (.AN i),.const (.pointer none),some (.pointer _)=>if Jj (.nil i) s=some false then some (.c (.bool (.lit true))) else none
 |.eql,.c (.lit .nilIface),.const .nilIface,some (.interface _)=>some (.c (.bool (.lit true)))
 |.neq,.c (.lit .nilIface),.const .nilIface,some (.interface _)=>some (.c (.bool (.lit false)))
 |_,_,_,_=>none
def PJ(fr:Vk)(s:FH):Op->Option SV
 |.move x|.assign x=>some (ev fr x)
 |.pick c a b=>match ev fr c with
  |.c (.bool q)=>match known s q with
   |.lit true=>some (ev fr a)
   |.lit false=>some (ev fr b)
   |q'=>match ev fr a,ev fr b with
    |.c (.bool (.lit true)),.c (.bool y)=>some (.c (.bool (BT.zI q' y)))
    |.c (.bool x),.c (.bool (.lit false))=>some (.c (.bool (BT.Z9 q' x)))
    |_,_=>none
  |_=>none
 |.nilCheck x=>match ev fr x with
  |.c (.ptr l o)=>some (.c (.ptr l o))
  |.c (.AN i)=>if Jj (.fD i) s=some false then some (.c (.AN i)) else none
  |_=>none
 |.fieldAddr s x f=>match P.underlying s,ev fr x with
  |some (.struct fs),.c (.ptr l o)=>match fs[f]? with
   |some fd=>match P.info? fd.type with
    |some i=>if i.size=0 then none else some (.c (.ptr l (o+fd.offset)))
    |none=>none
   |none=>none
  |_,_=>none
 |.field t x f=>match P.underlying t,ev fr x with
  |some (.struct fs),.agg cs=>match fs[f]? with
   |some fd=>NH P fd.type cs fd.offset
   |none=>none
  |_,_=>none
 |.extract t i=>match ev fr t with
  |.IU l=>match l[i]? with
   |some (true,cs)=>some (.agg cs)
   |some (false,[x])=>some (.c x)
   |_=>none
  |_=>none
 |.binOp op t x y _=>match nilS P s op t (ev fr x) y with
  |some v=>some v
  |none=>binS P op t (ev fr x) (ev fr y)
 |.unOp .not _ x=>match ev fr x with
  |.c (.bool b)=>some (.c (.bool b.KT))
  |_=>none
 |.indexAddr t x ix=>match P.underlying t,ev fr x,ev fr ix with
  |some (.array len e),.c (.ptr l o),.c (.int (.lit i))=>match P.info? e with
   |some inf=>if 0<=i/\i<(len:Int) then some (.c (.ptr l (o+i.toNat*inf.size))) else none
   |none=>none
  |_,_,_=>none
 |.build t parts=>match P.info? t,P.underlying t with
  |some it,some (.struct fs)=>match it.zero,fs.toList.mapM (λf=>(P.info? f.type).map λi=>(f.offset,i.size)) with
   |some z,some pl=>match U4 (pl.toArray[·]?) (z.cells.toList.map Kq) (mO fr parts.toList) with
    |some l=>some (.agg l)
    |none=>none
   |_,_=>none
  |_,_=>none
 |.makeInterface t x=>match P.underlying t,ev fr x with
  |some (.pointer _),.c (.ptr l o)=>some (.c (.zT t l o))
  |some (.pointer _),.c (.lit (.pointer none))=>some (.c (.lit (.iface t (.pointer none))))
  |_,_=>none
 |_=>none
def NZ(ops:Array Oper)(o:Oper)(st:St):Option BT:=
 match o.guard with
 |none=>some (.lit true)
 |some (j,want)=>match(ops[j]?).bind (·.dst) with
  |some d=>match Hk d st.fr with
   |.c (.bool b)=>some (if want then known st.BM b else(known st.BM b).KT)
   |_=>none
  |none=>none
def fP(dst:Option Nat)(i:Tm)(l o size:Nat):List Nat->St->Xz St
 |[],_=>.fail "index"
 |j::r,st=>match known st.BM (BT.Um i (.lit (j:Int))) with
  |.lit true=>.leaf (Dc dst (.c (.ptr l (o+j*size))) st)
  |.lit false=>fP dst i l o size r st
  |b=>.br b (.leaf (Dc dst (.c (.ptr l (o+j*size))) {st with BM:=IC b true st.BM})) (fP dst i l o size r {st with BM:=IC b false st.BM})
def Wb(callf:Nat->List SV->St->Xz (SV × St))(lab:Nat)(o:Oper)(st:St):Xz St:=
 match PJ P st.fr st.BM o.op with
 |some v=>.leaf (Dc o.dst v st)
 |none=>
 match o.op with
 |.indexAddr t x ix=>match P.underlying t,ev st.fr x,ev st.fr ix with
  |some (.array len e),.c (.ptr l of),.c (.int i)=>match P.info? e with
   |some inf=>fP o.dst i l of inf.size (List.range len) st
   |none=>.fail o.pos
  |_,_,_=>.fail o.pos
 |.load t a=>match ev st.fr a with
  |.c (.ptr l i)=>match DI l st.hp with
   |some (_,cs)=>match NH P t cs i with
    |some v=>.leaf (Dc o.dst v st)
    |none=>.fail o.pos
   |none=>.fail o.pos
  |_=>.fail o.pos
 |.alloc t=>match(P.info? t).bind (·.zero),DI lab st.hp with
  |some z,none=>match(ofValue z).cells? with
   |some cs=>.leaf (Dc o.dst (.c (.ptr lab 0)) {st with hp:=Pj (lab,t,cs) st.hp})
   |none=>.fail o.pos
  |_,_=>.fail o.pos
 |.box t x=>match(ev st.fr x).cells?,DI lab st.hp with
  |some cs,none=>.leaf (Dc o.dst (.c (.ptr lab 0)) {st with hp:=Pj (lab,t,cs) st.hp})
  |_,_=>.fail o.pos
 |.store t a x=>match ev st.fr a,(ev st.fr x).cells?,P.info? t with
  |.c (.ptr l i),some vs,some inf=>match DI l st.hp with
   |some (_,cs)=>if vs.length=inf.size/\i+vs.length<=cs.length/\vs.all SC.one=true then .leaf (Dc o.dst EQ {st with hp:=Km l (splice cs i vs) st.hp}) else .fail o.pos
   |none=>.fail o.pos
  |_,_,_=>.fail o.pos
 |.call c=>match c.callee with
  |.value (.func f)=>if f=Dl then .fail o.pos else(callf f (c.args.toList.map (ev st.fr)) st).bind λr=>.leaf (Dc o.dst r.1 {r.2 with fr:=st.fr,sz:=st.sz})
  |.invoke t name=>if name= "Next" then(callf Dl (ev st.fr t::c.args.toList.map (ev st.fr)) st).bind λr=>.leaf (Dc o.dst r.1 {r.2 with fr:=st.fr,sz:=st.sz}) else .fail o.pos
  |.builtin .len=>match c.args.toList.map (ev st.fr),(c.argTypes[0]?).bind P.underlying with
   |[.c (.yL _ n)],some (.slice _)=>match known st.BM (.le (.lit 0) n) with
    |.lit true=>.leaf (Dc o.dst (.c (.int n)) st)
    |_=>.fail o.pos
   |_,_=>.fail o.pos
  |_=>.fail o.pos
 |_=>.fail o.pos
def okD(o:Oper)(st:St):Bool:=
 match o.dst with
 |some d=>decide (d<st.sz)
 |none=>true
def Nw(callf:Nat->List SV->St->Xz (SV × St))(ops:Array Oper)(lab:Nat)(o:Oper)(st:St):Xz St:=
 if okD o st=false then .fail "slot" else
 match NZ ops o st with
 |none=>.fail o.pos
 |some (.lit true)=>Wb P callf lab o st
 |some (.lit false)=>.leaf (Dc o.dst EQ st)
 |some b=>.br b (Wb P callf lab o {st with BM:=IC b true st.BM}) (.leaf (Dc o.dst EQ {st with BM:=IC b false st.BM}))
def kZ(callf:Nat->List SV->St->Xz (SV × St))(ops:Array Oper):List Oper->Nat->St->Xz St
 |[],_,st=>.leaf st
 |o::rest,k,st=>(Nw P callf ops (2*(st.nx%rA+k)+1) o st).bind (kZ callf ops rest (k+1))
def maxH(h:Yh)(n:Nat):Nat:=h.foldl (λm x=>if m<=x.1/2 then x.1/2+1 else m) n
def bump(st:St):St:={st with nx:=LO st.ph (maxH st.hp (st.nx%rA))}
def nW:Value->Value->Bool
 |.int j a,.int k b=>decide (j=k)&&decide (a=b)
 |.bool a,.bool b=>a==b
 |.pointer none,.pointer none=>true
 |.nilIface,.nilIface=>true
 |.nilFunc,.nilFunc=>true
 |.slice none 0 0,.slice none 0 0=>true
 |.iface s (.pointer none),.iface t (.pointer none)=>decide (s=t)
 |.tuple a,.tuple b=>a.size==0&&b.size==0
 |_,_=>false
def SC.same:SC->SC->Bool
 |.lit a,.lit b=>nW a b
 |.int a,.int b=>decide (a=b)
 |.bool a,.bool b=>decide (a=b)
 |.AN a,.AN b=>decide (a=b)
 |.ptr a b,.ptr c d=>decide (a=c)&&decide (b=d)
 |.zT t a b,.zT u c d=>decide (t=u)&&decide (a=c)&&decide (b=d)
 |.yL a b,.yL c d=>decide (a=c)&&decide (b=d)
 |_,_=>false
def Ey{α:Type}(f:α->α->Bool):List α->List α->Bool
 |[],[]=>true
 |x::r,y::s=>f x y&&Ey f r s
 |_,_=>false
def SV.same:SV->SV->Bool
 |.c x,.c y=>x.same y
 |.agg l,.agg m=>Ey SC.same l m
 |.IU l,.IU m=>Ey (λp q=>p.1==q.1&&Ey SC.same p.2 q.2) l m
 |_,_=>false
def St.same(s t:St):Bool:=
 Ey (λp q=>decide (p.1=q.1)&&p.2.same q.2) s.fr t.fr&&Ey (λp q=>decide (p.1=q.1)&&decide (p.2.1=q.2.1)&&Ey SC.same p.2.2 q.2.2) s.hp t.hp&&Ey (λp q=>decide (p=q)) s.BM t.BM&&decide (s.nx=t.nx)&&decide (s.sz=t.sz)
def Xz.same:Xz St->Xz St->Bool
 |.leaf s,.leaf t=>s.same t
 |.br b x y,.br c u v=>decide (b=c)&&x.same u&&y.same v
 |_,_=>false
abbrev Node:=Nat × Xz St
def KN:Op->Bool
 |.move _|.assign _|.pick _ _ _|.nilCheck _|.fieldAddr _ _ _|.field _ _ _|.extract _ _|.binOp _ _ _ _ _|.unOp _ _ _|.build _ _|.makeInterface _ _=>true
 |_=>false
structure YJ where
 pred:Nat
 look:Nat
 dst:Nat
 plain:Bool
def NC:List Edge->Nat
 |[]=>0
 |e::r=>if Region.binds .any e then(1<<<e.on)|||NC r else NC r
def Mt:List Nat->Nat
 |[]=>0
 |t::r=>(1<<<t)|||Mt r
def U9:Option Nat->Nat
 |some d=>1<<<d
 |none=>0
def EJ(ops:Array Oper):List Oper->List YJ
 |[]=>[]
 |o::r=>⟨NC o.after.toList,Mt (o.looksAt ops),U9 o.dst,KN o.op&&o.guard.isNone⟩::EJ ops r
def Hf(L:Nat):List YJ->Nat->List Nat
 |[],_=>[]
 |x::r,i=>if !L.testBit i&&(x.pred&&& L)==x.pred then i::Hf L r (i+1) else Hf L r (i+1)
def Uy(L i:Nat)(xi:YJ):List YJ->Nat->Bool
 |[],_=>true
 |y::r,j=>(j==i||L.testBit j||y.pred.testBit i||((xi.dst&&& (y.look|||y.dst))==0&&(y.dst&&& xi.look)==0))&&Uy L i xi r (j+1)
def ND(L:Nat)(inf:List YJ):List YJ->Nat->Option Nat
 |[],_=>none
 |x::r,i=>if x.plain&&!L.testBit i&&(x.pred&&& L)==x.pred&&Uy L i x inf 0 then some i else ND L inf r (i+1)
def FK(inf:List YJ)(L:Nat):List Nat:=
 match ND L inf inf 0 with
 |some i=>[i]
 |none=>Hf L inf 0
def Sg(callf:Nat->List SV->St->Xz (SV × St))(ops:Array Oper)(nd:Node)(i:Nat):Node:=
 (nd.1 ||| (1 <<< i),nd.2.bind fun st=>match ops[i]? with
  |some o=>Nw P callf ops (2*(st.nx%rA+i)+1) o st
  |none=>.fail "no operation")
def MY(callf:Nat->List SV->St->Xz (SV × St))(ops:Array Oper)(inf:List YJ):List Node->Option (List Node)
 |[]=>some []
 |nd::r=>match FK inf nd.1 with
  |[]=>none
  |p::ps=>match MY callf ops inf r with
   |some l=>some ((p::ps).map (Sg P callf ops nd)++l)
   |none=>none
def ZO(L:Nat):List Node->Option (Xz St)
 |[]=>none
 |n::r=>if n.1==L then some n.2 else ZO L r
def NN:List Node->List Node->Option (List Node)
 |[],BN=>some BN
 |n::r,BN=>match ZO n.1 BN with
  |some T=>if n.2.same T then NN r BN else none
  |none=>NN r (n::BN)
def pY(callf:Nat->List SV->St->Xz (SV × St))(ops:Array Oper)(inf:List YJ):Nat->List Node->Option (Xz St)
 |0,nds=>match nds with
  |[(L,T)]=>match Hf L inf 0 with
   |[]=>some T
   |_=>none
  |_=>none
 |m+1,nds=>match MY P callf ops inf nds with
  |some ss=>match NN ss [] with
   |some ns=>pY callf ops inf m ns
   |none=>none
  |none=>none
def yR(callf:Nat->List SV->St->Xz (SV × St))(ops:Array Oper)(st:St):Xz St:=
 if Region.noSelect ops then
  match pY P callf ops (EJ ops ops.toList) ops.size [(0,.leaf st)] with
  |some T=>T.bind λs=>.leaf (bump s)
  |none=>.fail "a region whose orders part"
 else .fail "select"
def SC.fK:SC->List Nat
 |.ptr l _|.zT _ l _=>[l]
 |_=>[]
def SV.fK:SV->List Nat
 |.c x=>x.fK
 |.agg l=>l.flatMap SC.fK
 |.IU l=>l.flatMap λp=>p.2.flatMap SC.fK
def Fa(l:Nat):List Nat->Bool
 |[]=>false
 |k::r=>k==l||Fa l r
def xC(h:Yh)(AG:List Nat):List Nat:=
 h.foldl (λks x=>if Fa x.1 ks then(x.2.2.flatMap SC.fK).foldl (λks l=>if Fa l ks then ks else l::ks) ks else ks) AG
def okC(ls:List Nat):SC->Bool
 |.ptr l _|.zT _ l _=>l%2==0||Fa l ls
 |_=>true
def Jg(ls:List Nat):List SC->Bool
 |[]=>true
 |x::r=>okC ls x&&Jg ls r
def okP(ls:List Nat):List (Bool × List SC)->Bool
 |[]=>true
 |x::r=>Jg ls x.2&&okP ls r
def IN(ls:List Nat):SV->Bool
 |.c x=>okC ls x
 |.agg l=>Jg ls l
 |.IU l=>okP ls l
def PU(ls:List Nat):Yh->Bool
 |[]=>true
 |x::r=>Jg ls x.2.2&&PU ls r
def Qf(ls:List Nat):Yh->Yh
 |[]=>[]
 |x::r=>if Fa x.1 ls then x::Qf ls r else Qf ls r
def Yg:Yh->List Nat
 |[]=>[]
 |x::r=>x.1::Yg r
def qH(ls:List Nat):List Nat->Bool
 |[]=>true
 |l::r=>Fa l ls&&qH ls r
def gcS(Bb:Yh)(v:SV)(h:Yh):Option Yh:=
 let ko:=Yg Bb
 let h1:=Qf ko h
 if IN ko v&&PU ko h1&&qH (Yg h1) ko then some h1 else
 let k:=xC h (xC h (v.fK++ko))
 let h2:=Qf k h
 let k2:=Yg h2
 if IN k2 v&&PU k2 h2&&qH k2 ko then some h2 else none
def Ry(st:St):ResultVar->Option SV
 |.tmp t=>some (Hk t st.fr)
 |.cell a t=>match Hk a st.fr with
  |.c (.ptr l i)=>match DI l st.hp with
   |some (_,cs)=>NH P t cs i
   |none=>none
  |_=>none
def SV.comp:SV->Option (Bool × List SC)
 |.c x=>some (false,[x])
 |.agg l=>some (true,l)
 |.IU _=>none
def LA(st:St):List ResultVar->Option (List (Bool × List SC))
 |[]=>some []
 |r::rs=>match Ry P st r,LA st rs with
  |some v,some l=>match v.comp with
   |some p=>some (p::l)
   |none=>none
  |_,_=>none
def tH(fn:Func)(st:St):Option SV:=
 match fn.results.toList with
 |[r]=>Ry P st r
 |rs=>match LA P st rs with
  |some l=>some (.IU l)
  |none=>none
structure Xv where
 self:Bool
 f:Nat
 ty:TypeId
 cells:List SC
 rest:List SV
 out:SV
 DZ:List SC
def Gr(s:Xv):Option Nat:=match s.DZ.getLast? with
 |some (.AN n)=>if s.self&&s.DZ.length==s.cells.length+1 then some n else none
 |_=>none
def ZM(f:Nat)(ty:TypeId)(cs:List SC)(rest:List SV):List Xv->Option Xv
 |[]=>none
 |s::r=>if s.self&&!(f==Dl)&&(Gr s).isNone&&s.f==f&&s.ty==ty&&Ey SC.same cs s.cells&&Ey SV.same rest s.rest&&IN [] s.out&&Jg [] s.cells&&Jg [] s.DZ&&s.rest.all (IN []) then some s else ZM f ty cs rest r
def ZN(f:Nat)(args:List SV):List Xv->Option SV
 |[]=>none
 |s::r=>if !s.self&&!(f==Dl)&&s.ty==0&&s.f==f&&Ey SV.same args s.rest&&IN [] s.out&&s.rest.all (IN []) then some s.out else ZN f args r
def yF(S:List Xv)(f:Nat)(args:List SV)(st:St):Option (SV × St):=
 match args with
 |.c (.ptr l 0)::rest=>match DI l st.hp with
  |some (ty,cs)=>match ZM f ty cs rest S with
   |some s=>some (s.out,{st with hp:=Km l s.DZ st.hp})
   |none=>none
  |none=>none
 |_=>none
def holds(a:FH):SC->Bool
 |.bool q=>decide (known a q=.lit true)
 |_=>false
def ZP(a:FH)(f ph:Nat)(args:List SV):List Xv->Option (SV × Nat)
 |[]=>none
 |s::r=>if s.cells.all (holds a)&&!s.self&&!(s.ty==0)&&s.f==f&&(s.ty-1)%100==ph&&Ey SV.same args s.rest&&IN [] s.out&&s.rest.all (IN []) then some (s.out,(s.ty-1)/100) else ZP a f ph args r
def U1(f ph off:Nat)(ty:TypeId)(cs:List SC)(rest:List SV):List Xv->Option (Xv × Nat)
 |[]=>none
 |s::r=>match Gr s with
  |some n=>if s.self&&!(f==Dl)&&s.f==f&&s.ty==ty&&Ey SC.same cs s.cells&&Ey SV.same rest s.rest&&IN [] s.out&&Jg [] s.cells&&Jg [] s.DZ.dropLast&&s.rest.all (IN [])&&(n-1)%100==ph&&n/10000==off then some (s,(n-1)%10000/100) else U1 f ph off ty cs rest r
  |none=>U1 f ph off ty cs rest r
def yE(S:List Xv)(f:Nat)(args:List SV)(st:St):Option (SV × St):=
 match args with
 |.c (.ptr l off)::rest=>match DI l st.hp with
  |some (ty,cs)=>match U1 f st.ph off ty cs rest S with
   |some (s,j)=>some (s.out,{st with hp:=Km l s.DZ.dropLast st.hp,nx:=LO j st.nx})
   |none=>none
  |none=>none
 |_=>none
def yD(S:List Xv)(f:Nat)(args:List SV)(st:St):Option (SV × St):=
 match ZN f args S with
 |some v=>some (v,st)
 |none=>match ZP st.BM f st.ph args S with
  |some (v,j)=>some (v,{st with nx:=LO j st.nx})
  |none=>match yE S f args st with
   |some r=>some r
   |none=>yF S f args st
inductive Ex where
 |normal|exit (i:Nat)|ret
inductive Task where
 |code (c:Code)|call (f:Nat) (args:List SV)
def OA:Nat->List SV->Vk->Vk
 |_,[],BN=>BN
 |k,v::r,BN=>OA (k+1) r ((k,v)::BN)
def exec(S:List Xv):Nat->Task->St->Xz (Ex × SV × St)
 |0,_,_=>.fail "fuel"
 |n+1,.code c,st=>
  match c with
  |.skip|.label _=>.leaf (.normal,EQ,st)
  |.ret=>.leaf (.ret,EQ,st)
  |.exit i=>.leaf (.exit i,EQ,st)
  |.seq a b=>(exec S n (.code a) st).bind λr=>match r.1 with
   |.normal=>exec S n (.code b) r.2.2
   |_=>.leaf r
  |.cond c x y=>match ev st.fr c with
   |.c (.bool q)=>match known st.BM q with
    |.lit true=>exec S n (.code x) st
    |.lit false=>exec S n (.code y) st
    |q'=>.br q' (exec S n (.code x) {st with BM:=IC q' true st.BM}) (exec S n (.code y) {st with BM:=IC q' false st.BM})
   |_=>.fail "cond"
  |.block i b=>(exec S n (.code b) st).bind λr=>match r.1 with
   |.exit j=>if j=i then .leaf (.normal,r.2) else .leaf r
   |_=>.leaf r
  |.loop b=>(exec S n (.code b) st).bind λr=>match r.1 with
   |.normal=>exec S n (.code (.loop b)) r.2.2
   |_=>.leaf r
  |.region _ ops draw=>
   let callf:=λf args s=>(exec S n (.call f args) s).bind λr=>.leaf r.2
   match draw with
   |true=>(yR P callf ops st).bind λs=>.leaf (.normal,EQ,s)
   |false=>(kZ P callf ops ops.toList 0 st).bind λs=>.leaf (.normal,EQ,bump s)
  |_=>.fail "code"
 |n+1,.call f args,st=>
  match yD S f args st with
  |some r=>.leaf (.normal,r.1,r.2)
  |none=>
  if f=Dl then .fail "a method" else
  match P.funcs[f]? with
  |none=>.fail "no function"
  |some fn=>if fn.name== "runtime.NumGoroutine" then .fail "name" else
   match fn.body with
   |none=>.fail "no body"
   |some c=>(exec S n (.code c) {st with fr:=OA 0 args [],nx:=LO st.ph (st.nx+100),sz:=fn.ntmps}).bind λr=>
    match r.1 with
    |.exit _=>.fail "exit"
    |_=>match tH P fn r.2.2 with
     |none=>.fail "results"
     |some v=>match gcS st.hp v r.2.2.hp with
      |none=>.fail "what is left"
      |some h=>.leaf (.normal,v,{fr:=st.fr,hp:=h,BM:=r.2.2.BM,nx:=LO r.2.2.ph st.nx,sz:=st.sz})
end
end Go.Proofs.YtaipogljokblkaaGreatDoor
