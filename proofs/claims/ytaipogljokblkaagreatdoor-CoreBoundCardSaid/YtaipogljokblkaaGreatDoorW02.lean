/- Core: SymA. -/
import Derived.Test.YtaipogljokblkaaGreatDoorW01
set_option linter.all false
set_option maxRecDepth 100000
set_option maxHeartbeats 8000000
namespace Go.Proofs.YtaipogljokblkaaGreatDoor
open Go Go.RowKit
set_option linter.unusedSimpArgs false
set_option linter.unusedVariables false
set_option linter.unusedSectionVars false
inductive Tm where
 |lit (n:Int)|var (i:Nat)|add (a b:Tm)|sub (a b:Tm)|mul (a b:Tm)|quo (a:Tm) (d:Int)|rem (a:Tm) (d:Int)
 deriving DecidableEq
inductive BT where
 |lit (b:Bool)|var (i:Nat)|eq (a b:Tm)|lt (a b:Tm)|le (a b:Tm)|not (a:BT)|and (a b:BT)|or (a b:BT)|beq (a b:BT)|nil (i:Nat)|gI (i:Nat)
 deriving DecidableEq
inductive SC where
 |lit (v:Value)|int (t:Tm)|bool (b:BT)|AQ (i:Nat)|ptr (l o:Nat)|ifp (t:TypeId) (l o:Nat)|yT (i:Nat) (n:Tm)
inductive SV where
 |c (x:SC)|agg (l:List SC)|Jj (l:List (Bool × List SC))
inductive Xz(α:Type) where
 |leaf (a:α)|br (b:BT) (t e:Xz α)|fail (why:String)
structure Env where
 int:Nat->Int
 bool:Nat->Bool
 val:Nat->Value
 one:∀i,(val i).oneCell'=true
def Tm.den(e:Env):Tm->Int
 |.lit n=>n
 |.var i=>e.int i
 |.add a b=>IntKind.i64.wrap (a.den e+b.den e)
 |.sub a b=>IntKind.i64.wrap (a.den e-b.den e)
 |.mul a b=>IntKind.i64.wrap (a.den e*b.den e)
 |.quo a d=>IntKind.i64.wrap ((a.den e).tdiv d)
 |.rem a d=>(a.den e).tmod d
def noPtr:Value->Bool
 |.pointer (some _)=>false
 |_=>true
def zP:Value->Bool
 |.iface _ _=>false
 |_=>true
def BT.den(e:Env):BT->Bool
 |.gI i=>zP (e.val i)
 |.nil i=>noPtr (e.val i)
 |.lit b=>b
 |.var i=>e.bool i
 |.eq a b=>a.den e==b.den e
 |.lt a b=>decide (a.den e<b.den e)
 |.le a b=>decide (a.den e<=b.den e)
 |.not a=>!a.den e
 |.and a b=>a.den e&&b.den e
 |.or a b=>a.den e||b.den e
 |.beq a b=>a.den e==b.den e
def jJ:Value->Option Addr × Nat
 |.slice a _ c=>(a,c)
 |_=>(none,0)
def SC.den(e:Env)(β:Nat->Nat):SC->Value
 |.lit v=>v
 |.int t=>.int .i64 (t.den e)
 |.bool b=>.bool (b.den e)
 |.AQ i=>e.val i
 |.ptr l o=>.pointer (some ⟨β l,o,none⟩)
 |.ifp t l o=>.iface t (.pointer (some ⟨β l,o,none⟩))
 |.yT i n=>.slice (jJ (e.val i)).1 (n.den e).toNat (jJ (e.val i)).2
def Ym(e:Env)(β:Nat->Nat)(l:List SC):Array Value:=(l.map (SC.den e β)).toArray
def SP(e:Env)(β:Nat->Nat)(p:Bool × List SC):Value:=if p.1 then .agg (Ym e β p.2) else(p.2.headD (.lit undef)).den e β
def SV.den(e:Env)(β:Nat->Nat):SV->Value
 |.c x=>x.den e β
 |.agg l=>.agg (Ym e β l)
 |.Jj l=>.tuple (l.map (SP e β)).toArray
def Xz.bind{α β:Type}:Xz α->(α->Xz β)->Xz β
 |.leaf a,f=>f a
 |.br b t e,f=>.br b (t.bind f) (e.bind f)
 |.fail w,_=>.fail w
def Xz.B8{α:Type}(e:Env):Xz α->Option α
 |.leaf a=>some a
 |.br b t f=>match b.den e with
  |true=>t.B8 e
  |false=>f.B8 e
 |.fail _=>none
def Tm.mk(f:Int->Int->Int)(g:Tm->Tm->Tm):Tm->Tm->Tm
 |.lit a,.lit b=>.lit (IntKind.i64.wrap (f a b))
 |a,b=>g a b
def Tm.oI:Tm->Int->Tm
 |.lit a,d=>.lit (IntKind.i64.wrap (a.tdiv d))
 |a,d=>.quo a d
def Tm.oH:Tm->Int->Tm
 |.lit a,d=>.lit (a.tmod d)
 |a,d=>.rem a d
def BT.UR:Tm->Tm->BT
 |.lit a,.lit b=>.lit (a==b)
 |a,b=>if a=b then .lit true else .eq a b
def BT.uR:Tm->Tm->BT
 |.lit a,.lit b=>.lit (decide (a<b))
 |a,b=>.lt a b
def BT.uS:Tm->Tm->BT
 |.lit a,.lit b=>.lit (decide (a<=b))
 |a,b=>.le a b
def BT.Lr:BT->BT
 |.lit b=>.lit (!b)
 |.not b=>b
 |b=>.not b
def BT.aN:BT->BT->BT
 |.lit true,b=>b
 |.lit false,_=>.lit false
 |a,.lit true=>a
 |_,.lit false=>.lit false
 |a,b=>.and a b
def BT.zR:BT->BT->BT
 |.lit true,_=>.lit true
 |.lit false,b=>b
 |_,.lit true=>.lit true
 |a,.lit false=>a
 |a,b=>.or a b
def BT.oJ:BT->BT->BT
 |.lit true,b=>b
 |.lit false,b=>b.Lr
 |a,.lit true=>a
 |a,.lit false=>a.Lr
 |a,b=>if a=b then .lit true else .beq a b
abbrev FV:=List (BT × Bool)
def Jv(b:BT):FV->Option Bool
 |[]=>none
 |(x,v)::r=>if x=b then some v else Jv b r
def known(s:FV):BT->BT
 |.lit b=>.lit b
 |.not a=>(known s a).Lr
 |b=>match Jv b s with
  |some v=>.lit v
  |none=>b
def IM(b:BT)(v:Bool)(s:FV):FV:=
 match b,v with
 |.not x,v=>(x,!v)::s
 |.and x y,true=>(x,true)::(y,true)::s
 |.or x y,false=>(x,false)::(y,false)::s
 |b,v=>(b,v)::s
def KD:Value->SC
 |.int .i64 n=>.int (.lit n)
 |.bool b=>.bool (.lit b)
 |v=>.lit v
def ofValue:Value->SV
 |.agg cs=>.agg (cs.toList.map KD)
 |v=>.c (KD v)
abbrev Fb:SV:=.c (.lit undef)
def SC.one:SC->Bool
 |.lit v=>v.oneCell'
 |_=>true
def SV.cells?:SV->Option (List SC)
 |.c x=>if x.one then some [x] else none
 |.agg l=>some l
 |.Jj _=>none
abbrev Yk:=List (Nat × TypeId × List SC)
abbrev VQ:=List (Nat × SV)
structure St where
 fr:VQ
 hp:Yk
 BY:FV
 nx:Nat
 sz:Nat
def rO:Nat:=1000000
def St.ph(st:St):Nat:=st.nx/rO
def M6(j n:Nat):Nat:=j*rO+n%rO
def Dy:Nat:=1000000000
def Ho(t:Nat):VQ->SV
 |[]=>Fb
 |(k,v)::r=>if k==t then v else if k<t then Fb else Ho t r
def pG(t:Nat)(x:SV):VQ->VQ
 |[]=>[(t,x)]
 |(k,v)::r=>if k==t then(t,x)::r else if k<t then(t,x)::(k,v)::r else(k,v)::pG t x r
def ev(fr:VQ):Operand->SV
 |.tmp t=>Ho t fr
 |.const v=>ofValue v
 |.global g=>.c (.ptr (2*g) 0)
 |.func f=>.c (.lit (.func (.func f) #[] #[]))
def DY(dst:Option Nat)(v:SV)(st:St):St:=
 match dst with
 |some d=>{st with fr:=pG d v st.fr}
 |none=>st
def DS(l:Nat):Yk->Option (TypeId × List SC)
 |[]=>none
 |(k,t,cs)::r=>if k==l then some (t,cs) else DS l r
def K9(l:Nat)(cs:List SC)(h:Yk):Yk:=h.map λx=>if x.1==l then(x.1,x.2.1,cs) else x
def Qp(x:Nat × TypeId × List SC):Yk->Yk
 |[]=>[x]
 |y::r=>if y.1<x.1 then y::Qp x r else x::y::r
section
variable(P:Program)
def OI(t:TypeId):Option Bool:=
 match P.underlying t with
 |some (.struct _)|some (.array _ _)=>some true
 |some _=>some false
 |none=>none
def O3(t:TypeId)(cs:List SC)(off:Nat):Option SV:=
 match OI P t,P.info? t with
 |some true,some i=>if off+i.size<=cs.length then some (.agg ((cs.drop off).take i.size)) else none
 |some false,some _=>match cs[off]? with
  |some x=>if x.one then some (.c x) else none
  |none=>none
 |_,_=>none
def splice(cs:List SC)(off:Nat)(vs:List SC):List SC:=cs.take off++vs++cs.drop (off+vs.length)
def eqC(t:TypeId)(x y:SC):Option BT:=
 match P.underlying t,x,y with
 |some .bool,.bool a,.bool b=>some (BT.oJ a b)
 |some (.int .i64),.int a,.int b=>some (BT.UR a b)
 |some (.pointer _),.lit (.pointer none),.lit (.pointer none)=>some (.lit true)
 |some (.pointer _),.ptr _ _,.lit (.pointer none)=>some (.lit false)
 |some (.pointer _),.lit (.pointer none),.ptr _ _=>some (.lit false)
 |some (.interface _),.ifp _ _ _,.lit .nilIface=>some (.lit false)
 |_,_,_=>none
def eqF(xs ys:List SC):List Field->Option BT
 |[]=>some (.lit true)
 |f::r=>if f.name= "_" then none else
  match OI P f.type,xs[f.offset]?,ys[f.offset]? with
  |some false,some x,some y=>match eqC P f.type x y with
   |some b=>match eqF xs ys r with
    |some c=>some (BT.aN b c)
    |none=>none
   |none=>none
  |_,_,_=>none
def eqS(t:TypeId):SV->SV->Option BT
 |.c x,.c y=>if x.one&&y.one then eqC P t x y else none
 |.agg xs,.agg ys=>match P.underlying t with
  |some (.struct fs)=>if P.stoodInHeld t||P.eqGuardType P.depth t then none else eqF P xs ys fs.toList
  |_=>none
 |_,_=>none
def binS(op:BinOp)(t:TypeId)(x y:SV):Option SV:=
 match op,x,y with
 |.eql,.c (.int a),.c (.int b)=>some (.c (.bool (BT.UR a b)))
 |.neq,.c (.int a),.c (.int b)=>some (.c (.bool (BT.UR a b).Lr))
 |.lss,.c (.int a),.c (.int b)=>some (.c (.bool (BT.uR a b)))
 |.leq,.c (.int a),.c (.int b)=>some (.c (.bool (BT.uS a b)))
 |.gtr,.c (.int a),.c (.int b)=>some (.c (.bool (BT.uR b a)))
 |.geq,.c (.int a),.c (.int b)=>some (.c (.bool (BT.uS b a)))
 |.add,.c (.int a),.c (.int b)=>some (.c (.int (Tm.mk (·+·) .add a b)))
 |.sub,.c (.int a),.c (.int b)=>some (.c (.int (Tm.mk (· -·) .sub a b)))
 |.mul,.c (.int a),.c (.int b)=>some (.c (.int (Tm.mk (·*·) .mul a b)))
 |.quo,.c (.int a),.c (.int (.lit d))=>if d=0 then none else some (.c (.int (a.oI d)))
 |.rem,.c (.int a),.c (.int (.lit d))=>if d=0 then none else some (.c (.int (a.oH d)))
 |.eql,x,y=>match eqS P t x y with
  |some b=>some (.c (.bool b))
  |none=>none
 |.neq,x,y=>match eqS P t x y with
  |some b=>some (.c (.bool b.Lr))
  |none=>none
 |_,_,_=>none
def Ve(place:Nat->Option (Nat × Nat))(cells:List SC):List (Nat × SV)->Option (List SC)
 |[]=>some cells
 |(i,v)::rest=>
  match place i,v.cells? with
  |some (off,size),some l=>if l.length=size/\off+l.length<=cells.length then Ve place (splice cells off l) rest else none
  |_,_=>none
def nR(fr:VQ)(l:List (Nat × Operand)):List (Nat × SV):=l.map λp=>(p.1,ev fr p.2)
def nilS(s:FV)(op:BinOp)(t:TypeId)(x:SV)(y:Operand):Option SV:=
 match op,x,y,P.underlying t with
 |.eql,.c (.AQ i),.const (.pointer none),some (.pointer _)=>if Jv (.nil i) s=some false then some (.c (.bool (.lit false))) else none
 |.neq,.c (.AQ i),.const (.pointer none),some (.pointer _)=>if Jv (.nil i) s=some false then some (.c (.bool (.lit true))) else none
 |.eql,.c (.lit .nilIface),.const .nilIface,some (.interface _)=>some (.c (.bool (.lit true)))
 |.neq,.c (.lit .nilIface),.const .nilIface,some (.interface _)=>some (.c (.bool (.lit false)))
 |_,_,_,_=>none
def QG(fr:VQ)(s:FV):Op->Option SV
 |.move x|.assign x=>some (ev fr x)
 |.pick c a b=>match ev fr c with
  |.c (.bool q)=>match known s q with
   |.lit true=>some (ev fr a)
   |.lit false=>some (ev fr b)
   |q'=>match ev fr a,ev fr b with
    |.c (.bool (.lit true)),.c (.bool y)=>some (.c (.bool (BT.zR q' y)))
    |.c (.bool x),.c (.bool (.lit false))=>some (.c (.bool (BT.aN q' x)))
    |_,_=>none
  |_=>none
 |.nilCheck x=>match ev fr x with
  |.c (.ptr l o)=>some (.c (.ptr l o))
  |.c (.AQ i)=>if Jv (.gI i) s=some false then some (.c (.AQ i)) else none
  |_=>none
 |.fieldAddr s x f=>match P.underlying s,ev fr x with
  |some (.struct fs),.c (.ptr l o)=>match fs[f]? with
   |some fd=>match P.info? fd.type with
    |some i=>if i.size=0 then none else some (.c (.ptr l (o+fd.offset)))
    |none=>none
   |none=>none
  |_,_=>none
 |.field t x f=>match P.underlying t,ev fr x with
  |some (.struct fs),.agg cs=>match fs[f]? with
   |some fd=>O3 P fd.type cs fd.offset
   |none=>none
  |_,_=>none
 |.extract t i=>match ev fr t with
  |.Jj l=>match l[i]? with
   |some (true,cs)=>some (.agg cs)
   |some (false,[x])=>some (.c x)
   |_=>none
  |_=>none
 |.binOp op t x y _=>match nilS P s op t (ev fr x) y with
  |some v=>some v
  |none=>binS P op t (ev fr x) (ev fr y)
 |.unOp .not _ x=>match ev fr x with
  |.c (.bool b)=>some (.c (.bool b.Lr))
  |_=>none
 |.indexAddr t x ix=>match P.underlying t,ev fr x,ev fr ix with
  |some (.array len e),.c (.ptr l o),.c (.int (.lit i))=>match P.info? e with
   |some inf=>if 0<=i/\i<(len:Int) then some (.c (.ptr l (o+i.toNat*inf.size))) else none
   |none=>none
  |_,_,_=>none
 |.build t parts=>match P.info? t,P.underlying t with
  |some it,some (.struct fs)=>match it.zero,fs.toList.mapM (λf=>(P.info? f.type).map λi=>(f.offset,i.size)) with
   |some z,some pl=>match Ve (pl.toArray[·]?) (z.cells.toList.map KD) (nR fr parts.toList) with
    |some l=>some (.agg l)
    |none=>none
   |_,_=>none
  |_,_=>none
 |.makeInterface t x=>match P.underlying t,ev fr x with
  |some (.pointer _),.c (.ptr l o)=>some (.c (.ifp t l o))
  |some (.pointer _),.c (.lit (.pointer none))=>some (.c (.lit (.iface t (.pointer none))))
  |_,_=>none
 |_=>none
def OM(ops:Array Oper)(o:Oper)(st:St):Option BT:=
 match o.guard with
 |none=>some (.lit true)
 |some (j,want)=>match(ops[j]?).bind (·.dst) with
  |some d=>match Ho d st.fr with
   |.c (.bool b)=>some (if want then known st.BY b else(known st.BY b).Lr)
   |_=>none
  |none=>none
def gW(dst:Option Nat)(i:Tm)(l o size:Nat):List Nat->St->Xz St
 |[],_=>.fail "index"
 |j::r,st=>match known st.BY (BT.UR i (.lit (j:Int))) with
  |.lit true=>.leaf (DY dst (.c (.ptr l (o+j*size))) st)
  |.lit false=>gW dst i l o size r st
  |b=>.br b (.leaf (DY dst (.c (.ptr l (o+j*size))) {st with BY:=IM b true st.BY})) (gW dst i l o size r {st with BY:=IM b false st.BY})
def WN(callf:Nat->List SV->St->Xz (SV × St))(lab:Nat)(o:Oper)(st:St):Xz St:=
 match QG P st.fr st.BY o.op with
 |some v=>.leaf (DY o.dst v st)
 |none=>
 match o.op with
 |.indexAddr t x ix=>match P.underlying t,ev st.fr x,ev st.fr ix with
  |some (.array len e),.c (.ptr l of),.c (.int i)=>match P.info? e with
   |some inf=>gW o.dst i l of inf.size (List.range len) st
   |none=>.fail o.pos
  |_,_,_=>.fail o.pos
 |.load t a=>match ev st.fr a with
  |.c (.ptr l i)=>match DS l st.hp with
   |some (_,cs)=>match O3 P t cs i with
    |some v=>.leaf (DY o.dst v st)
    |none=>.fail o.pos
   |none=>.fail o.pos
  |_=>.fail o.pos
 |.alloc t=>match(P.info? t).bind (·.zero),DS lab st.hp with
  |some z,none=>match(ofValue z).cells? with
   |some cs=>.leaf (DY o.dst (.c (.ptr lab 0)) {st with hp:=Qp (lab,t,cs) st.hp})
   |none=>.fail o.pos
  |_,_=>.fail o.pos
 |.box t x=>match(ev st.fr x).cells?,DS lab st.hp with
  |some cs,none=>.leaf (DY o.dst (.c (.ptr lab 0)) {st with hp:=Qp (lab,t,cs) st.hp})
  |_,_=>.fail o.pos
 |.store t a x=>match ev st.fr a,(ev st.fr x).cells?,P.info? t with
  |.c (.ptr l i),some vs,some inf=>match DS l st.hp with
   |some (_,cs)=>if vs.length=inf.size/\i+vs.length<=cs.length/\vs.all SC.one=true then .leaf (DY o.dst Fb {st with hp:=K9 l (splice cs i vs) st.hp}) else .fail o.pos
   |none=>.fail o.pos
  |_,_,_=>.fail o.pos
 |.call c=>match c.callee with
  |.value (.func f)=>if f=Dy then .fail o.pos else(callf f (c.args.toList.map (ev st.fr)) st).bind λr=>.leaf (DY o.dst r.1 {r.2 with fr:=st.fr,sz:=st.sz})
  |.invoke t name=>if name= "Next" then(callf Dy (ev st.fr t::c.args.toList.map (ev st.fr)) st).bind λr=>.leaf (DY o.dst r.1 {r.2 with fr:=st.fr,sz:=st.sz}) else .fail o.pos
  |.builtin .len=>match c.args.toList.map (ev st.fr),(c.argTypes[0]?).bind P.underlying with
   |[.c (.yT _ n)],some (.slice _)=>match known st.BY (.le (.lit 0) n) with
    |.lit true=>.leaf (DY o.dst (.c (.int n)) st)
    |_=>.fail o.pos
   |_,_=>.fail o.pos
  |_=>.fail o.pos
 |_=>.fail o.pos
def okD(o:Oper)(st:St):Bool:=
 match o.dst with
 |some d=>decide (d<st.sz)
 |none=>true
def Ol(callf:Nat->List SV->St->Xz (SV × St))(ops:Array Oper)(lab:Nat)(o:Oper)(st:St):Xz St:=
 if okD o st=false then .fail "slot" else
 match OM ops o st with
 |none=>.fail o.pos
 |some (.lit true)=>WN P callf lab o st
 |some (.lit false)=>.leaf (DY o.dst Fb st)
 |some b=>.br b (WN P callf lab o {st with BY:=IM b true st.BY}) (.leaf (DY o.dst Fb {st with BY:=IM b false st.BY}))
def mC(callf:Nat->List SV->St->Xz (SV × St))(ops:Array Oper):List Oper->Nat->St->Xz St
 |[],_,st=>.leaf st
 |o::rest,k,st=>(Ol P callf ops (2*(st.nx%rO+k)+1) o st).bind (mC callf ops rest (k+1))
def maxH(h:Yk)(n:Nat):Nat:=h.foldl (λm x=>if m<=x.1/2 then x.1/2+1 else m) n
def bump(st:St):St:={st with nx:=M6 st.ph (maxH st.hp (st.nx%rO))}
def oV:Value->Value->Bool
 |.int j a,.int k b=>decide (j=k)&&decide (a=b)
 |.bool a,.bool b=>a==b
 |.pointer none,.pointer none=>true
 |.nilIface,.nilIface=>true
 |.nilFunc,.nilFunc=>true
 |.slice none 0 0,.slice none 0 0=>true
 |.iface s (.pointer none),.iface t (.pointer none)=>decide (s=t)
 |.tuple a,.tuple b=>a.size==0&&b.size==0
 |_,_=>false
def SC.same:SC->SC->Bool
 |.lit a,.lit b=>oV a b
 |.int a,.int b=>decide (a=b)
 |.bool a,.bool b=>decide (a=b)
 |.AQ a,.AQ b=>decide (a=b)
 |.ptr a b,.ptr c d=>decide (a=c)&&decide (b=d)
 |.ifp t a b,.ifp u c d=>decide (t=u)&&decide (a=c)&&decide (b=d)
 |.yT a b,.yT c d=>decide (a=c)&&decide (b=d)
 |_,_=>false
def E8{α:Type}(f:α->α->Bool):List α->List α->Bool
 |[],[]=>true
 |x::r,y::s=>f x y&&E8 f r s
 |_,_=>false
def SV.same:SV->SV->Bool
 |.c x,.c y=>x.same y
 |.agg l,.agg m=>E8 SC.same l m
 |.Jj l,.Jj m=>E8 (λp q=>p.1==q.1&&E8 SC.same p.2 q.2) l m
 |_,_=>false
def St.same(s t:St):Bool:=
 E8 (λp q=>decide (p.1=q.1)&&p.2.same q.2) s.fr t.fr&&E8 (λp q=>decide (p.1=q.1)&&decide (p.2.1=q.2.1)&&E8 SC.same p.2.2 q.2.2) s.hp t.hp&&E8 (λp q=>decide (p=q)) s.BY t.BY&&decide (s.nx=t.nx)&&decide (s.sz=t.sz)
def Xz.same:Xz St->Xz St->Bool
 |.leaf s,.leaf t=>s.same t
 |.br b x y,.br c u v=>decide (b=c)&&x.same u&&y.same v
 |_,_=>false
abbrev Node:=Nat × Xz St
def Lj:Op->Bool
 |.move _|.assign _|.pick _ _ _|.nilCheck _|.fieldAddr _ _ _|.field _ _ _|.extract _ _|.binOp _ _ _ _ _|.unOp _ _ _|.build _ _|.makeInterface _ _=>true
 |_=>false
structure Zx where
 pred:Nat
 look:Nat
 dst:Nat
 plain:Bool
def O0:List Edge->Nat
 |[]=>0
 |e::r=>if Region.binds .any e then(1<<<e.on)|||O0 r else O0 r
def MZ:List Nat->Nat
 |[]=>0
 |t::r=>(1<<<t)|||MZ r
def Vj:Option Nat->Nat
 |some d=>1<<<d
 |none=>0
def EU(ops:Array Oper):List Oper->List Zx
 |[]=>[]
 |o::r=>⟨O0 o.after.toList,MZ (o.looksAt ops),Vj o.dst,Lj o.op&&o.guard.isNone⟩::EU ops r
def Hj(L:Nat):List Zx->Nat->List Nat
 |[],_=>[]
 |x::r,i=>if !L.testBit i&&(x.pred&&& L)==x.pred then i::Hj L r (i+1) else Hj L r (i+1)
def Vb(L i:Nat)(xi:Zx):List Zx->Nat->Bool
 |[],_=>true
 |y::r,j=>(j==i||L.testBit j||y.pred.testBit i||((xi.dst&&& (y.look|||y.dst))==0&&(y.dst&&& xi.look)==0))&&Vb L i xi r (j+1)
def O1(L:Nat)(inf:List Zx):List Zx->Nat->Option Nat
 |[],_=>none
 |x::r,i=>if x.plain&&!L.testBit i&&(x.pred&&& L)==x.pred&&Vb L i x inf 0 then some i else O1 L inf r (i+1)
def FX(inf:List Zx)(L:Nat):List Nat:=
 match O1 L inf inf 0 with
 |some i=>[i]
 |none=>Hj L inf 0
def SW(callf:Nat->List SV->St->Xz (SV × St))(ops:Array Oper)(nd:Node)(i:Nat):Node:=
 (nd.1 ||| (1 <<< i),nd.2.bind fun st=>match ops[i]? with
  |some o=>Ol P callf ops (2*(st.nx%rO+i)+1) o st
  |none=>.fail "no operation")
def NJ(callf:Nat->List SV->St->Xz (SV × St))(ops:Array Oper)(inf:List Zx):List Node->Option (List Node)
 |[]=>some []
 |nd::r=>match FX inf nd.1 with
  |[]=>none
  |p::ps=>match NJ callf ops inf r with
   |some l=>some ((p::ps).map (SW P callf ops nd)++l)
   |none=>none
def aV(L:Nat):List Node->Option (Xz St)
 |[]=>none
 |n::r=>if n.1==L then some n.2 else aV L r
def O8:List Node->List Node->Option (List Node)
 |[],AY=>some AY
 |n::r,AY=>match aV n.1 AY with
  |some T=>if n.2.same T then O8 r AY else none
  |none=>O8 r (n::AY)
def qX(callf:Nat->List SV->St->Xz (SV × St))(ops:Array Oper)(inf:List Zx):Nat->List Node->Option (Xz St)
 |0,nds=>match nds with
  |[(L,T)]=>match Hj L inf 0 with
   |[]=>some T
   |_=>none
  |_=>none
 |m+1,nds=>match NJ P callf ops inf nds with
  |some ss=>match O8 ss [] with
   |some ns=>qX callf ops inf m ns
   |none=>none
  |none=>none
def zA(callf:Nat->List SV->St->Xz (SV × St))(ops:Array Oper)(st:St):Xz St:=
 if Region.noSelect ops then
  match qX P callf ops (EU ops ops.toList) ops.size [(0,.leaf st)] with
  |some T=>T.bind λs=>.leaf (bump s)
  |none=>.fail "a region whose orders part"
 else .fail "select"
def SC.gP:SC->List Nat
 |.ptr l _|.ifp _ l _=>[l]
 |_=>[]
def SV.gP:SV->List Nat
 |.c x=>x.gP
 |.agg l=>l.flatMap SC.gP
 |.Jj l=>l.flatMap λp=>p.2.flatMap SC.gP
def Fs(l:Nat):List Nat->Bool
 |[]=>false
 |k::r=>k==l||Fs l r
def xK(h:Yk)(A5:List Nat):List Nat:=
 h.foldl (λks x=>if Fs x.1 ks then(x.2.2.flatMap SC.gP).foldl (λks l=>if Fs l ks then ks else l::ks) ks else ks) A5
def okC(ls:List Nat):SC->Bool
 |.ptr l _|.ifp _ l _=>l%2==0||Fs l ls
 |_=>true
def Jt(ls:List Nat):List SC->Bool
 |[]=>true
 |x::r=>okC ls x&&Jt ls r
def okP(ls:List Nat):List (Bool × List SC)->Bool
 |[]=>true
 |x::r=>Jt ls x.2&&okP ls r
def Jc(ls:List Nat):SV->Bool
 |.c x=>okC ls x
 |.agg l=>Jt ls l
 |.Jj l=>okP ls l
def QO(ls:List Nat):Yk->Bool
 |[]=>true
 |x::r=>Jt ls x.2.2&&QO ls r
def QU(ls:List Nat):Yk->Yk
 |[]=>[]
 |x::r=>if Fs x.1 ls then x::QU ls r else QU ls r
def Yi:Yk->List Nat
 |[]=>[]
 |x::r=>x.1::Yi r
def rB(ls:List Nat):List Nat->Bool
 |[]=>true
 |l::r=>Fs l ls&&rB ls r
def gcS(A1:Yk)(v:SV)(h:Yk):Option Yk:=
 let ko:=Yi A1
 let h1:=QU ko h
 if Jc ko v&&QO ko h1&&rB (Yi h1) ko then some h1 else
 let k:=xK h (xK h (v.gP++ko))
 let h2:=QU k h
 let k2:=Yi h2
 if Jc k2 v&&QO k2 h2&&rB k2 ko then some h2 else none
def Sv(st:St):ResultVar->Option SV
 |.tmp t=>some (Ho t st.fr)
 |.cell a t=>match Ho a st.fr with
  |.c (.ptr l i)=>match DS l st.hp with
   |some (_,cs)=>O3 P t cs i
   |none=>none
  |_=>none
def SV.comp:SV->Option (Bool × List SC)
 |.c x=>some (false,[x])
 |.agg l=>some (true,l)
 |.Jj _=>none
def Ms(st:St):List ResultVar->Option (List (Bool × List SC))
 |[]=>some []
 |r::rs=>match Sv P st r,Ms st rs with
  |some v,some l=>match v.comp with
   |some p=>some (p::l)
   |none=>none
  |_,_=>none
def tU(fn:Func)(st:St):Option SV:=
 match fn.results.toList with
 |[r]=>Sv P st r
 |rs=>match Ms P st rs with
  |some l=>some (.Jj l)
  |none=>none
structure Xu where
 self:Bool
 f:Nat
 ty:TypeId
 cells:List SC
 rest:List SV
 out:SV
 Ej:List SC
def Gx(s:Xu):Option Nat:=match s.Ej.getLast? with
 |some (.AQ n)=>if s.self&&s.Ej.length==s.cells.length+1 then some n else none
 |_=>none
def aT(f:Nat)(ty:TypeId)(cs:List SC)(rest:List SV):List Xu->Option Xu
 |[]=>none
 |s::r=>if s.self&&!(f==Dy)&&(Gx s).isNone&&s.f==f&&s.ty==ty&&E8 SC.same cs s.cells&&E8 SV.same rest s.rest&&Jc [] s.out&&Jt [] s.cells&&Jt [] s.Ej&&s.rest.all (Jc []) then some s else aT f ty cs rest r
def aU(f:Nat)(args:List SV):List Xu->Option SV
 |[]=>none
 |s::r=>if !s.self&&!(f==Dy)&&s.ty==0&&s.f==f&&E8 SV.same args s.rest&&Jc [] s.out&&s.rest.all (Jc []) then some s.out else aU f args r
def yO(S:List Xu)(f:Nat)(args:List SV)(st:St):Option (SV × St):=
 match args with
 |.c (.ptr l 0)::rest=>match DS l st.hp with
  |some (ty,cs)=>match aT f ty cs rest S with
   |some s=>some (s.out,{st with hp:=K9 l s.Ej st.hp})
   |none=>none
  |none=>none
 |_=>none
def holds(a:FV):SC->Bool
 |.bool q=>decide (known a q=.lit true)
 |_=>false
def aX(a:FV)(f ph:Nat)(args:List SV):List Xu->Option (SV × Nat)
 |[]=>none
 |s::r=>if s.cells.all (holds a)&&!s.self&&!(s.ty==0)&&s.f==f&&(s.ty-1)%100==ph&&E8 SV.same args s.rest&&Jc [] s.out&&s.rest.all (Jc []) then some (s.out,(s.ty-1)/100) else aX a f ph args r
def Vc(f ph off:Nat)(ty:TypeId)(cs:List SC)(rest:List SV):List Xu->Option (Xu × Nat)
 |[]=>none
 |s::r=>match Gx s with
  |some n=>if s.self&&!(f==Dy)&&s.f==f&&s.ty==ty&&E8 SC.same cs s.cells&&E8 SV.same rest s.rest&&Jc [] s.out&&Jt [] s.cells&&Jt [] s.Ej.dropLast&&s.rest.all (Jc [])&&(n-1)%100==ph&&n/10000==off then some (s,(n-1)%10000/100) else Vc f ph off ty cs rest r
  |none=>Vc f ph off ty cs rest r
def yN(S:List Xu)(f:Nat)(args:List SV)(st:St):Option (SV × St):=
 match args with
 |.c (.ptr l off)::rest=>match DS l st.hp with
  |some (ty,cs)=>match Vc f st.ph off ty cs rest S with
   |some (s,j)=>some (s.out,{st with hp:=K9 l s.Ej.dropLast st.hp,nx:=M6 j st.nx})
   |none=>none
  |none=>none
 |_=>none
def yM(S:List Xu)(f:Nat)(args:List SV)(st:St):Option (SV × St):=
 match aU f args S with
 |some v=>some (v,st)
 |none=>match aX st.BY f st.ph args S with
  |some (v,j)=>some (v,{st with nx:=M6 j st.nx})
  |none=>match yN S f args st with
   |some r=>some r
   |none=>yO S f args st
inductive Ex where
 |normal|exit (i:Nat)|ret
inductive Task where
 |code (c:Code)|call (f:Nat) (args:List SV)
def Px:Nat->List SV->VQ->VQ
 |_,[],AY=>AY
 |k,v::r,AY=>Px (k+1) r ((k,v)::AY)
def exec(S:List Xu):Nat->Task->St->Xz (Ex × SV × St)
 |0,_,_=>.fail "fuel"
 |n+1,.code c,st=>
  match c with
  |.skip|.label _=>.leaf (.normal,Fb,st)
  |.ret=>.leaf (.ret,Fb,st)
  |.exit i=>.leaf (.exit i,Fb,st)
  |.seq a b=>(exec S n (.code a) st).bind λr=>match r.1 with
   |.normal=>exec S n (.code b) r.2.2
   |_=>.leaf r
  |.cond c x y=>match ev st.fr c with
   |.c (.bool q)=>match known st.BY q with
    |.lit true=>exec S n (.code x) st
    |.lit false=>exec S n (.code y) st
    |q'=>.br q' (exec S n (.code x) {st with BY:=IM q' true st.BY}) (exec S n (.code y) {st with BY:=IM q' false st.BY})
   |_=>.fail "cond"
  |.block i b=>(exec S n (.code b) st).bind λr=>match r.1 with
   |.exit j=>if j=i then .leaf (.normal,r.2) else .leaf r
   |_=>.leaf r
  |.loop b=>(exec S n (.code b) st).bind λr=>match r.1 with
   |.normal=>exec S n (.code (.loop b)) r.2.2
   |_=>.leaf r
  |.region _ ops draw=>
   let callf:=λf args s=>(exec S n (.call f args) s).bind λr=>.leaf r.2
   match draw with
   |true=>(zA P callf ops st).bind λs=>.leaf (.normal,Fb,s)
   |false=>(mC P callf ops ops.toList 0 st).bind λs=>.leaf (.normal,Fb,bump s)
  |_=>.fail "code"
 |n+1,.call f args,st=>
  match yM S f args st with
  |some r=>.leaf (.normal,r.1,r.2)
  |none=>
  if f=Dy then .fail "a method" else
  match P.funcs[f]? with
  |none=>.fail "no function"
  |some fn=>if fn.name== "runtime.NumGoroutine" then .fail "name" else
   match fn.body with
   |none=>.fail "no body"
   |some c=>(exec S n (.code c) {st with fr:=Px 0 args [],nx:=M6 st.ph (st.nx+100),sz:=fn.ntmps}).bind λr=>
    match r.1 with
    |.exit _=>.fail "exit"
    |_=>match tU P fn r.2.2 with
     |none=>.fail "results"
     |some v=>match gcS st.hp v r.2.2.hp with
      |none=>.fail "what is left"
      |some h=>.leaf (.normal,v,{fr:=st.fr,hp:=h,BY:=r.2.2.BY,nx:=M6 r.2.2.ph st.nx,sz:=st.sz})
end
end Go.Proofs.YtaipogljokblkaaGreatDoor
