/- Core: SymA. -/
import Derived.Test.YtaipogljokblkaaGreatDoorZ01
set_option linter.all false
set_option maxRecDepth 100000
set_option maxHeartbeats 8000000
namespace Go.Proofs.YtaipogljokblkaaGreatDoor
open Go Go.RowKit
set_option linter.unusedSimpArgs false
set_option linter.unusedVariables false
set_option linter.unusedSectionVars false
inductive Tm where
 | lit (n:Int) | var (i:Nat) | add (a b:Tm) | sub (a b:Tm) | mul (a b:Tm) | quo (a:Tm) (d:Int) | rem (a:Tm) (d:Int)
 deriving DecidableEq
inductive BT where
 | lit (b:Bool) | var (i:Nat) | eq (a b:Tm) | lt (a b:Tm) | le (a b:Tm) | not (a:BT) | and (a b:BT) | or (a b:BT) | beq (a b:BT) | nil (i:Nat) | nilI (i:Nat)
 deriving DecidableEq
inductive SC where
 | lit (v:Value) | int (t:Tm) | bool (b:BT) | raw (i:Nat) | ptr (l o:Nat) | ifp (t:TypeId) (l o:Nat) | slc (i:Nat) (n:Tm)
inductive SV where
 | c (x:SC) | agg (l:List SC) | tup (l:List (Bool × List SC))
inductive Xy (α:Type) where
 | leaf (a:α) | br (b:BT) (t e:Xy α) | fail (why:String)
structure Env where
 int:Nat→Int
 bool:Nat→Bool
 val:Nat→Value
 one:∀ i,(val i).oneCell' = true
def Tm.den (e:Env):Tm→Int
 | .lit n=>n
 | .var i=>e.int i
 | .add a b=>IntKind.i64.wrap (a.den e+b.den e)
 | .sub a b=>IntKind.i64.wrap (a.den e - b.den e)
 | .mul a b=>IntKind.i64.wrap (a.den e*b.den e)
 | .quo a d=>IntKind.i64.wrap ((a.den e).tdiv d)
 | .rem a d=>(a.den e).tmod d
def noPtr:Value→Bool
 | .pointer (some _)=>false
 | _=>true
def noIf:Value→Bool
 | .iface _ _=>false
 | _=>true
def BT.den (e:Env):BT→Bool
 | .nilI i=>noIf (e.val i)
 | .nil i=>noPtr (e.val i)
 | .lit b=>b
 | .var i=>e.bool i
 | .eq a b=>a.den e==b.den e
 | .lt a b=>decide (a.den e < b.den e)
 | .le a b=>decide (a.den e≤b.den e)
 | .not a=>!a.den e
 | .and a b=>a.den e && b.den e
 | .or a b=>a.den e || b.den e
 | .beq a b=>a.den e==b.den e
def hdr:Value→Option Addr × Nat
 | .slice a _ c=>(a,c)
 | _=>(none,0)
def SC.den (e:Env) (β:Nat→Nat):SC→Value
 | .lit v=>v
 | .int t=>.int .i64 (t.den e)
 | .bool b=>.bool (b.den e)
 | .raw i=>e.val i
 | .ptr l o=>.pointer (some ⟨β l,o,none⟩)
 | .ifp t l o=>.iface t (.pointer (some ⟨β l,o,none⟩))
 | .slc i n=>.slice (hdr (e.val i)).1 (n.den e).toNat (hdr (e.val i)).2
def Ye (e:Env) (β:Nat→Nat) (l:List SC):Array Value:=(l.map (SC.den e β)).toArray
def denP (e:Env) (β:Nat→Nat) (p:Bool × List SC):Value:=if p.1 then .agg (Ye e β p.2) else (p.2.headD (.lit undef)).den e β
def SV.den (e:Env) (β:Nat→Nat):SV→Value
 | .c x=>x.den e β
 | .agg l=>.agg (Ye e β l)
 | .tup l=>.tuple (l.map (denP e β)).toArray
def Xy.bind {α β:Type}:Xy α→(α→Xy β)→Xy β
 | .leaf a,f=>f a
 | .br b t e,f=>.br b (t.bind f) (e.bind f)
 | .fail w,_=>.fail w
def Xy.sel {α:Type} (e:Env):Xy α→Option α
 | .leaf a=>some a
 | .br b t f=>match b.den e with
  | true=>t.sel e
  | false=>f.sel e
 | .fail _=>none
def Tm.mk (f:Int→Int→Int) (g:Tm→Tm→Tm):Tm→Tm→Tm
 | .lit a,.lit b=>.lit (IntKind.i64.wrap (f a b))
 | a,b=>g a b
def Tm.mkQuo:Tm→Int→Tm
 | .lit a,d=>.lit (IntKind.i64.wrap (a.tdiv d))
 | a,d=>.quo a d
def Tm.mkRem:Tm→Int→Tm
 | .lit a,d=>.lit (a.tmod d)
 | a,d=>.rem a d
def BT.mkEq:Tm→Tm→BT
 | .lit a,.lit b=>.lit (a==b)
 | a,b=>if a = b then .lit true else .eq a b
def BT.mkLt:Tm→Tm→BT
 | .lit a,.lit b=>.lit (decide (a < b))
 | a,b=>.lt a b
def BT.mkLe:Tm→Tm→BT
 | .lit a,.lit b=>.lit (decide (a≤b))
 | a,b=>.le a b
def BT.mkNot:BT→BT
 | .lit b=>.lit (!b)
 | .not b=>b
 | b=>.not b
def BT.mkAnd:BT→BT→BT
 | .lit true,b=>b
 | .lit false,_=>.lit false
 | a,.lit true=>a
 | _,.lit false=>.lit false
 | a,b=>.and a b
def BT.mkOr:BT→BT→BT
 | .lit true,_=>.lit true
 | .lit false,b=>b
 | _,.lit true=>.lit true
 | a,.lit false=>a
 | a,b=>.or a b
def BT.mkBeq:BT→BT→BT
 | .lit true,b=>b
 | .lit false,b=>b.mkNot
 | a,.lit true=>a
 | a,.lit false=>a.mkNot
 | a,b=>if a = b then .lit true else .beq a b
abbrev Asm:=List (BT × Bool)
def lookA (b:BT):Asm→Option Bool
 | []=>none
 | (x,v) :: r=>if x = b then some v else lookA b r
def known (s:Asm):BT→BT
 | .lit b=>.lit b
 | .not a=>(known s a).mkNot
 | b=>match lookA b s with
  | some v=>.lit v
  | none=>b
def addA (b:BT) (v:Bool) (s:Asm):Asm :=
 match b,v with
 | .not x,v=>(x,!v) :: s
 | .and x y,true=>(x,true) :: (y,true) :: s
 | .or x y,false=>(x,false) :: (y,false) :: s
 | b,v=>(b,v) :: s
def ofCell:Value→SC
 | .int .i64 n=>.int (.lit n)
 | .bool b=>.bool (.lit b)
 | v=>.lit v
def ofValue:Value→SV
 | .agg cs=>.agg (cs.toList.map ofCell)
 | v=>.c (ofCell v)
abbrev undefS:SV:=.c (.lit undef)
def SC.one:SC→Bool
 | .lit v=>v.oneCell'
 | _=>true
def SV.cells?:SV→Option (List SC)
 | .c x=>if x.one then some [x] else none
 | .agg l=>some l
 | .tup _=>none
abbrev Heap:=List (Nat × TypeId × List SC)
abbrev Frm:=List (Nat × SV)
structure St where
 fr:Frm
 hp:Heap
 asm:Asm
 nx:Nat
 sz:Nat
def phM:Nat:=1000000
def St.ph (st:St):Nat:=st.nx / phM
def inPh (j n:Nat):Nat:=j*phM+n % phM
def invF:Nat:=1000000000
def getF (t:Nat):Frm→SV
 | []=>undefS
 | (k,v) :: r=>if k==t then v else if k < t then undefS else getF t r
def insF (t:Nat) (x:SV):Frm→Frm
 | []=>[(t,x)]
 | (k,v) :: r=>if k==t then (t,x) :: r else if k < t then (t,x) :: (k,v) :: r else (k,v) :: insF t x r
def ev (fr:Frm):Operand→SV
 | .tmp t=>getF t fr
 | .const v=>ofValue v
 | .global g=>.c (.ptr (2*g) 0)
 | .func f=>.c (.lit (.func (.func f) #[] #[]))
def putS (dst:Option Nat) (v:SV) (st:St):St :=
 match dst with
 | some d=>{ st with fr:=insF d v st.fr }
 | none=>st
def lookH (l:Nat):Heap→Option (TypeId × List SC)
 | []=>none
 | (k,t,cs) :: r=>if k==l then some (t,cs) else lookH l r
def setH (l:Nat) (cs:List SC) (h:Heap):Heap:=h.map fun x=>if x.1==l then (x.1,x.2.1,cs) else x
def insH (x:Nat × TypeId × List SC):Heap→Heap
 | []=>[x]
 | y :: r=>if y.1 < x.1 then y :: insH x r else x :: y :: r
section
variable (P:Program)
def isAggP (t:TypeId):Option Bool :=
 match P.underlying t with
 | some (.struct _) | some (.array _ _)=>some true
 | some _=>some false
 | none=>none
def partS (t:TypeId) (cs:List SC) (off:Nat):Option SV :=
 match isAggP P t,P.info? t with
 | some true,some i=>if off+i.size≤cs.length then some (.agg ((cs.drop off).take i.size)) else none
 | some false,some _=>match cs[off]? with
  | some x=>if x.one then some (.c x) else none
  | none=>none
 | _,_=>none
def splice (cs:List SC) (off:Nat) (vs:List SC):List SC:=cs.take off++vs++cs.drop (off+vs.length)
def eqC (t:TypeId) (x y:SC):Option BT :=
 match P.underlying t,x,y with
 | some .bool,.bool a,.bool b=>some (BT.mkBeq a b)
 | some (.int .i64),.int a,.int b=>some (BT.mkEq a b)
 | some (.pointer _),.lit (.pointer none),.lit (.pointer none)=>some (.lit true)
 | some (.pointer _),.ptr _ _,.lit (.pointer none)=>some (.lit false)
 | some (.pointer _),.lit (.pointer none),.ptr _ _=>some (.lit false)
 | some (.interface _),.ifp _ _ _,.lit .nilIface=>some (.lit false)
 | _,_,_=>none
def eqF (xs ys:List SC):List Field→Option BT
 | []=>some (.lit true)
 | f :: r=>if f.name = "_" then none else
  match isAggP P f.type,xs[f.offset]?,ys[f.offset]? with
  | some false,some x,some y=>match eqC P f.type x y with
   | some b=>match eqF xs ys r with
    | some c=>some (BT.mkAnd b c)
    | none=>none
   | none=>none
  | _,_,_=>none
def eqS (t:TypeId):SV→SV→Option BT
 | .c x,.c y=>if x.one && y.one then eqC P t x y else none
 | .agg xs,.agg ys=>match P.underlying t with
  | some (.struct fs)=>if P.stoodInHeld t || P.eqGuardType P.depth t then none else eqF P xs ys fs.toList
  | _=>none
 | _,_=>none
def binS (op:BinOp) (t:TypeId) (x y:SV):Option SV :=
 match op,x,y with
 | .eql,.c (.int a),.c (.int b)=>some (.c (.bool (BT.mkEq a b)))
 | .neq,.c (.int a),.c (.int b)=>some (.c (.bool (BT.mkEq a b).mkNot))
 | .lss,.c (.int a),.c (.int b)=>some (.c (.bool (BT.mkLt a b)))
 | .leq,.c (.int a),.c (.int b)=>some (.c (.bool (BT.mkLe a b)))
 | .gtr,.c (.int a),.c (.int b)=>some (.c (.bool (BT.mkLt b a)))
 | .geq,.c (.int a),.c (.int b)=>some (.c (.bool (BT.mkLe b a)))
 | .add,.c (.int a),.c (.int b)=>some (.c (.int (Tm.mk (·+·) .add a b)))
 | .sub,.c (.int a),.c (.int b)=>some (.c (.int (Tm.mk (· - ·) .sub a b)))
 | .mul,.c (.int a),.c (.int b)=>some (.c (.int (Tm.mk (·*·) .mul a b)))
 | .quo,.c (.int a),.c (.int (.lit d))=>if d = 0 then none else some (.c (.int (a.mkQuo d)))
 | .rem,.c (.int a),.c (.int (.lit d))=>if d = 0 then none else some (.c (.int (a.mkRem d)))
 | .eql,x,y=>match eqS P t x y with
  | some b=>some (.c (.bool b))
  | none=>none
 | .neq,x,y=>match eqS P t x y with
  | some b=>some (.c (.bool b.mkNot))
  | none=>none
 | _,_,_=>none
def fillS (place:Nat→Option (Nat × Nat)) (cells:List SC):List (Nat × SV)→Option (List SC)
 | []=>some cells
 | (i,v) :: rest =>
  match place i,v.cells? with
  | some (off,size),some l=>if l.length = size∧off+l.length≤cells.length then fillS place (splice cells off l) rest else none
  | _,_=>none
def partsS (fr:Frm) (l:List (Nat × Operand)):List (Nat × SV):=l.map fun p=>(p.1,ev fr p.2)
def nilS (s:Asm) (op:BinOp) (t:TypeId) (x:SV) (y:Operand):Option SV :=
 match op,x,y,P.underlying t with
 | .eql,.c (.raw i),.const (.pointer none),some (.pointer _)=>if lookA (.nil i) s = some false then some (.c (.bool (.lit false))) else none
 | .neq,.c (.raw i),.const (.pointer none),some (.pointer _)=>if lookA (.nil i) s = some false then some (.c (.bool (.lit true))) else none
 | .eql,.c (.lit .nilIface),.const .nilIface,some (.interface _)=>some (.c (.bool (.lit true)))
 | .neq,.c (.lit .nilIface),.const .nilIface,some (.interface _)=>some (.c (.bool (.lit false)))
 | _,_,_,_=>none
def pureS (fr:Frm) (s:Asm):Op→Option SV
 | .move x | .assign x=>some (ev fr x)
 | .pick c a b=>match ev fr c with
  | .c (.bool q)=>match known s q with
   | .lit true=>some (ev fr a)
   | .lit false=>some (ev fr b)
   | q'=>match ev fr a,ev fr b with
    | .c (.bool (.lit true)),.c (.bool y)=>some (.c (.bool (BT.mkOr q' y)))
    | .c (.bool x),.c (.bool (.lit false))=>some (.c (.bool (BT.mkAnd q' x)))
    | _,_=>none
  | _=>none
 | .nilCheck x=>match ev fr x with
  | .c (.ptr l o)=>some (.c (.ptr l o))
  | .c (.raw i)=>if lookA (.nilI i) s = some false then some (.c (.raw i)) else none
  | _=>none
 | .fieldAddr s x f=>match P.underlying s,ev fr x with
  | some (.struct fs),.c (.ptr l o)=>match fs[f]? with
   | some fd=>match P.info? fd.type with
    | some i=>if i.size = 0 then none else some (.c (.ptr l (o+fd.offset)))
    | none=>none
   | none=>none
  | _,_=>none
 | .field t x f=>match P.underlying t,ev fr x with
  | some (.struct fs),.agg cs=>match fs[f]? with
   | some fd=>partS P fd.type cs fd.offset
   | none=>none
  | _,_=>none
 | .extract t i=>match ev fr t with
  | .tup l=>match l[i]? with
   | some (true,cs)=>some (.agg cs)
   | some (false,[x])=>some (.c x)
   | _=>none
  | _=>none
 | .binOp op t x y _=>match nilS P s op t (ev fr x) y with
  | some v=>some v
  | none=>binS P op t (ev fr x) (ev fr y)
 | .unOp .not _ x=>match ev fr x with
  | .c (.bool b)=>some (.c (.bool b.mkNot))
  | _=>none
 | .indexAddr t x ix=>match P.underlying t,ev fr x,ev fr ix with
  | some (.array len e),.c (.ptr l o),.c (.int (.lit i))=>match P.info? e with
   | some inf=>if 0≤i∧i < (len:Int) then some (.c (.ptr l (o+i.toNat*inf.size))) else none
   | none=>none
  | _,_,_=>none
 | .build t parts=>match P.info? t,P.underlying t with
  | some it,some (.struct fs)=>match it.zero,fs.toList.mapM (fun f=>(P.info? f.type).map fun i=>(f.offset,i.size)) with
   | some z,some pl=>match fillS (pl.toArray[·]?) (z.cells.toList.map ofCell) (partsS fr parts.toList) with
    | some l=>some (.agg l)
    | none=>none
   | _,_=>none
  | _,_=>none
 | .makeInterface t x=>match P.underlying t,ev fr x with
  | some (.pointer _),.c (.ptr l o)=>some (.c (.ifp t l o))
  | some (.pointer _),.c (.lit (.pointer none))=>some (.c (.lit (.iface t (.pointer none))))
  | _,_=>none
 | _=>none
def guardS (ops:Array Oper) (o:Oper) (st:St):Option BT :=
 match o.guard with
 | none=>some (.lit true)
 | some (j,want)=>match (ops[j]?).bind (·.dst) with
  | some d=>match getF d st.fr with
   | .c (.bool b)=>some (if want then known st.asm b else (known st.asm b).mkNot)
   | _=>none
  | none=>none
def idxT (dst:Option Nat) (i:Tm) (l o size:Nat):List Nat→St→Xy St
 | [],_=>.fail "index"
 | j :: r,st=>match known st.asm (BT.mkEq i (.lit (j:Int))) with
  | .lit true=>.leaf (putS dst (.c (.ptr l (o+j*size))) st)
  | .lit false=>idxT dst i l o size r st
  | b=>.br b (.leaf (putS dst (.c (.ptr l (o+j*size))) { st with asm:=addA b true st.asm })) (idxT dst i l o size r { st with asm:=addA b false st.asm })
def runS (callf:Nat→List SV→St→Xy (SV × St)) (lab:Nat) (o:Oper) (st:St):Xy St :=
 match pureS P st.fr st.asm o.op with
 | some v=>.leaf (putS o.dst v st)
 | none =>
 match o.op with
 | .indexAddr t x ix=>match P.underlying t,ev st.fr x,ev st.fr ix with
  | some (.array len e),.c (.ptr l of),.c (.int i)=>match P.info? e with
   | some inf=>idxT o.dst i l of inf.size (List.range len) st
   | none=>.fail o.pos
  | _,_,_=>.fail o.pos
 | .load t a=>match ev st.fr a with
  | .c (.ptr l i)=>match lookH l st.hp with
   | some (_,cs)=>match partS P t cs i with
    | some v=>.leaf (putS o.dst v st)
    | none=>.fail o.pos
   | none=>.fail o.pos
  | _=>.fail o.pos
 | .alloc t=>match (P.info? t).bind (·.zero),lookH lab st.hp with
  | some z,none=>match (ofValue z).cells? with
   | some cs=>.leaf (putS o.dst (.c (.ptr lab 0)) { st with hp:=insH (lab,t,cs) st.hp })
   | none=>.fail o.pos
  | _,_=>.fail o.pos
 | .box t x=>match (ev st.fr x).cells?,lookH lab st.hp with
  | some cs,none=>.leaf (putS o.dst (.c (.ptr lab 0)) { st with hp:=insH (lab,t,cs) st.hp })
  | _,_=>.fail o.pos
 | .store t a x=>match ev st.fr a,(ev st.fr x).cells?,P.info? t with
  | .c (.ptr l i),some vs,some inf=>match lookH l st.hp with
   | some (_,cs)=>if vs.length = inf.size∧i+vs.length≤cs.length∧vs.all SC.one = true then .leaf (putS o.dst undefS { st with hp:=setH l (splice cs i vs) st.hp }) else .fail o.pos
   | none=>.fail o.pos
  | _,_,_=>.fail o.pos
 | .call c=>match c.callee with
  | .value (.func f)=>if f = invF then .fail o.pos else (callf f (c.args.toList.map (ev st.fr)) st).bind fun r=>.leaf (putS o.dst r.1 { r.2 with fr:=st.fr,sz:=st.sz })
  | .invoke t name=>if name = "Next" then (callf invF (ev st.fr t :: c.args.toList.map (ev st.fr)) st).bind fun r=>.leaf (putS o.dst r.1 { r.2 with fr:=st.fr,sz:=st.sz }) else .fail o.pos
  | .builtin .len=>match c.args.toList.map (ev st.fr),(c.argTypes[0]?).bind P.underlying with
   | [.c (.slc _ n)],some (.slice _)=>match known st.asm (.le (.lit 0) n) with
    | .lit true=>.leaf (putS o.dst (.c (.int n)) st)
    | _=>.fail o.pos
   | _,_=>.fail o.pos
  | _=>.fail o.pos
 | _=>.fail o.pos
def okD (o:Oper) (st:St):Bool :=
 match o.dst with
 | some d=>decide (d < st.sz)
 | none=>true
def stepS (callf:Nat→List SV→St→Xy (SV × St)) (ops:Array Oper) (lab:Nat) (o:Oper) (st:St):Xy St :=
 if okD o st = false then .fail "slot" else
 match guardS ops o st with
 | none=>.fail o.pos
 | some (.lit true)=>runS P callf lab o st
 | some (.lit false)=>.leaf (putS o.dst undefS st)
 | some b=>.br b (runS P callf lab o { st with asm:=addA b true st.asm }) (.leaf (putS o.dst undefS { st with asm:=addA b false st.asm }))
def seqS (callf:Nat→List SV→St→Xy (SV × St)) (ops:Array Oper):List Oper→Nat→St→Xy St
 | [],_,st=>.leaf st
 | o :: rest,k,st=>(stepS P callf ops (2*(st.nx % phM+k)+1) o st).bind (seqS callf ops rest (k+1))
def maxH (h:Heap) (n:Nat):Nat:=h.foldl (fun m x=>if m≤x.1 / 2 then x.1 / 2+1 else m) n
def bump (st:St):St:={ st with nx:=inPh st.ph (maxH st.hp (st.nx % phM)) }
def litEq:Value→Value→Bool
 | .int j a,.int k b=>decide (j = k) && decide (a = b)
 | .bool a,.bool b=>a==b
 | .pointer none,.pointer none=>true
 | .nilIface,.nilIface=>true
 | .nilFunc,.nilFunc=>true
 | .slice none 0 0,.slice none 0 0=>true
 | .iface s (.pointer none),.iface t (.pointer none)=>decide (s = t)
 | .tuple a,.tuple b=>a.size==0 && b.size==0
 | _,_=>false
def SC.same:SC→SC→Bool
 | .lit a,.lit b=>litEq a b
 | .int a,.int b=>decide (a = b)
 | .bool a,.bool b=>decide (a = b)
 | .raw a,.raw b=>decide (a = b)
 | .ptr a b,.ptr c d=>decide (a = c) && decide (b = d)
 | .ifp t a b,.ifp u c d=>decide (t = u) && decide (a = c) && decide (b = d)
 | .slc a b,.slc c d=>decide (a = c) && decide (b = d)
 | _,_=>false
def sameL {α:Type} (f:α→α→Bool):List α→List α→Bool
 | [],[]=>true
 | x :: r,y :: s=>f x y && sameL f r s
 | _,_=>false
def SV.same:SV→SV→Bool
 | .c x,.c y=>x.same y
 | .agg l,.agg m=>sameL SC.same l m
 | .tup l,.tup m=>sameL (fun p q=>p.1==q.1 && sameL SC.same p.2 q.2) l m
 | _,_=>false
def St.same (s t:St):Bool :=
 sameL (fun p q=>decide (p.1 = q.1) && p.2.same q.2) s.fr t.fr && sameL (fun p q=>decide (p.1 = q.1) && decide (p.2.1 = q.2.1) && sameL SC.same p.2.2 q.2.2) s.hp t.hp && sameL (fun p q=>decide (p = q)) s.asm t.asm && decide (s.nx = t.nx) && decide (s.sz = t.sz)
def Xy.same:Xy St→Xy St→Bool
 | .leaf s,.leaf t=>s.same t
 | .br b x y,.br c u v=>decide (b = c) && x.same u && y.same v
 | _,_=>false
abbrev Node:=Nat × Xy St
def pureKind:Op→Bool
 | .move _ | .assign _ | .pick _ _ _ | .nilCheck _ | .fieldAddr _ _ _ | .field _ _ _ | .extract _ _ | .binOp _ _ _ _ _ | .unOp _ _ _ | .build _ _ | .makeInterface _ _=>true
 | _=>false
structure OpI where
 pred:Nat
 look:Nat
 dst:Nat
 plain:Bool
def predM:List Edge→Nat
 | []=>0
 | e :: r=>if Region.binds .any e then (1 <<< e.on) ||| predM r else predM r
def lookM:List Nat→Nat
 | []=>0
 | t :: r=>(1 <<< t) ||| lookM r
def dstM:Option Nat→Nat
 | some d=>1 <<< d
 | none=>0
def infoS (ops:Array Oper):List Oper→List OpI
 | []=>[]
 | o :: r=>⟨predM o.after.toList,lookM (o.looksAt ops),dstM o.dst,pureKind o.op && o.guard.isNone⟩ :: infoS ops r
def readyM (L:Nat):List OpI→Nat→List Nat
 | [],_=>[]
 | x :: r,i=>if !L.testBit i && (x.pred &&& L)==x.pred then i :: readyM L r (i+1) else readyM L r (i+1)
def freeM (L i:Nat) (xi:OpI):List OpI→Nat→Bool
 | [],_=>true
 | y :: r,j=>(j==i || L.testBit j || y.pred.testBit i || ((xi.dst &&& (y.look ||| y.dst))==0 && (y.dst &&& xi.look)==0)) && freeM L i xi r (j+1)
def plainM (L:Nat) (inf:List OpI):List OpI→Nat→Option Nat
 | [],_=>none
 | x :: r,i=>if x.plain && !L.testBit i && (x.pred &&& L)==x.pred && freeM L i x inf 0 then some i else plainM L inf r (i+1)
def picksM (inf:List OpI) (L:Nat):List Nat :=
 match plainM L inf inf 0 with
 | some i=>[i]
 | none=>readyM L inf 0
def afterS (callf:Nat→List SV→St→Xy (SV × St)) (ops:Array Oper) (nd:Node) (i:Nat):Node :=
 (nd.1 ||| (1 <<< i),nd.2.bind fun st=>match ops[i]? with
  | some o=>stepS P callf ops (2*(st.nx % phM+i)+1) o st
  | none=>.fail "no operation")
def expandS (callf:Nat→List SV→St→Xy (SV × St)) (ops:Array Oper) (inf:List OpI):List Node→Option (List Node)
 | []=>some []
 | nd :: r=>match picksM inf nd.1 with
  | []=>none
  | p :: ps=>match expandS callf ops inf r with
   | some l=>some ((p :: ps).map (afterS P callf ops nd)++l)
   | none=>none
def findN (L:Nat):List Node→Option (Xy St)
 | []=>none
 | n :: r=>if n.1==L then some n.2 else findN L r
def mergeN:List Node→List Node→Option (List Node)
 | [],acc=>some acc
 | n :: r,acc=>match findN n.1 acc with
  | some T=>if n.2.same T then mergeN r acc else none
  | none=>mergeN r (n :: acc)
def bfsS (callf:Nat→List SV→St→Xy (SV × St)) (ops:Array Oper) (inf:List OpI):Nat→List Node→Option (Xy St)
 | 0,nds=>match nds with
  | [(L,T)]=>match readyM L inf 0 with
   | []=>some T
   | _=>none
  | _=>none
 | m+1,nds=>match expandS P callf ops inf nds with
  | some ss=>match mergeN ss [] with
   | some ns=>bfsS callf ops inf m ns
   | none=>none
  | none=>none
def regS (callf:Nat→List SV→St→Xy (SV × St)) (ops:Array Oper) (st:St):Xy St :=
 if Region.noSelect ops then
  match bfsS P callf ops (infoS ops ops.toList) ops.size [(0,.leaf st)] with
  | some T=>T.bind fun s=>.leaf (bump s)
  | none=>.fail "a region whose orders part"
 else .fail "select"
def SC.labs:SC→List Nat
 | .ptr l _ | .ifp _ l _=>[l]
 | _=>[]
def SV.labs:SV→List Nat
 | .c x=>x.labs
 | .agg l=>l.flatMap SC.labs
 | .tup l=>l.flatMap fun p=>p.2.flatMap SC.labs
def hasL (l:Nat):List Nat→Bool
 | []=>false
 | k :: r=>k==l || hasL l r
def growL (h:Heap) (keep:List Nat):List Nat :=
 h.foldl (fun ks x=>if hasL x.1 ks then (x.2.2.flatMap SC.labs).foldl (fun ks l=>if hasL l ks then ks else l :: ks) ks else ks) keep
def okC (ls:List Nat):SC→Bool
 | .ptr l _ | .ifp _ l _=>l % 2==0 || hasL l ls
 | _=>true
def okCs (ls:List Nat):List SC→Bool
 | []=>true
 | x :: r=>okC ls x && okCs ls r
def okP (ls:List Nat):List (Bool × List SC)→Bool
 | []=>true
 | x :: r=>okCs ls x.2 && okP ls r
def okV (ls:List Nat):SV→Bool
 | .c x=>okC ls x
 | .agg l=>okCs ls l
 | .tup l=>okP ls l
def okH (ls:List Nat):Heap→Bool
 | []=>true
 | x :: r=>okCs ls x.2.2 && okH ls r
def keepH (ls:List Nat):Heap→Heap
 | []=>[]
 | x :: r=>if hasL x.1 ls then x :: keepH ls r else keepH ls r
def Yf:Heap→List Nat
 | []=>[]
 | x :: r=>x.1 :: Yf r
def allL (ls:List Nat):List Nat→Bool
 | []=>true
 | l :: r=>hasL l ls && allL ls r
def gcS (old:Heap) (v:SV) (h:Heap):Option Heap :=
 let ko:=Yf old
 let h1:=keepH ko h
 if okV ko v && okH ko h1 && allL (Yf h1) ko then some h1 else
 let k:=growL h (growL h (v.labs++ko))
 let h2:=keepH k h
 let k2:=Yf h2
 if okV k2 v && okH k2 h2 && allL k2 ko then some h2 else none
def resOne (st:St):ResultVar→Option SV
 | .tmp t=>some (getF t st.fr)
 | .cell a t=>match getF a st.fr with
  | .c (.ptr l i)=>match lookH l st.hp with
   | some (_,cs)=>partS P t cs i
   | none=>none
  | _=>none
def SV.comp:SV→Option (Bool × List SC)
 | .c x=>some (false,[x])
 | .agg l=>some (true,l)
 | .tup _=>none
def resAll (st:St):List ResultVar→Option (List (Bool × List SC))
 | []=>some []
 | r :: rs=>match resOne P st r,resAll st rs with
  | some v,some l=>match v.comp with
   | some p=>some (p :: l)
   | none=>none
  | _,_=>none
def resS (fn:Func) (st:St):Option SV :=
 match fn.results.toList with
 | [r]=>resOne P st r
 | rs=>match resAll P st rs with
  | some l=>some (.tup l)
  | none=>none
structure Xs where
 self:Bool
 f:Nat
 ty:TypeId
 cells:List SC
 rest:List SV
 out:SV
 cells':List SC
def tailN (s:Xs):Option Nat:=match s.cells'.getLast? with
 | some (.raw n)=>if s.self && s.cells'.length==s.cells.length+1 then some n else none
 | _=>none
def findS (f:Nat) (ty:TypeId) (cs:List SC) (rest:List SV):List Xs→Option Xs
 | []=>none
 | s :: r=>if s.self && !(f==invF) && (tailN s).isNone && s.f==f && s.ty==ty && sameL SC.same cs s.cells && sameL SV.same rest s.rest && okV [] s.out && okCs [] s.cells && okCs [] s.cells' && s.rest.all (okV []) then some s else findS f ty cs rest r
def findP (f:Nat) (args:List SV):List Xs→Option SV
 | []=>none
 | s :: r=>if !s.self && !(f==invF) && s.ty==0 && s.f==f && sameL SV.same args s.rest && okV [] s.out && s.rest.all (okV []) then some s.out else findP f args r
def sumB (S:List Xs) (f:Nat) (args:List SV) (st:St):Option (SV × St) :=
 match args with
 | .c (.ptr l 0) :: rest=>match lookH l st.hp with
  | some (ty,cs)=>match findS f ty cs rest S with
   | some s=>some (s.out,{ st with hp:=setH l s.cells' st.hp })
   | none=>none
  | none=>none
 | _=>none
def holds (a:Asm):SC→Bool
 | .bool q=>decide (known a q = .lit true)
 | _=>false
def findE (a:Asm) (f ph:Nat) (args:List SV):List Xs→Option (SV × Nat)
 | []=>none
 | s :: r=>if s.cells.all (holds a) && !s.self && !(s.ty==0) && s.f==f && (s.ty - 1) % 100==ph && sameL SV.same args s.rest && okV [] s.out && s.rest.all (okV []) then some (s.out,(s.ty - 1) / 100) else findE a f ph args r
def findG (f ph off:Nat) (ty:TypeId) (cs:List SC) (rest:List SV):List Xs→Option (Xs × Nat)
 | []=>none
 | s :: r=>match tailN s with
  | some n=>if s.self && !(f==invF) && s.f==f && s.ty==ty && sameL SC.same cs s.cells && sameL SV.same rest s.rest && okV [] s.out && okCs [] s.cells && okCs [] s.cells'.dropLast && s.rest.all (okV []) && (n - 1) % 100==ph && n / 10000==off then some (s,(n - 1) % 10000 / 100) else findG f ph off ty cs rest r
  | none=>findG f ph off ty cs rest r
def sumG (S:List Xs) (f:Nat) (args:List SV) (st:St):Option (SV × St) :=
 match args with
 | .c (.ptr l off) :: rest=>match lookH l st.hp with
  | some (ty,cs)=>match findG f st.ph off ty cs rest S with
   | some (s,j)=>some (s.out,{ st with hp:=setH l s.cells'.dropLast st.hp,nx:=inPh j st.nx })
   | none=>none
  | none=>none
 | _=>none
def sumS (S:List Xs) (f:Nat) (args:List SV) (st:St):Option (SV × St) :=
 match findP f args S with
 | some v=>some (v,st)
 | none=>match findE st.asm f st.ph args S with
  | some (v,j)=>some (v,{ st with nx:=inPh j st.nx })
  | none=>match sumG S f args st with
   | some r=>some r
   | none=>sumB S f args st
inductive Ex where
 | normal | exit (i:Nat) | ret
inductive Task where
 | code (c:Code) | call (f:Nat) (args:List SV)
def argsF:Nat→List SV→Frm→Frm
 | _,[],acc=>acc
 | k,v :: r,acc=>argsF (k+1) r ((k,v) :: acc)
def exec (S:List Xs):Nat→Task→St→Xy (Ex × SV × St)
 | 0,_,_=>.fail "fuel"
 | n+1,.code c,st =>
  match c with
  | .skip | .label _=>.leaf (.normal,undefS,st)
  | .ret=>.leaf (.ret,undefS,st)
  | .exit i=>.leaf (.exit i,undefS,st)
  | .seq a b=>(exec S n (.code a) st).bind fun r=>match r.1 with
   | .normal=>exec S n (.code b) r.2.2
   | _=>.leaf r
  | .cond c x y=>match ev st.fr c with
   | .c (.bool q)=>match known st.asm q with
    | .lit true=>exec S n (.code x) st
    | .lit false=>exec S n (.code y) st
    | q'=>.br q' (exec S n (.code x) { st with asm:=addA q' true st.asm }) (exec S n (.code y) { st with asm:=addA q' false st.asm })
   | _=>.fail "cond"
  | .block i b=>(exec S n (.code b) st).bind fun r=>match r.1 with
   | .exit j=>if j = i then .leaf (.normal,r.2) else .leaf r
   | _=>.leaf r
  | .loop b=>(exec S n (.code b) st).bind fun r=>match r.1 with
   | .normal=>exec S n (.code (.loop b)) r.2.2
   | _=>.leaf r
  | .region _ ops draw =>
   let callf:=fun f args s=>(exec S n (.call f args) s).bind fun r=>.leaf r.2
   match draw with
   | true=>(regS P callf ops st).bind fun s=>.leaf (.normal,undefS,s)
   | false=>(seqS P callf ops ops.toList 0 st).bind fun s=>.leaf (.normal,undefS,bump s)
  | _=>.fail "code"
 | n+1,.call f args,st =>
  match sumS S f args st with
  | some r=>.leaf (.normal,r.1,r.2)
  | none =>
  if f = invF then .fail "a method" else
  match P.funcs[f]? with
  | none=>.fail "no function"
  | some fn=>if fn.name== "runtime.NumGoroutine" then .fail "name" else
   match fn.body with
   | none=>.fail "no body"
   | some c=>(exec S n (.code c) { st with fr:=argsF 0 args [],nx:=inPh st.ph (st.nx+100),sz:=fn.ntmps }).bind fun r =>
    match r.1 with
    | .exit _=>.fail "exit"
    | _=>match resS P fn r.2.2 with
     | none=>.fail "results"
     | some v=>match gcS st.hp v r.2.2.hp with
      | none=>.fail "what is left"
      | some h=>.leaf (.normal,v,{ fr:=st.fr,hp:=h,asm:=r.2.2.asm,nx:=inPh r.2.2.ph st.nx,sz:=st.sz })
end
end Go.Proofs.YtaipogljokblkaaGreatDoor
