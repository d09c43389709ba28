/- Core: PB, PC, CardA, PD. -/
import Derived.Test.YtaipogljokblkaaGreatDoorP10
import Derived.Deep.Cut
import Derived.Test.YtaipogljokblkaaGreatDoorCards
import Derived.Test.YtaipogljokblkaaGreatDoorTie
import Derived.ProofKit
import Derived.OpenShut
import Derived.Below
import Derived.ChangeSame
import Derived.Deep.DeepHandedRow
import Derived.Stop.LaidErr
import Derived.LaidLaws
import Derived.ShutString
import Derived.LaidSub
import Derived.WideKeyArgs
import Derived.Carry
import Derived.Deep.Slices
set_option linter.all false
set_option maxRecDepth 100000
set_option maxHeartbeats 8000000
namespace Go.Proofs.YtaipogljokblkaaGreatDoor
open Go Go.RowKit
def Bp(s:Jg):List Value:=[.int .i64 s.AB,.bool s.used]++rows Xe.l ((List.range 10).map λ(j:Nat)=>s.cell (j:Int))
def By(s:Jg):(Bp s).length=52:=by
 unfold Bp;rw[iu,Zb Qs];simp
namespace Pl
def B4(p:Pl):List Value:=rows Xe.l ((List.range p.nb).map λ(i:Nat)=>p.board (i:Int))
def A2(p:Pl):List Value:=rows Bp ((List.range p.ns).map λ(i:Nat)=>p.slot ((i:Int)+1))
def bI(p:Pl):p.B4.length=p.nb*5:=by unfold B4;rw[Zb Qs];simp
def KI(p:Pl):p.A2.length=p.ns*52:=by unfold A2;rw[Zb By];simp
end Pl
def Lw{b:Type}{f:b->List Value}{sz:Nat}(d:∀x,(f x).length=sz)(g:Nat->b)(n i:Nat)(h:i<n):rows f ((List.range n).map g)=rows f ((List.range i).map g)++(f (g i)++rows f ((List.range (n-i-1)).map λj=>g (i+1+j))):=by
 have e:List.range n=List.range i++(i::(List.range (n-i-1)).map λj=>i+1+j):=by
  apply List.ext_getElem
  ·simp;omega
  ·intro k l m;rw[pz,List.getElem_append];split
   ·simp
   ·rename_i c;rw[m9] at c;rw[List.getElem_cons];split
    ·rename_i a;rw[m9] at a;omega
    ·rename_i a;rw[m9] at a;rw[List.getElem_map,pz,m9];omega
 rw[e,List.map_append,Jx,jj,E9,pd];rfl
def Lv{c:Type}{f:c->List Value}{sz:Nat}(a:∀x,(f x).length=sz)(g g':Nat->c)(n i:Nat)(d:i<n)(e:∀j,j≠i->g' j=g j):
  rows f ((List.range n).map g')=(rows f ((List.range n).map g)).take (i*sz)++f (g' i)++(rows f ((List.range n).map g)).drop (i*sz+sz):=by
 rw[Lw a g n i d,Lw a g' n i d]
 have h:(List.range i).map g'=(List.range i).map g:=jl λj k=>e j (by have:=jt.1 k;omega)
 have l:((List.range (n-i-1)).map λj=>g' (i+1+j))=((List.range (n-i-1)).map λj=>g (i+1+j)):=jl λj _=>e _ Zo
 rw[h,l]
 have m:(rows f ((List.range i).map g)).length=i*sz:=by rw[Zb a];simp
 have b:=a (g i)
 rw[show i*sz=(rows f ((List.range i).map g)).length from m.symm,nz,jz]
 ·rw[show(rows f ((List.range i).map g)).length+sz=(rows f ((List.range i).map g)).length+(f (g i)).length from by rw[b],←List.drop_drop,List.drop_left',List.drop_left']
  ·rfl
  ·rfl
 ·rfl
structure PB(w:World)(g bb sb:Nat)(p:Pl)(fr:B5)(fv:Value):Prop where
 bk:Bk w g 106 #[.slice (some ⟨bb,0,none⟩) p.nb p.nb,.slice (some ⟨sb,0,none⟩) p.ns p.ns,fr.v,.int .i64 p.steps,.int .i64 p.made,fv]
 bo:Bk w bb 51 p.B4.toArray
 so:Bk w sb 149 p.A2.toArray
 fo:Own w 3 1 fr.v p.free.length (BF p.free)
 dZ:if p.fault then ∃T q,fv=.iface T (.pointer (some q)) else fv=.nilIface
 n1:g≠bb
 n2:g≠sb
 n3:bb≠sb
 f1:fr.v.ownBlock≠some g
 f2:fr.v.ownBlock≠some bb
 f3:fr.v.ownBlock≠some sb
 kI:p.nb<=1000
 WW:p.ns<=2000
def Zu(g bb sb:Nat)(fr:B5):List Nat:=g::bb::sb::fr.v.ownBlock.toList
section
variable{w w':World}{g bb sb:Nat}{p:Pl}{fr:B5}{fv:Value}
def Ya{b:Nat}:b∈Zu g bb sb fr↔b=g\/b=bb\/b=sb\/fr.v.ownBlock=some b:=by
 simp only[Zu,gf,Option.mem_toList]
def PB.lt(h:PB w g bb sb p fr fv):∀b∈Zu g bb sb fr,b<w.heap.size:=λb a=>by
 rcases Ya.1 a with rfl|rfl|rfl|h1
 ·exact h.bk.lt
 ·exact h.bo.lt
 ·exact h.so.lt
 ·exact h.fo.lt h1
def PB.CJ{F:List Nat}(h:PB w g bb sb p fr fv)(a:Aq F w w')(hF:∀b∈Zu g bb sb fr,b∉F):PB w' g bb sb p fr fv:=
 ⟨h.bk.CJ a (hF g (Ya.2 (fq rfl))),h.bo.CJ a (hF bb (Ya.2 (db (fq rfl)))),h.so.CJ a (hF sb (Ya.2 (d2 (fq rfl)))),h.fo.kept λb c=>a.A5 b (h.fo.lt c) (hF b (Ya.2 (d2 (db c)))),h.dZ,h.n1,h.n2,h.n3,h.f1,h.f2,h.f3,h.kI,h.WW⟩
def PB.below(h:PB w g bb sb p fr fv)(a:Below w.heap.size w w'):PB w' g bb sb p fr fv:=h.CJ (F:=[]) (Aq.Ai a) (λ_ _=>ic)
def PB.alloc(h:PB w g bb sb p fr fv)(o:Obj):PB (w.alloc o) g bb sb p fr fv:=h.below ((fx _ _).alloc (Nat.le_refl _) _)
def PB.cells(h:PB w g bb sb p fr fv):w.cell? ⟨g,0,none⟩=some (.slice (some ⟨bb,0,none⟩) p.nb p.nb)/\w.cell? ⟨g,1,none⟩=some (.slice (some ⟨sb,0,none⟩) p.ns p.ns)/\w.cell? ⟨g,2,none⟩=some fr.v/\w.cell? ⟨g,3,none⟩=some (.int .i64 p.steps)/\w.cell? ⟨g,4,none⟩=some (.int .i64 p.made)/\w.cell? ⟨g,5,none⟩=some fv:=
 ⟨h.bk.cell 0,h.bk.cell 1,h.bk.cell 2,h.bk.cell 3,h.bk.cell 4,h.bk.cell 5⟩
def PB.board(h:PB w g bb sb p fr fv){i:Nat}(a:i<p.nb):w.rangeAt bb (i*5) (p.board i).l:=λj u b=>by
 rw[h.bo.cell,lu];have:=GS Qs ((List.range p.nb).map λ(i:Nat)=>p.board (i:Int)) i (by simpa using a) j u (by simpa using b);exact this
def PB.slot(h:PB w g bb sb p fr fv){i:Nat}(a:i<p.ns):w.rangeAt sb (i*52) (Bp (p.slot ((i:Int)+1))):=λj u b=>by
 rw[h.so.cell,lu];have:=GS By ((List.range p.ns).map λ(i:Nat)=>p.slot ((i:Int)+1)) i (by simpa using a) j u (by simpa using b);exact this
def PB.cell(h:PB w g bb sb p fr fv){i k:Nat}(a:i<p.ns)(b:k<10):w.rangeAt sb (i*52+2+k*5) ((p.slot ((i:Int)+1)).cell k).l:=λj u c=>by
 have d:=GS Qs ((List.range 10).map fun (j:Nat)=>(p.slot ((i:Int)+1)).cell (j:Int)) k (by simpa using b) j u (by simpa using c);have e:=h.slot a (2+(k*5+j)) u (by
  unfold Bp;rw[je Zs];simpa using d)
 rw[show i*52+2+k*5+j=i*52+(2+(k*5+j)) from Zo];exact e
end
def J0{w:World}{g bb sb:Nat}{p:Pl}{fr:B5}{fv:Value}(h:PB w g bb sb p fr fv)(n:Int):
  Kp 53 #[.pointer (some ⟨g,0,none⟩),.int .i64 n] w (QJ (p.BY n) w):=by
 obtain⟨_,b,_,_,_,_⟩:=h.cells
 have a:=h.bk.lt
 clear h
 unfold Pl.BY
 go_enter Tryz.func53,Tryz.ntmps53
 cases c:decide (1<=n) with
 |true=>
  cases d:decide (n<=(p.ns:Int)) with
  |true=>
   go_wp2_with fail
   go_ret
   exact⟨rfl,vB⟩
  |false=>
   go_wp2_with fail
   go_ret
   exact⟨rfl,vB⟩
 |false=>
  go_wp2_with fail
  go_ret
  exact⟨rfl,vB⟩
structure AT(w:World):Prop where
 arg:∃T q,w.cell? ⟨0,0,none⟩=some (.iface T (.pointer (some q)))
 nil_:∃T q,w.cell? ⟨1,0,none⟩=some (.iface T (.pointer (some q)))
 full:∃T q,w.cell? ⟨2,0,none⟩=some (.iface T (.pointer (some q)))
 state:∃T q,w.cell? ⟨4,0,none⟩=some (.iface T (.pointer (some q)))
 A7:∃T q,w.cell? ⟨3,0,none⟩=some (.iface T (.pointer (some q)))
 tj:∃T q,w.cell? ⟨5,0,none⟩=some (.iface T (.pointer (some q)))
 tc:∃T q,w.cell? ⟨6,0,none⟩=some (.iface T (.pointer (some q)))
 lt:7<=w.heap.size
def vO(b:Bool)(w:World)(e:Ending)(w':World):Prop:=(if b then e=.returned .nilIface else ∃T q,e=.returned (.iface T (.pointer (some q))))/\Below w.heap.size w w'
def Vv{w:World}{g r s:Nat}{p:Pl}{fr:B5}{u:Value}(h:PB w g r s p fr u)(a:Yc):
  Kp 32 #[.pointer (some ⟨g,0,none⟩),.agg a.l.toArray] w (QJ (p.has a) w):=by
 obtain⟨B,C,_,_,_,_⟩:=h.cells
 have v:=eR h
 have x:=h.bk.lt
 clear h
 obtain⟨i,k,d⟩:=a
 show Kp 32 #[.pointer (some ⟨g,0,none⟩),.agg #[.int .i64 i,.int .i64 k,.int .i64 d]] w _
 unfold Pl.has
 have c:Below w.heap.size w (w.alloc (.cells #[.int .i64 i,.int .i64 k,.int .i64 d] 54)):=(fx _ _).alloc (Nat.le_refl _) _
 have m:Bk (w.alloc (.cells #[.int .i64 i,.int .i64 k,.int .i64 d] 54)) w.heap.size 54 #[.int .i64 i,.int .i64 k,.int .i64 d]:=Bk.at_ rfl
 cases D:(i==0) with
 |true=>
  cases E:(k==0) with
  |true=>
   cases y:decide (0<=d) with
   |true=>
    cases z:decide (d<(p.nb:Int)) with
    |true=>
     go_enter Tryz.func32,Tryz.ntmps32
     go_wp2_with fail
     go_quiet (fail)
     go_wp2_with fail
     go_ret
     exact⟨rfl,vB⟩
    |false=>
     go_enter Tryz.func32,Tryz.ntmps32
     go_wp2_with fail
     go_quiet (fail)
     go_wp2_with fail
     go_ret
     exact⟨rfl,vB⟩
   |false=>
    go_enter Tryz.func32,Tryz.ntmps32
    go_wp2_with fail
    go_quiet (fail)
    go_wp2_with fail
    go_ret
    exact⟨rfl,vB⟩
  |false=>
   go_enter Tryz.func32,Tryz.ntmps32
   go_wp2_with fail
   go_quiet (fail)
   go_wp2_with fail
   go_ret
   exact⟨rfl,vB⟩
 |false=>
  have n:=eR (J0 (v.out.below c) i)
  cases o:p.BY i with
  |false=>
   go_enter Tryz.func32,Tryz.ntmps32
   go_wp2_with fail
   refine n.out.mono ?_
   rintro e q ⟨rfl,b⟩
   rw[o]
   have j:=(m.Af b).cell 2
   simp at j
   go_wp2_with fail
   go_ret
   exact⟨rfl,c.trans (b.mono c.size)⟩
  |true=>
   cases y:decide (0<=d) with
   |false=>
    go_enter Tryz.func32,Tryz.ntmps32
    go_wp2_with fail
    refine n.out.mono ?_
    rintro e q ⟨rfl,b⟩
    rw[o]
    have j:=(m.Af b).cell 2
    simp at j
    go_wp2_with fail
    go_ret
    exact⟨rfl,c.trans (b.mono c.size)⟩
   |true=>
    cases z:decide (d<10) with
    |true=>
     go_enter Tryz.func32,Tryz.ntmps32
     go_wp2_with fail
     refine n.out.mono ?_
     rintro e q ⟨rfl,b⟩
     rw[o]
     have j:=(m.Af b).cell 2
     simp at j
     go_wp2_with fail
     go_ret
     exact⟨rfl,c.trans (b.mono c.size)⟩
    |false=>
     go_enter Tryz.func32,Tryz.ntmps32
     go_wp2_with fail
     refine n.out.mono ?_
     rintro e q ⟨rfl,b⟩
     rw[o]
     have j:=(m.Af b).cell 2
     simp at j
     go_wp2_with fail
     go_ret
     exact⟨rfl,c.trans (b.mono c.size)⟩
end Go.Proofs.YtaipogljokblkaaGreatDoor
namespace Go.Proofs.YtaipogljokblkaaGreatDoor
open Go.ChangeShapes Go.WideShapes Go.ChangeAt Go.RowKit Go.Deep
def own:ownKnob Tryz.prog.godebug=none:=Zk
def uN:Tryz.prog.cellsOf 286=1:=Zk
def uM:Tryz.prog.cellsOf 9=1:=Zk
def cN: "*"++ "errors.errorString"= "*errors.errorString":=by decide
def vx(u:TypeId)(h:Tryz.prog.typeName? 3 u=some "*errors.errorString"):u=228:=
 typeName_ptr_named (nm:= "errors.errorString") (by rw[cN];kernel_rfl) Zk Zd u (by rw[cN];exact h)
noncomputable def laidList:List (String × DataW Unit):=[("sexton/api.ErrArg",Rows.laid_sexton_api_ErrArg),("sexton/api.ErrNil",Rows.laid_sexton_api_ErrNil),("sexton/api.ErrFull",Rows.laid_sexton_api_ErrFull),("sexton/api.ErrState",Rows.laid_sexton_api_ErrState),("sexton/api.ErrFreed",Rows.laid_sexton_api_ErrFreed),("sexton/api.ErrStale",Rows.laid_sexton_api_ErrStale),("sexton/api.ErrTwice",Rows.laid_sexton_api_ErrTwice)]
def IU{W:World}{nm:String}{l:List UInt8}{rest:List (String × DataW Unit)}{g:Nat}(h:laidMet Tryz.prog ((nm,.iface "*errors.errorString" (.ptr (.agg [.lit (.string l)])))::rest) W)(b:Tryz.prog.globalNamed nm=some g)(c:(Tryz.prog.globals[g]?).map (·.type)=some 28):
  ∃T q,W.cell? ⟨g,0,none⟩=some (.iface T (.pointer (some q))):=by
 obtain⟨a,s,d,e,_⟩:=laid_sentinel h b c Tryz.underlying28 vx Tryz.underlying228 Tryz.underlying286 rfl rfl Tryz.underlying9 uN uM
 exact⟨_,a,by simpa using World.var?_cell b d 0⟩
def qx{W:World}{g:Nat}{v:Value}(h:W.cell? ⟨g,0,none⟩=some v):g<W.heap.size:=by
 unfold World.cell? at h;rcases iw g W.heap.size with a|a
 ·exact a
 ·rw[ln a] at h;cases h
def worldOf{W:World}(h:laidMet Tryz.prog laidList W):AT W:=by
 have t0:=h;unfold laidList at t0;have eErrArg:=IU t0 (g:=0) Zk Zk;have t1:=t0.tail;have eErrNil:=IU t1 (g:=1) Zk Zk;have t2:=t1.tail;have eErrFull:=IU t2 (g:=2) Zk Zk;have t3:=t2.tail;have eErrState:=IU t3 (g:=4) Zk Zk;have t4:=t3.tail;have eErrFreed:=IU t4 (g:=3) Zk Zk;have t5:=t4.tail;have eErrStale:=IU t5 (g:=5) Zk Zk;have t6:=t5.tail;have eErrTwice:=IU t6 (g:=6) Zk Zk;have b:=eErrTwice;obtain⟨_,_,a⟩:=b;exact⟨eErrArg,eErrNil,eErrFull,eErrState,eErrFreed,eErrStale,eErrTwice,qx a⟩
def lastStep{H:Type}{enc:TypeId × Value->H}{P:Program}{f:Func}{s:ChangeSpec}{c fresh d again:Bool}{W m:World}{args:Array Value}{v:Value}{ds n:List (DataW H)}{a pa pv:List MemPlace}
  (w:DataW.Whole enc P f.params.toList s.vars c W args.toList ds n a)
  (k:∀(b:Nat) (l:Nat->Bool) (z:Bool),DataW.TrodAll enc P m b l z f.resultTypes.toList (v.resultList f.resultTypes.size) (s.fn H (ds++n)).results [])
  (e:∀l:Nat->Bool,(∀p∈a,l p.block=true)->DataW.TrodAll enc P m 0 l true f.params.toList args.toList (s.fn H (ds++n)).args pa)
  (g:∀l:Nat->Bool,(∀p∈a,l p.block=true)->DataW.TrodVars enc P m l s.vars (s.fn H (ds++n)).vars pv)
  (i:a=pa++pv)(y:Below W.heap.size W m)
  (x:∀(j:Nat) (t:TypeId) (r:Value),f.resultTypes[j]?=some t->(v.resultList f.resultTypes.size)[j]?=some r->Value.okWide P m .any 0 t r):
  s.post enc P f c fresh d again W args v m:=by
 have o:∀p∈a,p.block<W.heap.size:=λp h=>w.lt p h
 have hold:∀p∈a,(λb=>decide (b<W.heap.size)) p.block=true:=λp h=>by simpa using o p h
 refine⟨ds,n,a,[],pa,pv,w,k _ _ _,e _ hold,g _ hold,World.keptBut_mono (λp h=>⟨h,?_⟩) (y.frame (·∈a)),λ_=>?_⟩
 ·rw[i,gy] at h;exact db h
 ·obtain⟨_,_,_,_,_,A,B⟩:=w;refine⟨x,_,_,([]++pa)++pv,⟨[]++pa,pv,trodAll_append (e _ (λ_ _=>rfl)) (k _ _ _),g _ (λ_ _=>rfl),rfl,?_,?_⟩,?_⟩
  ·intro b q h;have u:MemPlace.cell b q∈a:=by rw[i];simpa using h
   rw[y.frozen (o _ u)];exact A b q u
  ·intro ha;have:=B ha;rw[i] at this;simpa using this
  ·intro p h _;rw[i];simpa using h
noncomputable def low:Nat:=(World.holding Tryz.prog default ⟨#[],#[],[]⟩).heap.size
def KJ(h:Array Obj)(g:Nat)(cs:Array Value):Array Obj:=h.modify g λ
 |.cells _ t frozen=>.cells cs t frozen
 |o=>o
noncomputable def Ha (l:List UInt8):Obj:=.cells #[.string ⟨l.toArray⟩] 286
noncomputable def laidWorld (c:Os):World:=
 let b:=World.holding Tryz.prog c ⟨#[Ha [97,110,32,97,114,103,117,109,101,110,116,32,116,104,97,116,32,99,97,110,39,116,32,98,101],Ha [97,32,110,105,108,32,116,104,105,110,103],Ha [110,111,32,114,111,111,109],Ha [110,111,116,32,110,111,119],Ha [97,32,115,108,111,116,32,116,104,97,116,32,105,115,32,102,114,101,101],Ha [97,32,115,108,111,116,32,116,104,97,116,32,105,115,32,97,110,111,116,104,101,114,32,111,110,101,32,110,111,119],Ha [100,111,110,101,32,97,108,114,101,97,100,121]],#[],[]⟩
 let a (i:Nat):Array Value:=#[.iface 228 (.pointer (some ⟨low+i,0,none⟩))]
 {b with heap:=KJ (KJ (KJ (KJ (KJ (KJ (KJ (b.heap) 0 (a 0)) 1 (a 1)) 2 (a 2)) 4 (a 3)) 3 (a 4)) 5 (a 5)) 6 (a 6)}
def laid_met(a:Os)(args:Array Value):laidMet Tryz.prog laidList ((laidWorld a).forCall (λ_ _=>0) ⟨#[],args,[]⟩).memory:=
 laidMet_of_run' 8 Zk Zk
def laidOut:laidOutB Tryz.prog=true:=Zk
section
variable{H:Type}{enc:TypeId × Value->H}
def trodAll_stays{P:Program}(i:laidOutB P=true){W j:World}{k:Nat->Bool}(l:Below W.heap.size W j):
  ∀{f:List TypeId} {vs:List Value} {ds:List (DataW H)} {b:List MemPlace},(∀t∈f,P.readableRec t=true/\t<P.types.size)->DataW.TrodAll enc P W 0 (λ_=>true) true f vs ds b->
   (∀x∈b,x.block<W.heap.size)->(∀x∈b,k x.block=true)->DataW.TrodAll enc P j 0 k true f vs ds b
 |[],[],[],_,_,h,_,_=>h
 |[],[],_::_,_,_,h,_,_=>h.elim
 |[],_::_,_,_,_,h,_,_=>h.elim
 |_::_,[],_,_,_,h,_,_=>h.elim
 |_::_,_::_,[],_,_,h,_,_=>h.elim
 |t::f,v::vs,d::ds,b,g,h,c,e=>by
  obtain⟨p,q,m,n,rfl⟩:=h;refine⟨p,q,?_,trodAll_stays i l (λt o=>g t (by simp[o])) n (λx a=>c x (by simp[a])) (λx a=>e x (by simp[a])),rfl⟩;exact WideElems.Trod_stays i (g t Zs).1 (g t Zs).2 m (λx a=>l.same (c x (by simp[a]))) (λx a=>e x (by simp[a]))
end
def AT.below{w w':World}(h:AT w)(a:Below w.heap.size w w'):AT w':=by
 obtain⟨c,d,f,g,i,j,l,m⟩:=h;have k:∀{b:Nat},(∃T q,w.cell? ⟨b,0,none⟩=some (.iface T (.pointer (some q))))->∃T q,w'.cell? ⟨b,0,none⟩=some (.iface T (.pointer (some q))):=λ{b} ⟨T,q,e⟩=>⟨T,q,by rw[(N1 a).1 b 0 (ki w _ e)];exact e⟩;exact⟨k c,k d,k f,k g,k i,k j,k l,gb m a.size⟩
def IT{p:Pl}{n:Int}(h:p.BY n=true):∃i:Nat,n=(i:Int)+1/\i<p.ns:=by
 unfold Pl.BY at h;simp at h;exact⟨(n-1).toNat,Zo,Zo⟩
def PB.two{w:World}{g c a:Nat}{p:Pl}{fr:B5}{d:Value}(h:PB w g c a p fr d){i:Nat}(b:i<p.ns):w.cell? ⟨a,i*52,none⟩=some (.int .i64 (p.slot ((i:Int)+1)).AB)/\w.cell? ⟨a,i*52+1,none⟩=some (.bool (p.slot ((i:Int)+1)).used):=
 ⟨h.slot b 0 _ rfl,h.slot b 1 _ rfl⟩
def K8{w:World}{g l m:Nat}{p:Pl}{fr:B5}{o:Value}(h:PB w g l m p fr o)(b:AT w)(n AB:Int)(a:n=0\/p.BY n=true)(T:TypeId)(q:Addr):
  Kp 33 #[.pointer (some ⟨g,0,none⟩),.int .i64 n,.int .i64 AB,.iface T (.pointer (some q))] w (vO (p.live n AB) w):=by
 obtain⟨_,u,_,_,_,_⟩:=h.cells
 obtain⟨v,x,y⟩:=b.tj
 have r:=h.bk.lt
 have s:=h.WW
 unfold Pl.live
 rcases a with rfl|a
 ·clear h b;go_enter Tryz.func33,Tryz.ntmps33;go_wp2_with fail;go_ret;exact⟨rfl,vB⟩
 ·obtain⟨i,rfl,t⟩:=IT a;obtain⟨z,e⟩:=h.two t;have c:(((i:Int)+1)==0)=false:=by simp;omega
  rw[c];clear h b a;cases j:(p.slot ((i:Int)+1)).used with
  |false=>
   rw[j] at e;go_enter Tryz.func33,Tryz.ntmps33;go_wp2_with fail;go_ret;exact⟨⟨_,_,rfl⟩,vB⟩
  |true=>
   rw[j] at e;cases k:((p.slot ((i:Int)+1)).AB==AB) with
   |true=>
    have d:((p.slot ((i:Int)+1)).AB !=AB)=false:=by simp only[bne,k,iv]
    go_enter Tryz.func33,Tryz.ntmps33;go_wp2_with fail;go_ret;exact⟨rfl,vB⟩
   |false=>
    have d:((p.slot ((i:Int)+1)).AB !=AB)=true:=by simp only[bne,k,k9]
    go_enter Tryz.func33,Tryz.ntmps33;go_wp2_with fail;go_ret;exact⟨⟨_,_,rfl⟩,vB⟩
