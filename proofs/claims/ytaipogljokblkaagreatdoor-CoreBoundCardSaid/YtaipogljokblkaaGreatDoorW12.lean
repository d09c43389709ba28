/- Core: MP, PB, PC, CardA, CR0, PU, MR, MV, VG, CVer, VH, PD, CRo, CSm. -/
import Derived.Test.YtaipogljokblkaaGreatDoorW06
import Derived.Test.YtaipogljokblkaaGreatDoorW09
import Derived.Test.YtaipogljokblkaaGreatDoorW01
import Derived.Deep.Cut
import Derived.Test.YtaipogljokblkaaGreatDoorCards
import Derived.Test.YtaipogljokblkaaGreatDoorTie
import Derived.WalkKit
import Derived.ProofKit
import Derived.OpenShut
import Derived.Below
import Derived.ChangeSame
import Derived.Deep.DeepHandedRow
import Derived.Stop.LaidErr
import Derived.LaidLaws
import Derived.ShutString
import Derived.LaidSub
import Derived.WideKeyArgs
import Derived.Carry
import Derived.Deep.Slices
import Derived.Test.YtaipogljokblkaaGreatDoorW11
import Derived.Test.YtaipogljokblkaaGreatDoorW10
import Derived.Test.YtaipogljokblkaaGreatDoorW07
set_option linter.all false
set_option maxRecDepth 100000
set_option maxHeartbeats 8000000
namespace Go.Proofs.YtaipogljokblkaaGreatDoor
open Go Go.RowKit
set_option linter.unusedSimpArgs false
set_option linter.unusedVariables false
set_option linter.unusedSectionVars false
structure It where
 Ap:Int
 used:Bool
 cell:Int->Xd
def It.zero:It:=⟨0,false,λ_=>.zero⟩
structure Pl where
 nb:Nat
 ns:Nat
 board:Int->Xd
 slot:Int->It
 free:List Int
 steps:Int
 made:Int
 fault:Bool
def Ah{α:Type}(f:Int->α)(i:Int)(x:α):Int->α:=λj=>bif j==i then x else f j
theorem Xy{α:Type}(f:Int->α)(i:Int)(x:α):Ah f i x i=x:=by simp[Ah]
theorem Bw{α:Type}(f:Int->α){i j:Int}(x:α)(h:j≠i):Ah f i x j=f j:=by
 unfold Ah;rw[show(j==i)=false from by simp[h]];rfl
namespace Pl
def BL(p:Pl)(n:Int):Bool:=decide (1<=n)&&decide (n<=(p.ns:Int))
def has(p:Pl)(a:Yj):Bool:=
 bif a.sl==0 then a.gn==0&&(decide (0<=a.fd)&&decide (a.fd<(p.nb:Int))) else p.BL a.sl&&(decide (0<=a.fd)&&decide (a.fd<10))
def valid(p:Pl)(a:Bo):Bool:=
 bif a.kind==1||(a.kind==2||a.kind==3) then p.has a.A2 else bif a.kind==4 then true else bif a.kind==5 then p.BL a.A1.sl else false
def live(p:Pl)(n Ap:Int):Bool:=n==0||((p.slot n).used&&(p.slot n).Ap==Ap)
def right(p:Pl)(a:Bo):Bool:=
 bif a.kind==4 then true else bif a.kind==5 then p.live a.A1.sl a.A1.gn else p.live a.A2.sl a.A2.gn
def get(p:Pl)(a:Yj):Xd:=bif a.sl==0 then p.board a.fd else(p.slot a.sl).cell a.fd
def put(p:Pl)(a:Yj)(x:Xd):Pl:=
 bif a.sl==0 then{p with board:=Ah p.board a.fd x} else
 {p with slot:=Ah p.slot a.sl {p.slot a.sl with cell:=Ah (p.slot a.sl).cell a.fd x}}
def refused(kind:Int):Xj:=bif kind==1||kind==3 then⟨Y5 (-1),false⟩ else Xj.zero
def alloc(p:Pl)(A8:Int):Pl × Xj:=
 match p.free.getLast? with
 |none=>(p,Xj.zero)
 |some n=>({p with free:=p.free.dropLast,slot:=Ah p.slot n ⟨wr ((p.slot n).Ap+1),true,Ah (λ_=>.zero) 9 (Y5 A8)⟩,made:=wr (p.made+1)},⟨⟨n,wr ((p.slot n).Ap+1),0,0,false⟩,true⟩)
def touch(p:Pl)(a:Bo):Pl × Xj:=
 bif a.kind==1 then(p,⟨p.get a.A2,true⟩) else
 bif a.kind==3 then
  bif AE (p.get a.A2) a.A1 then(p.put a.A2 a.new,⟨p.get a.A2,true⟩) else(p,⟨p.get a.A2,false⟩)
 else(p.put a.A2 a.new,⟨.zero,true⟩)
def act(p:Pl)(a:Bo):Pl × Xj:=
 let p:={p with steps:=wr (p.steps+1)}
 bif !p.right a then({p with fault:=true},refused a.kind) else
 bif a.kind==4 then p.alloc a.new.nm else
 bif a.kind==5 then({p with slot:=Ah p.slot a.A1.sl {p.slot a.A1.sl with used:=false},free:=p.free++[a.A1.sl]},⟨.zero,true⟩) else
 p.touch a
end Pl
def Bh(s:It):List Value:=[.int .i64 s.Ap,.bool s.used]++rows Xd.l ((List.range 10).map λ(j:Nat)=>s.cell (j:Int))
theorem Bp(s:It):(Bh s).length=52:=by
 unfold Bh;rw[List.length_append,Yx NS];simp
namespace Pl
def Bu(p:Pl):List Value:=rows Xd.l ((List.range p.nb).map λ(i:Nat)=>p.board (i:Int))
def A3(p:Pl):List Value:=rows Bh ((List.range p.ns).map λ(i:Nat)=>p.slot ((i:Int)+1))
theorem Zi(p:Pl):p.Bu.length=p.nb*5:=by unfold Bu;rw[Yx NS];simp
theorem K6(p:Pl):p.A3.length=p.ns*52:=by unfold A3;rw[Yx Bp];simp
end Pl
theorem Lh{α:Type}{f:α->List Value}{sz:Nat}(hf:∀x,(f x).length=sz)(g:Nat->α)(n i:Nat)(hi:i<n):rows f ((List.range n).map g)=rows f ((List.range i).map g)++(f (g i)++rows f ((List.range (n-i-1)).map λj=>g (i+1+j))):=by
 have e:List.range n=List.range i++(i::(List.range (n-i-1)).map λj=>i+1+j):=by
  apply List.ext_getElem
  ·simp;omega
  ·intro k h1 h2;rw[List.getElem_range,List.getElem_append];split
   ·simp
   ·rename_i hk;rw[List.length_range] at hk;rw[List.getElem_cons];split
    ·rename_i hz;rw[List.length_range] at hz;omega
    ·rename_i hz;rw[List.length_range] at hz;rw[List.getElem_map,List.getElem_range,List.length_range];omega
 rw[e,List.map_append,Jo,List.map_cons,DN,List.map_map];rfl
theorem Lg{α:Type}{f:α->List Value}{sz:Nat}(hf:∀x,(f x).length=sz)(g g':Nat->α)(n i:Nat)(hi:i<n)(hg:∀j,j≠i->g' j=g j):
  rows f ((List.range n).map g')=(rows f ((List.range n).map g)).take (i*sz)++f (g' i)++(rows f ((List.range n).map g)).drop (i*sz+sz):=by
 rw[Lh hf g n i hi,Lh hf g' n i hi]
 have e1:(List.range i).map g'=(List.range i).map g:=List.map_congr_left λj hj=>hg j (by have:=List.mem_range.1 hj;omega)
 have e2:((List.range (n-i-1)).map λj=>g' (i+1+j))=((List.range (n-i-1)).map λj=>g (i+1+j)):=List.map_congr_left λj _=>hg _ Zo
 rw[e1,e2]
 have hl:(rows f ((List.range i).map g)).length=i*sz:=by rw[Yx hf];simp
 have hl2:=hf (g i)
 rw[show i*sz=(rows f ((List.range i).map g)).length from hl.symm,List.take_left',List.append_assoc]
 ·rw[show(rows f ((List.range i).map g)).length+sz=(rows f ((List.range i).map g)).length+(f (g i)).length from by rw[hl2],←List.drop_drop,List.drop_left',List.drop_left']
  ·rfl
  ·rfl
 ·rfl
structure PB(w:World)(g bb sb:Nat)(p:Pl)(fr:BB)(fv:Value):Prop where
 bk:Bk w g 106 #[.slice (some ⟨bb,0,none⟩) p.nb p.nb,.slice (some ⟨sb,0,none⟩) p.ns p.ns,fr.v,.int .i64 p.steps,.int .i64 p.made,fv]
 bo:Bk w bb 51 p.Bu.toArray
 so:Bk w sb 149 p.A3.toArray
 fo:Own w 3 1 fr.v p.free.length (AA p.free)
 iA:if p.fault then ∃T q,fv=.iface T (.pointer (some q)) else fv=.nilIface
 n1:g≠bb
 n2:g≠sb
 n3:bb≠sb
 f1:fr.v.ownBlock≠some g
 f2:fr.v.ownBlock≠some bb
 f3:fr.v.ownBlock≠some sb
 gJ:p.nb<=1000
 VJ:p.ns<=2000
def Y6(g bb sb:Nat)(fr:BB):List Nat:=g::bb::sb::fr.v.ownBlock.toList
section
variable{w w':World}{g bb sb:Nat}{p:Pl}{fr:BB}{fv:Value}
theorem Xw{b:Nat}:b∈Y6 g bb sb fr↔b=g\/b=bb\/b=sb\/fr.v.ownBlock=some b:=by
 simp only[Y6,List.mem_cons,Option.mem_toList]
theorem PB.lt(h:PB w g bb sb p fr fv):∀b∈Y6 g bb sb fr,b<w.heap.size:=λb hb=>by
 rcases Xw.1 hb with rfl|rfl|rfl|h1
 ·exact h.bk.lt
 ·exact h.bo.lt
 ·exact h.so.lt
 ·exact h.fo.lt h1
theorem PB.Cf{F:List Nat}(h:PB w g bb sb p fr fv)(hc:Al F w w')(hF:∀b∈Y6 g bb sb fr,b∉F):PB w' g bb sb p fr fv:=
 ⟨h.bk.Cf hc (hF g (Xw.2 (Or.inl rfl))),h.bo.Cf hc (hF bb (Xw.2 (Or.inr (Or.inl rfl)))),h.so.Cf hc (hF sb (Xw.2 (Or.inr (Or.inr (Or.inl rfl))))),h.fo.kept λb hb=>hc.Av b (h.fo.lt hb) (hF b (Xw.2 (Or.inr (Or.inr (Or.inr hb))))),h.iA,h.n1,h.n2,h.n3,h.f1,h.f2,h.f3,h.gJ,h.VJ⟩
theorem PB.below(h:PB w g bb sb p fr fv)(hb:Below w.heap.size w w'):PB w' g bb sb p fr fv:=h.Cf (F:=[]) (Al.Af hb) (λ_ _=>List.not_mem_nil)
theorem PB.alloc(h:PB w g bb sb p fr fv)(o:Obj):PB (w.alloc o) g bb sb p fr fv:=h.below ((Below.refl _ _).alloc (Nat.le_refl _) _)
theorem PB.cells(h:PB w g bb sb p fr fv):w.cell? ⟨g,0,none⟩=some (.slice (some ⟨bb,0,none⟩) p.nb p.nb)/\w.cell? ⟨g,1,none⟩=some (.slice (some ⟨sb,0,none⟩) p.ns p.ns)/\w.cell? ⟨g,2,none⟩=some fr.v/\w.cell? ⟨g,3,none⟩=some (.int .i64 p.steps)/\w.cell? ⟨g,4,none⟩=some (.int .i64 p.made)/\w.cell? ⟨g,5,none⟩=some fv:=
 ⟨h.bk.cell 0,h.bk.cell 1,h.bk.cell 2,h.bk.cell 3,h.bk.cell 4,h.bk.cell 5⟩
theorem PB.board(h:PB w g bb sb p fr fv){i:Nat}(hi:i<p.nb):w.rangeAt bb (i*5) (p.board i).l:=λj u hu=>by
 rw[h.bo.cell,List.getElem?_toArray];have:=Gz NS ((List.range p.nb).map λ(i:Nat)=>p.board (i:Int)) i (by simpa using hi) j u (by simpa using hu);exact this
theorem PB.slot(h:PB w g bb sb p fr fv){i:Nat}(hi:i<p.ns):w.rangeAt sb (i*52) (Bh (p.slot ((i:Int)+1))):=λj u hu=>by
 rw[h.so.cell,List.getElem?_toArray];have:=Gz Bp ((List.range p.ns).map λ(i:Nat)=>p.slot ((i:Int)+1)) i (by simpa using hi) j u (by simpa using hu);exact this
theorem PB.cell(h:PB w g bb sb p fr fv){i k:Nat}(hi:i<p.ns)(hk:k<10):w.rangeAt sb (i*52+2+k*5) ((p.slot ((i:Int)+1)).cell k).l:=λj u hu=>by
 have h1:=Gz NS ((List.range 10).map fun (j:Nat)=>(p.slot ((i:Int)+1)).cell (j:Int)) k (by simpa using hk) j u (by simpa using hu);have h2:=h.slot hi (2+(k*5+j)) u (by
  unfold Bh;rw[List.getElem?_append_right Zs];simpa using h1)
 rw[show i*52+2+k*5+j=i*52+(2+(k*5+j)) from by omega];exact h2
end
theorem Jr{w:World}{g bb sb:Nat}{p:Pl}{fr:BB}{fv:Value}(h:PB w g bb sb p fr fv)(n:Int):
  Calls Tryz.prog 53 #[.pointer (some ⟨g,0,none⟩),.int .i64 n] w (Nz (p.BL n) w):=by
 obtain⟨_,c1,_,_,_,_⟩:=h.cells
 have hgl:=h.bk.lt
 clear h
 unfold Pl.BL
 go_enter Tryz.func53,Tryz.ntmps53
 cases h1:decide (1<=n) with
 |true=>
  cases h2:decide (n<=(p.ns:Int)) with
  |true=>
   go_wp2_with fail
   go_ret
   exact⟨rfl,vB⟩
  |false=>
   go_wp2_with fail
   go_ret
   exact⟨rfl,vB⟩
 |false=>
  go_wp2_with fail
  go_ret
  exact⟨rfl,vB⟩
structure AO(w:World):Prop where
 arg:∃T q,w.cell? ⟨0,0,none⟩=some (.iface T (.pointer (some q)))
 nil_:∃T q,w.cell? ⟨1,0,none⟩=some (.iface T (.pointer (some q)))
 full:∃T q,w.cell? ⟨2,0,none⟩=some (.iface T (.pointer (some q)))
 state:∃T q,w.cell? ⟨4,0,none⟩=some (.iface T (.pointer (some q)))
 Bj:∃T q,w.cell? ⟨3,0,none⟩=some (.iface T (.pointer (some q)))
 wW:∃T q,w.cell? ⟨5,0,none⟩=some (.iface T (.pointer (some q)))
 wV:∃T q,w.cell? ⟨6,0,none⟩=some (.iface T (.pointer (some q)))
 lt:7<=w.heap.size
def rI(b:Bool)(w:World)(e:Ending)(w':World):Prop:=(if b then e=.returned .nilIface else ∃T q,e=.returned (.iface T (.pointer (some q))))/\Below w.heap.size w w'
theorem U6{w:World}{g bb sb:Nat}{p:Pl}{fr:BB}{fv:Value}(h:PB w g bb sb p fr fv)(a:Yj):
  Calls Tryz.prog 32 #[.pointer (some ⟨g,0,none⟩),.agg a.l.toArray] w (Nz (p.has a) w):=by
 obtain⟨c0,c1,_,_,_,_⟩:=h.cells
 have HH:=Zh h
 have hgl:=h.bk.lt
 clear h
 obtain⟨a0,a1,a2⟩:=a
 show Calls Tryz.prog 32 #[.pointer (some ⟨g,0,none⟩),.agg #[.int .i64 a0,.int .i64 a1,.int .i64 a2]] w _
 unfold Pl.has
 have hb0:Below w.heap.size w (w.alloc (.cells #[.int .i64 a0,.int .i64 a1,.int .i64 a2] 54)):=(Below.refl _ _).alloc (Nat.le_refl _) _
 have X0:Bk (w.alloc (.cells #[.int .i64 a0,.int .i64 a1,.int .i64 a2] 54)) w.heap.size 54 #[.int .i64 a0,.int .i64 a1,.int .i64 a2]:=Bk.at_ rfl
 cases h0:(a0==0) with
 |true=>
  cases h1:(a1==0) with
  |true=>
   cases h2:decide (0<=a2) with
   |true=>
    cases h3:decide (a2<(p.nb:Int)) with
    |true=>
     go_enter Tryz.func32,Tryz.ntmps32
     go_wp2_with fail
     go_quiet (fail)
     go_wp2_with fail
     go_ret
     exact⟨rfl,vB⟩
    |false=>
     go_enter Tryz.func32,Tryz.ntmps32
     go_wp2_with fail
     go_quiet (fail)
     go_wp2_with fail
     go_ret
     exact⟨rfl,vB⟩
   |false=>
    go_enter Tryz.func32,Tryz.ntmps32
    go_wp2_with fail
    go_quiet (fail)
    go_wp2_with fail
    go_ret
    exact⟨rfl,vB⟩
  |false=>
   go_enter Tryz.func32,Tryz.ntmps32
   go_wp2_with fail
   go_quiet (fail)
   go_wp2_with fail
   go_ret
   exact⟨rfl,vB⟩
 |false=>
  have HE:=Zh (Jr (HH.out.below hb0) a0)
  cases he:p.BL a0 with
  |false=>
   go_enter Tryz.func32,Tryz.ntmps32
   go_wp2_with fail
   refine HE.out.mono ?_
   rintro e w1 ⟨rfl,hb1⟩
   rw[he]
   have x2:=(X0.Ad hb1).cell 2
   simp at x2
   go_wp2_with fail
   go_ret
   exact⟨rfl,hb0.trans (hb1.mono hb0.size)⟩
  |true=>
   cases h2:decide (0<=a2) with
   |false=>
    go_enter Tryz.func32,Tryz.ntmps32
    go_wp2_with fail
    refine HE.out.mono ?_
    rintro e w1 ⟨rfl,hb1⟩
    rw[he]
    have x2:=(X0.Ad hb1).cell 2
    simp at x2
    go_wp2_with fail
    go_ret
    exact⟨rfl,hb0.trans (hb1.mono hb0.size)⟩
   |true=>
    cases h3:decide (a2<10) with
    |true=>
     go_enter Tryz.func32,Tryz.ntmps32
     go_wp2_with fail
     refine HE.out.mono ?_
     rintro e w1 ⟨rfl,hb1⟩
     rw[he]
     have x2:=(X0.Ad hb1).cell 2
     simp at x2
     go_wp2_with fail
     go_ret
     exact⟨rfl,hb0.trans (hb1.mono hb0.size)⟩
    |false=>
     go_enter Tryz.func32,Tryz.ntmps32
     go_wp2_with fail
     refine HE.out.mono ?_
     rintro e w1 ⟨rfl,hb1⟩
     rw[he]
     have x2:=(X0.Ad hb1).cell 2
     simp at x2
     go_wp2_with fail
     go_ret
     exact⟨rfl,hb0.trans (hb1.mono hb0.size)⟩
end Go.Proofs.YtaipogljokblkaaGreatDoor
namespace Go.Proofs.YtaipogljokblkaaGreatDoor
open Go.ChangeShapes Go.WideShapes Go.ChangeAt Go.RowKit Go.Deep
theorem own:ownKnob Tryz.prog.godebug=none:=Zk
theorem qS:Tryz.prog.cellsOf 286=1:=Zk
theorem qR:Tryz.prog.cellsOf 9=1:=Zk
theorem ZR: "*"++ "errors.errorString"= "*errors.errorString":=by decide
theorem yY(u:TypeId)(h:Tryz.prog.typeName? 3 u=some "*errors.errorString"):u=228:=
 typeName_ptr_named (nm:= "errors.errorString") (by rw[ZR];kernel_rfl) Zk Zd u (by rw[ZR];exact h)
noncomputable def laidList:List (String × DataW Unit):=[("sexton/api.ErrArg",Rows.laid_sexton_api_ErrArg),("sexton/api.ErrNil",Rows.laid_sexton_api_ErrNil),("sexton/api.ErrFull",Rows.laid_sexton_api_ErrFull),("sexton/api.ErrState",Rows.laid_sexton_api_ErrState),("sexton/api.ErrFreed",Rows.laid_sexton_api_ErrFreed),("sexton/api.ErrStale",Rows.laid_sexton_api_ErrStale),("sexton/api.ErrTwice",Rows.laid_sexton_api_ErrTwice)]
theorem IG{W:World}{nm:String}{l:List UInt8}{rest:List (String × DataW Unit)}{g:Nat}(h:laidMet Tryz.prog ((nm,.iface "*errors.errorString" (.ptr (.agg [.lit (.string l)])))::rest) W)(hg:Tryz.prog.globalNamed nm=some g)(ht:(Tryz.prog.globals[g]?).map (·.type)=some 28):
  ∃T q,W.cell? ⟨g,0,none⟩=some (.iface T (.pointer (some q))):=by
 obtain⟨a,s,hv,hc,_⟩:=laid_sentinel h hg ht Tryz.underlying28 yY Tryz.underlying228 Tryz.underlying286 rfl rfl Tryz.underlying9 qS qR
 exact⟨_,a,by simpa using World.var?_cell hg hv 0⟩
theorem vX{W:World}{g:Nat}{v:Value}(h:W.cell? ⟨g,0,none⟩=some v):g<W.heap.size:=by
 unfold World.cell? at h;rcases Nat.lt_or_ge g W.heap.size with hl|hl
 ·exact hl
 ·rw[Array.getElem?_eq_none hl] at h;cases h
theorem worldOf{W:World}(h:laidMet Tryz.prog laidList W):AO W:=by
 have t0:=h;unfold laidList at t0;have eErrArg:=IG t0 (g:=0) Zk Zk;have t1:=t0.tail;have eErrNil:=IG t1 (g:=1) Zk Zk;have t2:=t1.tail;have eErrFull:=IG t2 (g:=2) Zk Zk;have t3:=t2.tail;have eErrState:=IG t3 (g:=4) Zk Zk;have t4:=t3.tail;have eErrFreed:=IG t4 (g:=3) Zk Zk;have t5:=t4.tail;have eErrStale:=IG t5 (g:=5) Zk Zk;have t6:=t5.tail;have eErrTwice:=IG t6 (g:=6) Zk Zk;have e8:=eErrTwice;obtain⟨_,_,hlast⟩:=e8;exact⟨eErrArg,eErrNil,eErrFull,eErrState,eErrFreed,eErrStale,eErrTwice,vX hlast⟩
theorem lastStep{H:Type}{enc:TypeId × Value->H}{P:Program}{f:Func}{s:ChangeSpec}{apart fresh handsOn again:Bool}{W W':World}{args:Array Value}{v:Value}{ds gs:List (DataW H)}{before pa pv:List MemPlace}
  (hW:DataW.Whole enc P f.params.toList s.vars apart W args.toList ds gs before)
  (hres:∀(b:Nat) (sp:Nat->Bool) (hd:Bool),DataW.TrodAll enc P W' b sp hd f.resultTypes.toList (v.resultList f.resultTypes.size) (s.fn H (ds++gs)).results [])
  (hargs:∀sp:Nat->Bool,(∀p∈before,sp p.block=true)->DataW.TrodAll enc P W' 0 sp true f.params.toList args.toList (s.fn H (ds++gs)).args pa)
  (hvars:∀sp:Nat->Bool,(∀p∈before,sp p.block=true)->DataW.TrodVars enc P W' sp s.vars (s.fn H (ds++gs)).vars pv)
  (hps:before=pa++pv)(hb:Below W.heap.size W W')
  (hok:∀(j:Nat) (t:TypeId) (r:Value),f.resultTypes[j]?=some t->(v.resultList f.resultTypes.size)[j]?=some r->Value.okWide P W' .any 0 t r):
  s.post enc P f apart fresh handsOn again W args v W':=by
 have hlt:∀p∈before,p.block<W.heap.size:=λp hp=>hW.lt p hp
 have hold:∀p∈before,(λb=>decide (b<W.heap.size)) p.block=true:=λp hp=>by simpa using hlt p hp
 refine⟨ds,gs,before,[],pa,pv,hW,hres _ _ _,hargs _ hold,hvars _ hold,World.keptBut_mono (λp hp=>⟨hp,?_⟩) (hb.frame (·∈before)),λ_=>?_⟩
 ·rw[hps,List.mem_append] at hp;exact Or.inr hp
 ·obtain⟨_,_,_,_,_,hz,hn⟩:=hW;refine⟨hok,_,_,([]++pa)++pv,⟨[]++pa,pv,trodAll_append (hargs _ (λ_ _=>rfl)) (hres _ _ _),hvars _ (λ_ _=>rfl),rfl,?_,?_⟩,?_⟩
  ·intro b off hp;have hin:MemPlace.cell b off∈before:=by rw[hps];simpa using hp
   rw[hb.frozen (hlt _ hin)];exact hz b off hin
  ·intro ha;have:=hn ha;rw[hps] at this;simpa using this
  ·intro p hp _;rw[hps];simpa using hp
noncomputable def low:Nat:=(World.holding Tryz.prog default ⟨#[],#[],[]⟩).heap.size
def K7(h:Array Obj)(g:Nat)(cs:Array Value):Array Obj:=h.modify g λ
 |.cells _ t frozen=>.cells cs t frozen
 |o=>o
noncomputable def GD (l:List UInt8):Obj:=.cells #[.string ⟨l.toArray⟩] 286
noncomputable def laidWorld (os:Os):World:=
 let w0:=World.holding Tryz.prog os ⟨#[GD [97,110,32,97,114,103,117,109,101,110,116,32,116,104,97,116,32,99,97,110,39,116,32,98,101],GD [97,32,110,105,108,32,116,104,105,110,103],GD [110,111,32,114,111,111,109],GD [110,111,116,32,110,111,119],GD [97,32,115,108,111,116,32,116,104,97,116,32,105,115,32,102,114,101,101],GD [97,32,115,108,111,116,32,116,104,97,116,32,105,115,32,97,110,111,116,104,101,114,32,111,110,101,32,110,111,119],GD [100,111,110,101,32,97,108,114,101,97,100,121]],#[],[]⟩
 let ptr (i:Nat):Array Value:=#[.iface 228 (.pointer (some ⟨low+i,0,none⟩))]
 {w0 with heap:=K7 (K7 (K7 (K7 (K7 (K7 (K7 (w0.heap) 0 (ptr 0)) 1 (ptr 1)) 2 (ptr 2)) 4 (ptr 3)) 3 (ptr 4)) 5 (ptr 5)) 6 (ptr 6)}
theorem laid_met(os:Os)(args:Array Value):laidMet Tryz.prog laidList ((laidWorld os).forCall (λ_ _=>0) ⟨#[],args,[]⟩).memory:=
 laidMet_of_run' 8 Zk Zk
theorem laidOut:laidOutB Tryz.prog=true:=Zk
section
variable{H:Type}{enc:TypeId × Value->H}
theorem trodAll_stays{P:Program}(hl:laidOutB P=true){W W':World}{sp:Nat->Bool}(hb:Below W.heap.size W W'):
  ∀{ts:List TypeId} {vs:List Value} {ds:List (DataW H)} {ps:List MemPlace},(∀t∈ts,P.readableRec t=true/\t<P.types.size)->DataW.TrodAll enc P W 0 (λ_=>true) true ts vs ds ps->
   (∀x∈ps,x.block<W.heap.size)->(∀x∈ps,sp x.block=true)->DataW.TrodAll enc P W' 0 sp true ts vs ds ps
 |[],[],[],_,_,h,_,_=>h
 |[],[],_::_,_,_,h,_,_=>h.elim
 |[],_::_,_,_,_,h,_,_=>h.elim
 |_::_,[],_,_,_,h,_,_=>h.elim
 |_::_,_::_,[],_,_,h,_,_=>h.elim
 |t::ts,v::vs,d::ds,ps,hr,h,hlt,hsp=>by
  obtain⟨p,q,h1,h2,rfl⟩:=h;refine⟨p,q,?_,trodAll_stays hl hb (λt ht=>hr t (by simp[ht])) h2 (λx hx=>hlt x (by simp[hx])) (λx hx=>hsp x (by simp[hx])),rfl⟩;exact WideElems.Trod_stays hl (hr t Zs).1 (hr t Zs).2 h1 (λx hx=>hb.same (hlt x (by simp[hx]))) (λx hx=>hsp x (by simp[hx]))
end
def rcE(R:Xb)(c:Xf):Env:=Iw [R.ii,c.ii] [R.bb,c.bb] [R.seen.v,R.Ao.v,R.notes.v] (AI rfl)
def rxE(R:Xb)(x:Xj):Env:=Iw [R.ii,x.ii] [R.bb,x.bb] [R.seen.v,R.Ao.v,R.notes.v] (AI rfl)
def fM:List SC:=(ct [vs 0 8,[.bool (.var 0)],vs 8 4,[.bool (.var 1)],vs 12 13,[.bool (.var 2)],vs 25 4,[.bool (.var 3)],vs 29 4,[.bool (.var 4)],vs 33 4,[.bool (.var 5),.int (.var 37),.AQ 0,.AQ 1],vs 38 8,[.bool (.var 6)],vs 46 4,[.bool (.var 7)],vs 50 4,[.bool (.var 8)],vs 54 4,[.bool (.var 9)],vs 58 4,[.bool (.var 10)],vs 62 4,[.bool (.var 11)],vs 66 4,[.bool (.var 12)],vs 70 4,[.bool (.var 13)],vs 74 4,[.bool (.var 14),.bool (.var 15),.int (.var 78),.int (.var 79),.AQ 2],vs 80 5,[.bool (.var 16),.bool (.var 17)]])
namespace Xb
def look(R:Xb)(n:Int):Xb × Bool:=
 bif R.Az then
  bif decide (wr (R.Ac*9)<=n) then(R,false) else(Xb.load {R with index:=n} 13 ⟨0,0,wr (wr (25+wr (wr (Int.tdiv n 9)*9))+Int.tmod n 9)⟩,true)
 else bif decide (R.Ac<=n) then(R,false) else(Xb.load {R with index:=n} 13 ⟨0,0,wr (79+n)⟩,true)
def scan(R:Xb):Xb:=bif R.Aa==1 then R.done else bif R.Aa==4 then R.load 12 (root 24) else(R.look 0).1
def noted(R:Xb):Xb:=bif decide (R.most<=(R.notes.n:Int)) then R.scan else R.done
def N8(R:Xb):Xb:=bif R.Aa==1 then R.done else bif R.Aa==4 then R.load 10 (root 24) else R.load 9 (Xg R.call.A1 9)
end Xb
def Br:BB:=⟨none,0,0⟩
def E5(w:Xd):AN:=bif w.mark then⟨true,w.nm,w.tg⟩ else⟨false,0,0⟩
structure MR where
 R:Xb
 ns:List Xn
 ds:List Xn
 ss:List Xd
namespace MR
def wrap(M:MR)(R:Xb):MR:=bif R.step==0 then⟨R,M.ns,[],[]⟩ else⟨R,M.ns,M.ds,M.ss⟩
def scan(M:MR):MR:=M.wrap M.R.scan
def noted(M:MR):MR:=bif decide (M.R.most<=(M.ns.length:Int)) then M.scan else M.wrap M.R.done
def note(M:MR)(A8 Db:Int):MR:={M with ns:=M.ns++[⟨AF M.R.call.A1,A8,Db⟩]}
def retire(M:MR):MR:=bif M.R.Aa==2 then(M.note 0 0).noted else M.wrap M.R.N8
def Ag(M:MR)(c:Xf):MR:=
 bif c.kind==10 then MR.retire ⟨M.R.A7 c,M.ns,[],[]⟩ else
 bif c.kind==11 then MR.scan ⟨M.R.A7 c,M.ns,[],[]⟩ else⟨M.R.Aq c,M.ns,[],[]⟩
def reap(M:MR):MR:=
 match M.ds with
 |[]=>M.wrap M.R.done
 |d::_=>{M with R:=M.R.ask 16 ⟨5,.zero,d.ref,.zero⟩}
def stays(M:MR):Xn->Bool:=
 bif M.R.Aa==2 then Cz M.ss else bif M.R.Aa==3 then GF (M.ss.map (·.nm)) else
 bif M.R.Aa==5 then Ff (M.ss.map E5) else DP M.R.clock.nm
def sift(M:MR):MR:=MR.reap {M with ds:=M.ns.filter λn=>!M.stays n}
def AG(M:MR)(x:Xj):MR:=
 let M:={M with ss:=M.ss++[x.word]}
 bif (M.R.look (M.R.index+1)).2 then{M with R:=(M.R.look (M.R.index+1)).1} else
 bif !(M.R.Aa==4) then M.sift else
 bif FG M.R.clock.nm (M.ss.map E5) then{M with R:=M.R.advance 14} else{M with R:=M.R.load 15 (root 24)}
def DX(M:MR):MR:=
 match M.ds with
 |[]=>M
 |d::ds=>MR.reap ⟨{M.R with Bj:=wr (M.R.Bj+1)},M.ns.erase d,ds,M.ss⟩
def As(M:MR)(x:Xj):MR:=
 let R:=M.R
 bif R.step==1 then M.wrap (R.finish x) else
 bif R.step==2 then M.wrap R.done else
 bif R.step==3 then M.wrap (R.Ec 2 ⟨true,x.word.nm,x.word.nm⟩) else
 bif R.step==4 then M.wrap (R.CZ (([0,1,2,3,4,5,6,7,8]:List Int).filter λn=>decide (R.index<n))) else
 bif R.step==5 then M.wrap (R.Bz x) else
 bif R.step==6 then M.wrap (R.Eo x) else
 bif R.step==7 then M.wrap (R.load 5 R.call.A2) else
 bif R.step==8 then M.wrap (R.ask 1 ⟨4,.zero,.zero,Y5 x.word.nm⟩) else
 bif R.step==9 then M.wrap (Xb.load {R with word:=x.word} 10 (root 24)) else
 bif R.step==10 then
  let M:=MR.note {M with R:={R with clock:=x.word}} R.word.nm x.word.nm
  bif R.dating then{M with R:=M.R.advance 11} else M.noted
 else
 bif R.step==11 then M.noted else
 bif R.step==12 then M.wrap (Xb.look {R with clock:=x.word} 0).1 else
 bif R.step==13 then M.AG x else
 bif R.step==14 then M.wrap (R.load 15 (root 24)) else
 bif R.step==15 then MR.sift {M with R:={R with clock:=x.word}} else
 M.DX
end MR
inductive Yz where
 |pile (J:X6)|Ti (J:Yd)|lit (J:Xi)|RF (J:Xa)|RW (J:Xc)
namespace Yz
def next:Yz->Xj->Yz × Xf
 |.pile J,x=>(.pile (J.next x).1,(J.next x).2)
 |.Ti J,x=>(.Ti (J.next x).1,(J.next x).2)
 |.lit J,x=>(.lit (J.next x).1,(J.next x).2)
 |.RF J,x=>(.RF (J.next x).1,(J.next x).2)
 |.RW J,x=>(.RW (J.next x).1,(J.next x).2)
def new(st:Int)(op:Bl):Yz:=
 bif st==1 then .pile (.new op) else bif st==2 then .Ti (.new op) else bif st==3 then .lit (.from_ (root 0) op.key op) else
 bif st==4 then .RF (.new op) else .RW (.new op)
end Yz
structure MV where
 st:Int
 eng:Int
 Ae:Int
 call:Xf
 op:Bl
 BJ:Option Yz
 BR:DQ
 M:MR
def AS:Xf:={Xf.zero with kind:=2}
def Yv:Xf:={Xf.zero with kind:=1}
def LI:Xf:={Xf.zero with kind:=11}
namespace MV
def Ey(V:MV):Bool:=!(V.M.R.step==0)
def busy(V:MV):Bool:=!(V.Ae==0)
def Ag(V:MV)(d:Int)(c:Xf):MV:={V with Ae:=d,call:=c,M:=V.M.Ag c}
def ER(V:MV):MV:=
 bif V.Ae==1||V.Ae==2 then
  match V.BJ with
  |none=>V
  |some J=>
   let r:=J.next V.M.R.Au
   bif !(r.2.kind==12) then MV.Ag {V with BJ:=some r.1} 2 r.2 else
   MV.Ag {V with BJ:=some r.1,BR:=r.2.BR} 3 AS
 else{V with Ae:=0}
def quiet(V:MV):Bool:=!(!(V.Ae==0)&&!V.Ey)
def NN:Nat->MV->MV
 |0,V=>V
 |n+1,V=>bif V.quiet then V else NN n V.ER
def advance(V:MV):MV:=NN 16 V
def Ih(V:MV)(op:Bl):MV:=(MV.Ag {V with op:=op,BJ:=some (Yz.new V.st op),BR:=.zero} 1 Yv).advance
def scan(V:MV):MV:=(MV.Ag {V with op:=.zero,BJ:=none,BR:=.zero} 4 LI).advance
def real(V:MV)(a:Bo):Int:=
 bif V.call.kind==6 then
  bif V.Ey then-1 else bif V.eng==3||V.eng==5 then 1 else 0
 else bif V.call.kind==8 then
  bif !(a.kind==4) then-1 else 0
 else bif V.call.kind==3||(V.call.kind==4||(V.call.kind==5||V.call.kind==9)) then 0 else-1
end MV
structure Hg where
 over:Bool
 BR:DQ
 real:Int
namespace MV
def step(V:MV)(p:Pl):MV × Pl × Hg:=
 let r:=p.act V.M.R.AY
 let V1:={V with M:=V.M.As r.2}
 let V2:=V1.advance
 (V2,r.1,bif V2.Ae==0 then⟨true,V2.BR,V1.real V.M.R.AY⟩ else⟨false,.zero,V1.real V.M.R.AY⟩)
end MV
structure Yp where
 Bt:Int
 qZ:Bool
 op:Bl
 real:Bool
 ends:Bool
 BR:DQ
 deriving DecidableEq
def Yp.l(x:Yp):List Value:=[.int .i64 x.Bt]++[.bool x.qZ]++x.op.l++[.bool x.real]++[.bool x.ends]++x.BR.l
def Yp.zero:Yp:=⟨0,false,.zero,false,false,.zero⟩
structure MT where
 V:MV
 queue:List Bl
 Cs:Int
 last:Int
structure Ar where
 st:Int
 heap:Pl
 AB:List MT
 A4:List Yp
namespace Ar
def has(P:Ar)(k:Int):Bool:=decide (0<=k)&&decide (k<(P.AB.length:Int))
def DT(T:MT):Bool:=!T.V.busy&&T.queue.isEmpty
def ready(T:MT):MT:=bif T.V.busy then T else match T.queue with
 |[]=>T
 |op::r=>{T with V:=T.V.Ih op,queue:=r}
def DJ(T:MT):Bl:=bif T.V.busy then .zero else T.queue.headD .zero
def EA(P:Ar)(k:Nat)(T:MT):Ar × Yp:=
 let T1:=ready T
 let r:=T1.V.step P.heap
 let b:Yp:=⟨k,!T.V.busy,DJ T,r.2.2.real==0,r.2.2.over,r.2.2.BR⟩
 let bs:=bif r.2.2.real==1&&decide (0<=T.last) then P.A4.modify T.last.toNat (λb=>{b with real:=true}) else P.A4
 ({P with heap:=r.2.1,AB:=P.AB.set k {T1 with V:=r.1,last:=P.A4.length},A4:=bs++[b]},b)
end Ar
structure DK where
 st:Int
 eng:Int
 Ae:Int
 call:Xf
 op:Bl
 BR:DQ
def DK.l(x:DK)(p_rite p_job:Value):List Value:=[.int .i64 x.st]++[.int .i64 x.eng]++[p_rite]++[.int .i64 x.Ae]++x.call.l++x.op.l++[p_job]++x.BR.l
def SY:List (Xf × Bool)->DK->Nat->DK × Nat
 |[],V,n=>(V,n)
 |(c,b)::r,V,n=>
  bif !(c.kind==12) then
   bif b then({V with Ae:=2,call:=c},n+2) else SY r {V with Ae:=2,call:=c} (n+2)
  else
   bif b then({V with Ae:=3,call:=AS,BR:=c.BR},n+2) else({V with Ae:=0,call:=AS,BR:=c.BR},n+2)
def Qw(V:DK)(b:Bool)(l:List (Xf × Bool)):DK × Nat:=
 bif !(V.Ae==0) then
  bif !b then bif V.Ae==1 then SY l V 0 else bif V.Ae==2 then SY l V 0 else({V with Ae:=0},0) else(V,0)
 else(V,0)
def rC(V:DK)(pr:Go.Addr)(jv:Value)(b0:Bool)(hjv:jv.oneCell'=true):Env:=Iw [[V.st,V.eng,V.Ae],V.call.ii,V.op.ii,V.BR.ii] [V.call.bb,[b0]] [.pointer (some pr),jv] (by intro u hu;simp at hu;rcases hu with rfl|rfl<;>first|rfl|assumption)
def wH:St:=⟨[],[(1,126,(ct [[.int (.var 0),.int (.var 1),.AQ 0],vs 2 9,[.bool (.var 0)],vs 11 4,[.bool (.var 1)],vs 15 8,[.AQ 1,.int (.var 23),.int (.var 24)]]))],[(.eq (.var 2) (.lit 1),false),(.eq (.var 2) (.lit 2),false),(.nil 0,false)],10,0⟩
def jA:List SV:=[.c (.ptr 1 2)]
def advl_S:List Xu:=[⟨false,72,1,[],[.c (.AQ 0)],.c (.bool (.var 2)),[]⟩]
theorem rD{Φ:GL}{F:Nat->Prop}(V:DK)(pr:Go.Addr)(jv:Value)(b0:Bool)(g1:Nat)(w:World)(h1:Bk w g1 126 (V.l (.pointer (some pr)) (jv)).toArray)(hjv:jv.oneCell'=true)(hd1:(V.Ae==1)=false)(hd2:(V.Ae==2)=false)(H0:∀w F,Φ.P 0 w F->(∀b,F b->b<w.heap.size)->Calls Tryz.prog 72 #[.pointer (some pr)] w λen w'=>en=.returned (.bool b0)/\ES Φ 0 F none w w')(f1:Φ.P 0 w F)(f2:¬F g1)(f3:∀b,F b->b<w.heap.size):Calls Tryz.prog 56 #[.pointer (some ⟨g1,2,none⟩)] w λen w'=>Ky Φ 0 F g1 126 (((bif !(V.Ae==0) then bif !b0 then({V with Ae:=0}:DK) else V else V)).l (.pointer (some pr)) jv).toArray (.tuple #[]) w en w':=by
 refine pE (rC V pr jv b0 hjv) advl_S 60 wH jA ((bif !(V.Ae==0) then bif !b0 then({V with Ae:=0}:DK) else V else V)) (λr=>(.tuple #[],0,(r.l (.pointer (some pr)) jv).toArray)) (Yc (AP 0 0 λhq w F hP hb=>Yw Tryz.func72 (H0 w F hP hb)) Gr) (Ca hd1 (Ca hd2 (Ca rfl Ci))) h1 f1 f2 f3 ?_;exact vS5
def jZ(V:DK)(pr:Go.Addr)(jv:Value)(d:Int)(c:Xf)(hjv:jv.oneCell'=true):Env:=Iw [[V.st,V.eng,V.Ae],V.call.ii,V.op.ii,V.BR.ii,[d],c.ii] [V.call.bb,c.bb] [.pointer (some pr),jv] (by intro u hu;simp at hu;rcases hu with rfl|rfl<;>first|rfl|assumption)
def sH:St:=⟨[],[(1,126,(ct [[.int (.var 0),.int (.var 1),.AQ 0],vs 2 9,[.bool (.var 0)],vs 11 4,[.bool (.var 1)],vs 15 8,[.AQ 1,.int (.var 23),.int (.var 24)]]))],[(.nil 0,false)],10,0⟩
def cC:List SV:=[.c (.ptr 1 2),.c (.int (.var 25)),.agg ((ct [vs 26 8,[.bool (.var 2)],vs 34 4,[.bool (.var 3)],vs 38 4]))]
def yB:List Xu:=[⟨false,71,101,[],[.c (.AQ 0),.agg ((ct [vs 26 8,[.bool (.var 2)],vs 34 4,[.bool (.var 3)],vs 38 4]))],.c (.lit .nilIface),[]⟩]
theorem kA{Φ:GL}{F:Nat->Prop}(V:DK)(pr:Go.Addr)(jv:Value)(d:Int)(c:Xf)(g1:Nat)(w:World)(h1:Bk w g1 126 (V.l (.pointer (some pr)) (jv)).toArray)(hjv:jv.oneCell'=true)(H0:∀w F,Φ.P 0 w F->(∀b,F b->b<w.heap.size)->Calls Tryz.prog 71 #[.pointer (some pr),.agg c.l.toArray] w λen w'=>en=.returned (.nilIface)/\ES Φ 1 F none w w')(f1:Φ.P 0 w F)(f2:¬F g1)(f3:∀b,F b->b<w.heap.size):Calls Tryz.prog 55 #[.pointer (some ⟨g1,2,none⟩),.int .i64 d,.agg c.l.toArray] w λen w'=>Ky Φ 1 F g1 126 ((({V with Ae:=d,call:=c}:DK)).l (.pointer (some pr)) jv).toArray (.tuple #[]) w en w':=by
 refine pE (jZ V pr jv d c hjv) yB 60 sH cC (({V with Ae:=d,call:=c}:DK)) (λr=>(.tuple #[],1,(r.l (.pointer (some pr)) jv).toArray)) (Yc (AP 0 1 λhq w F hP hb=>Yw Tryz.func71 (H0 w F hP hb)) Gr) (Ca rfl Ci) h1 f1 f2 f3 ?_;exact vS5
def bY(V:DK)(pr:Go.Addr)(jv:Value)(hjv:jv.oneCell'=true):Env:=Iw [[V.st,V.eng,V.Ae],V.call.ii,V.op.ii,V.BR.ii] [V.call.bb] [.pointer (some pr),jv] (by intro u hu;simp at hu;rcases hu with rfl|rfl<;>first|rfl|assumption)
def jX:St:=⟨[],[(1,126,(ct [[.int (.var 0),.int (.var 1),.AQ 0],vs 2 9,[.bool (.var 0)],vs 11 4,[.bool (.var 1)],vs 15 8,[.AQ 1,.int (.var 23),.int (.var 24)]]))],[(.nil 0,false)],10,0⟩
def VX:List SV:=[.c (.ptr 1 0)]
def sG:List Xu:=[]
theorem bZ{Φ:GL}{F:Nat->Prop}(V:DK)(pr:Go.Addr)(jv:Value)(g1:Nat)(w:World)(h1:Bk w g1 126 (V.l (.pointer (some pr)) (jv)).toArray)(hjv:jv.oneCell'=true)(f1:Φ.P 0 w F)(f2:¬F g1)(f3:∀b,F b->b<w.heap.size):Calls Tryz.prog 35 #[.pointer (some ⟨g1,0,none⟩)] w λen w'=>Ky Φ 0 F g1 126 ((V).l (.pointer (some pr)) jv).toArray (.bool (!(V.Ae==0))) w en w':=by
 refine pE (bY V pr jv hjv) sG 60 jX VX (V) (λr=>(.bool (!(V.Ae==0)),0,(r.l (.pointer (some pr)) jv).toArray)) Gr (Ca rfl Ci) h1 f1 f2 f3 ?_;exact vS5
def Hg.l(x:Hg):List Value:=[.bool x.over]++x.BR.l++[.int .i64 x.real]
def Hi(V:DK)(b0:Bool)(a:Bo):Int:=
 bif V.call.kind==6 then bif b0 then-1 else bif V.eng==3 then 1 else bif V.eng==5 then 1 else 0
 else bif V.call.kind==8 then bif !(a.kind==4) then-1 else 0
 else bif V.call.kind==3 then 0 else bif V.call.kind==4 then 0 else bif V.call.kind==5 then 0 else bif V.call.kind==9 then 0 else-1
def ZQ(V2:DK)(z:Int):Hg:=bif V2.Ae==0 then⟨true,V2.BR,z⟩ else⟨false,.zero,z⟩
theorem dJ(V2:DK)(c:Bool)(a b:Int):ZQ V2 (bif c then a else b)=bif c then ZQ V2 a else ZQ V2 b:=by cases c<;>rfl
theorem AO.below{w w':World}(h:AO w)(hb:Below w.heap.size w w'):AO w':=by
 obtain⟨h1,h2,h3,h4,h5,h6,h7,h8⟩:=h;have k:∀{b:Nat},(∃T q,w.cell? ⟨b,0,none⟩=some (.iface T (.pointer (some q))))->∃T q,w'.cell? ⟨b,0,none⟩=some (.iface T (.pointer (some q))):=λ{b} ⟨T,q,e⟩=>⟨T,q,by rw[(Nl hb).1 b 0 (World.block_lt_of_cell? w _ e)];exact e⟩;exact⟨k h1,k h2,k h3,k h4,k h5,k h6,k h7,Nat.le_trans h8 hb.size⟩
theorem IF{p:Pl}{n:Int}(h:p.BL n=true):∃i:Nat,n=(i:Int)+1/\i<p.ns:=by
 unfold Pl.BL at h;simp at h;exact⟨(n-1).toNat,by omega,by omega⟩
theorem PB.two{w:World}{g bb sb:Nat}{p:Pl}{fr:BB}{fv:Value}(h:PB w g bb sb p fr fv){i:Nat}(hi:i<p.ns):w.cell? ⟨sb,i*52,none⟩=some (.int .i64 (p.slot ((i:Int)+1)).Ap)/\w.cell? ⟨sb,i*52+1,none⟩=some (.bool (p.slot ((i:Int)+1)).used):=
 ⟨h.slot hi 0 _ rfl,h.slot hi 1 _ rfl⟩
theorem Kr{w:World}{g bb sb:Nat}{p:Pl}{fr:BB}{fv:Value}(h:PB w g bb sb p fr fv)(he:AO w)(n Ap:Int)(hn:n=0\/p.BL n=true)(T:TypeId)(q:Addr):
  Calls Tryz.prog 33 #[.pointer (some ⟨g,0,none⟩),.int .i64 n,.int .i64 Ap,.iface T (.pointer (some q))] w (rI (p.live n Ap) w):=by
 obtain⟨_,c1,_,_,_,_⟩:=h.cells
 obtain⟨T2,q2,es⟩:=he.wW
 have hgl:=h.bk.lt
 have hns:=h.VJ
 unfold Pl.live
 rcases hn with rfl|hn
 ·clear h he;go_enter Tryz.func33,Tryz.ntmps33;go_wp2_with fail;go_ret;exact⟨rfl,vB⟩
 ·obtain⟨i,rfl,hi⟩:=IF hn;obtain⟨q0,q1⟩:=h.two hi;have hnz:(((i:Int)+1)==0)=false:=by simp;omega
  rw[hnz];clear h he hn;cases hu:(p.slot ((i:Int)+1)).used with
  |false=>
   rw[hu] at q1;go_enter Tryz.func33,Tryz.ntmps33;go_wp2_with fail;go_ret;exact⟨⟨_,_,rfl⟩,vB⟩
  |true=>
   rw[hu] at q1;cases hg:((p.slot ((i:Int)+1)).Ap==Ap) with
   |true=>
    have hg2:((p.slot ((i:Int)+1)).Ap !=Ap)=false:=by simp only[bne,hg,Bool.not_true]
    go_enter Tryz.func33,Tryz.ntmps33;go_wp2_with fail;go_ret;exact⟨rfl,vB⟩
   |false=>
    have hg2:((p.slot ((i:Int)+1)).Ap !=Ap)=true:=by simp only[bne,hg,Bool.not_false]
    go_enter Tryz.func33,Tryz.ntmps33;go_wp2_with fail;go_ret;exact⟨⟨_,_,rfl⟩,vB⟩
def YW:Env:=⟨λ_=>0,λ_=>false,λ_=>.nilIface,λ_=>rfl⟩
def Ro:St:=⟨[],[],[],10,0⟩
def Ni:List SV:=[.c (.int (.lit 0))]
def Pk:SV × Yk:=((.agg (zs 3)),[])
theorem Vp:CY (exec Tryz.prog [] 120 (.call 66 Ni) Ro)=.leaf Pk:=Zk
theorem Pj(w:World):Calls Tryz.prog 66 #[.int .i64 0] w λen w'=>en=.returned (.agg #[.int .i64 0,.int .i64 0,.int .i64 0])/\Al [] w w':=by
 refine(Cy (S:=[]) (e:=YW) (st:=Ro) (args:=Ni) (k:=Dw []) mixed Xt (v:=Pk.1) (hp':=Pk.2) (by rw[Vp];rfl) (Hb rfl) (CE []) (λz hz=>by cases hz) Zk Zk (λz hz=>by cases hz) Zk).mono λen w' hp=>?_;obtain⟨k',hp⟩:=hp;exact⟨hp.ret.trans Zk,Gd hp.Cf (ls:=[]) Zk Zs⟩
def YV:Env:=⟨λ_=>0,λ_=>false,λ_=>.nilIface,λ_=>rfl⟩
def Rn:St:=⟨[],[],[],10,0⟩
def Nh:List SV:=[.c (.int (.lit 1))]
def Ph:SV × Yk:=((.agg ([(.int (.lit 0)),(.int (.lit 0)),(.int (.lit 1))])),[])
theorem Vo:CY (exec Tryz.prog [] 120 (.call 66 Nh) Rn)=.leaf Ph:=Zk
theorem Pg(w:World):Calls Tryz.prog 66 #[.int .i64 1] w λen w'=>en=.returned (.agg #[.int .i64 0,.int .i64 0,.int .i64 1])/\Al [] w w':=by
 refine(Cy (S:=[]) (e:=YV) (st:=Rn) (args:=Nh) (k:=Dw []) mixed Xt (v:=Ph.1) (hp':=Ph.2) (by rw[Vo];rfl) (Hb rfl) (CE []) (λz hz=>by cases hz) Zk Zk (λz hz=>by cases hz) Zk).mono λen w' hp=>?_;obtain⟨k',hp⟩:=hp;exact⟨hp.ret.trans Zk,Gd hp.Cf (ls:=[]) Zk Zs⟩
def Zp:Env:=⟨λ_=>0,λ_=>false,λ_=>.nilIface,λ_=>rfl⟩
def Ry:St:=⟨[],[],[],10,0⟩
def Nk:List SV:=[]
def Pu:SV × Yk:=((.c (.int (.lit 85))),[])
theorem V5:CY (exec Tryz.prog [] 120 (.call 41 Nk) Ry)=.leaf Pu:=Zk
theorem Pt(w:World):Calls Tryz.prog 41 #[] w λen w'=>en=.returned (.int .i64 85)/\Al [] w w':=by
 refine(Cy (S:=[]) (e:=Zp) (st:=Ry) (args:=Nk) (k:=Dw []) mixed Xt (v:=Pu.1) (hp':=Pu.2) (by rw[V5];rfl) (Hb rfl) (CE []) (λz hz=>by cases hz) Zk Zk (λz hz=>by cases hz) Zk).mono λen w' hp=>?_;obtain⟨k',hp⟩:=hp;exact⟨hp.ret.trans Zk,Gd hp.Cf (ls:=[]) Zk Zs⟩
def qY:Env:=⟨λ_=>0,λ_=>false,λ_=>.nilIface,λ_=>rfl⟩
def bF:St:=⟨[],[],[],10,0⟩
def Rw:List SV:=[]
def Zj:SV × Yk:=((.agg ([(.int (.lit 0)),(.int (.lit 0)),(.int (.lit 24))])),[])
theorem iT:CY (exec Tryz.prog [] 120 (.call 43 Rw) bF)=.leaf Zj:=Zk
theorem Vz(w:World):Calls Tryz.prog 43 #[] w λen w'=>en=.returned (.agg #[.int .i64 0,.int .i64 0,.int .i64 24])/\Al [] w w':=by
 refine(Cy (S:=[]) (e:=qY) (st:=bF) (args:=Rw) (k:=Dw []) mixed Xt (v:=Zj.1) (hp':=Zj.2) (by rw[iT];rfl) (Hb rfl) (CE []) (λz hz=>by cases hz) Zk Zk (λz hz=>by cases hz) Zk).mono λen w' hp=>?_;obtain⟨k',hp⟩:=hp;exact⟨hp.ret.trans Zk,Gd hp.Cf (ls:=[]) Zk Zs⟩
def hD:Env:=⟨λ_=>0,λ_=>false,λ_=>.nilIface,λ_=>rfl⟩
def UZ:St:=⟨[],[],[],10,0⟩
def OO:List SV:=[.c (.int (.lit 1))]
def SL:SV × Yk:=((.agg (zs 3++[(.int (.lit 1)),(.bool (.lit false))])),[])
theorem YI:CY (exec Tryz.prog [] 120 (.call 44 OO) UZ)=.leaf SL:=Zk
theorem Re(w:World):Calls Tryz.prog 44 #[.int .i64 1] w λen w'=>en=.returned (.agg #[.int .i64 0,.int .i64 0,.int .i64 0,.int .i64 1,.bool false])/\Al [] w w':=by
 refine(Cy (S:=[]) (e:=hD) (st:=UZ) (args:=OO) (k:=Dw []) mixed Xt (v:=SL.1) (hp':=SL.2) (by rw[YI];rfl) (Hb rfl) (CE []) (λz hz=>by cases hz) Zk Zk (λz hz=>by cases hz) Zk).mono λen w' hp=>?_;obtain⟨k',hp⟩:=hp;exact⟨hp.ret.trans Zk,Gd hp.Cf (ls:=[]) Zk Zs⟩
end Go.Proofs.YtaipogljokblkaaGreatDoor
