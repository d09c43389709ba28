/- Core: Via, PS, PV, VA, CClimb0, CClimb1, CClimb2, CPlace, Rfs, FnC, FnSteeplestart. -/
import Derived.Handy
import Derived.KernelRfl
import Derived.BigQuiet
import Derived.Test.YtaipogljokblkaaGreatDoorZ08
import Derived.Test.YtaipogljokblkaaGreatDoorZ01
set_option linter.all false
set_option maxRecDepth 100000
set_option maxHeartbeats 8000000
namespace Go.Proofs.YtaipogljokblkaaGreatDoor
open Go Go.RowKit
set_option linter.unusedSimpArgs false
set_option linter.unusedVariables false
set_option linter.unusedSectionVars false
theorem vB {p:Prop} (h:p:=by repeat' (first | (with_reducible exact Below.refl _ _) | (with_reducible assumption) | (with_reducible refine Below.alloc ?_ ?_ _) | (with_reducible refine Below.drew ?_) | (with_reducible refine below_drewN ?_ _) | (with_reducible refine Below.setCell ?_ ?_ _) | go_size)):p:=h
theorem vS1 {p:Prop} (h:p:=by repeat' (first|with_reducible (first|refine po_un (un_nul _) ?_|refine pN ?_|refine pA ?_|refine pO ?_|refine pB ?_|refine po_un (un_sp _) ?_|refine po_un (un_da _) ?_|refine po_un (un_ke _) ?_|refine po_un (un_co _ _ _) ?_|refine pF ?_|refine pT ?_|refine pU ?_|refine pV ?_|refine pC ?_ ?_)|refine po_if ?_|refine po_id ?_|refine po_eq (fst_bif _ _ _) ?_|exact l1)):p:=h
theorem vS2 {p:Prop} (h:p:=by repeat' (first|with_reducible (first|refine pN ?_|refine pA ?_|refine pO ?_|refine pB ?_|refine pF ?_|refine pT ?_|refine pU ?_|refine pV ?_|refine pC ?_ ?_)|refine po_if ?_|refine po_id ?_|refine po_eq (fst_bif _ _ _) ?_|exact l1)):p:=h
theorem vS3 {p:Prop} (h:p:=by repeat' (first|with_reducible (first|refine pN ?_|refine pA ?_|refine pO ?_|refine pB ?_|refine po_ff (by with_unfolding_all assumption) ?_|refine po_tt (by with_unfolding_all assumption) ?_|refine pU ?_|refine pV ?_|refine pK (fun h=>?_) (fun h=>?_))|unfold Xb.pub|with_reducible refine po_eq (descend_eq _ hway) ?_|refine po_if ?_|refine po_id ?_|refine po_eq (fst_bif _ _ _) ?_|exact po_abs (by exact way_fail hway (by assumption) (by assumption) (by assumption) (by assumption)) | exact poV_old rfl (by kernel_rfl) (fun k=>by kernel_rfl)|exact poV_new _ rfl (by kernel_rfl) (fun k=>by kernel_rfl))):p:=h
theorem vS4 {p:Prop} (h:p:=by repeat' (first|with_reducible (first|refine pN ?_|refine pA ?_|refine pO ?_|refine pB ?_|refine pF ?_|refine pT ?_|refine po_ff (by first | exact climbS_nn _ | exact climbF_n2 _ | (show (Xc.pc _==_) = _;with_unfolding_all rfl) | (show (decide (_≤Xc.pc _)) = _;with_unfolding_all rfl) | (show (GOp.kind _==_) = _;with_unfolding_all rfl)) ?_|refine po_tt (by first | exact climbS_nn _ | exact climbF_n2 _ | (show (Xc.pc _==_) = _;with_unfolding_all rfl) | (show (decide (_≤Xc.pc _)) = _;with_unfolding_all rfl) | (show (GOp.kind _==_) = _;with_unfolding_all rfl)) ?_|refine pC ?_ ?_)|unfold Xc.ins5|unfold Xc.rai12|unfold Xc.rem1|unfold Xc.rem6|unfold Xc.fin|refine po_if ?_|refine po_id ?_|refine po_eq (fst_bif _ _ _) ?_|exact l2)):p:=h
theorem vS5 {p:Prop} (h:p:=by repeat' (first|with_reducible (first|refine po_un (un_nul _) ?_|refine pN ?_|refine pA ?_|refine pO ?_|refine pB ?_|refine po_un (un_sp _) ?_|refine po_un (un_da _) ?_|refine po_un (un_ke _) ?_|refine po_un (un_co _ _ _) ?_|refine pF ?_|refine pT ?_|refine pU ?_|refine pV ?_|refine pC ?_ ?_)|refine po_if ?_|refine po_id ?_|refine po_eq (fst_bif _ _ _) ?_|exact l0)):p:=h
theorem vS6 {p:Prop} (h:p:=by repeat' (first|with_reducible (first|refine pN ?_|refine pA ?_|refine pO ?_|refine pB ?_|refine pF ?_|refine pT ?_|refine pU ?_|refine pV ?_|refine pC ?_ ?_)|refine po_if ?_|refine po_id ?_|refine po_eq (fst_bif _ _ _) ?_|exact lE)):p:=h
theorem vS7 {p:Prop} (h:p:=by repeat' (first|with_reducible (first|refine pN ?_|refine pA ?_|refine pO ?_|refine pB ?_|refine pF ?_|refine pT ?_|refine po_ff (by first | (show (Xb.pc _==_) = _;with_unfolding_all rfl) | (show (GOp.kind _==_) = _;with_unfolding_all rfl) | (show (Xi.ok _) = _;with_unfolding_all rfl) | (show (Xf.nm _==_) = _;with_unfolding_all rfl) | (show (Xf.sl _==_) = _;with_unfolding_all rfl)) ?_|refine po_tt (by first | (show (Xb.pc _==_) = _;with_unfolding_all rfl) | (show (GOp.kind _==_) = _;with_unfolding_all rfl) | (show (Xi.ok _) = _;with_unfolding_all rfl) | (show (Xf.nm _==_) = _;with_unfolding_all rfl) | (show (Xf.sl _==_) = _;with_unfolding_all rfl)) ?_|refine pC ?_ ?_)|unfold Xb.walk5|refine po_if ?_|refine po_id ?_|refine po_eq (fst_bif _ _ _) ?_|exact l2)):p:=h
theorem vS8 {p:Prop} (h:p:=by repeat' (first|with_reducible (first|refine pN ?_|refine pA ?_|refine pO ?_|refine pB ?_|refine po_ff (by with_unfolding_all assumption) ?_|refine po_tt (by with_unfolding_all assumption) ?_|refine pU ?_|refine pV ?_|refine pK (fun h=>?_) (fun h=>?_))|refine po_if ?_|refine po_id ?_|refine po_eq (fst_bif _ _ _) ?_|exact l1)):p:=h
theorem vS9 {p:Prop} (h:p:=by repeat' (first|with_reducible (first|refine po_un (un_nul _) ?_|refine pN ?_|refine pA ?_|refine pO ?_|refine pB ?_|refine po_un (un_sp _) ?_|refine po_un (un_da _) ?_|refine po_un (un_ke _) ?_|refine po_un (un_co _ _ _) ?_|refine po_ff (by with_unfolding_all assumption) ?_|refine po_tt (by with_unfolding_all assumption) ?_|refine pU ?_|refine pV ?_|refine pK (fun h=>?_) (fun h=>?_))|refine po_if ?_|refine po_id ?_|refine po_eq (fst_bif _ _ _) ?_|exact po_abs (by simp only [decide_eq_false_iff_not,decide_eq_true_eq] at *;omega) | exact l1)):p:=h
theorem vS10 {p:Prop} (h:p:=by repeat' (first|with_reducible (first|refine pN ?_|refine pA ?_|refine pO ?_|refine pB ?_|refine pF ?_|refine pT ?_|refine po_ff (by first | exact walkS_nn _ | exact walkF_nn | exact walkF_n2 _ | (show (Xn.pc _==_) = _;with_unfolding_all rfl) | (show (GOp.kind _==_) = _;with_unfolding_all rfl)) ?_|refine po_tt (by first | exact walkS_nn _ | exact walkF_nn | exact walkF_n2 _ | (show (Xn.pc _==_) = _;with_unfolding_all rfl) | (show (GOp.kind _==_) = _;with_unfolding_all rfl)) ?_|refine pC ?_ ?_)|unfold Xn.insWalk|unfold Xn.remWalk|unfold Xn.remWalk6|refine po_if ?_|refine po_id ?_|refine po_eq (fst_bif _ _ _) ?_|exact l2)):p:=h
def placeA (C:Xe) (l:Int):GSpot:=if decide (l < 0) then GSpot.zero else if decide (3≤l) then GSpot.zero else C.getS l
def climbS (o:Option Xe) (x:Xi):Option Xe × Xg × Bool :=
 match o with
 | none=>(none,Xg.zero,false)
 | some C=>(some (C.step x).1,(C.step x).2.1,(C.step x).2.2)
def climbF (o:Option Xe):Xf:=match o with | none=>Xf.zero | some C=>C.found
def climbP (o:Option Xe) (l:Int):GSpot:=match o with | none=>GSpot.zero | some C=>placeA C l
def weqR (f n:Xf):Bool:=f.sl==n.sl && (f.gn==n.gn && (f.tg==0 && (f.nm==0 && !f.mark)))
def weq2 (a b:Xf):Bool:=a.sl==b.sl && a.gn==b.gn
namespace Xc
def new (op:GOp):Xc:={ Xc.zero with op:=op }
def done (J:Xc) (code val:Int):Xc × Xg:=({ J with pc:=-1,last:=cdone code val },cdone code val)
def seek (J:Xc) (step bound:Int):Xc:={ J with climb:=some (Xe.new bound),pc:=step }
def part (J:Xc) (b:Int):Xc × Xg:=({ J with by_:=b,pc:=101 },cload (Xx J.node 7))
def link (J:Xc):Xc × Xg:=bif decide (J.op.tall≤J.level) then J.part 1 else ({ J with pc:=9 },cload (Xx J.node (wr (2+J.level))))
def look (J:Xc):Xc × Xg:=({ J with pc:=4 },cload (Xx J.node (wr (2+J.level))))
def ins7 (J:Xc) (lv:Int):Xc × Xg :=
 let J:={ J with level:=lv }
 bif decide (lv < J.op.tall) then ({ J with pc:=7 },cstore (Xx J.node (wr (2+lv))) (wref (climbP J.climb lv).cur)) else
 ({ J with pc:=8 },cswap (climbP J.climb 0).prev (climbP J.climb 0).cur (wto (climbP J.climb 0).cur J.node))
def ins5 (J:Xc) (x:Xi):Xc × Xg :=
 let r:=climbS J.climb x
 let J:={ J with climb:=r.1 }
 bif r.2.2 then (J,r.2.1) else
 bif !((climbF J.climb).sl==0) then ({ J with pc:=6 },cdrop J.node) else J.ins7 0
def insert (J:Xc) (x:Xi):Xc × Xg :=
 bif J.pc==0 then ({ J with pc:=1 },calloc)
 else bif J.pc==1 then
  bif !x.ok then J.done 4 0 else ({ J with node:=x.word,pc:=2 },cstore (Xx x.word 0) (wnum J.op.key))
 else bif J.pc==2 then ({ J with pc:=3 },cstore (Xx J.node 1) (wnum J.op.val))
 else bif J.pc==3 then ({ J with pc:=4 },cstore (Xx J.node 6) (wnum J.op.tall))
 else bif J.pc==6 then J.done 3 0
 else bif J.pc==8 then
  bif x.ok then Xc.link { J with level:=1 } else (J.seek 5 J.op.key).ins5 x
 else bif J.pc==4 then (J.seek 5 J.op.key).ins5 x
 else bif J.pc==5 then J.ins5 x
 else bif J.pc==7 then J.ins7 (wr (J.level+1))
 else (J,J.last)
def rai12 (J:Xc) (x:Xi):Xc × Xg :=
 let r:=climbS J.climb x
 let J:={ J with climb:=r.1 }
 bif r.2.2 then (J,r.2.1) else
 bif !weqR (climbF J.climb) J.node then J.part 1 else J.link
def raise (J:Xc) (x:Xi):Xc × Xg :=
 let s:=climbP J.climb J.level
 bif J.pc==9 then
  bif x.word.mark then J.part 1 else
  bif !weq2 x.word s.cur then ({ J with pc:=10 },cswap (Xx J.node (wr (2+J.level))) x.word (wto x.word s.cur)) else
  ({ J with pc:=11 },cswap s.prev s.cur (wto s.cur J.node))
 else bif J.pc==10 then
  bif !x.ok then J.link else ({ J with pc:=11 },cswap s.prev s.cur (wto s.cur J.node))
 else bif J.pc==11 then
  bif x.ok then Xc.link { J with level:=wr (J.level+1) } else (J.seek 12 J.op.key).rai12 x
 else bif J.pc==12 then J.rai12 x
 else (J,J.last)
def rem1 (J:Xc) (x:Xi) (n:Int):Xc × Xg :=
 let r:=climbS J.climb x
 let J:={ J with climb:=r.1 }
 bif r.2.2 then (J,r.2.1) else
 let J:={ J with node:=climbF J.climb }
 bif J.node.sl==0 then J.done 2 0 else ({ J with pc:=2 },cload (Xx J.node n))
def rem6 (J:Xc) (x:Xi):Xc × Xg :=
 let r:=climbS J.climb x
 let J:={ J with climb:=r.1 }
 bif r.2.2 then (J,r.2.1) else J.part 2
def remove (J:Xc) (x:Xi):Xc × Xg :=
 bif J.pc==0 then (J.seek 1 J.op.key).rem1 x 6
 else bif J.pc==1 then J.rem1 x 6
 else bif J.pc==2 then
  bif decide (x.word.nm < 1) then ({ J with level:=0,pc:=3 },cload (Xx J.node 1)) else
  bif decide (3 < x.word.nm) then ({ J with level:=0,pc:=3 },cload (Xx J.node 1)) else
  ({ J with level:=wr (x.word.nm - 1),pc:=3 },cload (Xx J.node 1))
 else bif J.pc==3 then Xc.look { J with val:=x.word.nm }
 else bif J.pc==4 then
  bif !x.word.mark then ({ J with pc:=5 },cswap (Xx J.node (wr (2+J.level))) x.word (wmarked x.word)) else
  bif J.level==0 then J.done 2 0 else Xc.look { J with level:=wr (J.level - 1) }
 else bif J.pc==5 then
  bif !x.ok then J.look else
  bif decide (0 < J.level) then Xc.look { J with level:=wr (J.level - 1) } else (J.seek 6 (wr (J.op.key+1))).rem6 x
 else bif J.pc==6 then J.rem6 x
 else (J,J.last)
def fin (J:Xc) (x:Xi):Xc × Xg :=
 let r:=climbS J.climb x
 let J:={ J with climb:=r.1 }
 bif r.2.2 then (J,r.2.1) else ({ J with pc:=104 },cretire J.node)
def finish (J:Xc) (x:Xi):Xc × Xg :=
 bif J.pc==101 then
  bif x.word.nm==0 then ({ J with pc:=102 },cswap (Xx J.node 7) x.word (wcount x.word J.by_)) else (J.seek 103 (wr (J.op.key+1))).fin x
 else bif J.pc==102 then
  bif x.ok then J.done 1 J.val else (J.seek 103 (wr (J.op.key+1))).fin x
 else bif J.pc==104 then J.done 1 J.val
 else J.fin x
def get (J:Xc) (x:Xi):Xc × Xg :=
 bif J.pc==0 then (J.seek 1 J.op.key).rem1 x 1
 else bif J.pc==1 then J.rem1 x 1
 else bif J.pc==2 then J.done 1 x.word.nm
 else (J,J.last)
def next (J:Xc) (x:Xi):Xc × Xg :=
 bif J.pc==-1 then (J,J.last)
 else bif decide (101≤J.pc) then J.finish x
 else bif J.op.kind==6 && decide (9≤J.pc) then J.raise x
 else bif J.op.kind==6 then J.insert x
 else bif J.op.kind==7 then J.remove x
 else J.get x
end Xc
def ClimbP (w:World) (p:Value) (C:Option Xe) (F:List Nat):Prop :=
 match C with
 | none=>p = .pointer none∧F = []
 | some C=>∃ g,p = .pointer (some ⟨g,0,none⟩)∧F = [g]∧Bk w g 284 C.l.toArray
def SteR (w:World) (g:Nat) (J:Xc) (F:List Nat):Prop :=
 ∃ q F1,F = g :: F1∧Bk w g 191 (J.l q).toArray∧ClimbP w q J.climb F1
def SteP (w:World) (g:Nat) (J:Xc) (F:List Nat):Prop:=SteR w g J F∧F.Nodup
def LvOk (C:Xe):Prop:=C.level = 0∨C.level = 1∨C.level = 2
def rev8 (n:Int):Int :=
 Int.tmod n 2*128+Int.tmod (Int.tdiv n 2) 2*64+Int.tmod (Int.tdiv n 4) 2*32+Int.tmod (Int.tdiv n 8) 2*16 +
 Int.tmod (Int.tdiv n 16) 2*8+Int.tmod (Int.tdiv n 32) 2*4+Int.tmod (Int.tdiv n 64) 2*2+Int.tmod (Int.tdiv n 128) 2
def ordr (key:Int):Int:=bif decide (key < 0) || decide (255 < key) then -1 else 2*rev8 key+1
def bordr (b:Int):Int:=bif decide (b < 0) || decide (8≤b) then -1 else 2*rev8 b
def par (b:Int):Int:=bif decide (4≤b) then b - 4 else bif decide (2≤b) then b - 2 else 0
def childOf (wanted bucket:Int):Int :=
 bif par wanted==bucket then wanted else bif par (par wanted)==bucket then par wanted else par (par wanted)
def sizeW (n:Int):Int:=bif n==2 then 2 else bif n==4 then 4 else bif n==8 then 8 else 1
def broot (b:Int):Yj:=root (wr (0+wr (8+b)))
namespace Xb
def new (op:GOp):Xb:={ Xb.zero with op:=op }
def done (J:Xb) (a:GAns):Xb × Xg:=({ J with pc:=-1,last:=cdone a.code a.val },cdone a.code a.val)
def finC (J:Xb) (c:Xg):Xb × Xg :=
 bif !(c.kind==12) then (J,c) else
 let J:={ J with answer:=c.ans }
 bif !(c.ans.code==1) || J.op.kind==8 then J.done c.ans else ({ J with pc:=12 },cload (root 17))
def fin11 (J:Xb) (x:Xi):Xb × Xg :=
 match J.inner with
 | none=>(J,Xg.zero)
 | some I=>Xb.finC { J with inner:=some (I.next x).1 } (I.next x).2
def perform (J:Xb):Xb × Xg :=
 Xb.fin11 { J with inner:=some (Xn.from_ (Xx J.base 2) (ordr J.op.key) J.op),pc:=11 } Xi.zero
def descend (J:Xb):Xb × Xg :=
 bif J.bucket==J.wanted then J.perform else ({ J with child:=childOf J.wanted J.bucket,pc:=3 },calloc)
def sizedZ (J:Xb) (z:Int):Xb × Xg :=
 ({ J with size:=z,wanted:=Int.tmod J.op.key z,bucket:=Int.tmod J.op.key z,pc:=2 },cload (broot (Int.tmod J.op.key z)))
def sized (J:Xb) (x:Xi):Xb × Xg:=J.sizedZ (sizeW x.word.nm)
def based (J:Xb) (x:Xi):Xb × Xg :=
 bif !(x.word.sl==0) then Xb.descend { J with base:=x.word } else
 bif J.bucket==0 then J.done ⟨4,0⟩ else ({ J with bucket:=par J.bucket,pc:=2 },cload (broot (par J.bucket)))
def walk5 (J:Xb) (x:Xi):Xb × Xg :=
 let r:=walkS J.walk x
 let J:={ J with walk:=r.1 }
 bif r.2.2 then (J,r.2.1) else
 bif walkF J.walk then ({ J with sentinel:=wref (walkCur J.walk),pc:=6 },cdrop J.node) else
 ({ J with pc:=7 },cstore (Xx J.node 2) (wref (walkCur J.walk)))
def seek (J:Xb):Xb:={ J with walk:=some (Xt.new (Xx J.base 2) (bordr J.child)),pc:=5 }
def pub (J:Xb):Xb × Xg:=Xb.descend { J with base:=J.sentinel,bucket:=J.child }
def create (J:Xb) (x:Xi):Xb × Xg :=
 bif J.pc==3 then
  bif !x.ok then J.perform else ({ J with node:=x.word,pc:=4 },cstore (Xx x.word 0) (wnum (bordr J.child)))
 else bif J.pc==8 then
  bif x.ok then ({ J with sentinel:=J.node,pc:=9 },cload (broot J.child)) else J.seek.walk5 x
 else bif J.pc==4 then J.seek.walk5 x
 else bif J.pc==5 then J.walk5 x
 else bif J.pc==7 then ({ J with pc:=8 },cswap (walkPrev J.walk) (walkCur J.walk) (wto (walkCur J.walk) J.node))
 else bif J.pc==6 then ({ J with pc:=9 },cload (broot J.child))
 else bif J.pc==9 then
  bif x.word.sl==0 then ({ J with pc:=10 },cswap (broot J.child) x.word (wto x.word J.sentinel)) else J.pub
 else bif J.pc==10 then J.pub
 else (J,J.last)
def counted (J:Xb) (x:Xi):Xb × Xg :=
 ({ J with count:=x.word,pc:=13 },cswap (root 17) x.word (wcount x.word (bif J.op.kind==7 then -1 else 1)))
def added (J:Xb) (x:Xi):Xb × Xg :=
 bif !x.ok then ({ J with pc:=12 },cload (root 17)) else
 bif J.op.kind==7 then J.done J.answer else bif J.size==8 then J.done J.answer else bif decide (J.count.nm < wr (2*J.size)) then J.done J.answer else
 ({ J with pc:=14 },cload (root 16))
def resized (J:Xb) (x:Xi):Xb × Xg :=
 bif x.word.nm==J.size then ({ J with pc:=15 },cswap (root 16) x.word (wcount x.word J.size)) else J.done J.answer
def next (J:Xb) (x:Xi):Xb × Xg :=
 bif J.pc==0 then ({ J with pc:=1 },cload (root 16))
 else bif J.pc==1 then J.sized x
 else bif J.pc==2 then J.based x
 else bif J.pc==11 then J.fin11 x
 else bif J.pc==12 then J.counted x
 else bif J.pc==13 then J.added x
 else bif J.pc==14 then J.resized x
 else bif J.pc==15 then J.done J.answer
 else bif J.pc==-1 then (J,J.last)
 else J.create x
end Xb
def RetI (n:Int) (w:World) (e:Ending) (w':World):Prop:=e = .returned (.int .i64 n)∧Below w.heap.size w w'
def len3 (b:Int):Int:=bif decide (4≤b) then 3 else bif decide (2≤b) then 2 else bif decide (1≤b) then 1 else 0
theorem rev8_all:((List.range 256).all fun k=>decide (0≤rev8 (k:Int)∧rev8 (k:Int) < 256)) = true:=by kernel_rfl
theorem rev8_in (b:Int) (h0:0≤b) (h1:b < 256):0≤rev8 b∧rev8 b < 256:=by
 have h:=List.all_eq_true.1 rev8_all b.toNat (List.mem_range.2 (by omega))
 have h2:=of_decide_eq_true h
 rwa [show ((b.toNat:Nat):Int) = b from by omega] at h2
theorem i64_id (n:Int) (h0:-9223372036854775808≤n) (h1:n < 9223372036854775808):wr n = n:=IntWalk.i64_in _ ⟨h0,by omega⟩
def lenN (k:Nat):Int:=bif decide (128≤k) then 8 else bif decide (64≤k) then 7 else bif decide (32≤k) then 6 else bif decide (16≤k) then 5 else bif decide (8≤k) then 4 else bif decide (4≤k) then 3 else bif decide (2≤k) then 2 else bif decide (1≤k) then 1 else 0
theorem len_id:((List.range 8).all fun k=>decide (wrap64 (wrap64 (lenN k)) = len3 (k:Int))) = true:=by kernel_rfl
theorem tab_ok (T:ByteArray) (f:Nat→Int) (hs:T.size = 256) (h:((List.range 256).all fun k=>decide (((T.data.getD k 0).toNat:Int) = f k)) = true) (k:Nat) (hk:k < 256) (hh:k < T.size):((T[k]'hh).toNat:Int) = f k:=by
 have h1:=List.all_eq_true.1 h k (List.mem_range.2 hk)
 have h2:=of_decide_eq_true h1
 rw [← h2]
 have h3:k < T.data.size:=hh
 rw [Array.getD_eq_getD_getElem?,Array.getElem?_eq_getElem h3]
 rfl
theorem len64_any (b:Int) (w:World) (h0:0≤b) (h1:b < 8):Calls Tryz.prog 192 #[.int .u64 b] w (RetI (len3 b) w):=by
 have e1:(decide (4294967296≤b)) = false:=by simp;omega
 have e2:(decide (65536≤b)) = false:=by simp;omega
 have e3:(decide (256≤b)) = false:=by simp;omega
 have e4:IntKind.u8.wrap b = b:=by unfold IntKind.wrap;simp [IntKind.bits,IntKind.signed];omega
 have e5:0≤b∧b < 256:=by omega
 go_enter Tryz.func192,Tryz.ntmps192
 go_wp2_with fail
 go_ret
 refine ⟨?_,Below.refl _ _⟩
 clear e1 e2 e3 e4
 obtain ⟨k,rfl⟩:∃ k:Nat,b = k:=⟨b.toNat,by omega⟩
 refine (congrArg (fun n:Int=>Ending.returned (.int .i64 (wrap64 (wrap64 n)))) (tab_ok _ lenN (by kernel_rfl) (by kernel_rfl) k (by omega) _)).trans ?_
 exact congrArg (fun n:Int=>Ending.returned (.int .i64 n)) (of_decide_eq_true (List.all_eq_true.1 len_id k (List.mem_range.2 (by omega))))
theorem len_any (b:Int) (w:World) (h0:0≤b) (h1:b < 8):Calls Tryz.prog 186 #[.int .u64 b] w (RetI (len3 b) w):=by
 have e4:IntKind.u64.wrap b = b:=by unfold IntKind.wrap;simp [IntKind.bits,IntKind.signed];omega
 go_enter Tryz.func186,Tryz.ntmps186
 go_wp2_with fail
 refine (len64_any _ w h0 h1).mono ?_
 rintro e w1 ⟨rfl,hb⟩
 go_wp2_with fail
 go_ret
 exact ⟨rfl,hb⟩
theorem par_any (b:Int) (w:World) (h0:0≤b) (h1:b < 8):Calls Tryz.prog 182 #[.int .i64 b] w (RetI (par b) w):=by
 have h:b = 0∨b = 1∨b = 2∨b = 3∨b = 4∨b = 5∨b = 6∨b = 7:=by omega
 rcases h with rfl | rfl | rfl | rfl | rfl | rfl | rfl | rfl
 ·go_enter Tryz.func182,Tryz.ntmps182
  go_wp2_with fail
  go_ret
  exact ⟨by kernel_rfl,Below.refl _ _⟩
 all_goals
  go_enter Tryz.func182,Tryz.ntmps182
  go_wp2_with fail
  refine (len_any _ w (by decide) (by decide)).mono ?_
  rintro e w1 ⟨rfl,hb⟩
  simp only [len3]
  go_wp2_with fail
  go_ret
  exact ⟨by kernel_rfl,hb⟩
theorem rev8_any (b:Int) (w:World) (h0:0≤b) (h1:b < 256):Calls Tryz.prog 194 #[.int .u8 b] w (fun e w'=>e = .returned (.int .u8 (rev8 b))∧Below w.heap.size w w'):=by
 go_enter Tryz.func194,Tryz.ntmps194
 go_wp2_with fail
 go_ret
 refine ⟨?_,Below.refl _ _⟩
 obtain ⟨k,rfl⟩:∃ k:Nat,b = k:=⟨b.toNat,by omega⟩
 refine congrArg (fun n:Int=>Ending.returned (.int .u8 n)) (?_:_ = rev8 (k:Int))
 exact tab_ok _ (fun k=>rev8 (k:Int)) (by kernel_rfl) (by kernel_rfl) k (by omega) _
theorem reverse_any (b:Int) (w:World) (h0:0≤b) (h1:b < 256):Calls Tryz.prog 193 #[.int .i64 b] w (RetI (rev8 b) w):=by
 have e4:IntKind.u8.wrap b = b:=by unfold IntKind.wrap;simp [IntKind.bits,IntKind.signed];omega
 go_enter Tryz.func193,Tryz.ntmps193
 go_wp2_with fail
 refine (rev8_any _ w h0 h1).mono ?_
 rintro e w1 ⟨rfl,hb⟩
 have e5:=rev8_in b h0 h1
 go_wp2_with fail
 go_ret
 exact ⟨by simp,hb⟩
theorem order_any (b:Int) (w:World) (h0:0≤b) (h1:b < 256):Calls Tryz.prog 190 #[.int .i64 b] w (RetI (ordr b) w):=by
 have d1:decide (b < 0) = false:=by simp;omega
 have d2:decide (255 < b) = false:=by simp;omega
 have e5:=rev8_in b h0 h1
 unfold ordr
 rw [d1,d2]
 go_enter Tryz.func190,Tryz.ntmps190
 go_wp2_with fail
 refine (reverse_any _ w h0 h1).mono ?_
 rintro e w1 ⟨rfl,hb⟩
 go_wp2_with fail
 go_ret
 exact ⟨by simp,hb⟩
theorem border_any (b:Int) (w:World) (h0:0≤b) (h1:b < 8):Calls Tryz.prog 189 #[.int .i64 b] w (RetI (bordr b) w):=by
 have d1:decide (b < 0) = false:=by simp;omega
 have d2:decide (8≤b) = false:=by simp;omega
 have e5:=rev8_in b h0 (by omega)
 unfold bordr
 rw [d1,d2]
 go_enter Tryz.func189,Tryz.ntmps189
 go_wp2_with fail
 refine (reverse_any _ w h0 (by omega)).mono ?_
 rintro e w1 ⟨rfl,hb⟩
 go_wp2_with fail
 go_ret
 exact ⟨by simp,hb⟩
def climb0_env (C:Xe) (x:Xi):Env:=mkE [[C.pc],C.last.ii,C.spot.ii,[C.bound],C.next.ii,[C.k],C.s0.ii,C.s1.ii,C.s2.ii,C.found.ii,x.ii] [C.bb,x.bb]
def climb0_st:St:=⟨[],[(1,284,(ct [vs 0 9,[.bool (.var 0)],vs 9 4,[.bool (.var 1)],vs 13 11,[.bool (.var 2),.int (.var 24),.int (.lit 0)],vs 25 4,[.bool (.var 3)],vs 29 8,[.bool (.var 4)],vs 37 7,[.bool (.var 5)],vs 44 7,[.bool (.var 6)],vs 51 4,[.bool (.var 7)]]))],[],10,0⟩
def climb0_args:List SV:=[.c (.ptr 1 0),.agg ((ct [vs 55 4,[.bool (.var 8),.bool (.var 9)]]))]
theorem climb0_any (C:Xe) (x:Xi) (g1:Nat) (w:World) (h1:Bk w g1 284 ({ C with level:=0 }:Xe).l.toArray):Calls Tryz.prog 206 #[.pointer (some ⟨g1,0,none⟩),.agg x.l.toArray] w fun en w'=>en = .returned (vcall2 (Xe.step { C with level:=0 } x).2)∧Bk w' g1 284 ((Xe.step { C with level:=0 } x).1.l).toArray∧Chg [g1] w w':=by
 refine p1 (climb0_env C x) [] 60 climb0_st climb0_args (Xe.step { C with level:=0 } x) (fun r=>(vcall2 r.2,(r.1.l).toArray)) Xd asN h1 ?_
 exact vS8
def climb1_env (C:Xe) (x:Xi):Env:=mkE [[C.pc],C.last.ii,C.spot.ii,[C.bound],C.next.ii,[C.k],C.s0.ii,C.s1.ii,C.s2.ii,C.found.ii,x.ii] [C.bb,x.bb]
def climb1_st:St:=⟨[],[(1,284,(ct [vs 0 9,[.bool (.var 0)],vs 9 4,[.bool (.var 1)],vs 13 11,[.bool (.var 2),.int (.var 24),.int (.lit 1)],vs 25 4,[.bool (.var 3)],vs 29 8,[.bool (.var 4)],vs 37 7,[.bool (.var 5)],vs 44 7,[.bool (.var 6)],vs 51 4,[.bool (.var 7)]]))],[],10,0⟩
def climb1_args:List SV:=[.c (.ptr 1 0),.agg ((ct [vs 55 4,[.bool (.var 8),.bool (.var 9)]]))]
theorem climb1_any (C:Xe) (x:Xi) (g1:Nat) (w:World) (h1:Bk w g1 284 ({ C with level:=1 }:Xe).l.toArray):Calls Tryz.prog 206 #[.pointer (some ⟨g1,0,none⟩),.agg x.l.toArray] w fun en w'=>en = .returned (vcall2 (Xe.step { C with level:=1 } x).2)∧Bk w' g1 284 ((Xe.step { C with level:=1 } x).1.l).toArray∧Chg [g1] w w':=by
 refine p1 (climb1_env C x) [] 60 climb1_st climb1_args (Xe.step { C with level:=1 } x) (fun r=>(vcall2 r.2,(r.1.l).toArray)) Xd asN h1 ?_
 exact vS8
def climb2_env (C:Xe) (x:Xi):Env:=mkE [[C.pc],C.last.ii,C.spot.ii,[C.bound],C.next.ii,[C.k],C.s0.ii,C.s1.ii,C.s2.ii,C.found.ii,x.ii] [C.bb,x.bb]
def climb2_st:St:=⟨[],[(1,284,(ct [vs 0 9,[.bool (.var 0)],vs 9 4,[.bool (.var 1)],vs 13 11,[.bool (.var 2),.int (.var 24),.int (.lit 2)],vs 25 4,[.bool (.var 3)],vs 29 8,[.bool (.var 4)],vs 37 7,[.bool (.var 5)],vs 44 7,[.bool (.var 6)],vs 51 4,[.bool (.var 7)]]))],[],10,0⟩
def climb2_args:List SV:=[.c (.ptr 1 0),.agg ((ct [vs 55 4,[.bool (.var 8),.bool (.var 9)]]))]
theorem climb2_any (C:Xe) (x:Xi) (g1:Nat) (w:World) (h1:Bk w g1 284 ({ C with level:=2 }:Xe).l.toArray):Calls Tryz.prog 206 #[.pointer (some ⟨g1,0,none⟩),.agg x.l.toArray] w fun en w'=>en = .returned (vcall2 (Xe.step { C with level:=2 } x).2)∧Bk w' g1 284 ((Xe.step { C with level:=2 } x).1.l).toArray∧Chg [g1] w w':=by
 refine p1 (climb2_env C x) [] 60 climb2_st climb2_args (Xe.step { C with level:=2 } x) (fun r=>(vcall2 r.2,(r.1.l).toArray)) Xd asN h1 ?_
 exact vS8
def place0_env (C:Xe):Env:=mkE [C.ii] [C.bb]
def place0_st:St:=⟨[],[(1,284,(ct [vs 0 9,[.bool (.var 0)],vs 9 4,[.bool (.var 1)],vs 13 11,[.bool (.var 2)],vs 24 6,[.bool (.var 3)],vs 30 8,[.bool (.var 4)],vs 38 7,[.bool (.var 5)],vs 45 7,[.bool (.var 6)],vs 52 4,[.bool (.var 7)]]))],[],10,0⟩
def place0_args:List SV:=[.c (.ptr 1 0),.c (.int (.lit 0))]
theorem place0_any (C:Xe) (g1:Nat) (w:World) (h1:Bk w g1 284 C.l.toArray):Calls Tryz.prog 208 #[.pointer (some ⟨g1,0,none⟩),.int .i64 0] w fun en w'=>en = .returned (.tuple #[.agg ((C.s0,())).1.prev.l.toArray,.agg ((C.s0,())).1.cur.l.toArray])∧Bk w' g1 284 (C.l).toArray∧Chg [g1] w w':=by
 refine p1 (place0_env C) [] 60 place0_st place0_args ((C.s0,())) (fun r=>(.tuple #[.agg r.1.prev.l.toArray,.agg r.1.cur.l.toArray],(C.l).toArray)) Xd asN h1 ?_
 exact vS2
def place1_env (C:Xe):Env:=mkE [C.ii] [C.bb]
def place1_st:St:=⟨[],[(1,284,(ct [vs 0 9,[.bool (.var 0)],vs 9 4,[.bool (.var 1)],vs 13 11,[.bool (.var 2)],vs 24 6,[.bool (.var 3)],vs 30 8,[.bool (.var 4)],vs 38 7,[.bool (.var 5)],vs 45 7,[.bool (.var 6)],vs 52 4,[.bool (.var 7)]]))],[],10,0⟩
def place1_args:List SV:=[.c (.ptr 1 0),.c (.int (.lit 1))]
theorem place1_any (C:Xe) (g1:Nat) (w:World) (h1:Bk w g1 284 C.l.toArray):Calls Tryz.prog 208 #[.pointer (some ⟨g1,0,none⟩),.int .i64 1] w fun en w'=>en = .returned (.tuple #[.agg ((C.s1,())).1.prev.l.toArray,.agg ((C.s1,())).1.cur.l.toArray])∧Bk w' g1 284 (C.l).toArray∧Chg [g1] w w':=by
 refine p1 (place1_env C) [] 60 place1_st place1_args ((C.s1,())) (fun r=>(.tuple #[.agg r.1.prev.l.toArray,.agg r.1.cur.l.toArray],(C.l).toArray)) Xd asN h1 ?_
 exact vS2
def place2_env (C:Xe):Env:=mkE [C.ii] [C.bb]
def place2_st:St:=⟨[],[(1,284,(ct [vs 0 9,[.bool (.var 0)],vs 9 4,[.bool (.var 1)],vs 13 11,[.bool (.var 2)],vs 24 6,[.bool (.var 3)],vs 30 8,[.bool (.var 4)],vs 38 7,[.bool (.var 5)],vs 45 7,[.bool (.var 6)],vs 52 4,[.bool (.var 7)]]))],[],10,0⟩
def place2_args:List SV:=[.c (.ptr 1 0),.c (.int (.lit 2))]
theorem place2_any (C:Xe) (g1:Nat) (w:World) (h1:Bk w g1 284 C.l.toArray):Calls Tryz.prog 208 #[.pointer (some ⟨g1,0,none⟩),.int .i64 2] w fun en w'=>en = .returned (.tuple #[.agg ((C.s2,())).1.prev.l.toArray,.agg ((C.s2,())).1.cur.l.toArray])∧Bk w' g1 284 (C.l).toArray∧Chg [g1] w w':=by
 refine p1 (place2_env C) [] 60 place2_st place2_args ((C.s2,())) (fun r=>(.tuple #[.agg r.1.prev.l.toArray,.agg r.1.cur.l.toArray],(C.l).toArray)) Xd asN h1 ?_
 exact vS2
def placeX_env (C:Xe) (l:Int):Env:=mkE [C.ii,[l]] [C.bb]
def placeX_st:St:=⟨[],[(1,284,(ct [vs 0 9,[.bool (.var 0)],vs 9 4,[.bool (.var 1)],vs 13 11,[.bool (.var 2)],vs 24 6,[.bool (.var 3)],vs 30 8,[.bool (.var 4)],vs 38 7,[.bool (.var 5)],vs 45 7,[.bool (.var 6)],vs 52 4,[.bool (.var 7)]]))],[],10,0⟩
def placeX_args:List SV:=[.c (.ptr 1 0),.c (.int (.var 56))]
theorem placeX_any (C:Xe) (l:Int) (g1:Nat) (w:World) (h1:Bk w g1 284 C.l.toArray) (hl:l < 0∨3≤l):Calls Tryz.prog 208 #[.pointer (some ⟨g1,0,none⟩),.int .i64 l] w fun en w'=>en = .returned (.tuple #[.agg ((GSpot.zero,())).1.prev.l.toArray,.agg ((GSpot.zero,())).1.cur.l.toArray])∧Bk w' g1 284 (C.l).toArray∧Chg [g1] w w':=by
 refine p1 (placeX_env C l) [] 60 placeX_st placeX_args ((GSpot.zero,())) (fun r=>(.tuple #[.agg r.1.prev.l.toArray,.agg r.1.cur.l.toArray],(C.l).toArray)) Xd asN h1 ?_
 refine po_eq (show _ = (bif decide (l < 0) then (GSpot.zero,()) else bif decide (3≤l) then (GSpot.zero,()) else (GSpot.zero,())) by cases decide (l < 0) <;> cases decide (3≤l) <;> rfl) ?_
 repeat' (first|with_reducible (first|refine pN ?_|refine pA ?_|refine pO ?_|refine pB ?_|refine po_ff (by with_unfolding_all assumption) ?_|refine po_tt (by with_unfolding_all assumption) ?_|refine pU ?_|refine pV ?_|refine pK (fun h=>?_) (fun h=>?_))|refine po_if ?_|refine po_id ?_|refine po_eq (fst_bif _ _ _) ?_|exact po_abs (by simp only [decide_eq_false_iff_not] at *;omega) | exact l1)
theorem place_any (C:Xe) (l:Int) (g1:Nat) (w:World) (h1:Bk w g1 284 C.l.toArray):Calls Tryz.prog 208 #[.pointer (some ⟨g1,0,none⟩),.int .i64 l] w fun en w' =>
  en = .returned (.tuple #[.agg (placeA C l).prev.l.toArray,.agg (placeA C l).cur.l.toArray])∧Bk w' g1 284 C.l.toArray∧Chg [g1] w w':=by
 by_cases h0:l < 0∨3≤l
 ·have e:placeA C l = GSpot.zero:=by
   unfold placeA
   rcases h0 with h | h
   ·simp [h]
   ·simp [h]
  rw [e]
  exact placeX_any C l g1 w h1 h0
 ·have h:l = 0∨l = 1∨l = 2:=by omega
  rcases h with rfl | rfl | rfl
  ·exact place0_any C g1 w h1
  ·exact place1_any C g1 w h1
  ·exact place2_any C g1 w h1
theorem climb_any (C:Xe) (x:Xi) (g1:Nat) (w:World) (hl:LvOk C) (h1:Bk w g1 284 C.l.toArray):Calls Tryz.prog 206 #[.pointer (some ⟨g1,0,none⟩),.agg x.l.toArray] w fun en w' =>
  en = .returned (vcall2 (Xe.step C x).2)∧Bk w' g1 284 (Xe.step C x).1.l.toArray∧Chg [g1] w w':=by
 rcases hl with h | h | h
 ·have e:C = { C with level:=0 }:=by cases C;simp only at h;subst h;rfl
  rw [e] at h1 ⊢
  exact climb0_any C x g1 w h1
 ·have e:C = { C with level:=1 }:=by cases C;simp only at h;subst h;rfl
  rw [e] at h1 ⊢
  exact climb1_any C x g1 w h1
 ·have e:C = { C with level:=2 }:=by cases C;simp only at h;subst h;rfl
  rw [e] at h1 ⊢
  exact climb2_any C x g1 w h1
theorem ste_next (J:Xc) (x:Xi):Xc.next J x = bif J.pc==-1 then (J,J.last) else bif decide (101≤J.pc) then J.finish x else bif J.op.kind==6 then (bif decide (9≤J.pc) then J.raise x else J.insert x) else bif J.op.kind==7 then J.remove x else J.get x:=by
 unfold Xc.next
 cases J.pc==-1 <;> cases decide (101≤J.pc) <;> cases J.op.kind==6 <;> cases decide (9≤J.pc) <;> rfl
end Go.Proofs.YtaipogljokblkaaGreatDoor
namespace Go.Proofs.YtaipogljokblkaaGreatDoor.Fn
open Go Go.RowKit
def FitsP (st:Int) (o:POp):Prop :=
 (st = 1∧o.key = 0∧o.tall = 0∧((o.kind = 1∧0≤o.val∧o.val≤1073741824)∨((o.kind = 2∨o.kind = 3)∧o.val = 0))) ∨
 (st = 2∧o.key = 0∧o.tall = 0∧((o.kind = 4∧0≤o.val∧o.val≤1073741824)∨(o.kind = 5∧o.val = 0))) ∨
 ((st = 3∨st = 4)∧0≤o.key∧o.key≤255∧o.tall = 0∧((o.kind = 6∧0≤o.val∧o.val≤1073741824)∨((o.kind = 7∨o.kind = 8)∧o.val = 0))) ∨
 (st = 5∧0≤o.key∧o.key≤255∧((o.kind = 6∧0≤o.val∧o.val≤1073741824∧1≤o.tall∧o.tall≤3)∨((o.kind = 7∨o.kind = 8)∧o.val = 0∧o.tall = 0)))
instance (st:Int) (o:POp):Decidable (FitsP st o):=by unfold FitsP;infer_instance
def fitsB (st:Int) (o:POp):Bool:=decide (FitsP st o)
def goodL (o:POp):Prop:=0≤o.key∧o.key≤255∧((o.kind = 6∧0≤o.val∧o.val≤1073741824∧0≤o.tall∧o.tall≤3)∨((o.kind = 7∨o.kind = 8)∧o.val = 0∧o.tall = 0))
instance (o:POp):Decidable (goodL o):=by unfold goodL;infer_instance
def goodLB (o:POp):Bool:=decide (goodL o)
theorem goodLB_true (o:POp):goodLB o = true↔goodL o:=by simp [goodLB]
theorem fitsB_true (st:Int) (o:POp):fitsB st o = true↔FitsP st o:=by simp [fitsB]
theorem litanyGood_any (o:POp) (w:World) :
  Calls Tryz.prog 69 #[o.v] w (RetB (goodLB o) w):=by
 obtain ⟨kind,key,val,tall⟩:=o
 simp only [POp.v]
 go_enter Tryz.func69,Tryz.ntmps69
 go_wp2
 all_goals
  go_ret
  refine ⟨ret_bool ?_,vB⟩
  rw [Bool.eq_iff_iff,goodLB_true,goodL]
  simp at *
  omega
theorem woeAt_any (n:Int) (T:TypeId) (u:Value) (w:World) :
  Calls Tryz.prog 31 #[.int .i64 n,.iface T u] w fun e w' =>
   e = .returned (.iface 143 (.pointer (some ⟨w.heap.size,0,none⟩)))∧w.alloc (.cells #[.int .i64 n,.iface T u] 145) = w':=by
 go_enter Tryz.func31,Tryz.ntmps31
 go_wp2
 go_ret
 exact ⟨rfl,rfl⟩
def RetErr (ok:Bool) (w:World) (e:Ending) (w':World):Prop :=
 (∃ v er,e = .returned (.tuple #[v,er])∧(if ok then er = .nilIface else ∃ T p,er = .iface T (.pointer (some p))))∧Below w.heap.size w w'
theorem retErr_yes {ok:Bool} {w w':World} {v:Value} (h:ok = true) (hb:Below w.heap.size w w'):RetErr ok w (.returned (.tuple #[v,.nilIface])) w' :=
 ⟨⟨_,_,rfl,by rw [if_pos h]⟩,hb⟩
theorem retErr_no {ok:Bool} {w w':World} {v:Value} {T:TypeId} {p:Addr} (h:ok = false) (hb:Below w.heap.size w w'):RetErr ok w (.returned (.tuple #[v,.iface T (.pointer (some p))])) w' :=
 ⟨⟨_,_,rfl,by rw [h];exact ⟨_,_,rfl⟩⟩,hb⟩
theorem pileStart_any (o:POp) (w:World) (T:TypeId) (u:Value) (hE:w.cell? ⟨0,0,none⟩ = some (.iface T u)) :
  Calls Tryz.prog 48 #[o.v] w (RetErr (fitsB 1 o) w):=by
 obtain ⟨kind,key,val,tall⟩:=o
 simp only [POp.v]
 have hlt:=World.block_lt_of_cell? w _ hE
 go_enter Tryz.func48,Tryz.ntmps48
 go_wp2_with (go_at_call 31;refine (woeAt_any _ _ _ _).mono ?_;rintro e w' ⟨rfl,rfl⟩)
 all_goals
  go_ret2
  first
   | (refine retErr_yes ?_ vB;simp at *;rw [fitsB_true,FitsP];simp;omega)
   | (refine retErr_no ?_ vB;simp at *;rw [Bool.eq_false_iff,Ne,fitsB_true,FitsP];simp;omega)
theorem cortegeStart_any (o:POp) (w:World) (T:TypeId) (u:Value) (hE:w.cell? ⟨0,0,none⟩ = some (.iface T u)) :
  Calls Tryz.prog 49 #[o.v] w (RetErr (fitsB 2 o) w):=by
 obtain ⟨kind,key,val,tall⟩:=o
 simp only [POp.v]
 have hlt:=World.block_lt_of_cell? w _ hE
 go_enter Tryz.func49,Tryz.ntmps49
 go_wp2_with (go_at_call 31;refine (woeAt_any _ _ _ _).mono ?_;rintro e w' ⟨rfl,rfl⟩)
 all_goals
  go_ret2
  first
   | (refine retErr_yes ?_ vB;simp at *;rw [fitsB_true,FitsP];simp;omega)
   | (refine retErr_no ?_ vB;simp at *;rw [Bool.eq_false_iff,Ne,fitsB_true,FitsP];simp;omega)
end Go.Proofs.YtaipogljokblkaaGreatDoor.Fn
namespace Go.Proofs.YtaipogljokblkaaGreatDoor.Fn
open Go Go.RowKit
theorem steepleStart_any (o:POp) (w:World) (T:TypeId) (u:Value) (hE:w.cell? ⟨0,0,none⟩ = some (.iface T u)) :
  Calls Tryz.prog 52 #[o.v] w (RetErr (fitsB 5 o) w):=by
 obtain ⟨kind,key,val,tall⟩:=o
 simp only [POp.v]
 have hlt:=World.block_lt_of_cell? w _ hE
 simp at hlt
 cases hg:goodLB ⟨kind,key,val,tall⟩
 all_goals
  have hg':=hg
  first | rw [Bool.eq_false_iff,Ne,goodLB_true,goodL] at hg' | rw [goodLB_true,goodL] at hg'
  simp at hg'
  have HG:=Lib.hid hg';clear hg'
  go_enter Tryz.func52,Tryz.ntmps52
  go_wp2_with (first | (go_at_call 69;refine (litanyGood_any ⟨kind,key,val,tall⟩ _).mono ?_;rintro e w1 ⟨rfl,hb1⟩;obtain ⟨hc1,hf1⟩:=bcell hb1;have hz1:w.heap.size < w1.heap.size:=(by have h:=hb1.size;simp at h;omega)) | (go_at_call 31;refine (woeAt_any _ _ _ _).mono ?_;rintro e w' ⟨rfl,rfl⟩))
  all_goals
   go_ret2
   have hg':=HG.out
   have hB:Below w.heap.size w w1:=((Below.refl _ _).alloc (Nat.le_refl _) _).trans (hb1.mono (by simp))
   have hsz:w.heap.size≤w1.heap.size:=by omega
   clear hc1 hf1 hb1
   first
    | (refine retErr_yes ?_ vB;clear hB;(try simp at *);rw [fitsB_true,FitsP];simp;omega)
    | (refine retErr_no ?_ vB;clear hB;(try simp at *);rw [Bool.eq_false_iff,Ne,fitsB_true,FitsP];simp;omega)
end Go.Proofs.YtaipogljokblkaaGreatDoor.Fn
