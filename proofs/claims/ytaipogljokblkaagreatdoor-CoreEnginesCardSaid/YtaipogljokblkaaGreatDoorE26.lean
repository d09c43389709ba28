/- Core: PB, PC, PD, PE, PF, PG, PH. -/
import Derived.Test.YtaipogljokblkaaGreatDoorE12
import Derived.Test.YtaipogljokblkaaGreatDoorE09
import Derived.Test.YtaipogljokblkaaGreatDoorE01
import Derived.Deep.Cut
import Derived.Test.YtaipogljokblkaaGreatDoorE13
import Derived.Test.YtaipogljokblkaaGreatDoorE14
set_option linter.all false
set_option maxRecDepth 100000
set_option maxHeartbeats 8000000
namespace Go.Proofs.YtaipogljokblkaaGreatDoor
open Go Go.RowKit
set_option linter.unusedSimpArgs false
set_option linter.unusedVariables false
set_option linter.unusedSectionVars false
def Bg(s:IK):List Value:=[.int .i64 s.As,.bool s.used]++rows Xe.l ((List.range 10).map λ(j:Nat)=>s.cell (j:Int))
theorem Bo(s:IK):(Bg s).length=52:=by
 unfold Bg;rw[List.length_append,Y0 Ng];simp
namespace Pl
def Br(p:Pl):List Value:=rows Xe.l ((List.range p.nb).map λ(i:Nat)=>p.board (i:Int))
def Az(p:Pl):List Value:=rows Bg ((List.range p.ns).map λ(i:Nat)=>p.slot ((i:Int)+1))
theorem XZ(p:Pl):p.Br.length=p.nb*5:=by unfold Br;rw[Y0 Ng];simp
theorem Kj(p:Pl):p.Az.length=p.ns*52:=by unfold Az;rw[Y0 Bo];simp
end Pl
theorem KK{α:Type}{f:α->List Value}{sz:Nat}(hf:∀x,(f x).length=sz)(g:Nat->α)(n i:Nat)(hi:i<n):rows f ((List.range n).map g)=rows f ((List.range i).map g)++(f (g i)++rows f ((List.range (n-i-1)).map λj=>g (i+1+j))):=by
 have e:List.range n=List.range i++(i::(List.range (n-i-1)).map λj=>i+1+j):=by
  apply List.ext_getElem
  ·simp;omega
  ·intro k h1 h2;rw[List.getElem_range,List.getElem_append];split
   ·simp
   ·rename_i hk;rw[List.length_range] at hk;rw[List.getElem_cons];split
    ·rename_i hz;rw[List.length_range] at hz;omega
    ·rename_i hz;rw[List.length_range] at hz;rw[List.getElem_map,List.getElem_range,List.length_range];omega
 rw[e,List.map_append,Ja,List.map_cons,DC,List.map_map];rfl
theorem KJ{α:Type}{f:α->List Value}{sz:Nat}(hf:∀x,(f x).length=sz)(g g':Nat->α)(n i:Nat)(hi:i<n)(hg:∀j,j≠i->g' j=g j):
  rows f ((List.range n).map g')=(rows f ((List.range n).map g)).take (i*sz)++f (g' i)++(rows f ((List.range n).map g)).drop (i*sz+sz):=by
 rw[KK hf g n i hi,KK hf g' n i hi]
 have e1:(List.range i).map g'=(List.range i).map g:=List.map_congr_left λj hj=>hg j (by have:=List.mem_range.1 hj;omega)
 have e2:((List.range (n-i-1)).map λj=>g' (i+1+j))=((List.range (n-i-1)).map λj=>g (i+1+j)):=List.map_congr_left λj _=>hg _ Zo
 rw[e1,e2]
 have hl:(rows f ((List.range i).map g)).length=i*sz:=by rw[Y0 hf];simp
 have hl2:=hf (g i)
 rw[show i*sz=(rows f ((List.range i).map g)).length from hl.symm,List.take_left',List.append_assoc]
 ·rw[show(rows f ((List.range i).map g)).length+sz=(rows f ((List.range i).map g)).length+(f (g i)).length from by rw[hl2],←List.drop_drop,List.drop_left',List.drop_left']
  ·rfl
  ·rfl
 ·rfl
structure PB(w:World)(g bb sb:Nat)(p:Pl)(fr:BA)(fv:Value):Prop where
 bk:Bk w g 106 #[.slice (some ⟨bb,0,none⟩) p.nb p.nb,.slice (some ⟨sb,0,none⟩) p.ns p.ns,fr.v,.int .i64 p.steps,.int .i64 p.made,fv]
 bo:Bk w bb 51 p.Br.toArray
 so:Bk w sb 149 p.Az.toArray
 fo:Own w 3 1 fr.v p.free.length (Y5 p.free)
 fZ:if p.fault then ∃T q,fv=.iface T (.pointer (some q)) else fv=.nilIface
 n1:g≠bb
 n2:g≠sb
 n3:bb≠sb
 f1:fr.v.ownBlock≠some g
 f2:fr.v.ownBlock≠some bb
 f3:fr.v.ownBlock≠some sb
 fE:p.nb<=1000
 Vh:p.ns<=2000
def Zb(g bb sb:Nat)(fr:BA):List Nat:=g::bb::sb::fr.v.ownBlock.toList
section
variable{w w':World}{g bb sb:Nat}{p:Pl}{fr:BA}{fv:Value}
theorem Xw{b:Nat}:b∈Zb g bb sb fr↔b=g\/b=bb\/b=sb\/fr.v.ownBlock=some b:=by
 simp only[Zb,List.mem_cons,Option.mem_toList]
theorem PB.lt(h:PB w g bb sb p fr fv):∀b∈Zb g bb sb fr,b<w.heap.size:=λb hb=>by
 rcases Xw.1 hb with rfl|rfl|rfl|h1
 ·exact h.bk.lt
 ·exact h.bo.lt
 ·exact h.so.lt
 ·exact h.fo.lt h1
theorem PB.BV{F:List Nat}(h:PB w g bb sb p fr fv)(hc:Ak F w w')(hF:∀b∈Zb g bb sb fr,b∉F):PB w' g bb sb p fr fv:=
 ⟨h.bk.BV hc (hF g (Xw.2 (Or.inl rfl))),h.bo.BV hc (hF bb (Xw.2 (Or.inr (Or.inl rfl)))),h.so.BV hc (hF sb (Xw.2 (Or.inr (Or.inr (Or.inl rfl))))),h.fo.kept λb hb=>hc.Ax b (h.fo.lt hb) (hF b (Xw.2 (Or.inr (Or.inr (Or.inr hb))))),h.fZ,h.n1,h.n2,h.n3,h.f1,h.f2,h.f3,h.fE,h.Vh⟩
theorem PB.below(h:PB w g bb sb p fr fv)(hb:Below w.heap.size w w'):PB w' g bb sb p fr fv:=h.BV (F:=[]) (Ak.Ag hb) (λ_ _=>List.not_mem_nil)
theorem PB.alloc(h:PB w g bb sb p fr fv)(o:Obj):PB (w.alloc o) g bb sb p fr fv:=h.below ((Below.refl _ _).alloc (Nat.le_refl _) _)
theorem PB.cells(h:PB w g bb sb p fr fv):w.cell? ⟨g,0,none⟩=some (.slice (some ⟨bb,0,none⟩) p.nb p.nb)/\w.cell? ⟨g,1,none⟩=some (.slice (some ⟨sb,0,none⟩) p.ns p.ns)/\w.cell? ⟨g,2,none⟩=some fr.v/\w.cell? ⟨g,3,none⟩=some (.int .i64 p.steps)/\w.cell? ⟨g,4,none⟩=some (.int .i64 p.made)/\w.cell? ⟨g,5,none⟩=some fv:=
 ⟨h.bk.cell 0,h.bk.cell 1,h.bk.cell 2,h.bk.cell 3,h.bk.cell 4,h.bk.cell 5⟩
theorem PB.board(h:PB w g bb sb p fr fv){i:Nat}(hi:i<p.nb):w.rangeAt bb (i*5) (p.board i).l:=λj u hu=>by
 rw[h.bo.cell,List.getElem?_toArray];have:=Ez Ng ((List.range p.nb).map λ(i:Nat)=>p.board (i:Int)) i (by simpa using hi) j u (by simpa using hu);exact this
theorem PB.slot(h:PB w g bb sb p fr fv){i:Nat}(hi:i<p.ns):w.rangeAt sb (i*52) (Bg (p.slot ((i:Int)+1))):=λj u hu=>by
 rw[h.so.cell,List.getElem?_toArray];have:=Ez Bo ((List.range p.ns).map λ(i:Nat)=>p.slot ((i:Int)+1)) i (by simpa using hi) j u (by simpa using hu);exact this
theorem PB.cell(h:PB w g bb sb p fr fv){i k:Nat}(hi:i<p.ns)(hk:k<10):w.rangeAt sb (i*52+2+k*5) ((p.slot ((i:Int)+1)).cell k).l:=λj u hu=>by
 have h1:=Ez Ng ((List.range 10).map fun (j:Nat)=>(p.slot ((i:Int)+1)).cell (j:Int)) k (by simpa using hk) j u (by simpa using hu);have h2:=h.slot hi (2+(k*5+j)) u (by
  unfold Bg;rw[List.getElem?_append_right Zs];simpa using h1)
 rw[show i*52+2+k*5+j=i*52+(2+(k*5+j)) from by omega];exact h2
end
theorem Je{w:World}{g bb sb:Nat}{p:Pl}{fr:BA}{fv:Value}(h:PB w g bb sb p fr fv)(n:Int):
  Calls Tryz.prog 53 #[.pointer (some ⟨g,0,none⟩),.int .i64 n] w (MH (p.BD n) w):=by
 obtain⟨_,c1,_,_,_,_⟩:=h.cells
 have hgl:=h.bk.lt
 clear h
 unfold Pl.BD
 go_enter Tryz.func53,Tryz.ntmps53
 cases h1:decide (1<=n) with
 |true=>
  cases h2:decide (n<=(p.ns:Int)) with
  |true=>
   go_wp2_with fail
   go_ret
   exact⟨rfl,vB⟩
  |false=>
   go_wp2_with fail
   go_ret
   exact⟨rfl,vB⟩
 |false=>
  go_wp2_with fail
  go_ret
  exact⟨rfl,vB⟩
structure AQ(w:World):Prop where
 arg:∃T q,w.cell? ⟨0,0,none⟩=some (.iface T (.pointer (some q)))
 nil_:∃T q,w.cell? ⟨1,0,none⟩=some (.iface T (.pointer (some q)))
 full:∃T q,w.cell? ⟨2,0,none⟩=some (.iface T (.pointer (some q)))
 state:∃T q,w.cell? ⟨4,0,none⟩=some (.iface T (.pointer (some q)))
 Be:∃T q,w.cell? ⟨3,0,none⟩=some (.iface T (.pointer (some q)))
 wV:∃T q,w.cell? ⟨5,0,none⟩=some (.iface T (.pointer (some q)))
 wT:∃T q,w.cell? ⟨6,0,none⟩=some (.iface T (.pointer (some q)))
 lt:7<=w.heap.size
def qT(b:Bool)(w:World)(e:Ending)(w':World):Prop:=(if b then e=.returned .nilIface else ∃T q,e=.returned (.iface T (.pointer (some q))))/\Below w.heap.size w w'
theorem TT{w:World}{g bb sb:Nat}{p:Pl}{fr:BA}{fv:Value}(h:PB w g bb sb p fr fv)(a:X9):
  Calls Tryz.prog 32 #[.pointer (some ⟨g,0,none⟩),.agg a.l.toArray] w (MH (p.has a) w):=by
 obtain⟨c0,c1,_,_,_,_⟩:=h.cells
 have HH:=Zh h
 have hgl:=h.bk.lt
 clear h
 obtain⟨a0,a1,a2⟩:=a
 show Calls Tryz.prog 32 #[.pointer (some ⟨g,0,none⟩),.agg #[.int .i64 a0,.int .i64 a1,.int .i64 a2]] w _
 unfold Pl.has
 have hb0:Below w.heap.size w (w.alloc (.cells #[.int .i64 a0,.int .i64 a1,.int .i64 a2] 54)):=(Below.refl _ _).alloc (Nat.le_refl _) _
 have X0:Bk (w.alloc (.cells #[.int .i64 a0,.int .i64 a1,.int .i64 a2] 54)) w.heap.size 54 #[.int .i64 a0,.int .i64 a1,.int .i64 a2]:=Bk.at_ rfl
 cases h0:(a0==0) with
 |true=>
  cases h1:(a1==0) with
  |true=>
   cases h2:decide (0<=a2) with
   |true=>
    cases h3:decide (a2<(p.nb:Int)) with
    |true=>
     go_enter Tryz.func32,Tryz.ntmps32
     go_wp2_with fail
     go_quiet (fail)
     go_wp2_with fail
     go_ret
     exact⟨rfl,vB⟩
    |false=>
     go_enter Tryz.func32,Tryz.ntmps32
     go_wp2_with fail
     go_quiet (fail)
     go_wp2_with fail
     go_ret
     exact⟨rfl,vB⟩
   |false=>
    go_enter Tryz.func32,Tryz.ntmps32
    go_wp2_with fail
    go_quiet (fail)
    go_wp2_with fail
    go_ret
    exact⟨rfl,vB⟩
  |false=>
   go_enter Tryz.func32,Tryz.ntmps32
   go_wp2_with fail
   go_quiet (fail)
   go_wp2_with fail
   go_ret
   exact⟨rfl,vB⟩
 |false=>
  have HE:=Zh (Je (HH.out.below hb0) a0)
  cases he:p.BD a0 with
  |false=>
   go_enter Tryz.func32,Tryz.ntmps32
   go_wp2_with fail
   refine HE.out.mono ?_
   rintro e w1 ⟨rfl,hb1⟩
   rw[he]
   have x2:=(X0.Ac hb1).cell 2
   simp at x2
   go_wp2_with fail
   go_ret
   exact⟨rfl,hb0.trans (hb1.mono hb0.size)⟩
  |true=>
   cases h2:decide (0<=a2) with
   |false=>
    go_enter Tryz.func32,Tryz.ntmps32
    go_wp2_with fail
    refine HE.out.mono ?_
    rintro e w1 ⟨rfl,hb1⟩
    rw[he]
    have x2:=(X0.Ac hb1).cell 2
    simp at x2
    go_wp2_with fail
    go_ret
    exact⟨rfl,hb0.trans (hb1.mono hb0.size)⟩
   |true=>
    cases h3:decide (a2<10) with
    |true=>
     go_enter Tryz.func32,Tryz.ntmps32
     go_wp2_with fail
     refine HE.out.mono ?_
     rintro e w1 ⟨rfl,hb1⟩
     rw[he]
     have x2:=(X0.Ac hb1).cell 2
     simp at x2
     go_wp2_with fail
     go_ret
     exact⟨rfl,hb0.trans (hb1.mono hb0.size)⟩
    |false=>
     go_enter Tryz.func32,Tryz.ntmps32
     go_wp2_with fail
     refine HE.out.mono ?_
     rintro e w1 ⟨rfl,hb1⟩
     rw[he]
     have x2:=(X0.Ac hb1).cell 2
     simp at x2
     go_wp2_with fail
     go_ret
     exact⟨rfl,hb0.trans (hb1.mono hb0.size)⟩
theorem AQ.below{w w':World}(h:AQ w)(hb:Below w.heap.size w w'):AQ w':=by
 obtain⟨h1,h2,h3,h4,h5,h6,h7,h8⟩:=h;have k:∀{b:Nat},(∃T q,w.cell? ⟨b,0,none⟩=some (.iface T (.pointer (some q))))->∃T q,w'.cell? ⟨b,0,none⟩=some (.iface T (.pointer (some q))):=λ{b} ⟨T,q,e⟩=>⟨T,q,by rw[(M7 hb).1 b 0 (World.block_lt_of_cell? w _ e)];exact e⟩;exact⟨k h1,k h2,k h3,k h4,k h5,k h6,k h7,Nat.le_trans h8 hb.size⟩
theorem I4{p:Pl}{n:Int}(h:p.BD n=true):∃i:Nat,n=(i:Int)+1/\i<p.ns:=by
 unfold Pl.BD at h;simp at h;exact⟨(n-1).toNat,by omega,by omega⟩
theorem PB.two{w:World}{g bb sb:Nat}{p:Pl}{fr:BA}{fv:Value}(h:PB w g bb sb p fr fv){i:Nat}(hi:i<p.ns):w.cell? ⟨sb,i*52,none⟩=some (.int .i64 (p.slot ((i:Int)+1)).As)/\w.cell? ⟨sb,i*52+1,none⟩=some (.bool (p.slot ((i:Int)+1)).used):=
 ⟨h.slot hi 0 _ rfl,h.slot hi 1 _ rfl⟩
theorem Kb{w:World}{g bb sb:Nat}{p:Pl}{fr:BA}{fv:Value}(h:PB w g bb sb p fr fv)(he:AQ w)(n As:Int)(hn:n=0\/p.BD n=true)(T:TypeId)(q:Addr):
  Calls Tryz.prog 33 #[.pointer (some ⟨g,0,none⟩),.int .i64 n,.int .i64 As,.iface T (.pointer (some q))] w (qT (p.live n As) w):=by
 obtain⟨_,c1,_,_,_,_⟩:=h.cells
 obtain⟨T2,q2,es⟩:=he.wV
 have hgl:=h.bk.lt
 have hns:=h.Vh
 unfold Pl.live
 rcases hn with rfl|hn
 ·clear h he;go_enter Tryz.func33,Tryz.ntmps33;go_wp2_with fail;go_ret;exact⟨rfl,vB⟩
 ·obtain⟨i,rfl,hi⟩:=I4 hn;obtain⟨q0,q1⟩:=h.two hi;have hnz:(((i:Int)+1)==0)=false:=by simp;omega
  rw[hnz];clear h he hn;cases hu:(p.slot ((i:Int)+1)).used with
  |false=>
   rw[hu] at q1;go_enter Tryz.func33,Tryz.ntmps33;go_wp2_with fail;go_ret;exact⟨⟨_,_,rfl⟩,vB⟩
  |true=>
   rw[hu] at q1;cases hg:((p.slot ((i:Int)+1)).As==As) with
   |true=>
    have hg2:((p.slot ((i:Int)+1)).As !=As)=false:=by simp only[bne,hg,Bool.not_true]
    go_enter Tryz.func33,Tryz.ntmps33;go_wp2_with fail;go_ret;exact⟨rfl,vB⟩
   |false=>
    have hg2:((p.slot ((i:Int)+1)).As !=As)=true:=by simp only[bne,hg,Bool.not_false]
    go_enter Tryz.func33,Tryz.ntmps33;go_wp2_with fail;go_ret;exact⟨⟨_,_,rfl⟩,vB⟩
theorem Fo{w:World}{g bb sb:Nat}{p:Pl}{fr:BA}{fv:Value}(h:PB w g bb sb p fr fv)(a:Bn):
  Calls Tryz.prog 61 #[.pointer (some ⟨g,0,none⟩),.agg a.l.toArray] w (MH (p.valid a) w):=by
 have hgl:=h.bk.lt
 have HH:=Zh h
 clear h
 (obtain⟨k,⟨a0,a1,a2⟩,⟨o0,o1,o2,o3,o4⟩,⟨n0,n1,n2,n3,n4⟩⟩:=a)
 show Calls Tryz.prog 61 #[.pointer (some ⟨g,0,none⟩),.agg #[.int .i64 k,.int .i64 a0,.int .i64 a1,.int .i64 a2,.int .i64 o0,.int .i64 o1,.int .i64 o2,.int .i64 o3,.bool o4,.int .i64 n0,.int .i64 n1,.int .i64 n2,.int .i64 n3,.bool n4]] w _
 have hb0:Below w.heap.size w (w.alloc (.cells #[.int .i64 k,.int .i64 a0,.int .i64 a1,.int .i64 a2,.int .i64 o0,.int .i64 o1,.int .i64 o2,.int .i64 o3,.bool o4,.int .i64 n0,.int .i64 n1,.int .i64 n2,.int .i64 n3,.bool n4] 114)):=(Below.refl _ _).alloc (Nat.le_refl _) _
 have H1:=Zh (TT (HH.out.below hb0) ⟨a0,a1,a2⟩)
 have H2:=Zh (Je (HH.out.below hb0) o0)
 unfold Pl.valid
 simp only
 cases k1:(k==1) with
 |true=>
  go_enter Tryz.func61,Tryz.ntmps61
  go_wp2_with fail
  refine H1.out.mono ?_
  rintro e w1 ⟨rfl,hb1⟩
  go_wp2_with fail
  go_ret
  exact⟨rfl,hb0.trans (hb1.mono hb0.size)⟩
 |false=>
 cases k2:(k==2) with
 |true=>
  go_enter Tryz.func61,Tryz.ntmps61
  go_wp2_with fail
  refine H1.out.mono ?_
  rintro e w1 ⟨rfl,hb1⟩
  go_wp2_with fail
  go_ret
  exact⟨rfl,hb0.trans (hb1.mono hb0.size)⟩
 |false=>
 cases k3:(k==3) with
 |true=>
  go_enter Tryz.func61,Tryz.ntmps61
  go_wp2_with fail
  refine H1.out.mono ?_
  rintro e w1 ⟨rfl,hb1⟩
  go_wp2_with fail
  go_ret
  exact⟨rfl,hb0.trans (hb1.mono hb0.size)⟩
 |false=>
 cases k4:(k==4) with
 |true=>
  go_enter Tryz.func61,Tryz.ntmps61
  go_wp2_with fail
  go_ret
  exact⟨rfl,vB⟩
 |false=>
 cases k5:(k==5) with
 |true=>
  go_enter Tryz.func61,Tryz.ntmps61
  go_wp2_with fail
  refine H2.out.mono ?_
  rintro e w1 ⟨rfl,hb1⟩
  go_wp2_with fail
  go_ret
  exact⟨rfl,hb0.trans (hb1.mono hb0.size)⟩
 |false=>
  go_enter Tryz.func61,Tryz.ntmps61
  go_wp2_with fail
  go_ret
  exact⟨rfl,vB⟩
theorem WT{p:Pl}{a:X9}(h:p.has a=true):a.sl=0\/p.BD a.sl=true:=by
 unfold Pl.has at h;cases h0:(a.sl==0) with
 |true=>left;simpa using h0
 |false=>
  right;rw[h0] at h;simp only[cond_false,Bool.and_eq_true] at h;exact h.1
theorem qT.pre{w w0 w1:World}{b:Bool}{e:Ending}(h:qT b w0 e w1)(h0:Below w.heap.size w w0):qT b w e w1:=⟨h.1,h0.trans (h.2.mono h0.size)⟩
theorem Fm{w:World}{g bb sb:Nat}{p:Pl}{fr:BA}{fv:Value}(h:PB w g bb sb p fr fv)(he:AQ w)(a:Bn)(hv:p.valid a=true):
  Calls Tryz.prog 62 #[.pointer (some ⟨g,0,none⟩),.agg a.l.toArray] w (qT (p.right a) w):=by
 have hgl:=h.bk.lt
 have hwl:=he.lt
 have HH:=Zh h
 have HE:=Zh he
 clear h he
 (obtain⟨k,⟨a0,a1,a2⟩,⟨o0,o1,o2,o3,o4⟩,⟨n0,n1,n2,n3,n4⟩⟩:=a)
 show Calls Tryz.prog 62 #[.pointer (some ⟨g,0,none⟩),.agg #[.int .i64 k,.int .i64 a0,.int .i64 a1,.int .i64 a2,.int .i64 o0,.int .i64 o1,.int .i64 o2,.int .i64 o3,.bool o4,.int .i64 n0,.int .i64 n1,.int .i64 n2,.int .i64 n3,.bool n4]] w _
 have hb0:Below w.heap.size w (w.alloc (.cells #[.int .i64 k,.int .i64 a0,.int .i64 a1,.int .i64 a2,.int .i64 o0,.int .i64 o1,.int .i64 o2,.int .i64 o3,.bool o4,.int .i64 n0,.int .i64 n1,.int .i64 n2,.int .i64 n3,.bool n4] 114)):=(Below.refl _ _).alloc (Nat.le_refl _) _
 have l1:6<w.heap.size:=Zo
 have l2:3<w.heap.size:=Zo
 obtain⟨T1,q1,e1⟩:=HE.out.wT
 obtain⟨T2,q2,e2⟩:=HE.out.Be
 unfold Pl.right
 simp only
 cases k4:(k==4) with
 |true=>
  go_enter Tryz.func62,Tryz.ntmps62
  go_wp2_with fail
  go_ret
  exact⟨rfl,vB⟩
 |false=>
 cases k5:(k==5) with
 |true=>
  have hx:o0=0\/p.BD o0=true:=by
   right;have:k=5:=by simpa using k5
   subst this;exact hv
  have H1:=Zh (Kb (HH.out.below hb0) (HE.out.below hb0) o0 o1 hx T1 q1)
  clear hv hx
  go_enter Tryz.func62,Tryz.ntmps62
  go_wp2_with fail
  refine H1.out.mono ?_
  intro e w1 hr
  have HR:=Zh (hr.pre hb0)
  cases hl:p.live o0 o1 with
  |true=>
   rw[hl] at hr
   obtain⟨rfl,hb⟩:=hr
   clear hb
   go_wp2_with fail
   go_ret
   exact HR.out
  |false=>
   rw[hl] at hr
   obtain⟨⟨T,q,rfl⟩,hb⟩:=hr
   clear hb
   go_wp2_with fail
   go_ret
   exact HR.out
 |false=>
  have hx:a0=0\/p.BD a0=true:=by
   refine WT (a:=⟨a0,a1,a2⟩) ?_;unfold Pl.valid at hv;simp only[k4,k5] at hv;cases hk:(k==1||(k==2||k==3)) with
   |true=>rw[hk] at hv;exact hv
   |false=>rw[hk] at hv;cases hv
  have H1:=Zh (Kb (HH.out.below hb0) (HE.out.below hb0) a0 a1 hx T2 q2)
  clear hv hx
  go_enter Tryz.func62,Tryz.ntmps62
  go_wp2_with fail
  refine H1.out.mono ?_
  intro e w1 hr
  have HR:=Zh (hr.pre hb0)
  cases hl:p.live a0 a1 with
  |true=>
   rw[hl] at hr
   obtain⟨rfl,hb⟩:=hr
   clear hb
   go_wp2_with fail
   go_ret
   exact HR.out
  |false=>
   rw[hl] at hr
   obtain⟨⟨T,q,rfl⟩,hb⟩:=hr
   clear hb
   go_wp2_with fail
   go_ret
   exact HR.out
def qS(p:Addr)(w:World)(e:Ending)(w':World):Prop:=e=.returned (.pointer (some p))/\Below w.heap.size w w'
theorem Pc{w:World}{g bb sb:Nat}{p:Pl}{fr:BA}{fv:Value}(h:PB w g bb sb p fr fv)(i:Nat)(gn:Int)(hi:i<p.nb):
  Calls Tryz.prog 34 #[.pointer (some ⟨g,0,none⟩),.agg #[.int .i64 0,.int .i64 gn,.int .i64 i]] w (qS ⟨bb,i*5,none⟩ w):=by
 obtain⟨c0,_,_,_,_,_⟩:=h.cells
 have hgl:=h.bk.lt
 have hns:=h.fE
 clear h
 go_enter Tryz.func34,Tryz.ntmps34
 go_wp2_with fail
 go_quiet (fail)
 go_wp2_with fail
 go_ret
 exact⟨rfl,vB⟩
theorem Pb{w:World}{g bb sb:Nat}{p:Pl}{fr:BA}{fv:Value}(h:PB w g bb sb p fr fv)(i k:Nat)(gn:Int)(hi:i<p.ns)(hk:k<10):
  Calls Tryz.prog 34 #[.pointer (some ⟨g,0,none⟩),.agg #[.int .i64 ((i:Int)+1),.int .i64 gn,.int .i64 k]] w (qS ⟨sb,i*52+2+k*5,none⟩ w):=by
 obtain⟨_,c1,_,_,_,_⟩:=h.cells
 have hgl:=h.bk.lt
 have hns:=h.Vh
 have hnz:(((i:Int)+1)==0)=false:=by simp;omega
 clear h
 go_enter Tryz.func34,Tryz.ntmps34
 go_wp2_with fail
 go_quiet (fail)
 go_wp2_with fail
 go_ret
 exact⟨rfl,vB⟩
def RetT(w:World)(b:Nat)(T:TypeId)(cs:Array Value)(x:Xj)(e:Ending)(w':World):Prop:=e=.returned (.agg x.l.toArray)/\Bk w' b T cs/\Ak [b] w w'
theorem bY{w w2 w3:World}{o1 o2 o3:Obj}{b:Nat}{T T2:TypeId}{cs cs2:Array Value}{u:Value}{k:Nat}(h1:FR (((w.alloc o1).alloc o2).alloc o3) b T cs w2)(h3:FR (w2.setCell ⟨w.heap.size+1+1,k,none⟩ u) (w.heap.size+1) T2 cs2 w3)(hb:b<w.heap.size):Ak [b] w w3:=by
 have c0:Ak [b] w (((w.alloc o1).alloc o2).alloc o3):=Ak.Ag vB;have c1:Ak [b] (((w.alloc o1).alloc o2).alloc o3) w2:=Ak.Ar (b:=0) h1.grown (λb' e=>by injection e with e;simp[e]);have c2:Ak [w.heap.size+1+1] w2 (w2.setCell ⟨w.heap.size+1+1,k,none⟩ u):=Ak.Ar (b:=0) (Xs _ _ _ _) (λb' e=>by injection e with e;simp[e]);have c3:Ak [w.heap.size+1] (w2.setCell ⟨w.heap.size+1+1,k,none⟩ u) w3:=Ak.Ar (b:=0) h3.grown (λb' e=>by injection e with e;simp[e]);refine(((c0.trans c1).seq (F1:=[w.heap.size+1+1]) ?_ c2)).seq (F1:=[w.heap.size+1]) ?_ c3
 ·intro x hx;rw[List.mem_singleton.1 hx];right;omega
 ·intro x hx;rw[List.mem_singleton.1 hx];right;omega
theorem VG(w:World)(b o:Nat)(T:TypeId)(cs:Array Value)(x:Xe)(a:Bn)(hb:Bk w b T cs)(hx:w.rangeAt b o x.l)(hk:a.kind=1):
  Calls Tryz.prog 65 #[.pointer (some ⟨b,o,none⟩),.agg a.l.toArray] w (RetT w b T cs ⟨x,true⟩):=by
 have hgl:=hb.lt
 have hgl1:b<w.heap.size+1:=Zo
 have hgl2:b<w.heap.size+1+1:=Zo
 obtain⟨q0,q1,q2,q3,q4⟩:=LB hx
 have HB:=Zh hb
 clear hb hx
 (obtain⟨k,⟨a0,a1,a2⟩,⟨o0,o1,o2,o3,o4⟩,⟨n0,n1,n2,n3,n4⟩⟩:=a)
 simp only at hk
 subst hk
 show Calls Tryz.prog 65 #[.pointer (some ⟨b,o,none⟩),.agg #[.int .i64 1,.int .i64 a0,.int .i64 a1,.int .i64 a2,.int .i64 o0,.int .i64 o1,.int .i64 o2,.int .i64 o3,.bool o4,.int .i64 n0,.int .i64 n1,.int .i64 n2,.int .i64 n3,.bool n4]] w _
 go_enter Tryz.func65,Tryz.ntmps65
 go_wp2_with fail
 refine bodyPost_ret (v:=.agg #[.int .i64 x.sl,.int .i64 x.gn,.int .i64 x.tg,.int .i64 x.nm,.bool x.mark,.bool true]) (by simp[results,Tryz.results65,go_sem]) rfl ?_
 exact⟨rfl,((HB.out.alloc _).alloc _).alloc _,Ak.Ag vB⟩
theorem VF(w:World)(b o:Nat)(T:TypeId)(cs cs':Array Value)(a:Bn)(hb:Bk w b T cs)(ho:o+5<=cs.size)(hk:a.kind=2)(hcs:cs'.toList=cs.toList.take o++a.new.l++cs.toList.drop (o+5)):
  Calls Tryz.prog 65 #[.pointer (some ⟨b,o,none⟩),.agg a.l.toArray] w (RetT w b T cs' ⟨.zero,true⟩):=by
 have hgl:=hb.lt
 have hgl1:b<w.heap.size+1:=Zo
 have hgl2:b<w.heap.size+1+1:=Zo
 have hgl3:b<w.heap.size+1+1+1:=Zo
 have HB:=Zh hb
 clear hb
 (obtain⟨k,⟨a0,a1,a2⟩,⟨o0,o1,o2,o3,o4⟩,⟨n0,n1,n2,n3,n4⟩⟩:=a)
 simp only at hk hcs
 subst hk
 show Calls Tryz.prog 65 #[.pointer (some ⟨b,o,none⟩),.agg #[.int .i64 2,.int .i64 a0,.int .i64 a1,.int .i64 a2,.int .i64 o0,.int .i64 o1,.int .i64 o2,.int .i64 o3,.bool o4,.int .i64 n0,.int .i64 n1,.int .i64 n2,.int .i64 n3,.bool n4]] w _
 have HCS:=Zh hcs
 have HBX:Hid (∀o1 o2 o3,Bk (((w.alloc o1).alloc o2).alloc o3) b T cs):=Zh (λo1 o2 o3=>((HB.out.alloc o1).alloc o2).alloc o3)
 have R4:Hid (∀o1,Bk (((w.alloc o1).alloc (.cells #[.int .i64 0,.int .i64 0,.int .i64 0,.int .i64 0,.bool false,.bool false] 108)).alloc (.cells #[.int .i64 0,.int .i64 0,.int .i64 0,.int .i64 0,.bool false,.bool false] 108)) (w.heap.size+1) 108 #[.int .i64 0,.int .i64 0,.int .i64 0,.int .i64 0,.bool false,.bool false]):=Zh (λo1=>(Bk.at_ Zs).alloc _)
 have R5:Hid (∀o1,Bk (((w.alloc o1).alloc (.cells #[.int .i64 0,.int .i64 0,.int .i64 0,.int .i64 0,.bool false,.bool false] 108)).alloc (.cells #[.int .i64 0,.int .i64 0,.int .i64 0,.int .i64 0,.bool false,.bool false] 108)) (w.heap.size+1+1) 108 #[.int .i64 0,.int .i64 0,.int .i64 0,.int .i64 0,.bool false,.bool false]):=Zh (λo1=>Bk.at_ Zs)
 clear hcs
 go_enter Tryz.func65,Tryz.ntmps65
 go_wp2_with (first|(refine Za Zr _ _ _ Zr b o _ Zr Zr _ _ cs' (HBX.out _ _ _) (by exact ho) Zk Zr (by exact HCS.out) ?_;intro w2 hst;have y5:=hst.Ax (R5.out _) Zo;have y4:=hst.Ax (R4.out _) Zo;have q0:=y5.cell 0;have q1:=y5.cell 1;have q2:=y5.cell 2;have q3:=y5.cell 3;have q4:=y5.cell 4;have q5:=y5.cell 5;have f5:=y5.free 5;simp at q0 q1 q2 q3 q4 q5;have Y4:=Zh (y4.Ax (p:=⟨w.heap.size+1+1,5,none⟩) Zs (.bool true));have HST:=Zh hst;clear hst y4 y5)|(refine vM Y4.out ?_;intro w3 hst3))
 (have r0:=hst3.bk.cell 0;have r1:=hst3.bk.cell 1;have r2:=hst3.bk.cell 2;have r3:=hst3.bk.cell 3;have r4:=hst3.bk.cell 4;have r5:=hst3.bk.cell 5;simp at r0 r1 r2 r3 r4 r5;refine bodyPost_ret (v:=.agg #[.int .i64 0,.int .i64 0,.int .i64 0,.int .i64 0,.bool false,.bool true]) (by simp[results,Tryz.results65,go_sem,r0,r1,r2,r3,r4,r5]) rfl ?_)
 exact⟨rfl,hst3.Ax (HST.out.bk.Ax (p:=⟨w.heap.size+1+1,5,none⟩) (by simp;omega) (.bool true)) Zo,bY HST.out hst3 Zo⟩
def SwS(w1:World)(b o r:Nat)(x:Xe)(o0 o1 o2 o3:Int)(o4:Bool):Prop:=(w1.cell? ⟨b,o,none⟩=some (.int .i64 x.sl)/\w1.cell? ⟨b,o+1,none⟩=some (.int .i64 x.gn)/\w1.cell? ⟨b,o+2,none⟩=some (.int .i64 x.tg)/\w1.cell? ⟨b,o+3,none⟩=some (.int .i64 x.nm)/\w1.cell? ⟨b,o+4,none⟩=some (.bool x.mark))/\(w1.cell? ⟨r,4,none⟩=some (.int .i64 o0)/\w1.cell? ⟨r,5,none⟩=some (.int .i64 o1)/\w1.cell? ⟨r,6,none⟩=some (.int .i64 o2)/\w1.cell? ⟨r,7,none⟩=some (.int .i64 o3)/\w1.cell? ⟨r,8,none⟩=some (.bool o4))
theorem SwS.below{w1 w2:World}{b o r:Nat}{x:Xe}{o0 o1 o2 o3:Int}{o4:Bool}(h:SwS w1 b o r x o0 o1 o2 o3 o4)(hb:Below w1.heap.size w1 w2)(h1:b<w1.heap.size)(h2:r<w1.heap.size):SwS w2 b o r x o0 o1 o2 o3 o4:=by
 obtain⟨⟨a0,a1,a2,a3,a4⟩,c0,c1,c2,c3,c4⟩:=h;have K:=(M7 hb).1;exact⟨⟨(K b _ h1).trans a0,(K b _ h1).trans a1,(K b _ h1).trans a2,(K b _ h1).trans a3,(K b _ h1).trans a4⟩,(K r _ h2).trans c0,(K r _ h2).trans c1,(K r _ h2).trans c2,(K r _ h2).trans c3,(K r _ h2).trans c4⟩
def aB(w:World)(b:Nat)(T:TypeId)(cs cs':Array Value)(x y:Xe)(e:Ending)(w':World):Prop:=RetT w b T (bif Dm x y then cs' else cs) ⟨x,Dm x y⟩ e w'
theorem VD{w w1 w2 w3:World}{b:Nat}{T T2:TypeId}{cs cs2:Array Value}{u:Value}{k:Nat}(h0:Below w.heap.size w w1)(h1:FR w1 b T cs w2)(h3:FR (w2.setCell ⟨w.heap.size+1+1,k,none⟩ u) (w.heap.size+1) T2 cs2 w3)(hb:b<w.heap.size):Ak [b] w w3:=by
 have c0:Ak [b] w w1:=Ak.Ag h0;have c1:Ak [b] w1 w2:=Ak.Ar (b:=0) h1.grown (λb' e=>by injection e with e;simp[e]);have c2:Ak [w.heap.size+1+1] w2 (w2.setCell ⟨w.heap.size+1+1,k,none⟩ u):=Ak.Ar (b:=0) (Xs _ _ _ _) (λb' e=>by injection e with e;simp[e]);have c3:Ak [w.heap.size+1] (w2.setCell ⟨w.heap.size+1+1,k,none⟩ u) w3:=Ak.Ar (b:=0) h3.grown (λb' e=>by injection e with e;simp[e]);refine(((c0.trans c1).seq (F1:=[w.heap.size+1+1]) ?_ c2)).seq (F1:=[w.heap.size+1]) ?_ c3
 ·intro x hx;rw[List.mem_singleton.1 hx];right;omega
 ·intro x hx;rw[List.mem_singleton.1 hx];right;omega
theorem VE(w:World)(b o:Nat)(T:TypeId)(cs cs':Array Value)(x:Xe)(a:Bn)(hb:Bk w b T cs)(hx:w.rangeAt b o x.l)(ho:o+5<=cs.size)(hk:a.kind=3)(hcs:cs'.toList=cs.toList.take o++a.new.l++cs.toList.drop (o+5)):
  Calls Tryz.prog 65 #[.pointer (some ⟨b,o,none⟩),.agg a.l.toArray] w (aB w b T cs cs' x a.Bb):=by
 have hgl:=hb.lt
 have hgl1:b<w.heap.size+1:=Zo
 have hgl2:b<w.heap.size+1+1:=Zo
 have hgl3:b<w.heap.size+1+1+1:=Zo
 obtain⟨q0,q1,q2,q3,q4⟩:=LB hx
 have HB:=Zh hb
 have HXX:=Zh hx
 clear hb hx
 (obtain⟨k,⟨a0,a1,a2⟩,⟨o0,o1,o2,o3,o4⟩,⟨n0,n1,n2,n3,n4⟩⟩:=a)
 simp only at hk hcs
 subst hk
 show Calls Tryz.prog 65 #[.pointer (some ⟨b,o,none⟩),.agg #[.int .i64 3,.int .i64 a0,.int .i64 a1,.int .i64 a2,.int .i64 o0,.int .i64 o1,.int .i64 o2,.int .i64 o3,.bool o4,.int .i64 n0,.int .i64 n1,.int .i64 n2,.int .i64 n3,.bool n4]] w _
 have HCS:=Zh hcs
 clear hcs
 obtain⟨A,hA⟩:∃A,A=Obj.cells #[.int .i64 3,.int .i64 a0,.int .i64 a1,.int .i64 a2,.int .i64 o0,.int .i64 o1,.int .i64 o2,.int .i64 o3,.bool o4,.int .i64 n0,.int .i64 n1,.int .i64 n2,.int .i64 n3,.bool n4] 114:=⟨_,rfl⟩
 have XA:Bk (((w.alloc A).alloc (.cells #[.int .i64 0,.int .i64 0,.int .i64 0,.int .i64 0,.bool false,.bool false] 108)).alloc (.cells #[.int .i64 x.sl,.int .i64 x.gn,.int .i64 x.tg,.int .i64 x.nm,.bool x.mark,.bool false] 108)) w.heap.size 114 #[.int .i64 3,.int .i64 a0,.int .i64 a1,.int .i64 a2,.int .i64 o0,.int .i64 o1,.int .i64 o2,.int .i64 o3,.bool o4,.int .i64 n0,.int .i64 n1,.int .i64 n2,.int .i64 n3,.bool n4]:=by subst hA;exact((Bk.at_ rfl).alloc _).alloc _
 have X4:Bk (((w.alloc A).alloc (.cells #[.int .i64 0,.int .i64 0,.int .i64 0,.int .i64 0,.bool false,.bool false] 108)).alloc (.cells #[.int .i64 x.sl,.int .i64 x.gn,.int .i64 x.tg,.int .i64 x.nm,.bool x.mark,.bool false] 108)) (w.heap.size+1) 108 #[.int .i64 0,.int .i64 0,.int .i64 0,.int .i64 0,.bool false,.bool false]:=(Bk.at_ Zs).alloc _
 have X5:Bk (((w.alloc A).alloc (.cells #[.int .i64 0,.int .i64 0,.int .i64 0,.int .i64 0,.bool false,.bool false] 108)).alloc (.cells #[.int .i64 x.sl,.int .i64 x.gn,.int .i64 x.tg,.int .i64 x.nm,.bool x.mark,.bool false] 108)) (w.heap.size+1+1) 108 #[.int .i64 x.sl,.int .i64 x.gn,.int .i64 x.tg,.int .i64 x.nm,.bool x.mark,.bool false]:=Bk.at_ Zs
 have XB:=((HB.out.alloc A).alloc (.cells #[.int .i64 0,.int .i64 0,.int .i64 0,.int .i64 0,.bool false,.bool false] 108)).alloc (.cells #[.int .i64 x.sl,.int .i64 x.gn,.int .i64 x.tg,.int .i64 x.nm,.bool x.mark,.bool false] 108)
 have CW:Hid (Below w.heap.size w (((w.alloc A).alloc (.cells #[.int .i64 0,.int .i64 0,.int .i64 0,.int .i64 0,.bool false,.bool false] 108)).alloc (.cells #[.int .i64 x.sl,.int .i64 x.gn,.int .i64 x.tg,.int .i64 x.nm,.bool x.mark,.bool false] 108))):=Zh vB
 have HX:=Zh (And.intro XA (And.intro X4 (And.intro X5 XB)))
 subst hA
 clear XA X4 X5 XB
 go_enter Tryz.func65,Tryz.ntmps65
 go_upto_region 8 with(fail)
 have QX:Hid (∀j u,x.l[j]?=some u->(((w.alloc (.cells #[.int .i64 3,.int .i64 a0,.int .i64 a1,.int .i64 a2,.int .i64 o0,.int .i64 o1,.int .i64 o2,.int .i64 o3,.bool o4,.int .i64 n0,.int .i64 n1,.int .i64 n2,.int .i64 n3,.bool n4] 114)).alloc (.cells #[.int .i64 0,.int .i64 0,.int .i64 0,.int .i64 0,.bool false,.bool false] 108)).alloc (.cells #[.int .i64 x.sl,.int .i64 x.gn,.int .i64 x.tg,.int .i64 x.nm,.bool x.mark,.bool false] 108)).cell? ⟨b,o+j,none⟩=some u):=Zh (λj u hu=>by rw[(M7 CW.out).1 b _ hgl];exact HXX.out j u hu)
 generalize(((w.alloc (.cells #[.int .i64 3,.int .i64 a0,.int .i64 a1,.int .i64 a2,.int .i64 o0,.int .i64 o1,.int .i64 o2,.int .i64 o3,.bool o4,.int .i64 n0,.int .i64 n1,.int .i64 n2,.int .i64 n3,.bool n4] 114)).alloc (.cells #[.int .i64 0,.int .i64 0,.int .i64 0,.int .i64 0,.bool false,.bool false] 108)).alloc (.cells #[.int .i64 x.sl,.int .i64 x.gn,.int .i64 x.tg,.int .i64 x.nm,.bool x.mark,.bool false] 108))=w1 at*
 clear q0 q1 q2 q3 q4
 have hS0:SwS w1 b o w.heap.size x o0 o1 o2 o3 o4:=⟨LB QX.out,HX.out.1.cell 4,HX.out.1.cell 5,HX.out.1.cell 6,HX.out.1.cell 7,HX.out.1.cell 8⟩
 refine X8 (λw1=>SwS w1 b o w.heap.size x o0 o1 o2 o3 o4) 7 Zk hS0 (λhS=>?_)
 clear hS0
 have D1:Hid (Below w.heap.size w w1.drew):=Zh (CW.out.drew)
 have E1:Hid (Below w1.heap.size w1 w1.drew):=Zh ((Below.refl _ _).drew)
 have HX1:Hid (Bk w1.drew w.heap.size 114 _/\Bk w1.drew (w.heap.size+1) 108 _/\Bk w1.drew (w.heap.size+1+1) 108 _/\Bk w1.drew b T cs):=Zh ⟨HX.out.1.drew,HX.out.2.1.drew,HX.out.2.2.1.drew,HX.out.2.2.2.drew⟩
 clear HX QX CW E1
 generalize w1.drew=w2 at*
 ((try simp only[ZL]);refine vT (fuel:=2) hS [0,1,2,3,4] ?_;simp only[Xy,Xr,List.toList_toArray];(repeat (first|go_big_quiet_skip|(go_big_quiet_want;first|(go_big_quiet_op;go_big_quiet_on)|(apply Exists.intro;refine⟨λw' hS'=>?_,?_⟩;(· (obtain⟨⟨q0,q1,q2,q3,q4⟩,p0,p1,p2,p3,p4⟩:=hS';go_simp;first|done|rfl|exact⟨rfl,rfl⟩));go_big_quiet_on;simp only[ZL]))));refine wpQuiet_nil ?_;(try dsimp only))
 (refine Xi 5 Zk (λK hK=>?_);simp only[Xr,List.toList_toArray])
 go_wp2_with fail
 refine(lC x ⟨o0,o1,o2,o3,o4⟩ w2).mono ?_
 rintro e w3 ⟨rfl,hc⟩
 have hb3:=hc.below
 have D3:Hid (Below w.heap.size w w3):=Zh (D1.out.trans (hb3.mono D1.out.size))
 have HX3:=Zh (And.intro (HX1.out.1.Ac hb3) (And.intro (HX1.out.2.1.Ac hb3) (And.intro (HX1.out.2.2.1.Ac hb3) (HX1.out.2.2.2.Ac hb3))))
 have hS3:SwS w3 b o w.heap.size x o0 o1 o2 o3 o4:=hS.below hb3 HX1.out.2.2.2.lt HX1.out.1.lt
 clear hc hb3 HX1 D1
 go_wp2_with fail
 refine hK.out _ _ (λ_=>hS3) ?_
 clear hK hS
 have hS:=hS3
 ((try simp only[ZL]);refine vT (fuel:=0) hS [6] ?_;simp only[Xy,Xr,List.toList_toArray];(repeat (first|go_big_quiet_skip|(go_big_quiet_want;first|(go_big_quiet_op;go_big_quiet_on)|(apply Exists.intro;refine⟨λw' hS'=>?_,?_⟩;(· (skip;go_simp;first|done|rfl|exact⟨rfl,rfl⟩));go_big_quiet_on;simp only[ZL]))));refine wpQuiet_nil ?_;(try dsimp only))
 clear hS hS3
 refine Ye Zk ?_ _
 obtain⟨XA,X4,X5,XB⟩:=HX3.out
 have y9:=XA.cell 9;have y10:=XA.cell 10;have y11:=XA.cell 11;have y12:=XA.cell 12;have y13:=XA.cell 13
 have z0:=X5.cell 0;have z1:=X5.cell 1;have z2:=X5.cell 2;have z3:=X5.cell 3;have z4:=X5.cell 4;have z5:=X5.cell 5
 simp at y9 y10 y11 y12 y13 z0 z1 z2 z3 z4 z5
 have hw3:=D3.out.size
 cases hsm:Dm x ⟨o0,o1,o2,o3,o4⟩ with
 |true=>
  have XBH:=Zh XB
  have R5:=Zh X5
  have R4:=Zh X4
  clear XA X4 X5 XB HB HX3
  have HSM:=Zh hsm
  go_wp2_with (first|(refine Za Zr _ _ _ Zr b o _ Zr Zr _ _ cs' XBH.out (by exact ho) Zk Zr (by exact HCS.out) ?_;intro w4 hst;have v5:=hst.Ax R5.out Zo;have v4:=hst.Ax R4.out Zo;have q0:=v5.cell 0;have q1:=v5.cell 1;have q2:=v5.cell 2;have q3:=v5.cell 3;have q4:=v5.cell 4;have q5:=v5.cell 5;have f5:=v5.free 5;simp at q0 q1 q2 q3 q4 q5;have Y4:=Zh (v4.Ax (p:=⟨w.heap.size+1+1,5,none⟩) Zs (.bool true));have HST:=Zh hst;clear hst v4 v5)|(refine vM Y4.out ?_;intro w5 hst3))
  (have r0:=hst3.bk.cell 0;have r1:=hst3.bk.cell 1;have r2:=hst3.bk.cell 2;have r3:=hst3.bk.cell 3;have r4:=hst3.bk.cell 4;have r5:=hst3.bk.cell 5;simp at r0 r1 r2 r3 r4 r5;refine bodyPost_ret (v:=.agg #[.int .i64 x.sl,.int .i64 x.gn,.int .i64 x.tg,.int .i64 x.nm,.bool x.mark,.bool true]) (by simp[results,Tryz.results65,go_sem,r0,r1,r2,r3,r4,r5]) rfl ?_)
  unfold aB
  rw[HSM.out]
  exact⟨rfl,hst3.Ax (HST.out.bk.Ax (p:=⟨w.heap.size+1+1,5,none⟩) (by simp;omega) (.bool true)) Zo,VD D3.out HST.out hst3 Zo⟩
 |false=>
  have XBH:=Zh XB
  have R4:=Zh X4
  clear XA X4 X5 XB HB HX3
  have HSM:=Zh hsm
  go_wp2_with (refine vM R4.out ?_;intro w5 hst3)
  (have r0:=hst3.bk.cell 0;have r1:=hst3.bk.cell 1;have r2:=hst3.bk.cell 2;have r3:=hst3.bk.cell 3;have r4:=hst3.bk.cell 4;have r5:=hst3.bk.cell 5;simp at r0 r1 r2 r3 r4 r5;refine bodyPost_ret (v:=.agg #[.int .i64 x.sl,.int .i64 x.gn,.int .i64 x.tg,.int .i64 x.nm,.bool x.mark,.bool false]) (by simp[results,Tryz.results65,go_sem,r0,r1,r2,r3,r4,r5]) rfl ?_)
  unfold aB
  rw[HSM.out]
  refine⟨rfl,hst3.Ax XBH.out Zo,?_⟩
  exact(Ak.Ag (F:=[b]) D3.out).seq (F1:=[w.heap.size+1]) (λx hx=>by rw[List.mem_singleton.1 hx];right;omega) (Ak.Ar (b:=0) hst3.grown (λb' e=>by injection e with e;simp[e]))
end Go.Proofs.YtaipogljokblkaaGreatDoor
