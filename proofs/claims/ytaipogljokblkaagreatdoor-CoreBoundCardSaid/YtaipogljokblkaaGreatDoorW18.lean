/- Core: Rfn, CLitN, Rfx, CVd, Rfv, Rfw, CVk, CStep. -/
import Derived.Test.YtaipogljokblkaaGreatDoorW06
import Derived.Test.YtaipogljokblkaaGreatDoorW09
import Derived.Test.YtaipogljokblkaaGreatDoorW07
import Derived.Test.YtaipogljokblkaaGreatDoorW17
import Derived.Test.YtaipogljokblkaaGreatDoorW01
import Derived.Test.YtaipogljokblkaaGreatDoorW12
set_option linter.all false
set_option maxRecDepth 100000
set_option maxHeartbeats 8000000
namespace Go.Proofs.YtaipogljokblkaaGreatDoor
open Go Go.RowKit
set_option linter.unusedSimpArgs false
set_option linter.unusedVariables false
set_option linter.unusedSectionVars false
theorem rS{w:World}{k:Nat->Nat}{e:Env}{l:Nat}{T:TypeId}{cs:List SC}(h:Bk w (k l) T (Ym e k cs)):∀x∈([(l,T,cs)]:Yk),Bk w (k x.1) x.2.1 (Ym e k x.2.2):=λx hx=>by
 rw[List.mem_singleton.1 hx];exact h
theorem bl2{w:World}{k:Nat->Nat}{e:Env}{l l':Nat}{T T':TypeId}{cs cs':List SC}(h:Bk w (k l) T (Ym e k cs))(h':Bk w (k l') T' (Ym e k cs')):∀x∈([(l,T,cs),(l',T',cs')]:Yk),Bk w (k x.1) x.2.1 (Ym e k x.2.2):=λx hx=>by
 rcases List.mem_cons.1 hx with rfl|hx
 ·exact h
 ·rw[List.mem_singleton.1 hx];exact h'
theorem Tp(x:Xj):(CT none x).2.2=false:=rfl
theorem Tq:IV none=false:=rfl
theorem Rq(x:Xj):(Bb none x).2.2=false:=rfl
theorem Tr(x:Xj):IV (CT none x).1=false:=rfl
theorem Rs(x:Xj):((Dl (Bb none x).1).sl==0)=true:=rfl
theorem JQ{w:World}{o:Option Xq}(h:(o.map λW=>W.l.toArray)=none):Dt w (.pointer none) o []:=by
 cases o with
 |none=>exact⟨rfl,rfl⟩
 |some W=>cases h
theorem JP{w:World}{g:Nat}{o:Option Xq}{cs:Array Value}(h:(o.map λW=>W.l.toArray)=some cs)(hb:Bk w g 261 cs):Dt w (.pointer (some ⟨g,0,none⟩)) o [g]:=by
 cases o with
 |none=>cases h
 |some W=>cases h;exact⟨g,rfl,rfl,hb⟩
theorem FP{w:World}{o:Option Xe}(h:(o.map λW=>W.l.toArray)=none):BU w (.pointer none) o []:=by
 cases o with
 |none=>exact⟨rfl,rfl⟩
 |some W=>cases h
theorem FN{w:World}{g:Nat}{o:Option Xe}{cs:Array Value}(h:(o.map λW=>W.l.toArray)=some cs)(hb:Bk w g 284 cs):BU w (.pointer (some ⟨g,0,none⟩)) o [g]:=by
 cases o with
 |none=>cases h
 |some W=>cases h;exact⟨g,rfl,rfl,hb⟩
def oS(J:Xi)(x:Xj):Env:=Ix [J.ii,x.ii,(Xq.step (Xq.new J.start J.key) x).1.ii,(Xq.step (Xq.new J.start J.key) x).2.1.ii] [J.bb,x.bb,(Xq.step (Xq.new J.start J.key) x).1.bb,(Xq.step (Xq.new J.start J.key) x).2.1.bb,[(Xq.step (Xq.new J.start J.key) x).2.2]]
def uX:St:=⟨[],[(1,206,(ct [vs 0 9,[.bool (.var 0)],vs 9 4,[.bool (.var 1)],vs 13 12,[.lit (.pointer none)],vs 25 4,[.bool (.var 2),.int (.var 29)]]))],[],10,0⟩
def gM:List SV:=[.c (.ptr 1 0),.agg ((ct [vs 30 4,[.bool (.var 3),.bool (.var 4)]]))]
def zU:List Xu:=[⟨true,162,261,(ct [zs 9,[.bool (.lit false)],zs 4,[.bool (.lit false)],zs 4,vs 17 4,vs 17 3,zs 4,[.bool (.lit false)],zs 4,[.bool (.lit false),.int (.lit 0),.bool (.lit false)]]),[.agg ((ct [vs 30 4,[.bool (.var 3),.bool (.var 4)]]))],.Jj [(true,(ct [vs 67 8,[.bool (.var 10)],vs 75 4,[.bool (.var 11)],vs 79 4])),(false,[.bool (.var 12)])],(ct [vs 34 9,[.bool (.var 5)],vs 43 4,[.bool (.var 6)],vs 47 15,[.bool (.var 7)],vs 62 4,[.bool (.var 8),.int (.var 66),.bool (.var 9)]])⟩]
theorem oT(J:Xi)(x:Xj)(g1:Nat)(w:World)(h1:Bk w g1 206 (({J with walk:=none}:Xi).l (.pointer none)).toArray)(hnd:[g1].Nodup):Calls Tryz.prog 154 #[.pointer (some ⟨g1,0,none⟩),.agg x.l.toArray] w λen w'=>∃F',en=.returned (Yn (Xi.next {J with walk:=none} x).2)/\Km w' g1 (Xi.next {J with walk:=none} x).1 F'/\(∀b∈F',b∈[g1]\/w.heap.size<=b)/\Al [g1] w w':=by
 refine p2 (oS J x) zU 60 uX gM 27 206 261 (Xi.next {J with walk:=none} x) (λr=>Yn r.2) (λr q=>r.1.l q) (λr=>r.1.walk.map λW=>W.l.toArray) (λr w q F1=>Dt w q r.1.walk F1) (Yr (Ch Tryz.func162 λg w hB=>Hv (Xq.new J.start J.key) x g w hB) Xt) Ci (rS (Yu h1 Zk)) hnd (λ_ _ h=>JQ h) (λ_ _ _ _ h hb=>JP h hb) ?_;exact vS10
end Go.Proofs.YtaipogljokblkaaGreatDoor
namespace Go.Proofs.YtaipogljokblkaaGreatDoor
open Go Go.RowKit
def kP(J:Xa)(pw:Option Go.Addr)(pi:Option Go.Addr)(x:Xj):Env:=Iw [J.last.ii,J.op.ii,[J.size,J.wanted,J.Ai,J.child],J.base.ii,J.node.ii,J.sentinel.ii,J.answer.ii,J.count.ii,x.ii,[Ds J.child],(Xq.step (Xq.new (Xg J.base 2) (Ds J.child)) x).1.ii,(Xq.step (Xq.new (Xg J.base 2) (Ds J.child)) x).2.1.ii] [J.bb,x.bb,(Xq.step (Xq.new (Xg J.base 2) (Ds J.child)) x).1.bb,(Xq.step (Xq.new (Xg J.base 2) (Ds J.child)) x).2.1.bb,[(Xq.step (Xq.new (Xg J.base 2) (Ds J.child)) x).2.2]] [.pointer pw,.pointer pi] (AI rfl)
def sP:St:=⟨[],[(1,186,(ct [[.int (.lit 4)],vs 0 8,[.bool (.var 0)],vs 8 4,[.bool (.var 1)],vs 12 16,[.bool (.var 2)],vs 28 4,[.bool (.var 3)],vs 32 4,[.bool (.var 4),.AQ 0,.AQ 1],vs 36 6,[.bool (.var 5)]]))],[],10,0⟩
def cM:List SV:=[.c (.ptr 1 0),.agg ((ct [vs 42 4,[.bool (.var 6),.bool (.var 7)]]))]
def yF:List Xu:=[⟨false,189,0,[],[.c (.int (.var 23))],.c (.int (.var 46)),[]⟩,⟨true,162,261,(ct [zs 9,[.bool (.lit false)],zs 4,[.bool (.lit false)],zs 4,[.int (.var 24),.int (.var 25),.int (.lit 2),.int (.var 46),.int (.var 24),.int (.var 25),.int (.lit 2)],zs 4,[.bool (.lit false)],zs 4,[.bool (.lit false),.int (.lit 0),.bool (.lit false)]]),[.agg ((ct [vs 42 4,[.bool (.var 6),.bool (.var 7)]]))],.Jj [(true,(ct [vs 80 8,[.bool (.var 13)],vs 88 4,[.bool (.var 14)],vs 92 4])),(false,[.bool (.var 15)])],(ct [vs 47 9,[.bool (.var 8)],vs 56 4,[.bool (.var 9)],vs 60 15,[.bool (.var 10)],vs 75 4,[.bool (.var 11),.int (.var 79),.bool (.var 12)]])⟩]
theorem kQ(J:Xa)(pw:Option Go.Addr)(pi:Option Go.Addr)(x:Xj)(g1:Nat)(w:World)(h1:Bk w g1 186 (({J with pc:=4}:Xa).l (.pointer pw) (.pointer pi)).toArray)(hnd:[g1].Nodup)(hc0:0<=J.child)(hc1:J.child<8):Calls Tryz.prog 176 #[.pointer (some ⟨g1,0,none⟩),.agg x.l.toArray] w λen w'=>FU (λw q F1=>Dt w q (Xa.Ak ({J with pc:=4}:Xa) x).1.walk F1) 186 (λq=>(Xa.Ak ({J with pc:=4}:Xa) x).1.l q (.pointer pi)) (Yn (Xa.Ak ({J with pc:=4}:Xa) x).2) g1 [g1] w en w':=by
 refine p2 (hJL:=λr q=>by kernel_rfl) (kP J pw pi x) yF 80 sP cM 42 186 261 (Xa.Ak ({J with pc:=4}:Xa) x) (λr=>Yn r.2) (λr q=>r.1.l q (.pointer pi)) (λr=>r.1.walk.map λW=>W.l.toArray) (λr w q F1=>Dt w q r.1.walk F1) (Yr (Gk Tryz.func189 λw=>KJ _ w hc0 hc1) (Yr (Ch Tryz.func162 λg w hB=>Hv (Xq.new (Xg J.base 2) (Ds J.child)) x g w hB) Xt)) Ci (rS (Yu h1 Zk)) hnd (λ_ _ h=>JQ h) (λ_ _ _ _ h hb=>JP h hb) ?_;exact vS6
def cG(J:Xa)(pw:Option Go.Addr)(pi:Option Go.Addr)(x:Xj):Env:=Iw [J.last.ii,J.op.ii,[J.size,J.wanted,J.Ai,J.child],J.base.ii,J.node.ii,J.sentinel.ii,J.answer.ii,J.count.ii,x.ii,[Ds J.child],(Xq.step (Xq.new (Xg J.base 2) (Ds J.child)) x).1.ii,(Xq.step (Xq.new (Xg J.base 2) (Ds J.child)) x).2.1.ii] [J.bb,x.bb,(Xq.step (Xq.new (Xg J.base 2) (Ds J.child)) x).1.bb,(Xq.step (Xq.new (Xg J.base 2) (Ds J.child)) x).2.1.bb,[(Xq.step (Xq.new (Xg J.base 2) (Ds J.child)) x).2.2]] [.pointer pw,.pointer pi] (AI rfl)
def kG:St:=⟨[],[(1,186,(ct [[.int (.lit 8)],vs 0 8,[.bool (.var 0)],vs 8 4,[.bool (.var 1)],vs 12 16,[.bool (.var 2)],vs 28 4,[.bool (.var 3)],vs 32 4,[.bool (.var 4),.AQ 0,.AQ 1],vs 36 6,[.bool (.var 5)]]))],[(.var 7,false)],10,0⟩
def VZ:List SV:=[.c (.ptr 1 0),.agg ((ct [vs 42 4,[.bool (.var 6),.bool (.var 7)]]))]
def sK:List Xu:=[⟨false,189,0,[],[.c (.int (.var 23))],.c (.int (.var 46)),[]⟩,⟨true,162,261,(ct [zs 9,[.bool (.lit false)],zs 4,[.bool (.lit false)],zs 4,[.int (.var 24),.int (.var 25),.int (.lit 2),.int (.var 46),.int (.var 24),.int (.var 25),.int (.lit 2)],zs 4,[.bool (.lit false)],zs 4,[.bool (.lit false),.int (.lit 0),.bool (.lit false)]]),[.agg ((ct [vs 42 4,[.bool (.var 6),.bool (.var 7)]]))],.Jj [(true,(ct [vs 80 8,[.bool (.var 13)],vs 88 4,[.bool (.var 14)],vs 92 4])),(false,[.bool (.var 15)])],(ct [vs 47 9,[.bool (.var 8)],vs 56 4,[.bool (.var 9)],vs 60 15,[.bool (.var 10)],vs 75 4,[.bool (.var 11),.int (.var 79),.bool (.var 12)]])⟩]
theorem cH(J:Xa)(pw:Option Go.Addr)(pi:Option Go.Addr)(x:Xj)(g1:Nat)(w:World)(h1:Bk w g1 186 (({J with pc:=8}:Xa).l (.pointer pw) (.pointer pi)).toArray)(hnd:[g1].Nodup)(hc0:0<=J.child)(hc1:J.child<8)(hok:x.ok=false):Calls Tryz.prog 176 #[.pointer (some ⟨g1,0,none⟩),.agg x.l.toArray] w λen w'=>FU (λw q F1=>Dt w q (Xa.Ak ({J with pc:=8}:Xa) x).1.walk F1) 186 (λq=>(Xa.Ak ({J with pc:=8}:Xa) x).1.l q (.pointer pi)) (Yn (Xa.Ak ({J with pc:=8}:Xa) x).2) g1 [g1] w en w':=by
 refine p2 (hJL:=λr q=>by kernel_rfl) (cG J pw pi x) sK 80 kG VZ 42 186 261 (Xa.Ak ({J with pc:=8}:Xa) x) (λr=>Yn r.2) (λr q=>r.1.l q (.pointer pi)) (λr=>r.1.walk.map λW=>W.l.toArray) (λr w q F1=>Dt w q r.1.walk F1) (Yr (Gk Tryz.func189 λw=>KJ _ w hc0 hc1) (Yr (Ch Tryz.func162 λg w hB=>Hv (Xq.new (Xg J.base 2) (Ds J.child)) x g w hB) Xt)) (Ca hok Ci) (rS (Yu h1 Zk)) hnd (λ_ _ h=>JQ h) (λ_ _ _ _ h hb=>JP h hb) ?_;exact vS6
def kN(J:Xa)(W:Xq)(pi:Option Go.Addr)(x:Xj):Env:=Iw [J.last.ii,J.op.ii,[J.size,J.wanted,J.Ai,J.child],J.base.ii,J.node.ii,J.sentinel.ii,J.answer.ii,J.count.ii,W.ii,x.ii,(Xq.step W x).1.ii,(Xq.step W x).2.1.ii] [J.bb,W.bb,x.bb,(Xq.step W x).1.bb,(Xq.step W x).2.1.bb,[(Xq.step W x).2.2]] [.pointer pi] (AI rfl)
def sO:St:=⟨[],[(1,186,(ct [[.int (.lit 5)],vs 0 8,[.bool (.var 0)],vs 8 4,[.bool (.var 1)],vs 12 16,[.bool (.var 2)],vs 28 4,[.bool (.var 3)],vs 32 4,[.bool (.var 4),.ptr 3 0,.AQ 0],vs 36 6,[.bool (.var 5)]])),(3,261,(ct [vs 42 9,[.bool (.var 6)],vs 51 4,[.bool (.var 7)],vs 55 15,[.bool (.var 8)],vs 70 4,[.bool (.var 9),.int (.var 74),.bool (.var 10)]]))],[],10,0⟩
def cL:List SV:=[.c (.ptr 1 0),.agg ((ct [vs 75 4,[.bool (.var 11),.bool (.var 12)]]))]
def yE:List Xu:=[⟨true,162,261,(ct [vs 42 9,[.bool (.var 6)],vs 51 4,[.bool (.var 7)],vs 55 15,[.bool (.var 8)],vs 70 4,[.bool (.var 9),.int (.var 74),.bool (.var 10)]]),[.agg ((ct [vs 75 4,[.bool (.var 11),.bool (.var 12)]]))],.Jj [(true,(ct [vs 112 8,[.bool (.var 18)],vs 120 4,[.bool (.var 19)],vs 124 4])),(false,[.bool (.var 20)])],(ct [vs 79 9,[.bool (.var 13)],vs 88 4,[.bool (.var 14)],vs 92 15,[.bool (.var 15)],vs 107 4,[.bool (.var 16),.int (.var 111),.bool (.var 17)]])⟩]
theorem kO(J:Xa)(W:Xq)(pi:Option Go.Addr)(x:Xj)(g1 g2:Nat)(w:World)(h1:Bk w g1 186 (({J with pc:=5,walk:=some W}:Xa).l (.pointer (some ⟨g2,0,none⟩)) (.pointer pi)).toArray)(h2:Bk w g2 261 (W.l).toArray)(hnd:[g1,g2].Nodup):Calls Tryz.prog 176 #[.pointer (some ⟨g1,0,none⟩),.agg x.l.toArray] w λen w'=>FU (λw q F1=>Dt w q (Xa.Ak ({J with pc:=5,walk:=some W}:Xa) x).1.walk F1) 186 (λq=>(Xa.Ak ({J with pc:=5,walk:=some W}:Xa) x).1.l q (.pointer pi)) (Yn (Xa.Ak ({J with pc:=5,walk:=some W}:Xa) x).2) g1 [g1,g2] w en w':=by
 refine p2 (hJL:=λr q=>by kernel_rfl) (kN J W pi x) yE 80 sO cL 42 186 261 (Xa.Ak ({J with pc:=5,walk:=some W}:Xa) x) (λr=>Yn r.2) (λr q=>r.1.l q (.pointer pi)) (λr=>r.1.walk.map λW=>W.l.toArray) (λr w q F1=>Dt w q r.1.walk F1) (Yr (Ch Tryz.func162 λg w hB=>Hv W x g w hB) Xt) Ci (bl2 (Yu h1 Zk) (Yu h2 Zk)) hnd (λ_ _ h=>JQ h) (λ_ _ _ _ h hb=>JP h hb) ?_;exact vS6
def kJ(J:Xa)(W:Xq)(pi:Option Go.Addr)(x:Xj):Env:=Iw [J.last.ii,J.op.ii,[J.size,J.wanted,J.Ai,J.child],J.base.ii,J.node.ii,J.sentinel.ii,J.answer.ii,J.count.ii,W.ii,x.ii] [J.bb,W.bb,x.bb] [.pointer pi] (AI rfl)
def sM:St:=⟨[],[(1,186,(ct [[.int (.lit 7)],vs 0 8,[.bool (.var 0)],vs 8 4,[.bool (.var 1)],vs 12 16,[.bool (.var 2)],vs 28 4,[.bool (.var 3)],vs 32 4,[.bool (.var 4),.ptr 3 0,.AQ 0],vs 36 6,[.bool (.var 5)]])),(3,261,(ct [vs 42 9,[.bool (.var 6)],vs 51 4,[.bool (.var 7)],vs 55 15,[.bool (.var 8)],vs 70 4,[.bool (.var 9),.int (.var 74),.bool (.var 10)]]))],[],10,0⟩
def cJ:List SV:=[.c (.ptr 1 0),.agg ((ct [vs 75 4,[.bool (.var 11),.bool (.var 12)]]))]
def yD:List Xu:=[]
theorem kK(J:Xa)(W:Xq)(pi:Option Go.Addr)(x:Xj)(g1 g2:Nat)(w:World)(h1:Bk w g1 186 (({J with pc:=7,walk:=some W}:Xa).l (.pointer (some ⟨g2,0,none⟩)) (.pointer pi)).toArray)(h2:Bk w g2 261 (W.l).toArray)(hnd:[g1,g2].Nodup):Calls Tryz.prog 176 #[.pointer (some ⟨g1,0,none⟩),.agg x.l.toArray] w λen w'=>FU (λw q F1=>Dt w q (Xa.Ak ({J with pc:=7,walk:=some W}:Xa) x).1.walk F1) 186 (λq=>(Xa.Ak ({J with pc:=7,walk:=some W}:Xa) x).1.l q (.pointer pi)) (Yn (Xa.Ak ({J with pc:=7,walk:=some W}:Xa) x).2) g1 [g1,g2] w en w':=by
 refine p2 (hJL:=λr q=>by kernel_rfl) (kJ J W pi x) yD 80 sM cJ 42 186 261 (Xa.Ak ({J with pc:=7,walk:=some W}:Xa) x) (λr=>Yn r.2) (λr q=>r.1.l q (.pointer pi)) (λr=>r.1.walk.map λW=>W.l.toArray) (λr w q F1=>Dt w q r.1.walk F1) Xt Ci (bl2 (Yu h1 Zk) (Yu h2 Zk)) hnd (λ_ _ h=>JQ h) (λ_ _ _ _ h hb=>JP h hb) ?_;exact vS6
def zQ:SC:=.lit (.pointer none)
def inV(h:Yk):Option Nat:=dH 43 h
def UK(e:Env)(k:Nat->Nat)(a:SV × Yk):Value × Array Value × Option (Array Value × Option (Array Value)):=
 (a.1.den e k,Ym e k ((cellAt 1 a.2).set 43 zQ),(inV a.2).map λl=>(Ym e k ((cellAt l a.2).set 27 zQ),((cellAt l a.2)[27]?.bind Ns).map λm=>Ym e k (cellAt m a.2)))
def uB(i:Nat):SC->Bool
 |.AQ j=>j==i
 |_=>false
theorem uA{i:Nat}{c:SC}(h:uB i c=true):c=.AQ i:=by
 unfold uB at h;split at h
 ·simp at h;subst h;rfl
 ·cases h
def okW(hp:Yk)(h:Yk)(l:Nat):SC->Bool:=λc=>gH c||(match Ns c with|some m=>!(l==m)&&pD 261 m h&&!Fs m (Yi hp)|none=>false)
def zI (hp:Yk) (h:Yk):SC→Bool:=fun c=>uB 1 c || (match Ns c with
 |some l=>pD 206 l h&&!Fs l (Yi hp)&&(match(cellAt l h)[27]? with|some d=>okW hp h l d|none=>false)
 |none=>false)
def gD(hp:Yk)(a:SV × Yk):Bool:=
 pD 186 1 a.2&&(match(cellAt 1 a.2)[43]? with|some c=>zI hp a.2 c|none=>false)&&(Io a.2 hp).all (·==1)
def QV(e:Env)(hp:Yk)(pw:Option Go.Addr)(I0:Option Xi)(a:SV × Yk)(r:Xa × Value):Prop:=gD hp a=true/\
 ((r.1.inner = I0∧∀ k,UK e k a = (r.2,(r.1.l (.pointer pw) (.pointer none)).toArray,none)) ∨
  ∃I,r.1.inner=some I/\∀k,UK e k a=(r.2,(r.1.l (.pointer pw) (.pointer none)).toArray,some ((I.l (.pointer none)).toArray,I.walk.map λW=>W.l.toArray)))
section
variable{t:Xz (SV × Yk)}{e:Env}{hp:Yk}{s:FV}{a:Xa × Xf}{pw:Option Go.Addr}{I0:Option Xi}{V:Xa × Xf->Value}
theorem uE(hi:a.1.inner=I0)(h1:(t.lv s).all (jI (gD hp))=true)(h2:∀k,(t.lv s).map (λo=>o.map (UK e k))=(t.lv s).map λ_=>some (V a,(a.1.l (.pointer pw) (.pointer none)).toArray,none)):PO t e (λx r=>QV e hp pw I0 x (r.1,V r)) s a:=
 JW (UK e) (λr=>(V r,(r.1.l (.pointer pw) (.pointer none)).toArray,none)) (gD hp) h1 h2 λ_ h h'=>⟨h,Or.inl ⟨hi,h'⟩⟩
theorem uG(I:Xi)(hi:a.1.inner=some I)(h1:(t.lv s).all (jI (gD hp))=true)(h2:∀k,(t.lv s).map (λo=>o.map (UK e k))=(t.lv s).map λ_=>some (V a,(a.1.l (.pointer pw) (.pointer none)).toArray,some ((I.l (.pointer none)).toArray,I.walk.map λW=>W.l.toArray))):PO t e (λx r=>QV e hp pw I0 x (r.1,V r)) s a:=
 JW (UK e) (λr=>(V r,(r.1.l (.pointer pw) (.pointer none)).toArray,some ((I.l (.pointer none)).toArray,I.walk.map λW=>W.l.toArray))) (gD hp) h1 h2 λ_ h h'=>⟨h,Or.inr ⟨I,hi,h'⟩⟩
end
theorem mA{α:Type}{l:List α}{i:Nat}{c:α}(hc:l[i]?=some c):l.set i c=l:=by
 apply List.ext_getElem?;intro j;rw[List.getElem?_set];split
 ·rename_i hij;subst hij;split
  ·exact hc.symm
  ·rename_i hlt;rw[List.getElem?_eq_none Zo] at hc;cases hc
 ·rfl
theorem Ov{e:Env}{k:Nat->Nat}{cs:List SC}{i:Nat}{c:SC}{L:Value->List Value}(hc:cs[i]?=some c)(hL:∀q,L q=(L (.pointer none)).set i q)(h:Ym e k (cs.set i zQ)=(L (.pointer none)).toArray):Ym e k cs=(L (c.den e k)).toArray:=by
 have e3:=congrArg Array.toList h;rw[hL (c.den e k)];unfold Ym at e3 ⊢;simp only[List.map_set] at e3;rw[←e3,List.set_set,←List.map_set,mA hc]
theorem poV{P:Program}{e:Env}{S:List Xu}{n f:Nat}{args:List SV}{st:St}{g:Nat}{cs:List SC}{w:World}{args':Array Value}{r:Xa × Xf}{V:Xa × Xf->Value}{pw pi:Option Go.Addr}{I0:Option Xi}(hm:P.follows .mixedOrders=true)(hS:El P e S)(hp:st.hp=[(1,186,cs)])(hasm:AV e st.BY)
  (hb:Bk w g 186 (Ym e (Dw [g]) cs))(hpi:e.val 1=.pointer pi)
  (h:PO (CY (exec P S n (.call f args) st)) e (λx r=>QV e st.hp pw I0 x (r.1,V r)) st.BY r)(closed:QO (Yi st.hp) st.hp=true:=by kernel_rfl)(cargs:args.all (Jc (Yi st.hp))=true:=by kernel_rfl)(ha:args'=(args.map (SV.den e (Dw [g]))).toArray:=by kernel_rfl)(hpl:Hk S=true:=by kernel_rfl)(hnf:¬f=Dy:=by decide):
  Calls P f args' w λen w'=>R6 pw pi r.1 (V r) I0 g w en w':=by
 obtain⟨⟨v,h'⟩,hsel,hok,hout⟩:=h hasm
 refine(Cy hm hS hsel hasm (CE [g]) (λz hz=>?_) closed cargs (λz hz y hy _=>?_) ha hpl hnf).mono λen w' hx=>?_
 ·rw[hp] at hz;rw[List.mem_singleton.1 hz];exact Yu (show Bk w (Dw [g] 1) _ _ from hb) rfl
 ·rw[hp] at hz hy;rw[List.mem_singleton.1 hz,List.mem_singleton.1 hy]
 obtain⟨k',q⟩:=hx
 unfold gD at hok
 simp only[Bool.and_eq_true] at hok
 obtain⟨⟨o1,o2⟩,o3⟩:=hok
 have m1:=IB o1
 have l1:Fs 1 (Yi st.hp)=true:=B5.2 (by rw[hp];exact List.mem_singleton.2 rfl)
 have hls:∀l∈Io h' st.hp,Dw [g] l∈[g]:=λl hl=>by
  have:=List.all_eq_true.1 o3 l hl;obtain rfl:l=1:=by simpa using this
  exact List.mem_singleton.2 rfl
 have hJL:∀(J:Xa) (q:Value),J.l (.pointer pw) q=(J.l (.pointer pw) (.pointer none)).set 43 q:=λJ q=>by kernel_rfl
 have hIL:∀(I:Xi) (q:Value),I.l q=(I.l (.pointer none)).set 27 q:=λI q=>by kernel_rfl
 (try simp only at m1 o2)
 cases hc:(cellAt 1 h')[43]? with
 |none=>rw[hc] at o2;cases o2
 |some c=>
  rw[hc] at o2
  have o2:zI st.hp h' c=true:=o2
  unfold zI at o2
  rw[Bool.or_eq_true] at o2
  rcases hout with⟨hi,hout⟩|⟨I,hi,hout⟩
  ·have e1:=hout k';unfold UK inV dH at e1;simp only[hc,Option.bind_some] at e1;injection e1 with e2 e3;injection e3 with e3 e4;(try simp only at e2 e3);have hcn:Ns c=none:=by
    cases hs:Ns c with
    |none=>rfl
    |some l=>rw[hs] at e4;cases e4
   rw[hcn] at o2;simp only[Bool.false_eq_true,or_false] at o2;have hc0:=uA o2;subst hc0;have ec:=Ov hc (hJL _) e3;have e5:(SC.AQ 1).den e k'=.pointer pi:=hpi;rw[e5] at ec;exact xY q l1 rfl m1 ec e2 rfl hls hi
  ·have e1:=hout k';unfold UK inV dH at e1;simp only[hc,Option.bind_some] at e1;injection e1 with e2 e3;injection e3 with e3 e4;(try simp only at e2 e3);cases hs:Ns c with
   |none=>rw[hs] at e4;cases e4
   |some l=>
    rw[hs] at e4 o2;have hc0:=RL hs;subst hc0;simp only[Option.map_some,Option.some.injEq,Prod.mk.injEq] at e4;obtain⟨e5,e6⟩:=e4;simp only[show uB 1 (SC.ptr l 0)=false from rfl,Bool.false_eq_true,false_or,Bool.and_eq_true,Bool.not_eq_true'] at o2;obtain⟨⟨o4,o5⟩,o6⟩:=o2;have m2:=IB o4;have ec:=Ov hc (hJL _) e3;cases hd:(cellAt l h')[27]? with
    |none=>rw[hd] at o6;cases o6
    |some d=>
     rw[hd] at o6 e6;have o6:okW st.hp h' l d=true:=o6;unfold okW at o6;have e2':=Ov hd (hIL I) e5;simp only[Option.bind_some] at e6;cases hn:gH d with
     |true=>
      have hd0:=aI hn;subst hd0;have hw:I.walk=none:=by
       cases hw:I.walk with
       |none=>rfl
       |some W=>rw[hw] at e6;cases e6
      exact xZ q l1 rfl m1 m2 o5 ec e2 rfl hls hi e2' hw
     |false=>
      rw[hn,Bool.false_or] at o6;cases hm2:Ns d with
      |none=>rw[hm2] at o6;cases o6
      |some m=>
       rw[hm2] at o6 e6;have hd0:=RL hm2;subst hd0;have o6:(!(l==m)&&pD 261 m h'&&!Fs m (Yi st.hp))=true:=o6;simp only[Bool.and_eq_true,Bool.not_eq_true'] at o6;obtain⟨⟨o7,o8⟩,o9⟩:=o6;cases hw:I.walk with
       |none=>rw[hw] at e6;cases e6
       |some W=>
        rw[hw] at e6;simp only[Option.map_some,Option.some.injEq] at e6;exact sC q l1 rfl m1 m2 o5 (IB o8) o9 o7 ec e2 rfl hls hi e2' hw e6
theorem YT(J:Xa)(h:PR J.wanted J.Ai):J.Dr=bif J.Ai==J.wanted then J.perform else bif E4 J.wanted==J.Ai then({J with child:=J.wanted,pc:=3},AK) else
  bif E4 (E4 J.wanted)==J.Ai then({J with child:=E4 J.wanted,pc:=3},AK) else bif E4 (E4 (E4 J.wanted))==J.Ai then({J with child:=E4 (E4 J.wanted),pc:=3},AK) else(J,Xf.zero):=by
 unfold Xa.Dr II
 cases c0:J.Ai==J.wanted with
 |true=>rfl
 |false=>
  cases c1:E4 J.wanted==J.Ai with
  |true=>rfl
  |false=>
   cases c2:E4 (E4 J.wanted)==J.Ai with
   |true=>rfl
   |false=>
    cases c3:E4 (E4 (E4 J.wanted))==J.Ai with
    |true=>rfl
    |false=>exact(To h c0 c1 c2 c3).elim
def vkE(J:Xa)(pw pi:Option Go.Addr)(x:Xj)(l:List Int)(b:List Bool):Env:=Iw [J.last.ii,[J.op.key,J.op.val,J.op.Aj,J.size,J.wanted,J.Ai,J.child],J.base.ii,J.node.ii,J.sentinel.ii,J.answer.ii,J.count.ii,x.ii,l] [J.bb,b] [.pointer pw,.pointer pi] (AI rfl)
def vkS(p k:Int)(a:FV):St:=⟨[],[(1,186,(ct [[.int (.lit p)],vs 0 8,[.bool (.var 0)],vs 8 4,[.bool (.var 1)],vs 12 4,[.int (.lit k)],vs 16 11,[.bool (.var 2)],vs 27 4,[.bool (.var 3)],vs 31 4,[.bool (.var 4),.AQ 0,.AQ 1],vs 35 6,[.bool (.var 5)]]))],a,10,0⟩
def vkA(b:BT):List SV:=[.c (.ptr 1 0),.agg ((ct [vs 41 4,[.bool (.var 6),.bool b]]))]
def vkR(i j:Nat):Xu:=⟨false,182,0,[],[.c (.int (.var i))],.c (.int (.var j)),[]⟩
def vkO:Xu:=⟨false,190,0,[],[.c (.int (.var 16))],.c (.int (.var 45)),[]⟩
def vkW:List Xu:=[vkO,vkR 20 46,vkR 46 47,vkR 47 48]
def vkL(J:Xa):List Int:=[UL J.op.key,E4 J.wanted,E4 (E4 J.wanted),E4 (E4 (E4 J.wanted))]
section
variable{J:Xa}{pw pi:Option Go.Addr}{x:Xj}{b:List Bool}
theorem VW(hw0:0<=J.wanted)(hw1:J.wanted<8)(hk0:0<=J.op.key)(hk1:J.op.key<256):El Tryz.prog (vkE J pw pi x (vkL J) b) vkW:=
 Yr (Gk Tryz.func190 λw=>QM _ w hk0 hk1) (Yr (Gk Tryz.func182 λw=>NA _ w hw0 hw1) (Yr (Gk Tryz.func182 λw=>NA _ w (FY hw0 hw1).1 (FY hw0 hw1).2) (Yr (Gk Tryz.func182 λw=>NA _ w (FY ((FY hw0 hw1).1) ((FY hw0 hw1).2)).1 (FY ((FY hw0 hw1).1) ((FY hw0 hw1).2)).2) Xt)))
end
section
variable(k:Int)(hk:k=6\/k=7\/k=8)(J:Xa)(pw pi:Option Go.Addr)(x:Xj)(g1:Nat)(w:World)
abbrev wT(p:Int):Prop:=Bk w g1 186 (({J with pc:=p,op:={J.op with kind:=k}}:Xa).l (.pointer pw) (.pointer pi)).toArray
abbrev vkC(x:Xj)(r:Xa × Xf):Prop:=Calls Tryz.prog 176 #[.pointer (some ⟨g1,0,none⟩),.agg x.l.toArray] w λen w'=>R6 pw pi r.1 (Yn r.2) J.inner g1 w en w'
variable(hw0:0<=J.wanted)(hw1:J.wanted<8)(hk0:0<=J.op.key)(hk1:J.op.key<256)
include hk hw0 hw1 hk0 hk1
theorem sF(h1:wT k J pw pi g1 w 2)(hway:PR J.wanted J.Ai)(hsl:(x.word.sl==0)=false):vkC J pw pi g1 w x (Xa.EO ({J with pc:=2,op:={J.op with kind:=k}}:Xa) x):=by
 refine poV (e:=vkE J pw pi x (vkL J) x.bb) (S:=vkW) (n:=120) (st:=vkS 2 k [(.eq (.var 41) (.lit 0),false)]) (args:=vkA (.var 7)) (r:=(Xa.EO ({J with pc:=2,op:={J.op with kind:=k}}:Xa) x)) (V:=λr=>Yn r.2) (pw:=pw) (pi:=pi) (I0:=J.inner) mixed (VW hw0 hw1 hk0 hk1) rfl (Ca hsl Ci) (Yu h1 Zk) rfl ?_;rcases hk with rfl|rfl|rfl;all_goals
  exact vS7
theorem sE(h1:wT k J pw pi g1 w 3):vkC J pw pi g1 w ({x with ok:=false}:Xj) (Xa.Ak ({J with pc:=3,op:={J.op with kind:=k}}:Xa) ({x with ok:=false}:Xj)):=by
 refine poV (e:=vkE J pw pi x [UL J.op.key] [x.word.mark]) (S:=[vkO]) (n:=120) (st:=vkS 3 k []) (args:=vkA (.lit false)) (r:=(Xa.Ak ({J with pc:=3,op:={J.op with kind:=k}}:Xa) ({x with ok:=false}:Xj))) (V:=λr=>Yn r.2) (pw:=pw) (pi:=pi) (I0:=J.inner) mixed (Yr (Gk Tryz.func190 λw=>QM _ w hk0 hk1) Xt) rfl Ci (Yu h1 Zk) rfl ?_;rcases hk with rfl|rfl|rfl;all_goals
  exact vS7
theorem sD(h1:wT k J pw pi g1 w 9)(hway:PR J.wanted J.child)(hsl:(x.word.sl==0)=false):vkC J pw pi g1 w x (Xa.Ak ({J with pc:=9,op:={J.op with kind:=k}}:Xa) x):=by
 refine poV (e:=vkE J pw pi x (vkL J) x.bb) (S:=vkW) (n:=120) (st:=vkS 9 k [(.eq (.var 41) (.lit 0),false)]) (args:=vkA (.var 7)) (r:=(Xa.Ak ({J with pc:=9,op:={J.op with kind:=k}}:Xa) x)) (V:=λr=>Yn r.2) (pw:=pw) (pi:=pi) (I0:=J.inner) mixed (VW hw0 hw1 hk0 hk1) rfl (Ca hsl Ci) (Yu h1 Zk) rfl ?_;rcases hk with rfl|rfl|rfl;all_goals
  exact vS7
theorem jW(h1:wT k J pw pi g1 w 10)(hway:PR J.wanted J.child):vkC J pw pi g1 w x (Xa.Ak ({J with pc:=10,op:={J.op with kind:=k}}:Xa) x):=by
 refine poV (e:=vkE J pw pi x (vkL J) x.bb) (S:=vkW) (n:=120) (st:=vkS 10 k []) (args:=vkA (.var 7)) (r:=(Xa.Ak ({J with pc:=10,op:={J.op with kind:=k}}:Xa) x)) (V:=λr=>Yn r.2) (pw:=pw) (pi:=pi) (I0:=J.inner) mixed (VW hw0 hw1 hk0 hk1) rfl Ci (Yu h1 Zk) rfl ?_;rcases hk with rfl|rfl|rfl;all_goals
  exact vS7
end
def bU(V:DK)(pr:Go.Addr)(jv:Value)(ph:Go.Addr)(a:Bo)(x:Xj)(bq:Bool)(V2:DK)(hjv:jv.oneCell'=true):Env:=Iw [[V.st,V.eng,V.Ae],V.call.ii,V.op.ii,V.BR.ii,a.ii,x.ii,[V2.st,V2.eng,V2.Ae],V2.call.ii,V2.op.ii,V2.BR.ii] [V.call.bb,a.bb,x.bb,[bq],V2.call.bb] [.pointer (some pr),jv,.pointer (some ph)] (by intro u hu;simp at hu;rcases hu with rfl|rfl|rfl<;>first|rfl|assumption)
def jS:St:=⟨[],[(1,126,(ct [[.int (.var 0),.int (.var 1),.AQ 0],vs 2 9,[.bool (.var 0)],vs 11 4,[.bool (.var 1)],vs 15 8,[.AQ 1,.int (.var 23),.int (.var 24)]]))],[(.eq (.var 2) (.lit 0),false),(.nil 0,false),(.nil 2,false)],10,0⟩
def VS:List SV:=[.c (.ptr 1 0),.c (.AQ 2)]
def sB:List Xu:=[⟨false,57,1,[],[.c (.AQ 0)],.Jj [(true,(ct [vs 25 8,[.bool (.var 2)],vs 33 4,[.bool (.var 3)]])),(false,[.bool (.lit true)])],[]⟩,⟨false,42,101,[],[.c (.AQ 2),.agg ((ct [vs 25 8,[.bool (.var 2)],vs 33 4,[.bool (.var 3)]]))],.Jj [(true,(ct [vs 37 4,[.bool (.var 4),.bool (.var 5)]])),(false,[.lit .nilIface])],[]⟩,⟨false,58,202,[],[.c (.AQ 0),.agg ((ct [vs 37 4,[.bool (.var 4),.bool (.var 5)]]))],.c (.lit .nilIface),[]⟩,⟨false,72,203,[],[.c (.AQ 0)],.c (.bool (.var 6)),[]⟩,⟨true,56,126,((ct [[.int (.var 0),.int (.var 1),.AQ 0],vs 2 9,[.bool (.var 0)],vs 11 4,[.bool (.var 1)],vs 15 8,[.AQ 1,.int (.var 23),.int (.var 24)]])),[],.Jj [],((ct [[.int (.var 41),.int (.var 42),.AQ 0],vs 43 9,[.bool (.var 7)],vs 52 4,[.bool (.var 8)],vs 56 8,[.AQ 1,.int (.var 64),.int (.var 65)]]))++[.AQ 20303]⟩]
theorem bV{Φ:GL}{F:Nat->Prop}(V:DK)(pr:Go.Addr)(jv:Value)(ph:Go.Addr)(a:Bo)(x:Xj)(bq:Bool)(V2:DK)(g1:Nat)(w:World)(h1:Bk w g1 126 (V.l (.pointer (some pr)) (jv)).toArray)(hjv:jv.oneCell'=true)(hd:(V.Ae==0)=false)(H0:∀w F,Φ.P 0 w F->(∀b,F b->b<w.heap.size)->Calls Tryz.prog 57 #[.pointer (some pr)] w λen w'=>en=.returned (.tuple #[.agg a.l.toArray,.bool true])/\ES Φ 0 F none w w')(H1:∀w F,Φ.P 0 w F->(∀b,F b->b<w.heap.size)->Calls Tryz.prog 42 #[.pointer (some ph),.agg a.l.toArray] w λen w'=>en=.returned (.tuple #[.agg x.l.toArray,.nilIface])/\ES Φ 1 F none w w')(H2:∀w F,Φ.P 1 w F->(∀b,F b->b<w.heap.size)->Calls Tryz.prog 58 #[.pointer (some pr),.agg x.l.toArray] w λen w'=>en=.returned (.nilIface)/\ES Φ 2 F none w w')(H3:∀w F,Φ.P 2 w F->(∀b,F b->b<w.heap.size)->Calls Tryz.prog 72 #[.pointer (some pr)] w λen w'=>en=.returned (.bool bq)/\ES Φ 2 F none w w')(G0:∀g w F,Bk w g 126 (V.l (.pointer (some pr)) jv).toArray->Φ.P 2 w F->¬F g->(∀b,F b->b<w.heap.size)->Calls Tryz.prog 56 #[.pointer (some ⟨g,2,none⟩)] w λen w'=>en=.returned (.tuple #[])/\Bk w' g 126 (V2.l (.pointer (some pr)) jv).toArray/\ES Φ 3 F (some g) w w')(f1:Φ.P 0 w F)(f2:¬F g1)(f3:∀b,F b->b<w.heap.size):Calls Tryz.prog 37 #[.pointer (some ⟨g1,0,none⟩),.pointer (some ph)] w λen w'=>Ky Φ 3 F g1 126 (V2.l (.pointer (some pr)) jv).toArray (.tuple #[.agg ((bif V2.Ae==0 then(⟨true,V2.BR,Hi V bq a⟩:Hg) else⟨false,.zero,Hi V bq a⟩)).l.toArray,.nilIface]) w en w':=by
 refine pE (bU V pr jv ph a x bq V2 hjv) sB 200 jS VS ((bif V2.Ae==0 then(⟨true,V2.BR,Hi V bq a⟩:Hg) else⟨false,.zero,Hi V bq a⟩)) (λr=>(.tuple #[.agg r.l.toArray,.nilIface],3,(V2.l (.pointer (some pr)) jv).toArray)) (Yc (AP 0 0 λhq w F hP hb=>Yw Tryz.func57 (H0 w F hP hb)) (Yc (AP 0 1 λhq w F hP hb=>Yw Tryz.func42 (H1 w F hP hb)) (Yc (AP 1 2 λhq w F hP hb=>Yw Tryz.func58 (H2 w F hP hb)) (Yc (AP 2 2 λhq w F hP hb=>Yw Tryz.func72 (H3 w F hP hb)) (Yc (tM 20303 2 3 2 Tryz.func56 G0) Gr))))) (Ca hd (Ca rfl (Ca rfl Ci))) h1 f1 f2 f3 ?_;refine D9 (show _=ZQ V2 (Hi V bq a) from rfl) ?_;unfold Hi;simp only[dJ];exact vS5
end Go.Proofs.YtaipogljokblkaaGreatDoor
