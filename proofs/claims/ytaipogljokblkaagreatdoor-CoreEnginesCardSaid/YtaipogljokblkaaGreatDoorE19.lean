/- Core: VB0, CWalk, VB1, VB2, Rfn, CLitN, CVa, CVc, Rfx, CVd, Rfv, Rfw, CStep. -/
import Derived.Test.YtaipogljokblkaaGreatDoorE11
import Derived.Test.YtaipogljokblkaaGreatDoorE01
import Derived.Test.YtaipogljokblkaaGreatDoorE06
import Derived.Test.YtaipogljokblkaaGreatDoorE09
import Derived.Test.YtaipogljokblkaaGreatDoorE07
import Derived.Test.YtaipogljokblkaaGreatDoorE12
set_option linter.all false
set_option maxRecDepth 100000
set_option maxHeartbeats 8000000
namespace Go.Proofs.YtaipogljokblkaaGreatDoor
open Go Go.RowKit
set_option linter.unusedSimpArgs false
set_option linter.unusedVariables false
set_option linter.unusedSectionVars false
theorem MI{b:Int}(h:0<=b/\b<8):wr (8+b)=8+b:=zU _ Zo Zo
theorem SE{b:Int}(h:0<=b/\b<8):decide (wr (8+b)<0)=false:=decide_eq_false (by rw[MI h];omega)
theorem SD{b:Int}(h:0<=b/\b<8):decide (24<=wr (8+b))=false:=decide_eq_false (by rw[MI h];omega)
theorem SB{b:Int}(h:0<=b/\b<8):decide (0<=wr (8+b))=true:=decide_eq_true (by rw[MI h];omega)
theorem SA{b:Int}(h:0<=b/\b<8):decide (wr (8+b)<24)=true:=decide_eq_true (by rw[MI h];omega)
theorem DL{k:Int}{z:Int}(h0:0<=k)(h1:1<=z)(h2:z<=8):0<=Int.tmod k z/\Int.tmod k z<8:=by
 have a:=Int.tmod_nonneg z h0;have b:=Int.tmod_lt_of_pos k (show 0<z by omega);omega
theorem FL{b:Int}(h0:0<=b)(h1:b<8):0<=Eh b/\Eh b<8:=by
 have h:b=0\/b=1\/b=2\/b=3\/b=4\/b=5\/b=6\/b=7:=Zo;rcases h with rfl|rfl|rfl|rfl|rfl|rfl|rfl|rfl<;>decide
def iN(W:Xm)(x:Xj):Env:=Il [W.ii,x.ii] [W.bb,x.bb]
def rI:St:=⟨[],[(1,261,(ct [vs 0 9,[.bool (.var 0)],vs 9 4,[.bool (.var 1)],vs 13 15,[.bool (.var 2)],vs 28 4,[.bool (.var 3),.int (.var 32),.bool (.var 4)]]))],[],10,0⟩
def aG:List SV:=[.c (.ptr 1 0),.agg ((ct [vs 33 4,[.bool (.var 5),.bool (.var 6)]]))]
theorem Hq(W:Xm)(x:Xj)(g1:Nat)(w:World)(h1:Bk w g1 261 W.l.toArray):Calls Tryz.prog 162 #[.pointer (some ⟨g1,0,none⟩),.agg x.l.toArray] w λen w'=>en=.returned (Ip (W.step x).2)/\Bk w' g1 261 ((W.step x).1.l).toArray/\Ak [g1] w w':=by
 refine p1 (iN W x) [] 60 rI aG (W.step x) (λr=>(Ip r.2,(r.1.l).toArray)) Xu BY h1 ?_;exact vS1
end Go.Proofs.YtaipogljokblkaaGreatDoor
namespace Go.Proofs.YtaipogljokblkaaGreatDoor
open Go Go.RowKit
def QG(pw pi:Option Go.Addr)(J':Xa)(V:Value)(I0:Option Xh)(g1:Nat)(w:World)(en:Ending)(w':World):Prop:=
 en = .returned V∧Ak [g1] w w'∧((J'.inner = I0∧Bk w' g1 186 (J'.l (.pointer pw) (.pointer pi)).toArray) ∨
  ∃gi F1 I,J'.inner=some I/\Bk w' g1 186 (J'.l (.pointer pw) (.pointer (some ⟨gi,0,none⟩))).toArray/\JX w' gi I (gi::F1)/\∀b∈gi::F1,w.heap.size<=b)
section
variable{e:Env}{gs:List Nat}{hp hp':Yh}{w w':World}{v:SV}{en:Ending}{k':Nat->Nat}{V:Value}{g:Nat}{c1 c2 c3:List SC}{ls:List Nat}{pw pi:Option Go.Addr}{J':Xa}{I0:Option Xh}
theorem xO(h:GZ e (Dk gs) hp w v hp' en w' k')(l1:Fa 1 (Yg hp)=true)(hg:Dk gs 1=g)(m1:(1,186,c1)∈hp')(ec:Yj e k' c1=(J'.l (.pointer pw) (.pointer pi)).toArray)(hv:v.den e k'=V)
  (hch:Ic hp' hp=ls)(hF:∀l∈ls,Dk gs l∈[g])(hi:J'.inner=I0):QG pw pi J' V I0 g w en w':=
 ⟨h.ret.trans (by rw[hv]),FQ h.BV hch hF,Or.inl ⟨hi,Hm h m1 ((h.ext 1 (Bw.1 l1)).trans hg) ec⟩⟩
theorem xP(h:GZ e (Dk gs) hp w v hp' en w' k')(l1:Fa 1 (Yg hp)=true)(hg:Dk gs 1=g)(m1:(1,186,c1)∈hp'){l2:Nat}(m2:(l2,206,c2)∈hp')(n2:Fa l2 (Yg hp)=false){I:Xh}
  (ec:Yj e k' c1=(J'.l (.pointer pw) (.pointer (some ⟨k' l2,0,none⟩))).toArray)(hv:v.den e k'=V)(hch:Ic hp' hp=ls)(hF:∀l∈ls,Dk gs l∈[g])(hi:J'.inner=some I)
  (e2:Yj e k' c2=(I.l (.pointer none)).toArray)(hw:I.walk=none):QG pw pi J' V I0 g w en w':=by
 have s2:w.heap.size<=k' l2:=(h.new _ m2).resolve_left λhx=>absurd (Bw.2 hx) (by rw[n2];simp)
 refine⟨h.ret.trans (by rw[hv]),FQ h.BV hch hF,Or.inr ⟨k' l2,[],I,hi,Hm h m1 ((h.ext 1 (Bw.1 l1)).trans hg) ec,⟨⟨.pointer none,[],rfl,Hm h m2 rfl e2,?_⟩,by simp⟩,λb hb=>?_⟩⟩
 ·rw[hw];exact⟨rfl,rfl⟩
 ·rw[List.mem_singleton.1 hb];exact s2
theorem rN(h:GZ e (Dk gs) hp w v hp' en w' k')(l1:Fa 1 (Yg hp)=true)(hg:Dk gs 1=g)(m1:(1,186,c1)∈hp'){l2:Nat}(m2:(l2,206,c2)∈hp')(n2:Fa l2 (Yg hp)=false){I:Xh}
  {l3:Nat}(m3:(l3,261,c3)∈hp')(n3:Fa l3 (Yg hp)=false)(hne:(l2==l3)=false){W:Xm}
  (ec:Yj e k' c1=(J'.l (.pointer pw) (.pointer (some ⟨k' l2,0,none⟩))).toArray)(hv:v.den e k'=V)(hch:Ic hp' hp=ls)(hF:∀l∈ls,Dk gs l∈[g])(hi:J'.inner=some I)
  (e2:Yj e k' c2=(I.l (.pointer (some ⟨k' l3,0,none⟩))).toArray)(hw:I.walk=some W)(e3:Yj e k' c3=W.l.toArray):QG pw pi J' V I0 g w en w':=by
 have s2:w.heap.size<=k' l2:=(h.new _ m2).resolve_left λhx=>absurd (Bw.2 hx) (by rw[n2];simp)
 have s3:w.heap.size<=k' l3:=(h.new _ m3).resolve_left λhx=>absurd (Bw.2 hx) (by rw[n3];simp)
 have hn:¬(k' l2=k' l3):=λhe=>by
  have:=h.inj _ m2 _ m3 he;simp only at this;rw[this] at hne;simp at hne
 refine⟨h.ret.trans (by rw[hv]),FQ h.BV hch hF,Or.inr ⟨k' l2,[k' l3],I,hi,Hm h m1 ((h.ext 1 (Bw.1 l1)).trans hg) ec,⟨⟨.pointer (some ⟨k' l3,0,none⟩),[k' l3],rfl,Hm h m2 rfl e2,?_⟩,by simp[hn]⟩,λb hb=>?_⟩⟩
 ·rw[hw];exact⟨k' l3,rfl,rfl,Hm h m3 rfl e3⟩
 ·rcases List.mem_cons.1 hb with rfl|hb
  ·exact s2
  ·rw[List.mem_singleton.1 hb];exact s3
end
def OM(wanted Am:Int):Prop:=Am=wanted\/Am=Eh wanted\/Am=Eh (Eh wanted)\/Am=Eh (Eh (Eh wanted))
theorem S0{a b:Int}(h:OM a b)(c0:(b==a)=false)(c1:(Eh a==b)=false)(c2:(Eh (Eh a)==b)=false)(c3:(Eh (Eh (Eh a))==b)=false):False:=by
 simp only[beq_eq_false_iff_ne,ne_eq] at c0 c1 c2 c3;rcases h with h|h|h|h
 ·exact c0 h
 ·exact c1 h.symm
 ·exact c2 h.symm
 ·exact c3 h.symm
theorem rD{w:World}{k:Nat->Nat}{e:Env}{l:Nat}{T:TypeId}{cs:List SC}(h:Bk w (k l) T (Yj e k cs)):∀x∈([(l,T,cs)]:Yh),Bk w (k x.1) x.2.1 (Yj e k x.2.2):=λx hx=>by
 rw[List.mem_singleton.1 hx];exact h
theorem bl2{w:World}{k:Nat->Nat}{e:Env}{l l':Nat}{T T':TypeId}{cs cs':List SC}(h:Bk w (k l) T (Yj e k cs))(h':Bk w (k l') T' (Yj e k cs')):∀x∈([(l,T,cs),(l',T',cs')]:Yh),Bk w (k x.1) x.2.1 (Yj e k x.2.2):=λx hx=>by
 rcases List.mem_cons.1 hx with rfl|hx
 ·exact h
 ·rw[List.mem_singleton.1 hx];exact h'
theorem S5(x:Xj):(DH none x).2.2=false:=rfl
theorem S6:JY none=false:=rfl
theorem Qy(x:Xj):(AH none x).2.2=false:=rfl
theorem S7(x:Xj):JY (DH none x).1=false:=rfl
theorem Q3(x:Xj):((DN (AH none x).1).sl==0)=true:=rfl
theorem JC{w:World}{o:Option Xm}(h:(o.map λW=>W.l.toArray)=none):Dh w (.pointer none) o []:=by
 cases o with
 |none=>exact⟨rfl,rfl⟩
 |some W=>cases h
theorem JB{w:World}{g:Nat}{o:Option Xm}{cs:Array Value}(h:(o.map λW=>W.l.toArray)=some cs)(hb:Bk w g 261 cs):Dh w (.pointer (some ⟨g,0,none⟩)) o [g]:=by
 cases o with
 |none=>cases h
 |some W=>cases h;exact⟨g,rfl,rfl,hb⟩
theorem FC{w:World}{o:Option Xd}(h:(o.map λW=>W.l.toArray)=none):BI w (.pointer none) o []:=by
 cases o with
 |none=>exact⟨rfl,rfl⟩
 |some W=>cases h
theorem FB{w:World}{g:Nat}{o:Option Xd}{cs:Array Value}(h:(o.map λW=>W.l.toArray)=some cs)(hb:Bk w g 284 cs):BI w (.pointer (some ⟨g,0,none⟩)) o [g]:=by
 cases o with
 |none=>cases h
 |some W=>cases h;exact⟨g,rfl,rfl,hb⟩
def nS(J:Xh)(x:Xj):Env:=Il [J.ii,x.ii,(Xm.step (Xm.new J.start J.key) x).1.ii,(Xm.step (Xm.new J.start J.key) x).2.1.ii] [J.bb,x.bb,(Xm.step (Xm.new J.start J.key) x).1.bb,(Xm.step (Xm.new J.start J.key) x).2.1.bb,[(Xm.step (Xm.new J.start J.key) x).2.2]]
def uL:St:=⟨[],[(1,206,(ct [vs 0 9,[.bool (.var 0)],vs 9 4,[.bool (.var 1)],vs 13 12,[.lit (.pointer none)],vs 25 4,[.bool (.var 2),.int (.var 29)]]))],[],10,0⟩
def fI:List SV:=[.c (.ptr 1 0),.agg ((ct [vs 30 4,[.bool (.var 3),.bool (.var 4)]]))]
def zM:List Xv:=[⟨true,162,261,(ct [zs 9,[.bool (.lit false)],zs 4,[.bool (.lit false)],zs 4,vs 17 4,vs 17 3,zs 4,[.bool (.lit false)],zs 4,[.bool (.lit false),.int (.lit 0),.bool (.lit false)]]),[.agg ((ct [vs 30 4,[.bool (.var 3),.bool (.var 4)]]))],.IU [(true,(ct [vs 67 8,[.bool (.var 10)],vs 75 4,[.bool (.var 11)],vs 79 4])),(false,[.bool (.var 12)])],(ct [vs 34 9,[.bool (.var 5)],vs 43 4,[.bool (.var 6)],vs 47 15,[.bool (.var 7)],vs 62 4,[.bool (.var 8),.int (.var 66),.bool (.var 9)]])⟩]
theorem nT(J:Xh)(x:Xj)(g1:Nat)(w:World)(h1:Bk w g1 206 (({J with walk:=none}:Xh).l (.pointer none)).toArray)(hnd:[g1].Nodup):Calls Tryz.prog 154 #[.pointer (some ⟨g1,0,none⟩),.agg x.l.toArray] w λen w'=>∃F',en=.returned (Yk (Xh.next {J with walk:=none} x).2)/\JX w' g1 (Xh.next {J with walk:=none} x).1 F'/\(∀b∈F',b∈[g1]\/w.heap.size<=b)/\Ak [g1] w w':=by
 refine p2 (nS J x) zM 60 uL fI 27 206 261 (Xh.next {J with walk:=none} x) (λr=>Yk r.2) (λr q=>r.1.l q) (λr=>r.1.walk.map λW=>W.l.toArray) (λr w q F1=>Dh w q r.1.walk F1) (Ys (BW Tryz.func162 λg w hB=>Hq (Xm.new J.start J.key) x g w hB) Xu) BY (rD (Yw h1 Zk)) hnd (λ_ _ h=>JC h) (λ_ _ _ _ h hb=>JB h hb) ?_;exact vS10
def kB(J:Xa)(pw:Option Go.Addr)(pi:Option Go.Addr)(x:Xj):Env:=Ik [J.last.ii,J.op.ii,[J.size,J.wanted,J.Am,J.child],J.base.ii,J.node.ii,J.sentinel.ii,J.answer.ii,J.count.ii,x.ii] [J.bb,x.bb] [.pointer pw,.pointer pi] (AE rfl)
def sF:St:=⟨[],[(1,186,(ct [[.int (.lit 0)],vs 0 8,[.bool (.var 0)],vs 8 4,[.bool (.var 1)],vs 12 16,[.bool (.var 2)],vs 28 4,[.bool (.var 3)],vs 32 4,[.bool (.var 4),.AN 0,.AN 1],vs 36 6,[.bool (.var 5)]]))],[],10,0⟩
def bV:List SV:=[.c (.ptr 1 0),.agg ((ct [vs 42 4,[.bool (.var 6),.bool (.var 7)]]))]
theorem kC(J:Xa)(pw:Option Go.Addr)(pi:Option Go.Addr)(x:Xj)(g1:Nat)(w:World)(h1:Bk w g1 186 (({J with pc:=0}:Xa).l (.pointer pw) (.pointer pi)).toArray):Calls Tryz.prog 176 #[.pointer (some ⟨g1,0,none⟩),.agg x.l.toArray] w λen w'=>en=.returned (Yk (Xa.next ({J with pc:=0}:Xa) x).2)/\Bk w' g1 186 ((Xa.next ({J with pc:=0}:Xa) x).1.l (.pointer pw) (.pointer pi)).toArray/\Ak [g1] w w':=by
 refine p1 (kB J pw pi x) [] 80 sF bV (Xa.next ({J with pc:=0}:Xa) x) (λr=>(Yk r.2,(r.1.l (.pointer pw) (.pointer pi)).toArray)) Xu BY h1 ?_;exact vS1
def V0(J:Xa)(pw:Option Go.Addr)(pi:Option Go.Addr)(x:Xj):Env:=Ik [J.last.ii,J.op.ii,[J.size,J.wanted,J.Am,J.child],J.base.ii,J.node.ii,J.sentinel.ii,J.answer.ii,J.count.ii,[x.word.sl,x.word.gn,x.word.tg]] [J.bb,x.bb] [.pointer pw,.pointer pi] (AE rfl)
def bJ:St:=⟨[],[(1,186,(ct [[.int (.lit 1)],vs 0 8,[.bool (.var 0)],vs 8 4,[.bool (.var 1)],vs 12 16,[.bool (.var 2)],vs 28 4,[.bool (.var 3)],vs 32 4,[.bool (.var 4),.AN 0,.AN 1],vs 36 6,[.bool (.var 5)]]))],[(.lt (.add (.lit 8) (.rem (.var 17) 2)) (.lit 0),false),(.le (.lit 24) (.add (.lit 8) (.rem (.var 17) 2)),false),(.le (.lit 0) (.add (.lit 8) (.rem (.var 17) 2)),true),(.lt (.add (.lit 8) (.rem (.var 17) 2)) (.lit 24),true)],10,0⟩
def SI:List SV:=[.c (.ptr 1 0),.agg ((ct [vs 42 3,[.int (.lit 2),.bool (.var 6),.bool (.var 7)]]))]
theorem V3(J:Xa)(pw:Option Go.Addr)(pi:Option Go.Addr)(x:Xj)(g1:Nat)(w:World)(h1:Bk w g1 186 (({J with pc:=1}:Xa).l (.pointer pw) (.pointer pi)).toArray)(hk0:0<=J.op.key)(hk1:J.op.key<256):Calls Tryz.prog 176 #[.pointer (some ⟨g1,0,none⟩),.agg ({x with word:={x.word with nm:=2}}:Xj).l.toArray] w λen w'=>en=.returned (Yk (Xa.Ck ({J with pc:=1}:Xa) 2).2)/\Bk w' g1 186 ((Xa.Ck ({J with pc:=1}:Xa) 2).1.l (.pointer pw) (.pointer pi)).toArray/\Ak [g1] w w':=by
 refine p1 (V0 J pw pi x) [] 80 bJ SI (Xa.Ck ({J with pc:=1}:Xa) 2) (λr=>(Yk r.2,(r.1.l (.pointer pw) (.pointer pi)).toArray)) Xu (BO (SE (b:=(Int.tmod J.op.key 2)) (DL hk0 Zd Zd)) (BO (SD (b:=(Int.tmod J.op.key 2)) (DL hk0 Zd Zd)) (BO (SB (b:=(Int.tmod J.op.key 2)) (DL hk0 Zd Zd)) (BO (SA (b:=(Int.tmod J.op.key 2)) (DL hk0 Zd Zd)) BY)))) h1 ?_;exact vS1
def Vy(J:Xa)(pw:Option Go.Addr)(pi:Option Go.Addr)(x:Xj):Env:=Ik [J.last.ii,J.op.ii,[J.size,J.wanted,J.Am,J.child],J.base.ii,J.node.ii,J.sentinel.ii,J.answer.ii,J.count.ii,[x.word.sl,x.word.gn,x.word.tg]] [J.bb,x.bb] [.pointer pw,.pointer pi] (AE rfl)
def bI:St:=⟨[],[(1,186,(ct [[.int (.lit 1)],vs 0 8,[.bool (.var 0)],vs 8 4,[.bool (.var 1)],vs 12 16,[.bool (.var 2)],vs 28 4,[.bool (.var 3)],vs 32 4,[.bool (.var 4),.AN 0,.AN 1],vs 36 6,[.bool (.var 5)]]))],[(.lt (.add (.lit 8) (.rem (.var 17) 4)) (.lit 0),false),(.le (.lit 24) (.add (.lit 8) (.rem (.var 17) 4)),false),(.le (.lit 0) (.add (.lit 8) (.rem (.var 17) 4)),true),(.lt (.add (.lit 8) (.rem (.var 17) 4)) (.lit 24),true)],10,0⟩
def SH:List SV:=[.c (.ptr 1 0),.agg ((ct [vs 42 3,[.int (.lit 4),.bool (.var 6),.bool (.var 7)]]))]
theorem Vz(J:Xa)(pw:Option Go.Addr)(pi:Option Go.Addr)(x:Xj)(g1:Nat)(w:World)(h1:Bk w g1 186 (({J with pc:=1}:Xa).l (.pointer pw) (.pointer pi)).toArray)(hk0:0<=J.op.key)(hk1:J.op.key<256):Calls Tryz.prog 176 #[.pointer (some ⟨g1,0,none⟩),.agg ({x with word:={x.word with nm:=4}}:Xj).l.toArray] w λen w'=>en=.returned (Yk (Xa.Ck ({J with pc:=1}:Xa) 4).2)/\Bk w' g1 186 ((Xa.Ck ({J with pc:=1}:Xa) 4).1.l (.pointer pw) (.pointer pi)).toArray/\Ak [g1] w w':=by
 refine p1 (Vy J pw pi x) [] 80 bI SH (Xa.Ck ({J with pc:=1}:Xa) 4) (λr=>(Yk r.2,(r.1.l (.pointer pw) (.pointer pi)).toArray)) Xu (BO (SE (b:=(Int.tmod J.op.key 4)) (DL hk0 Zd Zd)) (BO (SD (b:=(Int.tmod J.op.key 4)) (DL hk0 Zd Zd)) (BO (SB (b:=(Int.tmod J.op.key 4)) (DL hk0 Zd Zd)) (BO (SA (b:=(Int.tmod J.op.key 4)) (DL hk0 Zd Zd)) BY)))) h1 ?_;exact vS1
def Vv(J:Xa)(pw:Option Go.Addr)(pi:Option Go.Addr)(x:Xj):Env:=Ik [J.last.ii,J.op.ii,[J.size,J.wanted,J.Am,J.child],J.base.ii,J.node.ii,J.sentinel.ii,J.answer.ii,J.count.ii,[x.word.sl,x.word.gn,x.word.tg]] [J.bb,x.bb] [.pointer pw,.pointer pi] (AE rfl)
def bH:St:=⟨[],[(1,186,(ct [[.int (.lit 1)],vs 0 8,[.bool (.var 0)],vs 8 4,[.bool (.var 1)],vs 12 16,[.bool (.var 2)],vs 28 4,[.bool (.var 3)],vs 32 4,[.bool (.var 4),.AN 0,.AN 1],vs 36 6,[.bool (.var 5)]]))],[(.lt (.add (.lit 8) (.rem (.var 17) 8)) (.lit 0),false),(.le (.lit 24) (.add (.lit 8) (.rem (.var 17) 8)),false),(.le (.lit 0) (.add (.lit 8) (.rem (.var 17) 8)),true),(.lt (.add (.lit 8) (.rem (.var 17) 8)) (.lit 24),true)],10,0⟩
def SG:List SV:=[.c (.ptr 1 0),.agg ((ct [vs 42 3,[.int (.lit 8),.bool (.var 6),.bool (.var 7)]]))]
theorem Vx(J:Xa)(pw:Option Go.Addr)(pi:Option Go.Addr)(x:Xj)(g1:Nat)(w:World)(h1:Bk w g1 186 (({J with pc:=1}:Xa).l (.pointer pw) (.pointer pi)).toArray)(hk0:0<=J.op.key)(hk1:J.op.key<256):Calls Tryz.prog 176 #[.pointer (some ⟨g1,0,none⟩),.agg ({x with word:={x.word with nm:=8}}:Xj).l.toArray] w λen w'=>en=.returned (Yk (Xa.Ck ({J with pc:=1}:Xa) 8).2)/\Bk w' g1 186 ((Xa.Ck ({J with pc:=1}:Xa) 8).1.l (.pointer pw) (.pointer pi)).toArray/\Ak [g1] w w':=by
 refine p1 (Vv J pw pi x) [] 80 bH SG (Xa.Ck ({J with pc:=1}:Xa) 8) (λr=>(Yk r.2,(r.1.l (.pointer pw) (.pointer pi)).toArray)) Xu (BO (SE (b:=(Int.tmod J.op.key 8)) (DL hk0 Zd Zd)) (BO (SD (b:=(Int.tmod J.op.key 8)) (DL hk0 Zd Zd)) (BO (SB (b:=(Int.tmod J.op.key 8)) (DL hk0 Zd Zd)) (BO (SA (b:=(Int.tmod J.op.key 8)) (DL hk0 Zd Zd)) BY)))) h1 ?_;exact vS1
def V4(J:Xa)(pw:Option Go.Addr)(pi:Option Go.Addr)(x:Xj):Env:=Ik [J.last.ii,J.op.ii,[J.size,J.wanted,J.Am,J.child],J.base.ii,J.node.ii,J.sentinel.ii,J.answer.ii,J.count.ii,x.ii] [J.bb,x.bb] [.pointer pw,.pointer pi] (AE rfl)
def bK:St:=⟨[],[(1,186,(ct [[.int (.lit 1)],vs 0 8,[.bool (.var 0)],vs 8 4,[.bool (.var 1)],vs 12 16,[.bool (.var 2)],vs 28 4,[.bool (.var 3)],vs 32 4,[.bool (.var 4),.AN 0,.AN 1],vs 36 6,[.bool (.var 5)]]))],[(.lt (.add (.lit 8) (.rem (.var 17) 1)) (.lit 0),false),(.le (.lit 24) (.add (.lit 8) (.rem (.var 17) 1)),false),(.le (.lit 0) (.add (.lit 8) (.rem (.var 17) 1)),true),(.lt (.add (.lit 8) (.rem (.var 17) 1)) (.lit 24),true),(.eq (.var 45) (.lit 2),false),(.eq (.var 45) (.lit 4),false),(.eq (.var 45) (.lit 8),false)],10,0⟩
def SJ:List SV:=[.c (.ptr 1 0),.agg ((ct [vs 42 4,[.bool (.var 6),.bool (.var 7)]]))]
theorem V5(J:Xa)(pw:Option Go.Addr)(pi:Option Go.Addr)(x:Xj)(g1:Nat)(w:World)(h1:Bk w g1 186 (({J with pc:=1}:Xa).l (.pointer pw) (.pointer pi)).toArray)(hk0:0<=J.op.key)(hk1:J.op.key<256)(hz2:(x.word.nm==2)=false)(hz4:(x.word.nm==4)=false)(hz8:(x.word.nm==8)=false):Calls Tryz.prog 176 #[.pointer (some ⟨g1,0,none⟩),.agg x.l.toArray] w λen w'=>en=.returned (Yk (Xa.Ck ({J with pc:=1}:Xa) 1).2)/\Bk w' g1 186 ((Xa.Ck ({J with pc:=1}:Xa) 1).1.l (.pointer pw) (.pointer pi)).toArray/\Ak [g1] w w':=by
 refine p1 (V4 J pw pi x) [] 80 bK SJ (Xa.Ck ({J with pc:=1}:Xa) 1) (λr=>(Yk r.2,(r.1.l (.pointer pw) (.pointer pi)).toArray)) Xu (BO (SE (b:=(Int.tmod J.op.key 1)) (DL hk0 Zd Zd)) (BO (SD (b:=(Int.tmod J.op.key 1)) (DL hk0 Zd Zd)) (BO (SB (b:=(Int.tmod J.op.key 1)) (DL hk0 Zd Zd)) (BO (SA (b:=(Int.tmod J.op.key 1)) (DL hk0 Zd Zd)) (BO hz2 (BO hz4 (BO hz8 BY))))))) h1 ?_;exact vS1
def bR(J:Xa)(pw:Option Go.Addr)(pi:Option Go.Addr)(x:Xj):Env:=Ik [J.last.ii,J.op.ii,[J.size,J.wanted,J.Am,J.child],J.base.ii,J.node.ii,J.sentinel.ii,J.answer.ii,J.count.ii,x.ii] [J.bb,x.bb] [.pointer pw,.pointer pi] (AE rfl)
def jY:St:=⟨[],[(1,186,(ct [[.int (.lit 12)],vs 0 8,[.bool (.var 0)],vs 8 4,[.bool (.var 1)],vs 12 16,[.bool (.var 2)],vs 28 4,[.bool (.var 3)],vs 32 4,[.bool (.var 4),.AN 0,.AN 1],vs 36 6,[.bool (.var 5)]]))],[],10,0⟩
def V9:List SV:=[.c (.ptr 1 0),.agg ((ct [vs 42 4,[.bool (.var 6),.bool (.var 7)]]))]
theorem bS(J:Xa)(pw:Option Go.Addr)(pi:Option Go.Addr)(x:Xj)(g1:Nat)(w:World)(h1:Bk w g1 186 (({J with pc:=12}:Xa).l (.pointer pw) (.pointer pi)).toArray):Calls Tryz.prog 176 #[.pointer (some ⟨g1,0,none⟩),.agg x.l.toArray] w λen w'=>en=.returned (Yk (Xa.GV ({J with pc:=12}:Xa) x).2)/\Bk w' g1 186 ((Xa.GV ({J with pc:=12}:Xa) x).1.l (.pointer pw) (.pointer pi)).toArray/\Ak [g1] w w':=by
 refine p1 (bR J pw pi x) [] 80 jY V9 (Xa.GV ({J with pc:=12}:Xa) x) (λr=>(Yk r.2,(r.1.l (.pointer pw) (.pointer pi)).toArray)) Xu BY h1 ?_;refine Dr (show _=(bif J.op.kind==7 then _ else _) from(vN (J.op.kind==7) (λz=>(({J with pc:=13,count:=x.word}:Xa),Y6 (root 17) x.word (BP x.word z))))) ?_;exact vS1
def bP(J:Xa)(pw:Option Go.Addr)(pi:Option Go.Addr)(x:Xj):Env:=Ik [J.last.ii,J.op.ii,[J.size,J.wanted,J.Am,J.child],J.base.ii,J.node.ii,J.sentinel.ii,J.answer.ii,J.count.ii,x.ii] [J.bb,x.bb] [.pointer pw,.pointer pi] (AE rfl)
def jX:St:=⟨[],[(1,186,(ct [[.int (.lit 13)],vs 0 8,[.bool (.var 0)],vs 8 4,[.bool (.var 1)],vs 12 16,[.bool (.var 2)],vs 28 4,[.bool (.var 3)],vs 32 4,[.bool (.var 4),.AN 0,.AN 1],vs 36 6,[.bool (.var 5)]]))],[],10,0⟩
def V8:List SV:=[.c (.ptr 1 0),.agg ((ct [vs 42 4,[.bool (.var 6),.bool (.var 7)]]))]
theorem bQ(J:Xa)(pw:Option Go.Addr)(pi:Option Go.Addr)(x:Xj)(g1:Nat)(w:World)(h1:Bk w g1 186 (({J with pc:=13}:Xa).l (.pointer pw) (.pointer pi)).toArray):Calls Tryz.prog 176 #[.pointer (some ⟨g1,0,none⟩),.agg x.l.toArray] w λen w'=>en=.returned (Yk (Xa.Ih ({J with pc:=13}:Xa) x).2)/\Bk w' g1 186 ((Xa.Ih ({J with pc:=13}:Xa) x).1.l (.pointer pw) (.pointer pi)).toArray/\Ak [g1] w w':=by
 refine p1 (bP J pw pi x) [] 80 jX V8 (Xa.Ih ({J with pc:=13}:Xa) x) (λr=>(Yk r.2,(r.1.l (.pointer pw) (.pointer pi)).toArray)) Xu BY h1 ?_;exact vS1
def bN(J:Xa)(pw:Option Go.Addr)(pi:Option Go.Addr)(x:Xj):Env:=Ik [J.last.ii,J.op.ii,[J.size,J.wanted,J.Am,J.child],J.base.ii,J.node.ii,J.sentinel.ii,J.answer.ii,J.count.ii,x.ii] [J.bb,x.bb] [.pointer pw,.pointer pi] (AE rfl)
def jW:St:=⟨[],[(1,186,(ct [[.int (.lit 14)],vs 0 8,[.bool (.var 0)],vs 8 4,[.bool (.var 1)],vs 12 16,[.bool (.var 2)],vs 28 4,[.bool (.var 3)],vs 32 4,[.bool (.var 4),.AN 0,.AN 1],vs 36 6,[.bool (.var 5)]]))],[],10,0⟩
def V7:List SV:=[.c (.ptr 1 0),.agg ((ct [vs 42 4,[.bool (.var 6),.bool (.var 7)]]))]
theorem bO(J:Xa)(pw:Option Go.Addr)(pi:Option Go.Addr)(x:Xj)(g1:Nat)(w:World)(h1:Bk w g1 186 (({J with pc:=14}:Xa).l (.pointer pw) (.pointer pi)).toArray):Calls Tryz.prog 176 #[.pointer (some ⟨g1,0,none⟩),.agg x.l.toArray] w λen w'=>en=.returned (Yk (Xa.DD ({J with pc:=14}:Xa) x).2)/\Bk w' g1 186 ((Xa.DD ({J with pc:=14}:Xa) x).1.l (.pointer pw) (.pointer pi)).toArray/\Ak [g1] w w':=by
 refine p1 (bN J pw pi x) [] 80 jW V7 (Xa.DD ({J with pc:=14}:Xa) x) (λr=>(Yk r.2,(r.1.l (.pointer pw) (.pointer pi)).toArray)) Xu BY h1 ?_;exact vS1
def bL(J:Xa)(pw:Option Go.Addr)(pi:Option Go.Addr)(x:Xj):Env:=Ik [J.last.ii,J.op.ii,[J.size,J.wanted,J.Am,J.child],J.base.ii,J.node.ii,J.sentinel.ii,J.answer.ii,J.count.ii,x.ii] [J.bb,x.bb] [.pointer pw,.pointer pi] (AE rfl)
def jV:St:=⟨[],[(1,186,(ct [[.int (.lit 15)],vs 0 8,[.bool (.var 0)],vs 8 4,[.bool (.var 1)],vs 12 16,[.bool (.var 2)],vs 28 4,[.bool (.var 3)],vs 32 4,[.bool (.var 4),.AN 0,.AN 1],vs 36 6,[.bool (.var 5)]]))],[],10,0⟩
def V6:List SV:=[.c (.ptr 1 0),.agg ((ct [vs 42 4,[.bool (.var 6),.bool (.var 7)]]))]
theorem bM(J:Xa)(pw:Option Go.Addr)(pi:Option Go.Addr)(x:Xj)(g1:Nat)(w:World)(h1:Bk w g1 186 (({J with pc:=15}:Xa).l (.pointer pw) (.pointer pi)).toArray):Calls Tryz.prog 176 #[.pointer (some ⟨g1,0,none⟩),.agg x.l.toArray] w λen w'=>en=.returned (Yk (Xa.done ({J with pc:=15}:Xa) J.answer).2)/\Bk w' g1 186 ((Xa.done ({J with pc:=15}:Xa) J.answer).1.l (.pointer pw) (.pointer pi)).toArray/\Ak [g1] w w':=by
 refine p1 (bL J pw pi x) [] 80 jV V6 (Xa.done ({J with pc:=15}:Xa) J.answer) (λr=>(Yk r.2,(r.1.l (.pointer pw) (.pointer pi)).toArray)) Xu BY h1 ?_;exact vS1
end Go.Proofs.YtaipogljokblkaaGreatDoor
namespace Go.Proofs.YtaipogljokblkaaGreatDoor
open Go Go.RowKit
def jO(J:Xa)(pw:Option Go.Addr)(pi:Option Go.Addr)(x:Xj):Env:=Ik [J.last.ii,J.op.ii,[J.size,J.wanted,J.Am,J.child],J.base.ii,J.node.ii,J.sentinel.ii,J.answer.ii,J.count.ii,x.ii,[Yn J.child],(Xm.step (Xm.new (Xg J.base 2) (Yn J.child)) x).1.ii,(Xm.step (Xm.new (Xg J.base 2) (Yn J.child)) x).2.1.ii] [J.bb,x.bb,(Xm.step (Xm.new (Xg J.base 2) (Yn J.child)) x).1.bb,(Xm.step (Xm.new (Xg J.base 2) (Yn J.child)) x).2.1.bb,[(Xm.step (Xm.new (Xg J.base 2) (Yn J.child)) x).2.2]] [.pointer pw,.pointer pi] (AE rfl)
def sB:St:=⟨[],[(1,186,(ct [[.int (.lit 4)],vs 0 8,[.bool (.var 0)],vs 8 4,[.bool (.var 1)],vs 12 16,[.bool (.var 2)],vs 28 4,[.bool (.var 3)],vs 32 4,[.bool (.var 4),.AN 0,.AN 1],vs 36 6,[.bool (.var 5)]]))],[],10,0⟩
def bE:List SV:=[.c (.ptr 1 0),.agg ((ct [vs 42 4,[.bool (.var 6),.bool (.var 7)]]))]
def xV:List Xv:=[⟨false,189,0,[],[.c (.int (.var 23))],.c (.int (.var 46)),[]⟩,⟨true,162,261,(ct [zs 9,[.bool (.lit false)],zs 4,[.bool (.lit false)],zs 4,[.int (.var 24),.int (.var 25),.int (.lit 2),.int (.var 46),.int (.var 24),.int (.var 25),.int (.lit 2)],zs 4,[.bool (.lit false)],zs 4,[.bool (.lit false),.int (.lit 0),.bool (.lit false)]]),[.agg ((ct [vs 42 4,[.bool (.var 6),.bool (.var 7)]]))],.IU [(true,(ct [vs 80 8,[.bool (.var 13)],vs 88 4,[.bool (.var 14)],vs 92 4])),(false,[.bool (.var 15)])],(ct [vs 47 9,[.bool (.var 8)],vs 56 4,[.bool (.var 9)],vs 60 15,[.bool (.var 10)],vs 75 4,[.bool (.var 11),.int (.var 79),.bool (.var 12)]])⟩]
theorem jP(J:Xa)(pw:Option Go.Addr)(pi:Option Go.Addr)(x:Xj)(g1:Nat)(w:World)(h1:Bk w g1 186 (({J with pc:=4}:Xa).l (.pointer pw) (.pointer pi)).toArray)(hnd:[g1].Nodup)(hc0:0<=J.child)(hc1:J.child<8):Calls Tryz.prog 176 #[.pointer (some ⟨g1,0,none⟩),.agg x.l.toArray] w λen w'=>FF (λw q F1=>Dh w q (Xa.Al ({J with pc:=4}:Xa) x).1.walk F1) 186 (λq=>(Xa.Al ({J with pc:=4}:Xa) x).1.l q (.pointer pi)) (Yk (Xa.Al ({J with pc:=4}:Xa) x).2) g1 [g1] w en w':=by
 refine p2 (hJL:=λr q=>by kernel_rfl) (jO J pw pi x) xV 80 sB bE 42 186 261 (Xa.Al ({J with pc:=4}:Xa) x) (λr=>Yk r.2) (λr q=>r.1.l q (.pointer pi)) (λr=>r.1.walk.map λW=>W.l.toArray) (λr w q F1=>Dh w q r.1.walk F1) (Ys (FZ Tryz.func189 λw=>Kw _ w hc0 hc1) (Ys (BW Tryz.func162 λg w hB=>Hq (Xm.new (Xg J.base 2) (Yn J.child)) x g w hB) Xu)) BY (rD (Yw h1 Zk)) hnd (λ_ _ h=>JC h) (λ_ _ _ _ h hb=>JB h hb) ?_;exact vS6
def aY(J:Xa)(pw:Option Go.Addr)(pi:Option Go.Addr)(x:Xj):Env:=Ik [J.last.ii,J.op.ii,[J.size,J.wanted,J.Am,J.child],J.base.ii,J.node.ii,J.sentinel.ii,J.answer.ii,J.count.ii,x.ii,[Yn J.child],(Xm.step (Xm.new (Xg J.base 2) (Yn J.child)) x).1.ii,(Xm.step (Xm.new (Xg J.base 2) (Yn J.child)) x).2.1.ii] [J.bb,x.bb,(Xm.step (Xm.new (Xg J.base 2) (Yn J.child)) x).1.bb,(Xm.step (Xm.new (Xg J.base 2) (Yn J.child)) x).2.1.bb,[(Xm.step (Xm.new (Xg J.base 2) (Yn J.child)) x).2.2]] [.pointer pw,.pointer pi] (AE rfl)
def jF:St:=⟨[],[(1,186,(ct [[.int (.lit 8)],vs 0 8,[.bool (.var 0)],vs 8 4,[.bool (.var 1)],vs 12 16,[.bool (.var 2)],vs 28 4,[.bool (.var 3)],vs 32 4,[.bool (.var 4),.AN 0,.AN 1],vs 36 6,[.bool (.var 5)]]))],[(.var 7,false)],10,0⟩
def Vu:List SV:=[.c (.ptr 1 0),.agg ((ct [vs 42 4,[.bool (.var 6),.bool (.var 7)]]))]
def rV:List Xv:=[⟨false,189,0,[],[.c (.int (.var 23))],.c (.int (.var 46)),[]⟩,⟨true,162,261,(ct [zs 9,[.bool (.lit false)],zs 4,[.bool (.lit false)],zs 4,[.int (.var 24),.int (.var 25),.int (.lit 2),.int (.var 46),.int (.var 24),.int (.var 25),.int (.lit 2)],zs 4,[.bool (.lit false)],zs 4,[.bool (.lit false),.int (.lit 0),.bool (.lit false)]]),[.agg ((ct [vs 42 4,[.bool (.var 6),.bool (.var 7)]]))],.IU [(true,(ct [vs 80 8,[.bool (.var 13)],vs 88 4,[.bool (.var 14)],vs 92 4])),(false,[.bool (.var 15)])],(ct [vs 47 9,[.bool (.var 8)],vs 56 4,[.bool (.var 9)],vs 60 15,[.bool (.var 10)],vs 75 4,[.bool (.var 11),.int (.var 79),.bool (.var 12)]])⟩]
theorem aZ(J:Xa)(pw:Option Go.Addr)(pi:Option Go.Addr)(x:Xj)(g1:Nat)(w:World)(h1:Bk w g1 186 (({J with pc:=8}:Xa).l (.pointer pw) (.pointer pi)).toArray)(hnd:[g1].Nodup)(hc0:0<=J.child)(hc1:J.child<8)(hok:x.ok=false):Calls Tryz.prog 176 #[.pointer (some ⟨g1,0,none⟩),.agg x.l.toArray] w λen w'=>FF (λw q F1=>Dh w q (Xa.Al ({J with pc:=8}:Xa) x).1.walk F1) 186 (λq=>(Xa.Al ({J with pc:=8}:Xa) x).1.l q (.pointer pi)) (Yk (Xa.Al ({J with pc:=8}:Xa) x).2) g1 [g1] w en w':=by
 refine p2 (hJL:=λr q=>by kernel_rfl) (aY J pw pi x) rV 80 jF Vu 42 186 261 (Xa.Al ({J with pc:=8}:Xa) x) (λr=>Yk r.2) (λr q=>r.1.l q (.pointer pi)) (λr=>r.1.walk.map λW=>W.l.toArray) (λr w q F1=>Dh w q r.1.walk F1) (Ys (FZ Tryz.func189 λw=>Kw _ w hc0 hc1) (Ys (BW Tryz.func162 λg w hB=>Hq (Xm.new (Xg J.base 2) (Yn J.child)) x g w hB) Xu)) (BO hok BY) (rD (Yw h1 Zk)) hnd (λ_ _ h=>JC h) (λ_ _ _ _ h hb=>JB h hb) ?_;exact vS6
def jM(J:Xa)(W:Xm)(pi:Option Go.Addr)(x:Xj):Env:=Ik [J.last.ii,J.op.ii,[J.size,J.wanted,J.Am,J.child],J.base.ii,J.node.ii,J.sentinel.ii,J.answer.ii,J.count.ii,W.ii,x.ii,(Xm.step W x).1.ii,(Xm.step W x).2.1.ii] [J.bb,W.bb,x.bb,(Xm.step W x).1.bb,(Xm.step W x).2.1.bb,[(Xm.step W x).2.2]] [.pointer pi] (AE rfl)
def sA:St:=⟨[],[(1,186,(ct [[.int (.lit 5)],vs 0 8,[.bool (.var 0)],vs 8 4,[.bool (.var 1)],vs 12 16,[.bool (.var 2)],vs 28 4,[.bool (.var 3)],vs 32 4,[.bool (.var 4),.ptr 3 0,.AN 0],vs 36 6,[.bool (.var 5)]])),(3,261,(ct [vs 42 9,[.bool (.var 6)],vs 51 4,[.bool (.var 7)],vs 55 15,[.bool (.var 8)],vs 70 4,[.bool (.var 9),.int (.var 74),.bool (.var 10)]]))],[],10,0⟩
def bD:List SV:=[.c (.ptr 1 0),.agg ((ct [vs 75 4,[.bool (.var 11),.bool (.var 12)]]))]
def xU:List Xv:=[⟨true,162,261,(ct [vs 42 9,[.bool (.var 6)],vs 51 4,[.bool (.var 7)],vs 55 15,[.bool (.var 8)],vs 70 4,[.bool (.var 9),.int (.var 74),.bool (.var 10)]]),[.agg ((ct [vs 75 4,[.bool (.var 11),.bool (.var 12)]]))],.IU [(true,(ct [vs 112 8,[.bool (.var 18)],vs 120 4,[.bool (.var 19)],vs 124 4])),(false,[.bool (.var 20)])],(ct [vs 79 9,[.bool (.var 13)],vs 88 4,[.bool (.var 14)],vs 92 15,[.bool (.var 15)],vs 107 4,[.bool (.var 16),.int (.var 111),.bool (.var 17)]])⟩]
theorem jN(J:Xa)(W:Xm)(pi:Option Go.Addr)(x:Xj)(g1 g2:Nat)(w:World)(h1:Bk w g1 186 (({J with pc:=5,walk:=some W}:Xa).l (.pointer (some ⟨g2,0,none⟩)) (.pointer pi)).toArray)(h2:Bk w g2 261 (W.l).toArray)(hnd:[g1,g2].Nodup):Calls Tryz.prog 176 #[.pointer (some ⟨g1,0,none⟩),.agg x.l.toArray] w λen w'=>FF (λw q F1=>Dh w q (Xa.Al ({J with pc:=5,walk:=some W}:Xa) x).1.walk F1) 186 (λq=>(Xa.Al ({J with pc:=5,walk:=some W}:Xa) x).1.l q (.pointer pi)) (Yk (Xa.Al ({J with pc:=5,walk:=some W}:Xa) x).2) g1 [g1,g2] w en w':=by
 refine p2 (hJL:=λr q=>by kernel_rfl) (jM J W pi x) xU 80 sA bD 42 186 261 (Xa.Al ({J with pc:=5,walk:=some W}:Xa) x) (λr=>Yk r.2) (λr q=>r.1.l q (.pointer pi)) (λr=>r.1.walk.map λW=>W.l.toArray) (λr w q F1=>Dh w q r.1.walk F1) (Ys (BW Tryz.func162 λg w hB=>Hq W x g w hB) Xu) BY (bl2 (Yw h1 Zk) (Yw h2 Zk)) hnd (λ_ _ h=>JC h) (λ_ _ _ _ h hb=>JB h hb) ?_;exact vS6
def jI(J:Xa)(W:Xm)(pi:Option Go.Addr)(x:Xj):Env:=Ik [J.last.ii,J.op.ii,[J.size,J.wanted,J.Am,J.child],J.base.ii,J.node.ii,J.sentinel.ii,J.answer.ii,J.count.ii,W.ii,x.ii] [J.bb,W.bb,x.bb] [.pointer pi] (AE rfl)
def rY:St:=⟨[],[(1,186,(ct [[.int (.lit 7)],vs 0 8,[.bool (.var 0)],vs 8 4,[.bool (.var 1)],vs 12 16,[.bool (.var 2)],vs 28 4,[.bool (.var 3)],vs 32 4,[.bool (.var 4),.ptr 3 0,.AN 0],vs 36 6,[.bool (.var 5)]])),(3,261,(ct [vs 42 9,[.bool (.var 6)],vs 51 4,[.bool (.var 7)],vs 55 15,[.bool (.var 8)],vs 70 4,[.bool (.var 9),.int (.var 74),.bool (.var 10)]]))],[],10,0⟩
def bB:List SV:=[.c (.ptr 1 0),.agg ((ct [vs 75 4,[.bool (.var 11),.bool (.var 12)]]))]
def xT:List Xv:=[]
theorem jJ(J:Xa)(W:Xm)(pi:Option Go.Addr)(x:Xj)(g1 g2:Nat)(w:World)(h1:Bk w g1 186 (({J with pc:=7,walk:=some W}:Xa).l (.pointer (some ⟨g2,0,none⟩)) (.pointer pi)).toArray)(h2:Bk w g2 261 (W.l).toArray)(hnd:[g1,g2].Nodup):Calls Tryz.prog 176 #[.pointer (some ⟨g1,0,none⟩),.agg x.l.toArray] w λen w'=>FF (λw q F1=>Dh w q (Xa.Al ({J with pc:=7,walk:=some W}:Xa) x).1.walk F1) 186 (λq=>(Xa.Al ({J with pc:=7,walk:=some W}:Xa) x).1.l q (.pointer pi)) (Yk (Xa.Al ({J with pc:=7,walk:=some W}:Xa) x).2) g1 [g1,g2] w en w':=by
 refine p2 (hJL:=λr q=>by kernel_rfl) (jI J W pi x) xT 80 rY bB 42 186 261 (Xa.Al ({J with pc:=7,walk:=some W}:Xa) x) (λr=>Yk r.2) (λr q=>r.1.l q (.pointer pi)) (λr=>r.1.walk.map λW=>W.l.toArray) (λr w q F1=>Dh w q r.1.walk F1) Xu BY (bl2 (Yw h1 Zk) (Yw h2 Zk)) hnd (λ_ _ h=>JC h) (λ_ _ _ _ h hb=>JB h hb) ?_;exact vS6
def zG:SC:=.lit (.pointer none)
def inV(h:Yh):Option Nat:=cD 43 h
def Ug(e:Env)(k:Nat->Nat)(a:SV × Yh):Value × Array Value × Option (Array Value × Option (Array Value)):=
 (a.1.den e k,Yj e k ((cellAt 1 a.2).set 43 zG),(inV a.2).map λl=>(Yj e k ((cellAt l a.2).set 27 zG),((cellAt l a.2)[27]?.bind MC).map λm=>Yj e k (cellAt m a.2)))
def tP(i:Nat):SC->Bool
 |.AN j=>j==i
 |_=>false
theorem tO{i:Nat}{c:SC}(h:tP i c=true):c=.AN i:=by
 unfold tP at h;split at h
 ·simp at h;subst h;rfl
 ·cases h
def okW(hp:Yh)(h:Yh)(l:Nat):SC->Bool:=λc=>fC c||(match MC c with|some m=>!(l==m)&&oB 261 m h&&!Fa m (Yg hp)|none=>false)
def zD (hp:Yh) (h:Yh):SC→Bool:=fun c=>tP 1 c || (match MC c with
 |some l=>oB 206 l h&&!Fa l (Yg hp)&&(match(cellAt l h)[27]? with|some d=>okW hp h l d|none=>false)
 |none=>false)
def fA(hp:Yh)(a:SV × Yh):Bool:=
 oB 186 1 a.2&&(match(cellAt 1 a.2)[43]? with|some c=>zD hp a.2 c|none=>false)&&(Ic a.2 hp).all (·==1)
def QV(e:Env)(hp:Yh)(pw:Option Go.Addr)(I0:Option Xh)(a:SV × Yh)(r:Xa × Value):Prop:=fA hp a=true/\
 ((r.1.inner = I0∧∀ k,Ug e k a = (r.2,(r.1.l (.pointer pw) (.pointer none)).toArray,none)) ∨
  ∃I,r.1.inner=some I/\∀k,Ug e k a=(r.2,(r.1.l (.pointer pw) (.pointer none)).toArray,some ((I.l (.pointer none)).toArray,I.walk.map λW=>W.l.toArray)))
section
variable{t:Xz (SV × Yh)}{e:Env}{hp:Yh}{s:FH}{a:Xa × Xf}{pw:Option Go.Addr}{I0:Option Xh}{V:Xa × Xf->Value}
theorem tS(hi:a.1.inner=I0)(h1:(t.lv s).all (iG (fA hp))=true)(h2:∀k,(t.lv s).map (λo=>o.map (Ug e k))=(t.lv s).map λ_=>some (V a,(a.1.l (.pointer pw) (.pointer none)).toArray,none)):PO t e (λx r=>QV e hp pw I0 x (r.1,V r)) s a:=
 JH (Ug e) (λr=>(V r,(r.1.l (.pointer pw) (.pointer none)).toArray,none)) (fA hp) h1 h2 λ_ h h'=>⟨h,Or.inl ⟨hi,h'⟩⟩
theorem tT(I:Xh)(hi:a.1.inner=some I)(h1:(t.lv s).all (iG (fA hp))=true)(h2:∀k,(t.lv s).map (λo=>o.map (Ug e k))=(t.lv s).map λ_=>some (V a,(a.1.l (.pointer pw) (.pointer none)).toArray,some ((I.l (.pointer none)).toArray,I.walk.map λW=>W.l.toArray))):PO t e (λx r=>QV e hp pw I0 x (r.1,V r)) s a:=
 JH (Ug e) (λr=>(V r,(r.1.l (.pointer pw) (.pointer none)).toArray,some ((I.l (.pointer none)).toArray,I.walk.map λW=>W.l.toArray))) (fA hp) h1 h2 λ_ h h'=>⟨h,Or.inr ⟨I,hi,h'⟩⟩
end
theorem kX{α:Type}{l:List α}{i:Nat}{c:α}(hc:l[i]?=some c):l.set i c=l:=by
 apply List.ext_getElem?;intro j;rw[List.getElem?_set];split
 ·rename_i hij;subst hij;split
  ·exact hc.symm
  ·rename_i hlt;rw[List.getElem?_eq_none Zo] at hc;cases hc
 ·rfl
theorem N3{e:Env}{k:Nat->Nat}{cs:List SC}{i:Nat}{c:SC}{L:Value->List Value}(hc:cs[i]?=some c)(hL:∀q,L q=(L (.pointer none)).set i q)(h:Yj e k (cs.set i zG)=(L (.pointer none)).toArray):Yj e k cs=(L (c.den e k)).toArray:=by
 have e3:=congrArg Array.toList h;rw[hL (c.den e k)];unfold Yj at e3 ⊢;simp only[List.map_set] at e3;rw[←e3,List.set_set,←List.map_set,kX hc]
theorem poV{P:Program}{e:Env}{S:List Xv}{n f:Nat}{args:List SV}{st:St}{g:Nat}{cs:List SC}{w:World}{args':Array Value}{r:Xa × Xf}{V:Xa × Xf->Value}{pw pi:Option Go.Addr}{I0:Option Xh}(hm:P.follows .mixedOrders=true)(hS:Eb P e S)(hp:st.hp=[(1,186,cs)])(hasm:AR e st.BM)
  (hb:Bk w g 186 (Yj e (Dk [g]) cs))(hpi:e.val 1=.pointer pi)
  (h:PO (CR (exec P S n (.call f args) st)) e (λx r=>QV e st.hp pw I0 x (r.1,V r)) st.BM r)(closed:PU (Yg st.hp) st.hp=true:=by kernel_rfl)(cargs:args.all (IN (Yg st.hp))=true:=by kernel_rfl)(ha:args'=(args.map (SV.den e (Dk [g]))).toArray:=by kernel_rfl)(hpl:Hg S=true:=by kernel_rfl)(hnf:¬f=Dl:=by decide):
  Calls P f args' w λen w'=>QG pw pi r.1 (V r) I0 g w en w':=by
 obtain⟨⟨v,h'⟩,hsel,hok,hout⟩:=h hasm
 refine(Ct hm hS hsel hasm (Cv [g]) (λz hz=>?_) closed cargs (λz hz y hy _=>?_) ha hpl hnf).mono λen w' hx=>?_
 ·rw[hp] at hz;rw[List.mem_singleton.1 hz];exact Yw (show Bk w (Dk [g] 1) _ _ from hb) rfl
 ·rw[hp] at hz hy;rw[List.mem_singleton.1 hz,List.mem_singleton.1 hy]
 obtain⟨k',q⟩:=hx
 unfold fA at hok
 simp only[Bool.and_eq_true] at hok
 obtain⟨⟨o1,o2⟩,o3⟩:=hok
 have m1:=I1 o1
 have l1:Fa 1 (Yg st.hp)=true:=Bw.2 (by rw[hp];exact List.mem_singleton.2 rfl)
 have hls:∀l∈Ic h' st.hp,Dk [g] l∈[g]:=λl hl=>by
  have:=List.all_eq_true.1 o3 l hl;obtain rfl:l=1:=by simpa using this
  exact List.mem_singleton.2 rfl
 have hJL:∀(J:Xa) (q:Value),J.l (.pointer pw) q=(J.l (.pointer pw) (.pointer none)).set 43 q:=λJ q=>by kernel_rfl
 have hIL:∀(I:Xh) (q:Value),I.l q=(I.l (.pointer none)).set 27 q:=λI q=>by kernel_rfl
 (try simp only at m1 o2)
 cases hc:(cellAt 1 h')[43]? with
 |none=>rw[hc] at o2;cases o2
 |some c=>
  rw[hc] at o2
  have o2:zD st.hp h' c=true:=o2
  unfold zD at o2
  rw[Bool.or_eq_true] at o2
  rcases hout with⟨hi,hout⟩|⟨I,hi,hout⟩
  ·have e1:=hout k';unfold Ug inV cD at e1;simp only[hc,Option.bind_some] at e1;injection e1 with e2 e3;injection e3 with e3 e4;(try simp only at e2 e3);have hcn:MC c=none:=by
    cases hs:MC c with
    |none=>rfl
    |some l=>rw[hs] at e4;cases e4
   rw[hcn] at o2;simp only[Bool.false_eq_true,or_false] at o2;have hc0:=tO o2;subst hc0;have ec:=N3 hc (hJL _) e3;have e5:(SC.AN 1).den e k'=.pointer pi:=hpi;rw[e5] at ec;exact xO q l1 rfl m1 ec e2 rfl hls hi
  ·have e1:=hout k';unfold Ug inV cD at e1;simp only[hc,Option.bind_some] at e1;injection e1 with e2 e3;injection e3 with e3 e4;(try simp only at e2 e3);cases hs:MC c with
   |none=>rw[hs] at e4;cases e4
   |some l=>
    rw[hs] at e4 o2;have hc0:=QO hs;subst hc0;simp only[Option.map_some,Option.some.injEq,Prod.mk.injEq] at e4;obtain⟨e5,e6⟩:=e4;simp only[show tP 1 (SC.ptr l 0)=false from rfl,Bool.false_eq_true,false_or,Bool.and_eq_true,Bool.not_eq_true'] at o2;obtain⟨⟨o4,o5⟩,o6⟩:=o2;have m2:=I1 o4;have ec:=N3 hc (hJL _) e3;cases hd:(cellAt l h')[27]? with
    |none=>rw[hd] at o6;cases o6
    |some d=>
     rw[hd] at o6 e6;have o6:okW st.hp h' l d=true:=o6;unfold okW at o6;have e2':=N3 hd (hIL I) e5;simp only[Option.bind_some] at e6;cases hn:fC d with
     |true=>
      have hd0:=Z3 hn;subst hd0;have hw:I.walk=none:=by
       cases hw:I.walk with
       |none=>rfl
       |some W=>rw[hw] at e6;cases e6
      exact xP q l1 rfl m1 m2 o5 ec e2 rfl hls hi e2' hw
     |false=>
      rw[hn,Bool.false_or] at o6;cases hm2:MC d with
      |none=>rw[hm2] at o6;cases o6
      |some m=>
       rw[hm2] at o6 e6;have hd0:=QO hm2;subst hd0;have o6:(!(l==m)&&oB 261 m h'&&!Fa m (Yg st.hp))=true:=o6;simp only[Bool.and_eq_true,Bool.not_eq_true'] at o6;obtain⟨⟨o7,o8⟩,o9⟩:=o6;cases hw:I.walk with
       |none=>rw[hw] at e6;cases e6
       |some W=>
        rw[hw] at e6;simp only[Option.map_some,Option.some.injEq] at e6;exact rN q l1 rfl m1 m2 o5 (I1 o8) o9 o7 ec e2 rfl hls hi e2' hw e6
theorem XF(J:Xa)(h:OM J.wanted J.Am):J.Ch=bif J.Am==J.wanted then J.perform else bif Eh J.wanted==J.Am then({J with child:=J.wanted,pc:=3},Dd) else
  bif Eh (Eh J.wanted)==J.Am then({J with child:=Eh J.wanted,pc:=3},Dd) else bif Eh (Eh (Eh J.wanted))==J.Am then({J with child:=Eh (Eh J.wanted),pc:=3},Dd) else(J,Xf.zero):=by
 unfold Xa.Ch GX
 cases c0:J.Am==J.wanted with
 |true=>rfl
 |false=>
  cases c1:Eh J.wanted==J.Am with
  |true=>rfl
  |false=>
   cases c2:Eh (Eh J.wanted)==J.Am with
   |true=>rfl
   |false=>
    cases c3:Eh (Eh (Eh J.wanted))==J.Am with
    |true=>rfl
    |false=>exact(S0 h c0 c1 c2 c3).elim
def aK(V:DA)(pr:Go.Addr)(jv:Value)(ph:Go.Addr)(a:Bn)(x:Xj)(bq:Bool)(V2:DA)(hjv:jv.oneCell'=true):Env:=Ik [[V.st,V.eng,V.Ae],V.call.ii,V.op.ii,V.A5.ii,a.ii,x.ii,[V2.st,V2.eng,V2.Ae],V2.call.ii,V2.op.ii,V2.A5.ii] [V.call.bb,a.bb,x.bb,[bq],V2.call.bb] [.pointer (some pr),jv,.pointer (some ph)] (by intro u hu;simp at hu;rcases hu with rfl|rfl|rfl<;>first|rfl|assumption)
def iQ:St:=⟨[],[(1,126,(ct [[.int (.var 0),.int (.var 1),.AN 0],vs 2 9,[.bool (.var 0)],vs 11 4,[.bool (.var 1)],vs 15 8,[.AN 1,.int (.var 23),.int (.var 24)]]))],[(.eq (.var 2) (.lit 0),false),(.nil 0,false),(.nil 2,false)],10,0⟩
def Vn:List SV:=[.c (.ptr 1 0),.c (.AN 2)]
def rM:List Xv:=[⟨false,57,1,[],[.c (.AN 0)],.IU [(true,(ct [vs 25 8,[.bool (.var 2)],vs 33 4,[.bool (.var 3)]])),(false,[.bool (.lit true)])],[]⟩,⟨false,42,101,[],[.c (.AN 2),.agg ((ct [vs 25 8,[.bool (.var 2)],vs 33 4,[.bool (.var 3)]]))],.IU [(true,(ct [vs 37 4,[.bool (.var 4),.bool (.var 5)]])),(false,[.lit .nilIface])],[]⟩,⟨false,58,202,[],[.c (.AN 0),.agg ((ct [vs 37 4,[.bool (.var 4),.bool (.var 5)]]))],.c (.lit .nilIface),[]⟩,⟨false,72,203,[],[.c (.AN 0)],.c (.bool (.var 6)),[]⟩,⟨true,56,126,((ct [[.int (.var 0),.int (.var 1),.AN 0],vs 2 9,[.bool (.var 0)],vs 11 4,[.bool (.var 1)],vs 15 8,[.AN 1,.int (.var 23),.int (.var 24)]])),[],.IU [],((ct [[.int (.var 41),.int (.var 42),.AN 0],vs 43 9,[.bool (.var 7)],vs 52 4,[.bool (.var 8)],vs 56 8,[.AN 1,.int (.var 64),.int (.var 65)]]))++[.AN 20303]⟩]
theorem aN{Φ:GF}{F:Nat->Prop}(V:DA)(pr:Go.Addr)(jv:Value)(ph:Go.Addr)(a:Bn)(x:Xj)(bq:Bool)(V2:DA)(g1:Nat)(w:World)(h1:Bk w g1 126 (V.l (.pointer (some pr)) (jv)).toArray)(hjv:jv.oneCell'=true)(hd:(V.Ae==0)=false)(H0:∀w F,Φ.P 0 w F->(∀b,F b->b<w.heap.size)->Calls Tryz.prog 57 #[.pointer (some pr)] w λen w'=>en=.returned (.tuple #[.agg a.l.toArray,.bool true])/\EH Φ 0 F none w w')(H1:∀w F,Φ.P 0 w F->(∀b,F b->b<w.heap.size)->Calls Tryz.prog 42 #[.pointer (some ph),.agg a.l.toArray] w λen w'=>en=.returned (.tuple #[.agg x.l.toArray,.nilIface])/\EH Φ 1 F none w w')(H2:∀w F,Φ.P 1 w F->(∀b,F b->b<w.heap.size)->Calls Tryz.prog 58 #[.pointer (some pr),.agg x.l.toArray] w λen w'=>en=.returned (.nilIface)/\EH Φ 2 F none w w')(H3:∀w F,Φ.P 2 w F->(∀b,F b->b<w.heap.size)->Calls Tryz.prog 72 #[.pointer (some pr)] w λen w'=>en=.returned (.bool bq)/\EH Φ 2 F none w w')(G0:∀g w F,Bk w g 126 (V.l (.pointer (some pr)) jv).toArray->Φ.P 2 w F->¬F g->(∀b,F b->b<w.heap.size)->Calls Tryz.prog 56 #[.pointer (some ⟨g,2,none⟩)] w λen w'=>en=.returned (.tuple #[])/\Bk w' g 126 (V2.l (.pointer (some pr)) jv).toArray/\EH Φ 3 F (some g) w w')(f1:Φ.P 0 w F)(f2:¬F g1)(f3:∀b,F b->b<w.heap.size):Calls Tryz.prog 37 #[.pointer (some ⟨g1,0,none⟩),.pointer (some ph)] w λen w'=>Ki Φ 3 F g1 126 (V2.l (.pointer (some pr)) jv).toArray (.tuple #[.agg ((bif V2.Ae==0 then(⟨true,V2.A5,He V bq a⟩:Ha) else⟨false,.zero,He V bq a⟩)).l.toArray,.nilIface]) w en w':=by
 refine pE (aK V pr jv ph a x bq V2 hjv) rM 200 iQ Vn ((bif V2.Ae==0 then(⟨true,V2.A5,He V bq a⟩:Ha) else⟨false,.zero,He V bq a⟩)) (λr=>(.tuple #[.agg r.l.toArray,.nilIface],3,(V2.l (.pointer (some pr)) jv).toArray)) (X6 (AM 0 0 λhq w F hP hb=>Yz Tryz.func57 (H0 w F hP hb)) (X6 (AM 0 1 λhq w F hP hb=>Yz Tryz.func42 (H1 w F hP hb)) (X6 (AM 1 2 λhq w F hP hb=>Yz Tryz.func58 (H2 w F hP hb)) (X6 (AM 2 2 λhq w F hP hb=>Yz Tryz.func72 (H3 w F hP hb)) (X6 (sV 20303 2 3 2 Tryz.func56 G0) Gi))))) (BO hd (BO rfl (BO rfl BY))) h1 f1 f2 f3 ?_;refine Dr (show _=Ze V2 (He V bq a) from rfl) ?_;unfold He;simp only[cF];exact vS5
end Go.Proofs.YtaipogljokblkaaGreatDoor
