/- Core: CLitS, CVa, CVc, CVd, CVe, JB. -/
import Derived.Test.YtaipogljokblkaaGreatDoorP24
set_option linter.all false
set_option maxRecDepth 100000
set_option maxHeartbeats 8000000
namespace Go.Proofs.YtaipogljokblkaaGreatDoor
open Go Go.RowKit
def sQ(J:Xf)(W:Xj)(x:Xr):Env:=IB [J.ii,W.ii,x.ii,(Xj.step W x).1.ii,(Xj.step W x).2.1.ii,(Xj.step (Xj.new J.start J.key) x).1.ii,(Xj.step (Xj.new J.start J.key) x).2.1.ii] [J.bb,W.bb,x.bb,(Xj.step W x).1.bb,(Xj.step W x).2.1.bb,[(Xj.step W x).2.2],(Xj.step (Xj.new J.start J.key) x).1.bb,(Xj.step (Xj.new J.start J.key) x).2.1.bb,[(Xj.step (Xj.new J.start J.key) x).2.2]]
def zQ:St:=⟨[],[(1,206,(ct [vs 0 9,[.bV 0],vs 9 4,[.bV 1],vs 13 12,[.ptr 3 0],vs 25 4,[.bV 2,.iV 29]])),(3,261,(ct [vs 30 9,[.bV 3],vs 39 4,[.bV 4],vs 43 15,[.bV 5],vs 58 4,[.bV 6,.iV 62,.bV 7]]))],[],10,0⟩
def kK:List SV:=[.c (.ptr 1 0),.agg ((ct [vs 63 4,[.bV 8,.bV 9]]))]
def xk:List X8:=[⟨true,162,261,(ct [vs 30 9,[.bV 3],vs 39 4,[.bV 4],vs 43 15,[.bV 5],vs 58 4,[.bV 6,.iV 62,.bV 7]]),[.agg ((ct [vs 63 4,[.bV 8,.bV 9]]))],.Jt [(true,(ct [vs 100 8,[.bV 15],vs 108 4,[.bV 16],vs 112 4])),(false,[.bV 17])],(ct [vs 67 9,[.bV 10],vs 76 4,[.bV 11],vs 80 15,[.bV 12],vs 95 4,[.bV 13,.iV 99,.bV 14]])⟩,⟨true,162,261,(ct [zs 9,[.bool (.lit false)],zs 4,[.bool (.lit false)],zs 4,vs 17 4,vs 17 3,zs 4,[.bool (.lit false)],zs 4,[.bool (.lit false),.int (.lit 0),.bool (.lit false)]]),[.agg ((ct [vs 63 4,[.bV 8,.bV 9]]))],.Jt [(true,(ct [vs 149 8,[.bV 23],vs 157 4,[.bV 24],vs 161 4])),(false,[.bV 25])],(ct [vs 116 9,[.bV 18],vs 125 4,[.bV 19],vs 129 15,[.bV 20],vs 144 4,[.bV 21,.iV 148,.bV 22]])⟩]
def sR(J:Xf)(W:Xj)(x:Xr)(a c:Nat)(w:World)(i:Bk w a 206 (({J with walk:=some W}:Xf).l (.pointer (some ⟨c,0,none⟩))).toArray)(j:Bk w c 261 (W.l).toArray)(d:[a,c].Nodup):Kp 154 #[.pointer (some ⟨a,0,none⟩),.agg x.l.toArray] w λk w'=>∃F',k=.returned (Yq (Xf.next {J with walk:=some W} x).2)/\K5 w' a (Xf.next {J with walk:=some W} x).1 F'/\(∀b∈F',b∈[a,c]\/w.heap.size<=b)/\Aq [a,c] w w':=by
 refine p2 (sQ J W x) xk 60 zQ kK 27 206 261 (Xf.next {J with walk:=some W} x) (λr=>Yq r.2) (λr q=>r.1.l q) (λr=>r.1.walk.map λW=>W.l.toArray) (λr w q m=>DD w q r.1.walk m) (Yz (Cz Tryz.func162 λg w e=>Ik W x g w e) (Yz (Cz Tryz.func162 λg w e=>Ik (Xj.new J.start J.key) x g w e) X6)) CF (bl2 (Y1 i Zk) (Y1 j Zk)) d (λ_ _ h=>Kb h) (λ_ _ _ _ h n=>Ka h n) ?_;exact vS10
def oJ(J:Xc)(pw:Option Go.Addr)(pi:Option Go.Addr)(x:Xr):Env:=IA [J.last.ii,J.op.ii,[J.size,J.wanted,J.Ao,J.child],J.base.ii,J.node.ii,J.sentinel.ii,J.answer.ii,J.count.ii,x.ii] [J.bb,x.bb] [.pointer pw,.pointer pi] (AS rfl)
def xF:St:=⟨[],[(1,186,(ct [[.int (.lit 0)],vs 0 8,[.bV 0],vs 8 4,[.bV 1],vs 12 16,[.bV 2],vs 28 4,[.bV 3],vs 32 4,[.bV 4,.Ba 0,.Ba 1],vs 36 6,[.bV 5]]))],[],10,0⟩
def gI:List SV:=[.c (.ptr 1 0),.agg ((ct [vs 42 4,[.bV 6,.bV 7]]))]
def oK(J:Xc)(pw:Option Go.Addr)(pi:Option Go.Addr)(x:Xr)(a:Nat)(w:World)(b:Bk w a 186 (({J with pc:=0}:Xc).l (.pointer pw) (.pointer pi)).toArray):Kp 176 #[.pointer (some ⟨a,0,none⟩),.agg x.l.toArray] w λc w'=>c=.returned (Yq (Xc.next ({J with pc:=0}:Xc) x).2)/\Bk w' a 186 ((Xc.next ({J with pc:=0}:Xc) x).1.l (.pointer pw) (.pointer pi)).toArray/\Aq [a] w w':=by
 refine p1 (oJ J pw pi x) [] 80 xF gI (Xc.next ({J with pc:=0}:Xc) x) (λr=>(Yq r.2,(r.1.l (.pointer pw) (.pointer pi)).toArray)) X6 CF b ?_;exact vS1
def XS(J:Xc)(pw:Option Go.Addr)(pi:Option Go.Addr)(x:Xr):Env:=IA [J.last.ii,J.op.ii,[J.size,J.wanted,J.Ao,J.child],J.base.ii,J.node.ii,J.sentinel.ii,J.answer.ii,J.count.ii,[x.word.sl,x.word.gn,x.word.tg]] [J.bb,x.bb] [.pointer pw,.pointer pi] (AS rfl)
def fV:St:=⟨[],[(1,186,(ct [[.int (.lit 1)],vs 0 8,[.bV 0],vs 8 4,[.bV 1],vs 12 16,[.bV 2],vs 28 4,[.bV 3],vs 32 4,[.bV 4,.Ba 0,.Ba 1],vs 36 6,[.bV 5]]))],[(.lt (.add (.lit 8) (.rem (.var 17) 2)) (.lit 0),false),(.le (.lit 24) (.add (.lit 8) (.rem (.var 17) 2)),false),(.le (.lit 0) (.add (.lit 8) (.rem (.var 17) 2)),true),(.lt (.add (.lit 8) (.rem (.var 17) 2)) (.lit 24),true)],10,0⟩
def Uu:List SV:=[.c (.ptr 1 0),.agg ((ct [vs 42 3,[.int (.lit 2),.bV 6,.bV 7]]))]
def XT(J:Xc)(pw:Option Go.Addr)(pi:Option Go.Addr)(x:Xr)(c:Nat)(w:World)(d:Bk w c 186 (({J with pc:=1}:Xc).l (.pointer pw) (.pointer pi)).toArray)(a:0<=J.op.key)(e:J.op.key<256):Kp 176 #[.pointer (some ⟨c,0,none⟩),.agg ({x with word:={x.word with nm:=2}}:Xr).l.toArray] w λg w'=>g=.returned (Yq (Xc.AG ({J with pc:=1}:Xc) 2).2)/\Bk w' c 186 ((Xc.AG ({J with pc:=1}:Xc) 2).1.l (.pointer pw) (.pointer pi)).toArray/\Aq [c] w w':=by
 refine p1 (XS J pw pi x) [] 80 fV Uu (Xc.AG ({J with pc:=1}:Xc) 2) (λr=>(Yq r.2,(r.1.l (.pointer pw) (.pointer pi)).toArray)) X6 (Cp (Uq (b:=(Int.tmod J.op.key 2)) (Eg a Zd Zd)) (Cp (Up (b:=(Int.tmod J.op.key 2)) (Eg a Zd Zd)) (Cp (Uo (b:=(Int.tmod J.op.key 2)) (Eg a Zd Zd)) (Cp (Un (b:=(Int.tmod J.op.key 2)) (Eg a Zd Zd)) CF)))) d ?_;exact vS1
def XQ(J:Xc)(pw:Option Go.Addr)(pi:Option Go.Addr)(x:Xr):Env:=IA [J.last.ii,J.op.ii,[J.size,J.wanted,J.Ao,J.child],J.base.ii,J.node.ii,J.sentinel.ii,J.answer.ii,J.count.ii,[x.word.sl,x.word.gn,x.word.tg]] [J.bb,x.bb] [.pointer pw,.pointer pi] (AS rfl)
def fU:St:=⟨[],[(1,186,(ct [[.int (.lit 1)],vs 0 8,[.bV 0],vs 8 4,[.bV 1],vs 12 16,[.bV 2],vs 28 4,[.bV 3],vs 32 4,[.bV 4,.Ba 0,.Ba 1],vs 36 6,[.bV 5]]))],[(.lt (.add (.lit 8) (.rem (.var 17) 4)) (.lit 0),false),(.le (.lit 24) (.add (.lit 8) (.rem (.var 17) 4)),false),(.le (.lit 0) (.add (.lit 8) (.rem (.var 17) 4)),true),(.lt (.add (.lit 8) (.rem (.var 17) 4)) (.lit 24),true)],10,0⟩
def Ut:List SV:=[.c (.ptr 1 0),.agg ((ct [vs 42 3,[.int (.lit 4),.bV 6,.bV 7]]))]
def XR(J:Xc)(pw:Option Go.Addr)(pi:Option Go.Addr)(x:Xr)(c:Nat)(w:World)(d:Bk w c 186 (({J with pc:=1}:Xc).l (.pointer pw) (.pointer pi)).toArray)(a:0<=J.op.key)(e:J.op.key<256):Kp 176 #[.pointer (some ⟨c,0,none⟩),.agg ({x with word:={x.word with nm:=4}}:Xr).l.toArray] w λg w'=>g=.returned (Yq (Xc.AG ({J with pc:=1}:Xc) 4).2)/\Bk w' c 186 ((Xc.AG ({J with pc:=1}:Xc) 4).1.l (.pointer pw) (.pointer pi)).toArray/\Aq [c] w w':=by
 refine p1 (XQ J pw pi x) [] 80 fU Ut (Xc.AG ({J with pc:=1}:Xc) 4) (λr=>(Yq r.2,(r.1.l (.pointer pw) (.pointer pi)).toArray)) X6 (Cp (Uq (b:=(Int.tmod J.op.key 4)) (Eg a Zd Zd)) (Cp (Up (b:=(Int.tmod J.op.key 4)) (Eg a Zd Zd)) (Cp (Uo (b:=(Int.tmod J.op.key 4)) (Eg a Zd Zd)) (Cp (Un (b:=(Int.tmod J.op.key 4)) (Eg a Zd Zd)) CF)))) d ?_;exact vS1
def XO(J:Xc)(pw:Option Go.Addr)(pi:Option Go.Addr)(x:Xr):Env:=IA [J.last.ii,J.op.ii,[J.size,J.wanted,J.Ao,J.child],J.base.ii,J.node.ii,J.sentinel.ii,J.answer.ii,J.count.ii,[x.word.sl,x.word.gn,x.word.tg]] [J.bb,x.bb] [.pointer pw,.pointer pi] (AS rfl)
def fT:St:=⟨[],[(1,186,(ct [[.int (.lit 1)],vs 0 8,[.bV 0],vs 8 4,[.bV 1],vs 12 16,[.bV 2],vs 28 4,[.bV 3],vs 32 4,[.bV 4,.Ba 0,.Ba 1],vs 36 6,[.bV 5]]))],[(.lt (.add (.lit 8) (.rem (.var 17) 8)) (.lit 0),false),(.le (.lit 24) (.add (.lit 8) (.rem (.var 17) 8)),false),(.le (.lit 0) (.add (.lit 8) (.rem (.var 17) 8)),true),(.lt (.add (.lit 8) (.rem (.var 17) 8)) (.lit 24),true)],10,0⟩
def Us:List SV:=[.c (.ptr 1 0),.agg ((ct [vs 42 3,[.int (.lit 8),.bV 6,.bV 7]]))]
def XP(J:Xc)(pw:Option Go.Addr)(pi:Option Go.Addr)(x:Xr)(c:Nat)(w:World)(d:Bk w c 186 (({J with pc:=1}:Xc).l (.pointer pw) (.pointer pi)).toArray)(a:0<=J.op.key)(e:J.op.key<256):Kp 176 #[.pointer (some ⟨c,0,none⟩),.agg ({x with word:={x.word with nm:=8}}:Xr).l.toArray] w λg w'=>g=.returned (Yq (Xc.AG ({J with pc:=1}:Xc) 8).2)/\Bk w' c 186 ((Xc.AG ({J with pc:=1}:Xc) 8).1.l (.pointer pw) (.pointer pi)).toArray/\Aq [c] w w':=by
 refine p1 (XO J pw pi x) [] 80 fT Us (Xc.AG ({J with pc:=1}:Xc) 8) (λr=>(Yq r.2,(r.1.l (.pointer pw) (.pointer pi)).toArray)) X6 (Cp (Uq (b:=(Int.tmod J.op.key 8)) (Eg a Zd Zd)) (Cp (Up (b:=(Int.tmod J.op.key 8)) (Eg a Zd Zd)) (Cp (Uo (b:=(Int.tmod J.op.key 8)) (Eg a Zd Zd)) (Cp (Un (b:=(Int.tmod J.op.key 8)) (Eg a Zd Zd)) CF)))) d ?_;exact vS1
def XU(J:Xc)(pw:Option Go.Addr)(pi:Option Go.Addr)(x:Xr):Env:=IA [J.last.ii,J.op.ii,[J.size,J.wanted,J.Ao,J.child],J.base.ii,J.node.ii,J.sentinel.ii,J.answer.ii,J.count.ii,x.ii] [J.bb,x.bb] [.pointer pw,.pointer pi] (AS rfl)
def fW:St:=⟨[],[(1,186,(ct [[.int (.lit 1)],vs 0 8,[.bV 0],vs 8 4,[.bV 1],vs 12 16,[.bV 2],vs 28 4,[.bV 3],vs 32 4,[.bV 4,.Ba 0,.Ba 1],vs 36 6,[.bV 5]]))],[(.lt (.add (.lit 8) (.rem (.var 17) 1)) (.lit 0),false),(.le (.lit 24) (.add (.lit 8) (.rem (.var 17) 1)),false),(.le (.lit 0) (.add (.lit 8) (.rem (.var 17) 1)),true),(.lt (.add (.lit 8) (.rem (.var 17) 1)) (.lit 24),true),(.eq (.var 45) (.lit 2),false),(.eq (.var 45) (.lit 4),false),(.eq (.var 45) (.lit 8),false)],10,0⟩
def Uv:List SV:=[.c (.ptr 1 0),.agg ((ct [vs 42 4,[.bV 6,.bV 7]]))]
def XV(J:Xc)(pw:Option Go.Addr)(pi:Option Go.Addr)(x:Xr)(c:Nat)(w:World)(h:Bk w c 186 (({J with pc:=1}:Xc).l (.pointer pw) (.pointer pi)).toArray)(a:0<=J.op.key)(i:J.op.key<256)(d:(x.word.nm==2)=false)(e:(x.word.nm==4)=false)(g:(x.word.nm==8)=false):Kp 176 #[.pointer (some ⟨c,0,none⟩),.agg x.l.toArray] w λj w'=>j=.returned (Yq (Xc.AG ({J with pc:=1}:Xc) 1).2)/\Bk w' c 186 ((Xc.AG ({J with pc:=1}:Xc) 1).1.l (.pointer pw) (.pointer pi)).toArray/\Aq [c] w w':=by
 refine p1 (XU J pw pi x) [] 80 fW Uv (Xc.AG ({J with pc:=1}:Xc) 1) (λr=>(Yq r.2,(r.1.l (.pointer pw) (.pointer pi)).toArray)) X6 (Cp (Uq (b:=(Int.tmod J.op.key 1)) (Eg a Zd Zd)) (Cp (Up (b:=(Int.tmod J.op.key 1)) (Eg a Zd Zd)) (Cp (Uo (b:=(Int.tmod J.op.key 1)) (Eg a Zd Zd)) (Cp (Un (b:=(Int.tmod J.op.key 1)) (Eg a Zd Zd)) (Cp d (Cp e (Cp g CF))))))) h ?_;exact vS1
def gD(J:Xc)(pw:Option Go.Addr)(pi:Option Go.Addr)(x:Xr):Env:=IA [J.last.ii,J.op.ii,[J.size,J.wanted,J.Ao,J.child],J.base.ii,J.node.ii,J.sentinel.ii,J.answer.ii,J.count.ii,x.ii] [J.bb,x.bb] [.pointer pw,.pointer pi] (AS rfl)
def oG:St:=⟨[],[(1,186,(ct [[.int (.lit 12)],vs 0 8,[.bV 0],vs 8 4,[.bV 1],vs 12 16,[.bV 2],vs 28 4,[.bV 3],vs 32 4,[.bV 4,.Ba 0,.Ba 1],vs 36 6,[.bV 5]]))],[],10,0⟩
def Yl:List SV:=[.c (.ptr 1 0),.agg ((ct [vs 42 4,[.bV 6,.bV 7]]))]
def gE(J:Xc)(pw:Option Go.Addr)(pi:Option Go.Addr)(x:Xr)(a:Nat)(w:World)(b:Bk w a 186 (({J with pc:=12}:Xc).l (.pointer pw) (.pointer pi)).toArray):Kp 176 #[.pointer (some ⟨a,0,none⟩),.agg x.l.toArray] w λc w'=>c=.returned (Yq (Xc.AX ({J with pc:=12}:Xc) x).2)/\Bk w' a 186 ((Xc.AX ({J with pc:=12}:Xc) x).1.l (.pointer pw) (.pointer pi)).toArray/\Aq [a] w w':=by
 refine p1 (gD J pw pi x) [] 80 oG Yl (Xc.AX ({J with pc:=12}:Xc) x) (λr=>(Yq r.2,(r.1.l (.pointer pw) (.pointer pi)).toArray)) X6 CF b ?_;refine Ed (show _=(bif J.op.kind==7 then _ else _) from(qy (J.op.kind==7) (λz=>(({J with pc:=13,count:=x.word}:Xc),Xp (root 17) x.word (Y5 x.word z))))) ?_;exact vS1
def gB(J:Xc)(pw:Option Go.Addr)(pi:Option Go.Addr)(x:Xr):Env:=IA [J.last.ii,J.op.ii,[J.size,J.wanted,J.Ao,J.child],J.base.ii,J.node.ii,J.sentinel.ii,J.answer.ii,J.count.ii,x.ii] [J.bb,x.bb] [.pointer pw,.pointer pi] (AS rfl)
def oF:St:=⟨[],[(1,186,(ct [[.int (.lit 13)],vs 0 8,[.bV 0],vs 8 4,[.bV 1],vs 12 16,[.bV 2],vs 28 4,[.bV 3],vs 32 4,[.bV 4,.Ba 0,.Ba 1],vs 36 6,[.bV 5]]))],[],10,0⟩
def XZ:List SV:=[.c (.ptr 1 0),.agg ((ct [vs 42 4,[.bV 6,.bV 7]]))]
def gC(J:Xc)(pw:Option Go.Addr)(pi:Option Go.Addr)(x:Xr)(a:Nat)(w:World)(b:Bk w a 186 (({J with pc:=13}:Xc).l (.pointer pw) (.pointer pi)).toArray):Kp 176 #[.pointer (some ⟨a,0,none⟩),.agg x.l.toArray] w λc w'=>c=.returned (Yq (Xc.Ck ({J with pc:=13}:Xc) x).2)/\Bk w' a 186 ((Xc.Ck ({J with pc:=13}:Xc) x).1.l (.pointer pw) (.pointer pi)).toArray/\Aq [a] w w':=by
 refine p1 (gB J pw pi x) [] 80 oF XZ (Xc.Ck ({J with pc:=13}:Xc) x) (λr=>(Yq r.2,(r.1.l (.pointer pw) (.pointer pi)).toArray)) X6 CF b ?_;exact vS1
def fZ(J:Xc)(pw:Option Go.Addr)(pi:Option Go.Addr)(x:Xr):Env:=IA [J.last.ii,J.op.ii,[J.size,J.wanted,J.Ao,J.child],J.base.ii,J.node.ii,J.sentinel.ii,J.answer.ii,J.count.ii,x.ii] [J.bb,x.bb] [.pointer pw,.pointer pi] (AS rfl)
def oE:St:=⟨[],[(1,186,(ct [[.int (.lit 14)],vs 0 8,[.bV 0],vs 8 4,[.bV 1],vs 12 16,[.bV 2],vs 28 4,[.bV 3],vs 32 4,[.bV 4,.Ba 0,.Ba 1],vs 36 6,[.bV 5]]))],[],10,0⟩
def XY:List SV:=[.c (.ptr 1 0),.agg ((ct [vs 42 4,[.bV 6,.bV 7]]))]
def gA(J:Xc)(pw:Option Go.Addr)(pi:Option Go.Addr)(x:Xr)(a:Nat)(w:World)(b:Bk w a 186 (({J with pc:=14}:Xc).l (.pointer pw) (.pointer pi)).toArray):Kp 176 #[.pointer (some ⟨a,0,none⟩),.agg x.l.toArray] w λc w'=>c=.returned (Yq (Xc.AD ({J with pc:=14}:Xc) x).2)/\Bk w' a 186 ((Xc.AD ({J with pc:=14}:Xc) x).1.l (.pointer pw) (.pointer pi)).toArray/\Aq [a] w w':=by
 refine p1 (fZ J pw pi x) [] 80 oE XY (Xc.AD ({J with pc:=14}:Xc) x) (λr=>(Yq r.2,(r.1.l (.pointer pw) (.pointer pi)).toArray)) X6 CF b ?_;exact vS1
def fX(J:Xc)(pw:Option Go.Addr)(pi:Option Go.Addr)(x:Xr):Env:=IA [J.last.ii,J.op.ii,[J.size,J.wanted,J.Ao,J.child],J.base.ii,J.node.ii,J.sentinel.ii,J.answer.ii,J.count.ii,x.ii] [J.bb,x.bb] [.pointer pw,.pointer pi] (AS rfl)
def oD:St:=⟨[],[(1,186,(ct [[.int (.lit 15)],vs 0 8,[.bV 0],vs 8 4,[.bV 1],vs 12 16,[.bV 2],vs 28 4,[.bV 3],vs 32 4,[.bV 4,.Ba 0,.Ba 1],vs 36 6,[.bV 5]]))],[],10,0⟩
def XW:List SV:=[.c (.ptr 1 0),.agg ((ct [vs 42 4,[.bV 6,.bV 7]]))]
def fY(J:Xc)(pw:Option Go.Addr)(pi:Option Go.Addr)(x:Xr)(a:Nat)(w:World)(b:Bk w a 186 (({J with pc:=15}:Xc).l (.pointer pw) (.pointer pi)).toArray):Kp 176 #[.pointer (some ⟨a,0,none⟩),.agg x.l.toArray] w λc w'=>c=.returned (Yq (Xc.done ({J with pc:=15}:Xc) J.answer).2)/\Bk w' a 186 ((Xc.done ({J with pc:=15}:Xc) J.answer).1.l (.pointer pw) (.pointer pi)).toArray/\Aq [a] w w':=by
 refine p1 (fX J pw pi x) [] 80 oD XW (Xc.done ({J with pc:=15}:Xc) J.answer) (λr=>(Yq r.2,(r.1.l (.pointer pw) (.pointer pi)).toArray)) X6 CF b ?_;exact vS1
def nX(J:Xc)(pw:Option Go.Addr)(pi:Option Go.Addr)(x:Xr):Env:=IA [J.last.ii,J.op.ii,[J.size,J.wanted,J.Ao,J.child],J.base.ii,J.node.ii,J.sentinel.ii,J.answer.ii,J.count.ii,x.ii,[Yw J.child],(Xj.step (Xj.new (Xh J.base 2) (Yw J.child)) x).1.ii,(Xj.step (Xj.new (Xh J.base 2) (Yw J.child)) x).2.1.ii] [J.bb,x.bb,(Xj.step (Xj.new (Xh J.base 2) (Yw J.child)) x).1.bb,(Xj.step (Xj.new (Xh J.base 2) (Yw J.child)) x).2.1.bb,[(Xj.step (Xj.new (Xh J.base 2) (Yw J.child)) x).2.2]] [.pointer pw,.pointer pi] (AS rfl)
def xB:St:=⟨[],[(1,186,(ct [[.int (.lit 4)],vs 0 8,[.bV 0],vs 8 4,[.bV 1],vs 12 16,[.bV 2],vs 28 4,[.bV 3],vs 32 4,[.bV 4,.Ba 0,.Ba 1],vs 36 6,[.bV 5]]))],[],10,0⟩
def fP:List SV:=[.c (.ptr 1 0),.agg ((ct [vs 42 4,[.bV 6,.bV 7]]))]
def vb:List X8:=[⟨false,189,0,[],[.c (.iV 23)],.c (.iV 46),[]⟩,⟨true,162,261,(ct [zs 9,[.bool (.lit false)],zs 4,[.bool (.lit false)],zs 4,[.iV 24,.iV 25,.int (.lit 2),.iV 46,.iV 24,.iV 25,.int (.lit 2)],zs 4,[.bool (.lit false)],zs 4,[.bool (.lit false),.int (.lit 0),.bool (.lit false)]]),[.agg ((ct [vs 42 4,[.bV 6,.bV 7]]))],.Jt [(true,(ct [vs 80 8,[.bV 13],vs 88 4,[.bV 14],vs 92 4])),(false,[.bV 15])],(ct [vs 47 9,[.bV 8],vs 56 4,[.bV 9],vs 60 15,[.bV 10],vs 75 4,[.bV 11,.iV 79,.bV 12]])⟩]
def nY(J:Xc)(pw:Option Go.Addr)(pi:Option Go.Addr)(x:Xr)(a:Nat)(w:World)(e:Bk w a 186 (({J with pc:=4}:Xc).l (.pointer pw) (.pointer pi)).toArray)(b:[a].Nodup)(c:0<=J.child)(d:J.child<8):Kp 176 #[.pointer (some ⟨a,0,none⟩),.agg x.l.toArray] w λi w'=>Gh (λw q F1=>DD w q (Xc.Am ({J with pc:=4}:Xc) x).1.walk F1) 186 (λq=>(Xc.Am ({J with pc:=4}:Xc) x).1.l q (.pointer pi)) (Yq (Xc.Am ({J with pc:=4}:Xc) x).2) a [a] w i w':=by
 refine p2 (hJL:=λr q=>Zk) (nX J pw pi x) vb 80 xB fP 42 186 261 (Xc.Am ({J with pc:=4}:Xc) x) (λr=>Yq r.2) (λr q=>r.1.l q (.pointer pi)) (λr=>r.1.walk.map λW=>W.l.toArray) (λr w q F1=>DD w q r.1.walk F1) (Yz (G6 Tryz.func189 λw=>KV _ w c d) (Yz (Cz Tryz.func162 λg w k=>Ik (Xj.new (Xh J.base 2) (Yw J.child)) x g w k) X6)) CF (wA (Y1 e Zk)) b (λ_ _ h=>Kb h) (λ_ _ _ _ h m=>Ka h m) ?_;exact vS6
def fJ(J:Xc)(pw:Option Go.Addr)(pi:Option Go.Addr)(x:Xr):Env:=IA [J.last.ii,J.op.ii,[J.size,J.wanted,J.Ao,J.child],J.base.ii,J.node.ii,J.sentinel.ii,J.answer.ii,J.count.ii,x.ii,[Yw J.child],(Xj.step (Xj.new (Xh J.base 2) (Yw J.child)) x).1.ii,(Xj.step (Xj.new (Xh J.base 2) (Yw J.child)) x).2.1.ii] [J.bb,x.bb,(Xj.step (Xj.new (Xh J.base 2) (Yw J.child)) x).1.bb,(Xj.step (Xj.new (Xh J.base 2) (Yw J.child)) x).2.1.bb,[(Xj.step (Xj.new (Xh J.base 2) (Yw J.child)) x).2.2]] [.pointer pw,.pointer pi] (AS rfl)
def nN:St:=⟨[],[(1,186,(ct [[.int (.lit 8)],vs 0 8,[.bV 0],vs 8 4,[.bV 1],vs 12 16,[.bV 2],vs 28 4,[.bV 3],vs 32 4,[.bV 4,.Ba 0,.Ba 1],vs 36 6,[.bV 5]]))],[(.var 7,false)],10,0⟩
def XM:List SV:=[.c (.ptr 1 0),.agg ((ct [vs 42 4,[.bV 6,.bV 7]]))]
def wW:List X8:=[⟨false,189,0,[],[.c (.iV 23)],.c (.iV 46),[]⟩,⟨true,162,261,(ct [zs 9,[.bool (.lit false)],zs 4,[.bool (.lit false)],zs 4,[.iV 24,.iV 25,.int (.lit 2),.iV 46,.iV 24,.iV 25,.int (.lit 2)],zs 4,[.bool (.lit false)],zs 4,[.bool (.lit false),.int (.lit 0),.bool (.lit false)]]),[.agg ((ct [vs 42 4,[.bV 6,.bV 7]]))],.Jt [(true,(ct [vs 80 8,[.bV 13],vs 88 4,[.bV 14],vs 92 4])),(false,[.bV 15])],(ct [vs 47 9,[.bV 8],vs 56 4,[.bV 9],vs 60 15,[.bV 10],vs 75 4,[.bV 11,.iV 79,.bV 12]])⟩]
def fK(J:Xc)(pw:Option Go.Addr)(pi:Option Go.Addr)(x:Xr)(a:Nat)(w:World)(i:Bk w a 186 (({J with pc:=8}:Xc).l (.pointer pw) (.pointer pi)).toArray)(b:[a].Nodup)(c:0<=J.child)(d:J.child<8)(e:x.ok=false):Kp 176 #[.pointer (some ⟨a,0,none⟩),.agg x.l.toArray] w λj w'=>Gh (λw q F1=>DD w q (Xc.Am ({J with pc:=8}:Xc) x).1.walk F1) 186 (λq=>(Xc.Am ({J with pc:=8}:Xc) x).1.l q (.pointer pi)) (Yq (Xc.Am ({J with pc:=8}:Xc) x).2) a [a] w j w':=by
 refine p2 (hJL:=λr q=>Zk) (fJ J pw pi x) wW 80 nN XM 42 186 261 (Xc.Am ({J with pc:=8}:Xc) x) (λr=>Yq r.2) (λr q=>r.1.l q (.pointer pi)) (λr=>r.1.walk.map λW=>W.l.toArray) (λr w q F1=>DD w q r.1.walk F1) (Yz (G6 Tryz.func189 λw=>KV _ w c d) (Yz (Cz Tryz.func162 λg w m=>Ik (Xj.new (Xh J.base 2) (Yw J.child)) x g w m) X6)) (Cp e CF) (wA (Y1 i Zk)) b (λ_ _ h=>Kb h) (λ_ _ _ _ h n=>Ka h n) ?_;exact vS6
def nU(J:Xc)(W:Xj)(pi:Option Go.Addr)(x:Xr):Env:=IA [J.last.ii,J.op.ii,[J.size,J.wanted,J.Ao,J.child],J.base.ii,J.node.ii,J.sentinel.ii,J.answer.ii,J.count.ii,W.ii,x.ii,(Xj.step W x).1.ii,(Xj.step W x).2.1.ii] [J.bb,W.bb,x.bb,(Xj.step W x).1.bb,(Xj.step W x).2.1.bb,[(Xj.step W x).2.2]] [.pointer pi] (AS rfl)
def xA:St:=⟨[],[(1,186,(ct [[.int (.lit 5)],vs 0 8,[.bV 0],vs 8 4,[.bV 1],vs 12 16,[.bV 2],vs 28 4,[.bV 3],vs 32 4,[.bV 4,.ptr 3 0,.Ba 0],vs 36 6,[.bV 5]])),(3,261,(ct [vs 42 9,[.bV 6],vs 51 4,[.bV 7],vs 55 15,[.bV 8],vs 70 4,[.bV 9,.iV 74,.bV 10]]))],[],10,0⟩
def fO:List SV:=[.c (.ptr 1 0),.agg ((ct [vs 75 4,[.bV 11,.bV 12]]))]
def u9:List X8:=[⟨true,162,261,(ct [vs 42 9,[.bV 6],vs 51 4,[.bV 7],vs 55 15,[.bV 8],vs 70 4,[.bV 9,.iV 74,.bV 10]]),[.agg ((ct [vs 75 4,[.bV 11,.bV 12]]))],.Jt [(true,(ct [vs 112 8,[.bV 18],vs 120 4,[.bV 19],vs 124 4])),(false,[.bV 20])],(ct [vs 79 9,[.bV 13],vs 88 4,[.bV 14],vs 92 15,[.bV 15],vs 107 4,[.bV 16,.iV 111,.bV 17]])⟩]
def nW(J:Xc)(W:Xj)(pi:Option Go.Addr)(x:Xr)(a b:Nat)(w:World)(d:Bk w a 186 (({J with pc:=5,walk:=some W}:Xc).l (.pointer (some ⟨b,0,none⟩)) (.pointer pi)).toArray)(e:Bk w b 261 (W.l).toArray)(c:[a,b].Nodup):Kp 176 #[.pointer (some ⟨a,0,none⟩),.agg x.l.toArray] w λi w'=>Gh (λw q F1=>DD w q (Xc.Am ({J with pc:=5,walk:=some W}:Xc) x).1.walk F1) 186 (λq=>(Xc.Am ({J with pc:=5,walk:=some W}:Xc) x).1.l q (.pointer pi)) (Yq (Xc.Am ({J with pc:=5,walk:=some W}:Xc) x).2) a [a,b] w i w':=by
 refine p2 (hJL:=λr q=>Zk) (nU J W pi x) u9 80 xA fO 42 186 261 (Xc.Am ({J with pc:=5,walk:=some W}:Xc) x) (λr=>Yq r.2) (λr q=>r.1.l q (.pointer pi)) (λr=>r.1.walk.map λW=>W.l.toArray) (λr w q F1=>DD w q r.1.walk F1) (Yz (Cz Tryz.func162 λg w k=>Ik W x g w k) X6) CF (bl2 (Y1 d Zk) (Y1 e Zk)) c (λ_ _ h=>Kb h) (λ_ _ _ _ h m=>Ka h m) ?_;exact vS6
def nQ(J:Xc)(W:Xj)(pi:Option Go.Addr)(x:Xr):Env:=IA [J.last.ii,J.op.ii,[J.size,J.wanted,J.Ao,J.child],J.base.ii,J.node.ii,J.sentinel.ii,J.answer.ii,J.count.ii,W.ii,x.ii] [J.bb,W.bb,x.bb] [.pointer pi] (AS rfl)
def wY:St:=⟨[],[(1,186,(ct [[.int (.lit 7)],vs 0 8,[.bV 0],vs 8 4,[.bV 1],vs 12 16,[.bV 2],vs 28 4,[.bV 3],vs 32 4,[.bV 4,.ptr 3 0,.Ba 0],vs 36 6,[.bV 5]])),(3,261,(ct [vs 42 9,[.bV 6],vs 51 4,[.bV 7],vs 55 15,[.bV 8],vs 70 4,[.bV 9,.iV 74,.bV 10]]))],[],10,0⟩
def fM:List SV:=[.c (.ptr 1 0),.agg ((ct [vs 75 4,[.bV 11,.bV 12]]))]
def u7:List X8:=[]
def nR(J:Xc)(W:Xj)(pi:Option Go.Addr)(x:Xr)(a b:Nat)(w:World)(d:Bk w a 186 (({J with pc:=7,walk:=some W}:Xc).l (.pointer (some ⟨b,0,none⟩)) (.pointer pi)).toArray)(e:Bk w b 261 (W.l).toArray)(c:[a,b].Nodup):Kp 176 #[.pointer (some ⟨a,0,none⟩),.agg x.l.toArray] w λg w'=>Gh (λw q F1=>DD w q (Xc.Am ({J with pc:=7,walk:=some W}:Xc) x).1.walk F1) 186 (λq=>(Xc.Am ({J with pc:=7,walk:=some W}:Xc) x).1.l q (.pointer pi)) (Yq (Xc.Am ({J with pc:=7,walk:=some W}:Xc) x).2) a [a,b] w g w':=by
 refine p2 (hJL:=λr q=>Zk) (nQ J W pi x) u7 80 wY fM 42 186 261 (Xc.Am ({J with pc:=7,walk:=some W}:Xc) x) (λr=>Yq r.2) (λr q=>r.1.l q (.pointer pi)) (λr=>r.1.walk.map λW=>W.l.toArray) (λr w q F1=>DD w q r.1.walk F1) X6 CF (bl2 (Y1 d Zk) (Y1 e Zk)) c (λ_ _ h=>Kb h) (λ_ _ _ _ h j=>Ka h j) ?_;exact vS6
def gG(J:Xc)(pw:Option Go.Addr)(pi:Go.Addr)(x:Xr)(c:Xi):Env:=IA [J.last.ii,J.op.ii,[J.size,J.wanted,J.Ao,J.child],J.base.ii,J.node.ii,J.sentinel.ii,J.answer.ii,J.count.ii,x.ii,c.ii] [J.bb,x.bb,c.bb] [.pointer pw,.pointer (some pi)] (AS rfl)
def oH:St:=⟨[],[(1,186,(ct [[.int (.lit 11)],vs 0 8,[.bV 0],vs 8 4,[.bV 1],vs 12 16,[.bV 2],vs 28 4,[.bV 3],vs 32 4,[.bV 4,.Ba 0,.Ba 1],vs 36 6,[.bV 5]]))],[(.nil 1,false)],10,0⟩
def Yo:List SV:=[.c (.ptr 1 0),.agg ((ct [vs 42 4,[.bV 6,.bV 7]]))]
def xE:List X8:=[⟨false,154,101,[],[.c (.Ba 1),.agg ((ct [vs 42 4,[.bV 6,.bV 7]]))],.agg ((ct [vs 46 8,[.bV 8],vs 54 4,[.bV 9],vs 58 4])),[]⟩]
def gH{Φ:Hg}{F:Nat->Prop}(J:Xc)(pw:Option Go.Addr)(pi:Go.Addr)(x:Xr)(c:Xi)(a:Nat)(w:World)(e:Bk w a 186 (({J with pc:=11}:Xc).l (.pointer pw) (.pointer (some pi))).toArray)(g:∀w F,Φ.P 0 w F->(∀b,F b->b<w.heap.size)->Kp 154 #[.pointer (some pi),.agg x.l.toArray] w λd w'=>d=.returned (.agg c.l.toArray)/\Fx Φ 1 F none w w')(f1:Φ.P 0 w F)(f2:¬F a)(f3:∀b,F b->b<w.heap.size):Kp 176 #[.pointer (some ⟨a,0,none⟩),.agg x.l.toArray] w λd w'=>KG Φ 1 F a 186 ((Xc.Fu ({J with pc:=11}:Xc) c).1.l (.pointer pw) (.pointer (some pi))).toArray (Yq (Xc.Fu ({J with pc:=11}:Xc) c).2) w d w':=by
 refine pE (gG J pw pi x c) xE 60 oH Yo (Xc.Fu ({J with pc:=11}:Xc) c) (λr=>(Yq r.2,1,(r.1.l (.pointer pw) (.pointer (some pi))).toArray)) (Yf (AZ 0 1 λj w F h i=>Y8 Tryz.func154 (g w F h i)) GG) (Cp rfl CF) e f1 f2 f3 ?_;exact vS5
def dK(J:Xf)(x:Xr)(g:Nat)(F:List Nat)(w:World)(h:K5 w g J F):
  Kp 154 #[.pointer (some ⟨g,0,none⟩),.agg x.l.toArray] w (Jb (λw F=>K5 w g (J.next x).1 F) (Yq (J.next x).2) F w):=by
 obtain⟨⟨q,k,rfl,d,b⟩,i⟩:=h
 cases a:J.walk with
 |none=>
  rw[a] at b
  obtain⟨rfl,rfl⟩:=b
  have e:({J with walk:=none}:Xf)=J:=by cases J;simp only at a;subst a;rfl
  have:=sT J x g w (by rw[e];exact d) Zs
  rw[e] at this
  exact this
 |some W=>
  rw[a] at b
  obtain⟨j,rfl,rfl,c⟩:=b
  have e:({J with walk:=some W}:Xf)=J:=by cases J;simp only at a;subst a;rfl
  have:=sR J W x g j w (by rw[e];exact d) c i
  rw[e] at this
  exact this
def xl (d:Nat) (I l:Xf):Hg:=⟨fun i w F=>if i = 0 then ∃ a,K5 w d I a∧∀ b,F b↔b∈a else ∃ j,K5 w d l (d :: j)∧∀ b,F b↔b∈d :: j,fun i w m F h k=>by
 split at h
 ·rename_i e;obtain⟨a,f,c⟩:=h;rw[ga e];exact⟨a,f.same λb g=>k b ((c b).2 g),c⟩
 ·rename_i e;obtain⟨a,f,c⟩:=h;rw[fw e];exact⟨a,f.same λb g=>k b ((c b).2 g),c⟩⟩
def Tf{Φ:Hg}{j:Nat}{F:Nat->Prop}{d:List Nat}{w w':World}(a:Aq d w w')(hF:∀b,b∈d->F b)(c:∃F':Nat->Prop,Φ.P j w' F'/\(∀b,F' b->F b\/w.heap.size<=b)/\∀b,F' b->b<w'.heap.size):Fx Φ j F none w w':=
 ⟨a.os,a.tape,a.output,a.size,λb e _ f=>a.A5 b e λg=>f (hF b g),c⟩
def DY{J:Xc}{n:Int}(h:J.pc=n):({J with pc:=n}:Xc)=J:=by subst h;rfl
def Ng{J:Xc}{n k:Int}(h:J.pc=n)(a:J.op.kind=k):({J with pc:=n,op:={J.op with kind:=k}}:Xc)=J:=by subst h;subst a;rfl
def cF{J:Xc}{n:Int}{o:Option Xj}(h:J.pc=n)(a:J.walk=o):({J with pc:=n,walk:=o}:Xc)=J:=by subst h;subst a;rfl
def uj{x:Xr}{n:Int}(h:x.word.nm=n):({x with word:={x.word with nm:=n}}:Xr)=x:=by subst h;rfl
def zn{x:Xr}{n:Int}(h:x.word.sl=n):({x with word:={x.word with sl:=n}}:Xr)=x:=by subst h;rfl
def ui{x:Xr}{b:Bool}(h:x.ok=b):({x with ok:=b}:Xr)=x:=by subst h;rfl
structure t7(J:Xc):Prop where
 pc:J.pc=0\/J.pc=1\/J.pc=2\/J.pc=3\/J.pc=4\/J.pc=5\/J.pc=6\/J.pc=7\/J.pc=8\/J.pc=9\/J.pc=10\/J.pc=11\/J.pc=12\/J.pc=13\/J.pc=14\/J.pc=15
 kind:J.op.kind=6\/J.op.kind=7\/J.op.kind=8
 k0:0<=J.op.key
 k1:J.op.key<256
 w0:0<=J.wanted
 w1:J.wanted<8
 way:J.pc=2->EK J.wanted J.Ao
 b0:0<=J.Ao
 b1:J.Ao<8
 zq:J.pc=9\/J.pc=10->EK J.wanted J.child
 c0:0<=J.child
 c1:J.child<8
 walk:J.pc=5\/J.pc=7->∃W,J.walk=some W
 inner:J.pc=11->∃I,J.inner=some I
section
variable{J:Xc}{x:Xr}
def n0(h:J.pc=0):J.next x=Xc.next ({J with pc:=0}:Xc) x:=by rw[DY h]
def n1(h:J.pc=1):J.next x=J.sized x:=by unfold Xc.next;rw[h];rfl
def n2(h:J.pc=2):J.next x=J.BC x:=by unfold Xc.next;rw[h];rfl
def n11(h:J.pc=11):J.next x=J.GZ x:=by unfold Xc.next;rw[h];rfl
def n12(h:J.pc=12):J.next x=J.AX x:=by unfold Xc.next;rw[h];rfl
def n13(h:J.pc=13):J.next x=J.Ck x:=by unfold Xc.next;rw[h];rfl
def n14(h:J.pc=14):J.next x=J.AD x:=by unfold Xc.next;rw[h];rfl
def n15(h:J.pc=15):J.next x=J.done J.answer:=by unfold Xc.next;rw[h];rfl
def nC(h:J.pc=3\/J.pc=4\/J.pc=5\/J.pc=6\/J.pc=7\/J.pc=8\/J.pc=9\/J.pc=10):J.next x=J.Am x:=by
 unfold Xc.next;rcases h with h|h|h|h|h|h|h|h<;>rw[h]<;>rfl
end
