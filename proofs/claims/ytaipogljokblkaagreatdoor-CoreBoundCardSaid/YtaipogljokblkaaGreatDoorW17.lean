/- Core: VB0, CWalk, VB1, VB2, CVa, CVc. -/
import Derived.Test.YtaipogljokblkaaGreatDoorW10
import Derived.Test.YtaipogljokblkaaGreatDoorW01
import Derived.Test.YtaipogljokblkaaGreatDoorW06
import Derived.Test.YtaipogljokblkaaGreatDoorW09
set_option linter.all false
set_option maxRecDepth 100000
set_option maxHeartbeats 8000000
namespace Go.Proofs.YtaipogljokblkaaGreatDoor
open Go Go.RowKit
set_option linter.unusedSimpArgs false
set_option linter.unusedVariables false
set_option linter.unusedSectionVars false
theorem N1{b:Int}(h:0<=b/\b<8):wr (8+b)=8+b:=i64_id _ Zo Zo
theorem Tx{b:Int}(h:0<=b/\b<8):decide (wr (8+b)<0)=false:=decide_eq_false (by rw[N1 h];omega)
theorem Tw{b:Int}(h:0<=b/\b<8):decide (24<=wr (8+b))=false:=decide_eq_false (by rw[N1 h];omega)
theorem Tv{b:Int}(h:0<=b/\b<8):decide (0<=wr (8+b))=true:=decide_eq_true (by rw[N1 h];omega)
theorem Tu{b:Int}(h:0<=b/\b<8):decide (wr (8+b)<24)=true:=decide_eq_true (by rw[N1 h];omega)
theorem DU{k:Int}{z:Int}(h0:0<=k)(h1:1<=z)(h2:z<=8):0<=Int.tmod k z/\Int.tmod k z<8:=by
 have a:=Int.tmod_nonneg z h0;have b:=Int.tmod_lt_of_pos k (show 0<z by omega);omega
theorem FY{b:Int}(h0:0<=b)(h1:b<8):0<=E4 b/\E4 b<8:=by
 have h:b=0\/b=1\/b=2\/b=3\/b=4\/b=5\/b=6\/b=7:=Zo;rcases h with rfl|rfl|rfl|rfl|rfl|rfl|rfl|rfl<;>decide
def jO(W:Xq)(x:Xj):Env:=Ix [W.ii,x.ii] [W.bb,x.bb]
def rY:St:=⟨[],[(1,261,(ct [vs 0 9,[.bool (.var 0)],vs 9 4,[.bool (.var 1)],vs 13 15,[.bool (.var 2)],vs 28 4,[.bool (.var 3),.int (.var 32),.bool (.var 4)]]))],[],10,0⟩
def bQ:List SV:=[.c (.ptr 1 0),.agg ((ct [vs 33 4,[.bool (.var 5),.bool (.var 6)]]))]
theorem Hv(W:Xq)(x:Xj)(g1:Nat)(w:World)(h1:Bk w g1 261 W.l.toArray):Calls Tryz.prog 162 #[.pointer (some ⟨g1,0,none⟩),.agg x.l.toArray] w λen w'=>en=.returned (I1 (W.step x).2)/\Bk w' g1 261 ((W.step x).1.l).toArray/\Al [g1] w w':=by
 refine p1 (jO W x) [] 60 rY bQ (W.step x) (λr=>(I1 r.2,(r.1.l).toArray)) Xt Ci h1 ?_;exact vS1
end Go.Proofs.YtaipogljokblkaaGreatDoor
namespace Go.Proofs.YtaipogljokblkaaGreatDoor
open Go Go.RowKit
def R6(pw pi:Option Go.Addr)(J':Xa)(V:Value)(I0:Option Xi)(g1:Nat)(w:World)(en:Ending)(w':World):Prop:=
 en = .returned V∧Al [g1] w w'∧((J'.inner = I0∧Bk w' g1 186 (J'.l (.pointer pw) (.pointer pi)).toArray) ∨
  ∃gi F1 I,J'.inner=some I/\Bk w' g1 186 (J'.l (.pointer pw) (.pointer (some ⟨gi,0,none⟩))).toArray/\Km w' gi I (gi::F1)/\∀b∈gi::F1,w.heap.size<=b)
section
variable{e:Env}{gs:List Nat}{hp hp':Yk}{w w':World}{v:SV}{en:Ending}{k':Nat->Nat}{V:Value}{g:Nat}{c1 c2 c3:List SC}{ls:List Nat}{pw pi:Option Go.Addr}{J':Xa}{I0:Option Xi}
theorem xY(h:Hf e (Dw gs) hp w v hp' en w' k')(l1:Fs 1 (Yi hp)=true)(hg:Dw gs 1=g)(m1:(1,186,c1)∈hp')(ec:Ym e k' c1=(J'.l (.pointer pw) (.pointer pi)).toArray)(hv:v.den e k'=V)
  (hch:Io hp' hp=ls)(hF:∀l∈ls,Dw gs l∈[g])(hi:J'.inner=I0):R6 pw pi J' V I0 g w en w':=
 ⟨h.ret.trans (by rw[hv]),Gd h.Cf hch hF,Or.inl ⟨hi,Hq h m1 ((h.ext 1 (B5.1 l1)).trans hg) ec⟩⟩
theorem xZ(h:Hf e (Dw gs) hp w v hp' en w' k')(l1:Fs 1 (Yi hp)=true)(hg:Dw gs 1=g)(m1:(1,186,c1)∈hp'){l2:Nat}(m2:(l2,206,c2)∈hp')(n2:Fs l2 (Yi hp)=false){I:Xi}
  (ec:Ym e k' c1=(J'.l (.pointer pw) (.pointer (some ⟨k' l2,0,none⟩))).toArray)(hv:v.den e k'=V)(hch:Io hp' hp=ls)(hF:∀l∈ls,Dw gs l∈[g])(hi:J'.inner=some I)
  (e2:Ym e k' c2=(I.l (.pointer none)).toArray)(hw:I.walk=none):R6 pw pi J' V I0 g w en w':=by
 have s2:w.heap.size<=k' l2:=(h.new _ m2).resolve_left λhx=>absurd (B5.2 hx) (by rw[n2];simp)
 refine⟨h.ret.trans (by rw[hv]),Gd h.Cf hch hF,Or.inr ⟨k' l2,[],I,hi,Hq h m1 ((h.ext 1 (B5.1 l1)).trans hg) ec,⟨⟨.pointer none,[],rfl,Hq h m2 rfl e2,?_⟩,by simp⟩,λb hb=>?_⟩⟩
 ·rw[hw];exact⟨rfl,rfl⟩
 ·rw[List.mem_singleton.1 hb];exact s2
theorem sC(h:Hf e (Dw gs) hp w v hp' en w' k')(l1:Fs 1 (Yi hp)=true)(hg:Dw gs 1=g)(m1:(1,186,c1)∈hp'){l2:Nat}(m2:(l2,206,c2)∈hp')(n2:Fs l2 (Yi hp)=false){I:Xi}
  {l3:Nat}(m3:(l3,261,c3)∈hp')(n3:Fs l3 (Yi hp)=false)(hne:(l2==l3)=false){W:Xq}
  (ec:Ym e k' c1=(J'.l (.pointer pw) (.pointer (some ⟨k' l2,0,none⟩))).toArray)(hv:v.den e k'=V)(hch:Io hp' hp=ls)(hF:∀l∈ls,Dw gs l∈[g])(hi:J'.inner=some I)
  (e2:Ym e k' c2=(I.l (.pointer (some ⟨k' l3,0,none⟩))).toArray)(hw:I.walk=some W)(e3:Ym e k' c3=W.l.toArray):R6 pw pi J' V I0 g w en w':=by
 have s2:w.heap.size<=k' l2:=(h.new _ m2).resolve_left λhx=>absurd (B5.2 hx) (by rw[n2];simp)
 have s3:w.heap.size<=k' l3:=(h.new _ m3).resolve_left λhx=>absurd (B5.2 hx) (by rw[n3];simp)
 have hn:¬(k' l2=k' l3):=λhe=>by
  have:=h.inj _ m2 _ m3 he;simp only at this;rw[this] at hne;simp at hne
 refine⟨h.ret.trans (by rw[hv]),Gd h.Cf hch hF,Or.inr ⟨k' l2,[k' l3],I,hi,Hq h m1 ((h.ext 1 (B5.1 l1)).trans hg) ec,⟨⟨.pointer (some ⟨k' l3,0,none⟩),[k' l3],rfl,Hq h m2 rfl e2,?_⟩,by simp[hn]⟩,λb hb=>?_⟩⟩
 ·rw[hw];exact⟨k' l3,rfl,rfl,Hq h m3 rfl e3⟩
 ·rcases List.mem_cons.1 hb with rfl|hb
  ·exact s2
  ·rw[List.mem_singleton.1 hb];exact s3
end
def PR(wanted Ai:Int):Prop:=Ai=wanted\/Ai=E4 wanted\/Ai=E4 (E4 wanted)\/Ai=E4 (E4 (E4 wanted))
theorem To{a b:Int}(h:PR a b)(c0:(b==a)=false)(c1:(E4 a==b)=false)(c2:(E4 (E4 a)==b)=false)(c3:(E4 (E4 (E4 a))==b)=false):False:=by
 simp only[beq_eq_false_iff_ne,ne_eq] at c0 c1 c2 c3;rcases h with h|h|h|h
 ·exact c0 h
 ·exact c1 h.symm
 ·exact c2 h.symm
 ·exact c3 h.symm
def lB(J:Xa)(pw:Option Go.Addr)(pi:Option Go.Addr)(x:Xj):Env:=Iw [J.last.ii,J.op.ii,[J.size,J.wanted,J.Ai,J.child],J.base.ii,J.node.ii,J.sentinel.ii,J.answer.ii,J.count.ii,x.ii] [J.bb,x.bb] [.pointer pw,.pointer pi] (AI rfl)
def sT:St:=⟨[],[(1,186,(ct [[.int (.lit 0)],vs 0 8,[.bool (.var 0)],vs 8 4,[.bool (.var 1)],vs 12 16,[.bool (.var 2)],vs 28 4,[.bool (.var 3)],vs 32 4,[.bool (.var 4),.AQ 0,.AQ 1],vs 36 6,[.bool (.var 5)]]))],[],10,0⟩
def dD:List SV:=[.c (.ptr 1 0),.agg ((ct [vs 42 4,[.bool (.var 6),.bool (.var 7)]]))]
theorem lC(J:Xa)(pw:Option Go.Addr)(pi:Option Go.Addr)(x:Xj)(g1:Nat)(w:World)(h1:Bk w g1 186 (({J with pc:=0}:Xa).l (.pointer pw) (.pointer pi)).toArray):Calls Tryz.prog 176 #[.pointer (some ⟨g1,0,none⟩),.agg x.l.toArray] w λen w'=>en=.returned (Yn (Xa.next ({J with pc:=0}:Xa) x).2)/\Bk w' g1 186 ((Xa.next ({J with pc:=0}:Xa) x).1.l (.pointer pw) (.pointer pi)).toArray/\Al [g1] w w':=by
 refine p1 (lB J pw pi x) [] 80 sT dD (Xa.next ({J with pc:=0}:Xa) x) (λr=>(Yn r.2,(r.1.l (.pointer pw) (.pointer pi)).toArray)) Xt Ci h1 ?_;exact vS1
def We(J:Xa)(pw:Option Go.Addr)(pi:Option Go.Addr)(x:Xj):Env:=Iw [J.last.ii,J.op.ii,[J.size,J.wanted,J.Ai,J.child],J.base.ii,J.node.ii,J.sentinel.ii,J.answer.ii,J.count.ii,[x.word.sl,x.word.gn,x.word.tg]] [J.bb,x.bb] [.pointer pw,.pointer pi] (AI rfl)
def cR:St:=⟨[],[(1,186,(ct [[.int (.lit 1)],vs 0 8,[.bool (.var 0)],vs 8 4,[.bool (.var 1)],vs 12 16,[.bool (.var 2)],vs 28 4,[.bool (.var 3)],vs 32 4,[.bool (.var 4),.AQ 0,.AQ 1],vs 36 6,[.bool (.var 5)]]))],[(.lt (.add (.lit 8) (.rem (.var 17) 2)) (.lit 0),false),(.le (.lit 24) (.add (.lit 8) (.rem (.var 17) 2)),false),(.le (.lit 0) (.add (.lit 8) (.rem (.var 17) 2)),true),(.lt (.add (.lit 8) (.rem (.var 17) 2)) (.lit 24),true)],10,0⟩
def T3:List SV:=[.c (.ptr 1 0),.agg ((ct [vs 42 3,[.int (.lit 2),.bool (.var 6),.bool (.var 7)]]))]
theorem Wf(J:Xa)(pw:Option Go.Addr)(pi:Option Go.Addr)(x:Xj)(g1:Nat)(w:World)(h1:Bk w g1 186 (({J with pc:=1}:Xa).l (.pointer pw) (.pointer pi)).toArray)(hk0:0<=J.op.key)(hk1:J.op.key<256):Calls Tryz.prog 176 #[.pointer (some ⟨g1,0,none⟩),.agg ({x with word:={x.word with nm:=2}}:Xj).l.toArray] w λen w'=>en=.returned (Yn (Xa.Cn ({J with pc:=1}:Xa) 2).2)/\Bk w' g1 186 ((Xa.Cn ({J with pc:=1}:Xa) 2).1.l (.pointer pw) (.pointer pi)).toArray/\Al [g1] w w':=by
 refine p1 (We J pw pi x) [] 80 cR T3 (Xa.Cn ({J with pc:=1}:Xa) 2) (λr=>(Yn r.2,(r.1.l (.pointer pw) (.pointer pi)).toArray)) Xt (Ca (Tx (b:=(Int.tmod J.op.key 2)) (DU hk0 Zd Zd)) (Ca (Tw (b:=(Int.tmod J.op.key 2)) (DU hk0 Zd Zd)) (Ca (Tv (b:=(Int.tmod J.op.key 2)) (DU hk0 Zd Zd)) (Ca (Tu (b:=(Int.tmod J.op.key 2)) (DU hk0 Zd Zd)) Ci)))) h1 ?_;exact vS1
def Wc(J:Xa)(pw:Option Go.Addr)(pi:Option Go.Addr)(x:Xj):Env:=Iw [J.last.ii,J.op.ii,[J.size,J.wanted,J.Ai,J.child],J.base.ii,J.node.ii,J.sentinel.ii,J.answer.ii,J.count.ii,[x.word.sl,x.word.gn,x.word.tg]] [J.bb,x.bb] [.pointer pw,.pointer pi] (AI rfl)
def cQ:St:=⟨[],[(1,186,(ct [[.int (.lit 1)],vs 0 8,[.bool (.var 0)],vs 8 4,[.bool (.var 1)],vs 12 16,[.bool (.var 2)],vs 28 4,[.bool (.var 3)],vs 32 4,[.bool (.var 4),.AQ 0,.AQ 1],vs 36 6,[.bool (.var 5)]]))],[(.lt (.add (.lit 8) (.rem (.var 17) 4)) (.lit 0),false),(.le (.lit 24) (.add (.lit 8) (.rem (.var 17) 4)),false),(.le (.lit 0) (.add (.lit 8) (.rem (.var 17) 4)),true),(.lt (.add (.lit 8) (.rem (.var 17) 4)) (.lit 24),true)],10,0⟩
def T0:List SV:=[.c (.ptr 1 0),.agg ((ct [vs 42 3,[.int (.lit 4),.bool (.var 6),.bool (.var 7)]]))]
theorem Wd(J:Xa)(pw:Option Go.Addr)(pi:Option Go.Addr)(x:Xj)(g1:Nat)(w:World)(h1:Bk w g1 186 (({J with pc:=1}:Xa).l (.pointer pw) (.pointer pi)).toArray)(hk0:0<=J.op.key)(hk1:J.op.key<256):Calls Tryz.prog 176 #[.pointer (some ⟨g1,0,none⟩),.agg ({x with word:={x.word with nm:=4}}:Xj).l.toArray] w λen w'=>en=.returned (Yn (Xa.Cn ({J with pc:=1}:Xa) 4).2)/\Bk w' g1 186 ((Xa.Cn ({J with pc:=1}:Xa) 4).1.l (.pointer pw) (.pointer pi)).toArray/\Al [g1] w w':=by
 refine p1 (Wc J pw pi x) [] 80 cQ T0 (Xa.Cn ({J with pc:=1}:Xa) 4) (λr=>(Yn r.2,(r.1.l (.pointer pw) (.pointer pi)).toArray)) Xt (Ca (Tx (b:=(Int.tmod J.op.key 4)) (DU hk0 Zd Zd)) (Ca (Tw (b:=(Int.tmod J.op.key 4)) (DU hk0 Zd Zd)) (Ca (Tv (b:=(Int.tmod J.op.key 4)) (DU hk0 Zd Zd)) (Ca (Tu (b:=(Int.tmod J.op.key 4)) (DU hk0 Zd Zd)) Ci)))) h1 ?_;exact vS1
def Wa(J:Xa)(pw:Option Go.Addr)(pi:Option Go.Addr)(x:Xj):Env:=Iw [J.last.ii,J.op.ii,[J.size,J.wanted,J.Ai,J.child],J.base.ii,J.node.ii,J.sentinel.ii,J.answer.ii,J.count.ii,[x.word.sl,x.word.gn,x.word.tg]] [J.bb,x.bb] [.pointer pw,.pointer pi] (AI rfl)
def cP:St:=⟨[],[(1,186,(ct [[.int (.lit 1)],vs 0 8,[.bool (.var 0)],vs 8 4,[.bool (.var 1)],vs 12 16,[.bool (.var 2)],vs 28 4,[.bool (.var 3)],vs 32 4,[.bool (.var 4),.AQ 0,.AQ 1],vs 36 6,[.bool (.var 5)]]))],[(.lt (.add (.lit 8) (.rem (.var 17) 8)) (.lit 0),false),(.le (.lit 24) (.add (.lit 8) (.rem (.var 17) 8)),false),(.le (.lit 0) (.add (.lit 8) (.rem (.var 17) 8)),true),(.lt (.add (.lit 8) (.rem (.var 17) 8)) (.lit 24),true)],10,0⟩
def Tz:List SV:=[.c (.ptr 1 0),.agg ((ct [vs 42 3,[.int (.lit 8),.bool (.var 6),.bool (.var 7)]]))]
theorem Wb(J:Xa)(pw:Option Go.Addr)(pi:Option Go.Addr)(x:Xj)(g1:Nat)(w:World)(h1:Bk w g1 186 (({J with pc:=1}:Xa).l (.pointer pw) (.pointer pi)).toArray)(hk0:0<=J.op.key)(hk1:J.op.key<256):Calls Tryz.prog 176 #[.pointer (some ⟨g1,0,none⟩),.agg ({x with word:={x.word with nm:=8}}:Xj).l.toArray] w λen w'=>en=.returned (Yn (Xa.Cn ({J with pc:=1}:Xa) 8).2)/\Bk w' g1 186 ((Xa.Cn ({J with pc:=1}:Xa) 8).1.l (.pointer pw) (.pointer pi)).toArray/\Al [g1] w w':=by
 refine p1 (Wa J pw pi x) [] 80 cP Tz (Xa.Cn ({J with pc:=1}:Xa) 8) (λr=>(Yn r.2,(r.1.l (.pointer pw) (.pointer pi)).toArray)) Xt (Ca (Tx (b:=(Int.tmod J.op.key 8)) (DU hk0 Zd Zd)) (Ca (Tw (b:=(Int.tmod J.op.key 8)) (DU hk0 Zd Zd)) (Ca (Tv (b:=(Int.tmod J.op.key 8)) (DU hk0 Zd Zd)) (Ca (Tu (b:=(Int.tmod J.op.key 8)) (DU hk0 Zd Zd)) Ci)))) h1 ?_;exact vS1
def Wg(J:Xa)(pw:Option Go.Addr)(pi:Option Go.Addr)(x:Xj):Env:=Iw [J.last.ii,J.op.ii,[J.size,J.wanted,J.Ai,J.child],J.base.ii,J.node.ii,J.sentinel.ii,J.answer.ii,J.count.ii,x.ii] [J.bb,x.bb] [.pointer pw,.pointer pi] (AI rfl)
def cS:St:=⟨[],[(1,186,(ct [[.int (.lit 1)],vs 0 8,[.bool (.var 0)],vs 8 4,[.bool (.var 1)],vs 12 16,[.bool (.var 2)],vs 28 4,[.bool (.var 3)],vs 32 4,[.bool (.var 4),.AQ 0,.AQ 1],vs 36 6,[.bool (.var 5)]]))],[(.lt (.add (.lit 8) (.rem (.var 17) 1)) (.lit 0),false),(.le (.lit 24) (.add (.lit 8) (.rem (.var 17) 1)),false),(.le (.lit 0) (.add (.lit 8) (.rem (.var 17) 1)),true),(.lt (.add (.lit 8) (.rem (.var 17) 1)) (.lit 24),true),(.eq (.var 45) (.lit 2),false),(.eq (.var 45) (.lit 4),false),(.eq (.var 45) (.lit 8),false)],10,0⟩
def T4:List SV:=[.c (.ptr 1 0),.agg ((ct [vs 42 4,[.bool (.var 6),.bool (.var 7)]]))]
theorem Wh(J:Xa)(pw:Option Go.Addr)(pi:Option Go.Addr)(x:Xj)(g1:Nat)(w:World)(h1:Bk w g1 186 (({J with pc:=1}:Xa).l (.pointer pw) (.pointer pi)).toArray)(hk0:0<=J.op.key)(hk1:J.op.key<256)(hz2:(x.word.nm==2)=false)(hz4:(x.word.nm==4)=false)(hz8:(x.word.nm==8)=false):Calls Tryz.prog 176 #[.pointer (some ⟨g1,0,none⟩),.agg x.l.toArray] w λen w'=>en=.returned (Yn (Xa.Cn ({J with pc:=1}:Xa) 1).2)/\Bk w' g1 186 ((Xa.Cn ({J with pc:=1}:Xa) 1).1.l (.pointer pw) (.pointer pi)).toArray/\Al [g1] w w':=by
 refine p1 (Wg J pw pi x) [] 80 cS T4 (Xa.Cn ({J with pc:=1}:Xa) 1) (λr=>(Yn r.2,(r.1.l (.pointer pw) (.pointer pi)).toArray)) Xt (Ca (Tx (b:=(Int.tmod J.op.key 1)) (DU hk0 Zd Zd)) (Ca (Tw (b:=(Int.tmod J.op.key 1)) (DU hk0 Zd Zd)) (Ca (Tv (b:=(Int.tmod J.op.key 1)) (DU hk0 Zd Zd)) (Ca (Tu (b:=(Int.tmod J.op.key 1)) (DU hk0 Zd Zd)) (Ca hz2 (Ca hz4 (Ca hz8 Ci))))))) h1 ?_;exact vS1
def cZ(J:Xa)(pw:Option Go.Addr)(pi:Option Go.Addr)(x:Xj):Env:=Iw [J.last.ii,J.op.ii,[J.size,J.wanted,J.Ai,J.child],J.base.ii,J.node.ii,J.sentinel.ii,J.answer.ii,J.count.ii,x.ii] [J.bb,x.bb] [.pointer pw,.pointer pi] (AI rfl)
def kY:St:=⟨[],[(1,186,(ct [[.int (.lit 12)],vs 0 8,[.bool (.var 0)],vs 8 4,[.bool (.var 1)],vs 12 16,[.bool (.var 2)],vs 28 4,[.bool (.var 3)],vs 32 4,[.bool (.var 4),.AQ 0,.AQ 1],vs 36 6,[.bool (.var 5)]]))],[],10,0⟩
def Wl:List SV:=[.c (.ptr 1 0),.agg ((ct [vs 42 4,[.bool (.var 6),.bool (.var 7)]]))]
theorem dA(J:Xa)(pw:Option Go.Addr)(pi:Option Go.Addr)(x:Xj)(g1:Nat)(w:World)(h1:Bk w g1 186 (({J with pc:=12}:Xa).l (.pointer pw) (.pointer pi)).toArray):Calls Tryz.prog 176 #[.pointer (some ⟨g1,0,none⟩),.agg x.l.toArray] w λen w'=>en=.returned (Yn (Xa.GX ({J with pc:=12}:Xa) x).2)/\Bk w' g1 186 ((Xa.GX ({J with pc:=12}:Xa) x).1.l (.pointer pw) (.pointer pi)).toArray/\Al [g1] w w':=by
 refine p1 (cZ J pw pi x) [] 80 kY Wl (Xa.GX ({J with pc:=12}:Xa) x) (λr=>(Yn r.2,(r.1.l (.pointer pw) (.pointer pi)).toArray)) Xt Ci h1 ?_;refine D9 (show _=(bif J.op.kind==7 then _ else _) from(wC (J.op.kind==7) (λz=>(({J with pc:=13,count:=x.word}:Xa),Xx (root 17) x.word (Cx x.word z))))) ?_;exact vS1
def cX(J:Xa)(pw:Option Go.Addr)(pi:Option Go.Addr)(x:Xj):Env:=Iw [J.last.ii,J.op.ii,[J.size,J.wanted,J.Ai,J.child],J.base.ii,J.node.ii,J.sentinel.ii,J.answer.ii,J.count.ii,x.ii] [J.bb,x.bb] [.pointer pw,.pointer pi] (AI rfl)
def kX:St:=⟨[],[(1,186,(ct [[.int (.lit 13)],vs 0 8,[.bool (.var 0)],vs 8 4,[.bool (.var 1)],vs 12 16,[.bool (.var 2)],vs 28 4,[.bool (.var 3)],vs 32 4,[.bool (.var 4),.AQ 0,.AQ 1],vs 36 6,[.bool (.var 5)]]))],[],10,0⟩
def Wk:List SV:=[.c (.ptr 1 0),.agg ((ct [vs 42 4,[.bool (.var 6),.bool (.var 7)]]))]
theorem cY(J:Xa)(pw:Option Go.Addr)(pi:Option Go.Addr)(x:Xj)(g1:Nat)(w:World)(h1:Bk w g1 186 (({J with pc:=13}:Xa).l (.pointer pw) (.pointer pi)).toArray):Calls Tryz.prog 176 #[.pointer (some ⟨g1,0,none⟩),.agg x.l.toArray] w λen w'=>en=.returned (Yn (Xa.He ({J with pc:=13}:Xa) x).2)/\Bk w' g1 186 ((Xa.He ({J with pc:=13}:Xa) x).1.l (.pointer pw) (.pointer pi)).toArray/\Al [g1] w w':=by
 refine p1 (cX J pw pi x) [] 80 kX Wk (Xa.He ({J with pc:=13}:Xa) x) (λr=>(Yn r.2,(r.1.l (.pointer pw) (.pointer pi)).toArray)) Xt Ci h1 ?_;exact vS1
def cV(J:Xa)(pw:Option Go.Addr)(pi:Option Go.Addr)(x:Xj):Env:=Iw [J.last.ii,J.op.ii,[J.size,J.wanted,J.Ai,J.child],J.base.ii,J.node.ii,J.sentinel.ii,J.answer.ii,J.count.ii,x.ii] [J.bb,x.bb] [.pointer pw,.pointer pi] (AI rfl)
def kW:St:=⟨[],[(1,186,(ct [[.int (.lit 14)],vs 0 8,[.bool (.var 0)],vs 8 4,[.bool (.var 1)],vs 12 16,[.bool (.var 2)],vs 28 4,[.bool (.var 3)],vs 32 4,[.bool (.var 4),.AQ 0,.AQ 1],vs 36 6,[.bool (.var 5)]]))],[],10,0⟩
def Wj:List SV:=[.c (.ptr 1 0),.agg ((ct [vs 42 4,[.bool (.var 6),.bool (.var 7)]]))]
theorem cW(J:Xa)(pw:Option Go.Addr)(pi:Option Go.Addr)(x:Xj)(g1:Nat)(w:World)(h1:Bk w g1 186 (({J with pc:=14}:Xa).l (.pointer pw) (.pointer pi)).toArray):Calls Tryz.prog 176 #[.pointer (some ⟨g1,0,none⟩),.agg x.l.toArray] w λen w'=>en=.returned (Yn (Xa.Dn ({J with pc:=14}:Xa) x).2)/\Bk w' g1 186 ((Xa.Dn ({J with pc:=14}:Xa) x).1.l (.pointer pw) (.pointer pi)).toArray/\Al [g1] w w':=by
 refine p1 (cV J pw pi x) [] 80 kW Wj (Xa.Dn ({J with pc:=14}:Xa) x) (λr=>(Yn r.2,(r.1.l (.pointer pw) (.pointer pi)).toArray)) Xt Ci h1 ?_;exact vS1
def cT(J:Xa)(pw:Option Go.Addr)(pi:Option Go.Addr)(x:Xj):Env:=Iw [J.last.ii,J.op.ii,[J.size,J.wanted,J.Ai,J.child],J.base.ii,J.node.ii,J.sentinel.ii,J.answer.ii,J.count.ii,x.ii] [J.bb,x.bb] [.pointer pw,.pointer pi] (AI rfl)
def kV:St:=⟨[],[(1,186,(ct [[.int (.lit 15)],vs 0 8,[.bool (.var 0)],vs 8 4,[.bool (.var 1)],vs 12 16,[.bool (.var 2)],vs 28 4,[.bool (.var 3)],vs 32 4,[.bool (.var 4),.AQ 0,.AQ 1],vs 36 6,[.bool (.var 5)]]))],[],10,0⟩
def Wi:List SV:=[.c (.ptr 1 0),.agg ((ct [vs 42 4,[.bool (.var 6),.bool (.var 7)]]))]
theorem cU(J:Xa)(pw:Option Go.Addr)(pi:Option Go.Addr)(x:Xj)(g1:Nat)(w:World)(h1:Bk w g1 186 (({J with pc:=15}:Xa).l (.pointer pw) (.pointer pi)).toArray):Calls Tryz.prog 176 #[.pointer (some ⟨g1,0,none⟩),.agg x.l.toArray] w λen w'=>en=.returned (Yn (Xa.done ({J with pc:=15}:Xa) J.answer).2)/\Bk w' g1 186 ((Xa.done ({J with pc:=15}:Xa) J.answer).1.l (.pointer pw) (.pointer pi)).toArray/\Al [g1] w w':=by
 refine p1 (cT J pw pi x) [] 80 kV Wi (Xa.done ({J with pc:=15}:Xa) J.answer) (λr=>(Yn r.2,(r.1.l (.pointer pw) (.pointer pi)).toArray)) Xt Ci h1 ?_;exact vS1
end Go.Proofs.YtaipogljokblkaaGreatDoor
