/- Core: LD, LE. -/
import Derived.Test.YtaipogljokblkaaGreatDoorZ41
set_option linter.all false
set_option maxRecDepth 100000
set_option maxHeartbeats 8000000
namespace Go.Proofs.YtaipogljokblkaaGreatDoor
open Go Go.RowKit
set_option linter.unusedSimpArgs false
set_option linter.unusedVariables false
set_option linter.unusedSectionVars false
def ClO (n:Nat) (o:Option Xe):Prop:=∀ C,o = some C→ClimbI n C
def COn (o:Option Xe):Prop:=∃ C,o = some C∧C.pc≠-1
def CSo (o:Option Xe):Prop:=∃ C,o = some C
theorem COn.so {o:Option Xe} (h:COn o):CSo o:=h.imp fun _ h=>h.1
theorem climb_seek {n:Nat} {b:Int}:ClO n (some (Xe.new b))∧COn (some (Xe.new b)) :=
 ⟨fun C e=>by cases e;exact climb_new,_,rfl,by simp [Xe.new,Xe.zero]⟩
theorem climbP_ok {n:Nat} {o:Option Xe} (h:ClO n o) (l:Int):SpotI n (climbP o l):=by
 cases o with
 | none=>exact spot_zero
 | some C =>
  have hb:=(h C rfl).b
  show SpotI n (placeA C l)
  unfold placeA Xe.getS
  (repeat' split)
  ·exact spot_zero
  ·exact spot_zero
  ·exact hb.s0
  ·exact hb.s1
  ·exact hb.s2
theorem climbF_ok {n:Nat} {o:Option Xe} (h:ClO n o):WOk n (climbF o):=by
 cases o with
 | none=>exact Yi
 | some C=>exact (h C rfl).b.fd
theorem climbS_ok {st:Int} {n:Nat} {o:Option Xe} {x:Xi} (hst:st≠2) (h:ClO n o) (hp:COn o) (hx:WOk n x.word) :
  ClO n (climbS o x).1∧CSo (climbS o x).1∧((climbS o x).2.2 = true→COk st n (climbS o x).2.1∧(climbS o x).2.1.kind≠12∧COn (climbS o x).1):=by
 obtain ⟨C,rfl,hpc⟩:=hp
 have hw:=climb_ok (x:=x) hst (h C rfl) hpc hx
 refine ⟨fun C' e=>?_,⟨_,rfl⟩,fun e=>?_⟩
 ·cases e;exact hw.1
 ·exact ⟨(hw.2.1 e).1,(hw.2.1 e).2.1,_,rfl,(hw.2.1 e).2.2⟩
structure SteB (n:Nat) (J:Xc):Prop where
 node:WOk n J.node
 climb:ClO n J.climb
 op:(J.op.kind = 6∧1≤J.op.tall∧J.op.tall≤3)∨J.op.kind = 7∨J.op.kind = 8
 l0:0≤J.level
 l3:J.level≤3
def StePc (n:Nat) (J:Xc) (c:Xg):Prop :=
 (J.pc = -1∧c.kind = 12)∨(c.kind≠12∧(
  J.pc = 0 ∨
  (J.op.kind = 6∧J.pc = 1∧c.kind = 8) ∨
  (J.op.kind = 6∧(J.pc = 2∨J.pc = 3∨J.pc = 4)∧WOn n J.node) ∨
  (J.op.kind = 6∧J.pc = 5∧WOn n J.node∧COn J.climb) ∨
  (J.op.kind = 6∧(J.pc = 6∨J.pc = 8)∧WOn n J.node∧CSo J.climb) ∨
  (J.op.kind = 6∧J.pc = 7∧J.level≤2∧WOn n J.node∧CSo J.climb) ∨
  (J.op.kind = 6∧(J.pc = 9∨J.pc = 10∨J.pc = 11)∧J.level≤2∧WOn n J.node∧CSo J.climb) ∨
  (J.op.kind = 6∧J.pc = 12∧J.level≤2∧WOn n J.node∧COn J.climb) ∨
  ((J.op.kind = 7∨J.op.kind = 8)∧J.pc = 1∧COn J.climb) ∨
  ((J.op.kind = 7∨J.op.kind = 8)∧J.pc = 2∧WOn n J.node∧CSo J.climb) ∨
  (J.op.kind = 7∧(J.pc = 3∨J.pc = 4∨J.pc = 5)∧J.level≤2∧WOn n J.node∧CSo J.climb) ∨
  (J.op.kind = 7∧J.pc = 6∧WOn n J.node∧COn J.climb) ∨
  ((J.op.kind = 6∨J.op.kind = 7)∧(J.pc = 101∨J.pc = 102∨J.pc = 104)∧WOn n J.node∧CSo J.climb) ∨
  ((J.op.kind = 6∨J.op.kind = 7)∧J.pc = 103∧WOn n J.node∧COn J.climb)))
structure SteI (n:Nat) (J:Xc) (c:Xg):Prop where
 b:SteB n J
 pc:StePc n J c
def SteQ (st:Int) (n:Nat) (r:Xc × Xg):Prop:=SteI n r.1 r.2∧COk st n r.2
theorem wr2 {l:Int} (h0:0≤l) (h1:l≤3):wr (2+l) = 2+l:=wri (by omega) (by omega)
theorem steQ_of {st:Int} {n:Nat} {J:Xc} {c:Xg} (b:SteB n J) (hc:COk st n c) (hk:c.kind≠12) (hp:
  J.pc = 0 ∨
  (J.op.kind = 6∧J.pc = 1∧c.kind = 8) ∨
  (J.op.kind = 6∧(J.pc = 2∨J.pc = 3∨J.pc = 4)∧WOn n J.node) ∨
  (J.op.kind = 6∧J.pc = 5∧WOn n J.node∧COn J.climb) ∨
  (J.op.kind = 6∧(J.pc = 6∨J.pc = 8)∧WOn n J.node∧CSo J.climb) ∨
  (J.op.kind = 6∧J.pc = 7∧J.level≤2∧WOn n J.node∧CSo J.climb) ∨
  (J.op.kind = 6∧(J.pc = 9∨J.pc = 10∨J.pc = 11)∧J.level≤2∧WOn n J.node∧CSo J.climb) ∨
  (J.op.kind = 6∧J.pc = 12∧J.level≤2∧WOn n J.node∧COn J.climb) ∨
  ((J.op.kind = 7∨J.op.kind = 8)∧J.pc = 1∧COn J.climb) ∨
  ((J.op.kind = 7∨J.op.kind = 8)∧J.pc = 2∧WOn n J.node∧CSo J.climb) ∨
  (J.op.kind = 7∧(J.pc = 3∨J.pc = 4∨J.pc = 5)∧J.level≤2∧WOn n J.node∧CSo J.climb) ∨
  (J.op.kind = 7∧J.pc = 6∧WOn n J.node∧COn J.climb) ∨
  ((J.op.kind = 6∨J.op.kind = 7)∧(J.pc = 101∨J.pc = 102∨J.pc = 104)∧WOn n J.node∧CSo J.climb) ∨
  ((J.op.kind = 6∨J.op.kind = 7)∧J.pc = 103∧WOn n J.node∧COn J.climb)):SteQ st n (J,c):=⟨⟨b,Or.inr ⟨hk,hp⟩⟩,hc⟩
section
variable {st:Int} {n:Nat} {J:Xc} {x:Xi}
theorem SteB.pcs (h:SteB n J) (p:Int):SteB n { J with pc:=p }:=⟨h.node,h.climb,h.op,h.l0,h.l3⟩
theorem ste_done (h:SteB n J) (a b:Int):SteQ st n (J.done a b):=⟨⟨⟨h.node,h.climb,h.op,h.l0,h.l3⟩,Or.inl ⟨rfl,rfl⟩⟩,cok_done⟩
theorem ste_part (h:SteB n J) (hk:J.op.kind = 6∨J.op.kind = 7) (hn:WOn n J.node) (hc:CSo J.climb) (b:Int):SteQ st n (J.part b) :=
 steQ_of ⟨h.node,h.climb,h.op,h.l0,h.l3⟩ (cok_load (Yv h.node (by decide) (by decide))) (by show (3:Int)≠12;decide) (by simp only;grind)
theorem ste_link (h:SteB n J) (hk:J.op.kind = 6) (hn:WOn n J.node) (hc:CSo J.climb):SteQ st n J.link:=by
 unfold Xc.link
 cases hd:decide (J.op.tall≤J.level) with
 | true=>exact ste_part h (Or.inl hk) hn hc 1
 | false =>
  have hd:¬ J.op.tall≤J.level:=of_decide_eq_false hd
  have ho:=h.op
  have hl:J.level≤2:=by omega
  have h0:=h.l0
  refine steQ_of ⟨h.node,h.climb,h.op,h.l0,h.l3⟩ (cok_load ?_) (by show (3:Int)≠12;decide) (by simp only;grind)
  rw [wr2 h.l0 h.l3]
  exact Yv h.node (by omega) (by omega)
theorem ste_look (h:SteB n J) (hk:J.op.kind = 7) (hl:J.level≤2) (hn:WOn n J.node) (hc:CSo J.climb):SteQ st n J.look:=by
 have h0:=h.l0
 refine steQ_of ⟨h.node,h.climb,h.op,h.l0,h.l3⟩ (cok_load ?_) (by show (3:Int)≠12;decide) (by simp only;grind)
 rw [wr2 h.l0 h.l3]
 exact Yv h.node (by omega) (by omega)
theorem ste_ins7 (hst:st≠2) (h:SteB n J) (hk:J.op.kind = 6) (hn:WOn n J.node) (hc:CSo J.climb) {lv:Int} (h0:0≤lv) (h3:lv≤3):SteQ st n (J.ins7 lv):=by
 have sp:=fun l=>climbP_ok h.climb l
 unfold Xc.ins7
 simp only
 cases hd:decide (lv < J.op.tall) with
 | true =>
  have hd:lv < J.op.tall:=of_decide_eq_true hd
  have ho:=h.op
  have hl:lv≤2:=by omega
  refine steQ_of ⟨h.node,h.climb,h.op,h0,h3⟩ (cok_store ?_ (wok_ref (sp lv).2)) (by show (4:Int)≠12;decide) (by simp only;grind)
  rw [wr2 h0 h3]
  exact aon_field hn (by omega) (by omega)
 | false =>
  exact steQ_of ⟨h.node,h.climb,h.op,h0,h3⟩ (cok_swap (sp 0).1 (cp_of hst (wok_to h.node)) rfl) (by show (5:Int)≠12;decide) (by simp only;grind)
theorem ste_cl (hst:st≠2) (h:SteB n J) (ho:COn J.climb) (hx:WOk n x.word):SteB n { J with climb:=(climbS J.climb x).1 }∧CSo (climbS J.climb x).1∧((climbS J.climb x).2.2 = true→COk st n (climbS J.climb x).2.1∧(climbS J.climb x).2.1.kind≠12∧COn (climbS J.climb x).1):=by
 have hc:=climbS_ok (x:=x) hst h.climb ho hx
 exact ⟨⟨h.node,hc.1,h.op,h.l0,h.l3⟩,hc.2.1,hc.2.2⟩
theorem ste_ins5 (hst:st≠2) (h:SteB n J) (hk:J.op.kind = 6) (hp:J.pc = 5) (hn:WOn n J.node) (ho:COn J.climb) (hx:WOk n x.word):SteQ st n (J.ins5 x):=by
 obtain ⟨h1,h2,h3⟩:=ste_cl hst h ho hx
 unfold Xc.ins5
 generalize climbS J.climb x = r at *
 obtain ⟨o,c,b⟩:=r
 simp only at *
 cases b with
 | true=>exact steQ_of h1 (h3 rfl).1 (h3 rfl).2.1 (by have:=(h3 rfl).2.2;simp only;grind)
 | false =>
  simp only [cond_false]
  cases hf:!((climbF o).sl==0) with
  | true=>exact steQ_of (h1.pcs 6) (cok_drop hn) (by show (9:Int)≠12;decide) (by simp only;grind)
  | false=>exact ste_ins7 hst h1 hk hn h2 (by decide) (by decide)
theorem ste_rai12 (hst:st≠2) (h:SteB n J) (hk:J.op.kind = 6) (hp:J.pc = 12) (hl:J.level≤2) (hn:WOn n J.node) (ho:COn J.climb) (hx:WOk n x.word):SteQ st n (J.rai12 x):=by
 obtain ⟨h1,h2,h3⟩:=ste_cl hst h ho hx
 unfold Xc.rai12
 generalize climbS J.climb x = r at *
 obtain ⟨o,c,b⟩:=r
 simp only at *
 cases b with
 | true=>exact steQ_of h1 (h3 rfl).1 (h3 rfl).2.1 (by have:=(h3 rfl).2.2;simp only;grind)
 | false =>
  simp only [cond_false]
  cases hf:!weqR (climbF o) J.node with
  | true=>exact ste_part h1 (Or.inl hk) hn h2 1
  | false=>exact ste_link h1 hk hn h2
theorem ste_rem1 (hst:st≠2) (h:SteB n J) (hk:J.op.kind = 7∨J.op.kind = 8) (hp:J.pc = 1) (ho:COn J.climb) (hx:WOk n x.word) {f:Int} (f0:0≤f) (f9:f < 10):SteQ st n (J.rem1 x f):=by
 obtain ⟨h1,h2,h3⟩:=ste_cl hst h ho hx
 have hF:=climbF_ok h1.climb
 unfold Xc.rem1
 generalize climbS J.climb x = r at *
 obtain ⟨o,c,b⟩:=r
 simp only at *
 cases b with
 | true=>exact steQ_of h1 (h3 rfl).1 (h3 rfl).2.1 (by have:=(h3 rfl).2.2;simp only;grind)
 | false =>
  simp only [cond_false]
  cases hf:(climbF o).sl==0 with
  | true=>exact ste_done (J:={ J with climb:=o,node:=climbF o }) ⟨hF,h1.climb,h1.op,h1.l0,h1.l3⟩ 2 0
  | false =>
   have hf:¬ (climbF o).sl = 0:=by simpa using hf
   have hn:=wok_won hF hf
   exact steQ_of ⟨hF,h1.climb,h1.op,h1.l0,h1.l3⟩ (cok_load (Yv hF f0 f9)) (by show (3:Int)≠12;decide) (by simp only;grind)
theorem ste_rem6 (hst:st≠2) (h:SteB n J) (hk:J.op.kind = 7) (hp:J.pc = 6) (hn:WOn n J.node) (ho:COn J.climb) (hx:WOk n x.word):SteQ st n (J.rem6 x):=by
 obtain ⟨h1,h2,h3⟩:=ste_cl hst h ho hx
 unfold Xc.rem6
 generalize climbS J.climb x = r at *
 obtain ⟨o,c,b⟩:=r
 simp only at *
 cases b with
 | true=>exact steQ_of h1 (h3 rfl).1 (h3 rfl).2.1 (by have:=(h3 rfl).2.2;simp only;grind)
 | false=>exact ste_part h1 (Or.inr hk) hn h2 2
theorem ste_fin (hst:st≠2) (h:SteB n J) (hk:J.op.kind = 6∨J.op.kind = 7) (hp:J.pc = 103) (hn:WOn n J.node) (ho:COn J.climb) (hx:WOk n x.word):SteQ st n (J.fin x):=by
 obtain ⟨h1,h2,h3⟩:=ste_cl hst h ho hx
 unfold Xc.fin
 generalize climbS J.climb x = r at *
 obtain ⟨o,c,b⟩:=r
 simp only at *
 cases b with
 | true=>exact steQ_of h1 (h3 rfl).1 (h3 rfl).2.1 (by have:=(h3 rfl).2.2;simp only;grind)
 | false=>exact steQ_of (h1.pcs 104) (cok_retire hn) (by show (10:Int)≠12;decide) (by simp only;grind)
theorem ste_seek (h:SteB n J) (p b:Int):SteB n (J.seek p b)∧COn (J.seek p b).climb:=⟨⟨h.node,(climb_seek (n:=n)).1,h.op,h.l0,h.l3⟩,(climb_seek (n:=n)).2⟩
theorem ste_ok {c:Xg} (hst:st≠2) (h:SteI n J c) (hc:c.kind≠12) (hx:XOk st n c x):SteQ st n (J.next x):=by
 have hw:=hx.1
 have hb:=h.b
 have sp:=fun l=>climbP_ok hb.climb l
 have h0:=hb.l0
 have h3:=hb.l3
 rcases h.pc with ⟨_,h⟩ | ⟨_,h⟩
 ·exact absurd h hc
 rcases h with hp | ⟨hk,hp,hc8⟩ | ⟨hk,hp,hn⟩ | ⟨hk,hp,hn,ho⟩ | ⟨hk,hp,hn,ho⟩ | ⟨hk,hp,hl,hn,ho⟩ | ⟨hk,hp,hl,hn,ho⟩ | ⟨hk,hp,hl,hn,ho⟩ | ⟨hk,hp,ho⟩ | ⟨hk,hp,hn,ho⟩ | ⟨hk,hp,hl,hn,ho⟩ | ⟨hk,hp,hn,ho⟩ | ⟨hk,hp,hn,ho⟩ | ⟨hk,hp,hn,ho⟩
 ·
  rcases hb.op with ⟨hk,_⟩ | hk | hk
  ·have e:J.next x = ({ J with pc:=1 },calloc):=by unfold Xc.next Xc.insert;rw [hp,hk];rfl
   rw [e]
   exact steQ_of (hb.pcs 1) cok_alloc (by decide) (by simp only;grind [k_alloc])
  ·have e:J.next x = (J.seek 1 J.op.key).rem1 x 6:=by unfold Xc.next Xc.remove;rw [hp,hk];rfl
   rw [e]
   exact ste_rem1 hst (ste_seek hb _ _).1 (Or.inl hk) rfl (ste_seek hb _ _).2 hw (by decide) (by decide)
  ·have e:J.next x = (J.seek 1 J.op.key).rem1 x 1:=by unfold Xc.next Xc.get;rw [hp,hk];rfl
   rw [e]
   exact ste_rem1 hst (ste_seek hb _ _).1 (Or.inr hk) rfl (ste_seek hb _ _).2 hw (by decide) (by decide)
 ·
  have e:J.next x = bif !x.ok then J.done 4 0 else ({ J with node:=x.word,pc:=2 },cstore (Xx x.word 0) (wnum J.op.key)):=by unfold Xc.next Xc.insert;rw [hp,hk];rfl
  rw [e]
  cases ho:x.ok with
  | false=>exact ste_done hb _ _
  | true =>
   have hn:=hx.2.1 hc8 ho
   exact steQ_of ⟨hw,hb.climb,hb.op,hb.l0,hb.l3⟩ (cok_store (aon_field hn (by decide) (by decide)) wok_num) (by show (4:Int)≠12;decide) (by simp only;grind)
 ·rcases hp with hp | hp | hp
  ·have e:J.next x = ({ J with pc:=3 },cstore (Xx J.node 1) (wnum J.op.val)):=by unfold Xc.next Xc.insert;rw [hp,hk];rfl
   rw [e]
   exact steQ_of (hb.pcs 3) (cok_store (aon_field hn (by decide) (by decide)) wok_num) (by show (4:Int)≠12;decide) (by simp only;grind)
  ·have e:J.next x = ({ J with pc:=4 },cstore (Xx J.node 6) (wnum J.op.tall)):=by unfold Xc.next Xc.insert;rw [hp,hk];rfl
   rw [e]
   exact steQ_of (hb.pcs 4) (cok_store (aon_field hn (by decide) (by decide)) wok_num) (by show (4:Int)≠12;decide) (by simp only;grind)
  ·have e:J.next x = (J.seek 5 J.op.key).ins5 x:=by unfold Xc.next Xc.insert;rw [hp,hk];rfl
   rw [e]
   exact ste_ins5 hst (ste_seek hb _ _).1 hk rfl hn (ste_seek hb _ _).2 hw
 ·have e:J.next x = J.ins5 x:=by unfold Xc.next Xc.insert;rw [hp,hk];rfl
  rw [e]
  exact ste_ins5 hst hb hk hp hn ho hw
 ·rcases hp with hp | hp
  ·have e:J.next x = J.done 3 0:=by unfold Xc.next Xc.insert;rw [hp,hk];rfl
   rw [e]
   exact ste_done hb _ _
  ·have e:J.next x = bif x.ok then Xc.link { J with level:=1 } else (J.seek 5 J.op.key).ins5 x:=by unfold Xc.next Xc.insert;rw [hp,hk];rfl
   rw [e]
   cases x.ok with
   | true=>exact ste_link ⟨hb.node,hb.climb,hb.op,by show (0:Int)≤1;decide,by show (1:Int)≤3;decide⟩ hk hn ho
   | false=>exact ste_ins5 hst (ste_seek hb _ _).1 hk rfl hn (ste_seek hb _ _).2 hw
 ·have e:J.next x = J.ins7 (wr (J.level+1)):=by unfold Xc.next Xc.insert;rw [hp,hk];rfl
  rw [e,wri (by omega) (by omega)]
  exact ste_ins7 hst hb hk hn ho (by omega) (by omega)
 ·have sw:SteQ st n ({ J with pc:=11 },cswap (climbP J.climb J.level).prev (climbP J.climb J.level).cur (wto (climbP J.climb J.level).cur J.node)) :=
   steQ_of (hb.pcs 11) (cok_swap (sp _).1 (cp_of hst (wok_to hb.node)) rfl) (by show (5:Int)≠12;decide) (by simp only;grind)
  rcases hp with hp | hp | hp
  ·have e:J.next x = bif x.word.mark then J.part 1 else bif !weq2 x.word (climbP J.climb J.level).cur then ({ J with pc:=10 },cswap (Xx J.node (wr (2+J.level))) x.word (wto x.word (climbP J.climb J.level).cur)) else ({ J with pc:=11 },cswap (climbP J.climb J.level).prev (climbP J.climb J.level).cur (wto (climbP J.climb J.level).cur J.node)):=by unfold Xc.next Xc.raise;rw [hp,hk];rfl
   rw [e]
   cases x.word.mark with
   | true=>exact ste_part hb (Or.inl hk) hn ho 1
   | false =>
    cases weq2 x.word (climbP J.climb J.level).cur with
    | false =>
     refine steQ_of (hb.pcs 10) (cok_swap ?_ (cp_of hst (wok_to (sp _).2)) rfl) (by show (5:Int)≠12;decide) (by simp only;grind)
     rw [wr2 h0 h3]
     exact Yv hb.node (by omega) (by omega)
    | true=>exact sw
  ·have e:J.next x = bif !x.ok then J.link else ({ J with pc:=11 },cswap (climbP J.climb J.level).prev (climbP J.climb J.level).cur (wto (climbP J.climb J.level).cur J.node)):=by unfold Xc.next Xc.raise;rw [hp,hk];rfl
   rw [e]
   cases x.ok with
   | false=>exact ste_link hb hk hn ho
   | true=>exact sw
  ·have e:J.next x = bif x.ok then Xc.link { J with level:=wr (J.level+1) } else (J.seek 12 J.op.key).rai12 x:=by unfold Xc.next Xc.raise;rw [hp,hk];rfl
   rw [e,wri (by omega) (by omega)]
   cases x.ok with
   | true=>exact ste_link ⟨hb.node,hb.climb,hb.op,by show 0≤J.level+1;omega,by show J.level+1≤3;omega⟩ hk hn ho
   | false=>exact ste_rai12 hst (ste_seek hb _ _).1 hk rfl hl hn (ste_seek hb _ _).2 hw
 ·have e:J.next x = J.rai12 x:=by unfold Xc.next Xc.raise;rw [hp,hk];rfl
  rw [e]
  exact ste_rai12 hst hb hk hp hl hn ho hw
 ·rcases hk with hk | hk
  ·have e:J.next x = J.rem1 x 6:=by unfold Xc.next Xc.remove;rw [hp,hk];rfl
   rw [e]
   exact ste_rem1 hst hb (Or.inl hk) hp ho hw (by decide) (by decide)
  ·have e:J.next x = J.rem1 x 1:=by unfold Xc.next Xc.get;rw [hp,hk];rfl
   rw [e]
   exact ste_rem1 hst hb (Or.inr hk) hp ho hw (by decide) (by decide)
 ·rcases hk with hk | hk
  ·have e:J.next x = bif decide (x.word.nm < 1) then ({ J with level:=0,pc:=3 },cload (Xx J.node 1)) else bif decide (3 < x.word.nm) then ({ J with level:=0,pc:=3 },cload (Xx J.node 1)) else ({ J with level:=wr (x.word.nm - 1),pc:=3 },cload (Xx J.node 1)):=by unfold Xc.next Xc.remove;rw [hp,hk];rfl
   rw [e]
   have one:∀ l:Int,0≤l→l≤2→SteQ st n ({ J with level:=l,pc:=3 },cload (Xx J.node 1)):=fun l a b =>
    steQ_of ⟨hb.node,hb.climb,hb.op,a,by show l≤3;omega⟩ (cok_load (Yv hb.node (by decide) (by decide))) (by show (3:Int)≠12;decide) (by simp only;grind)
   cases h1:decide (x.word.nm < 1) with
   | true=>exact one 0 (by decide) (by decide)
   | false =>
    have h1:¬ x.word.nm < 1:=of_decide_eq_false h1
    cases h2:decide (3 < x.word.nm) with
    | true=>exact one 0 (by decide) (by decide)
    | false =>
     have h2:¬ 3 < x.word.nm:=of_decide_eq_false h2
     rw [wri (by omega) (by omega)]
     exact one (x.word.nm - 1) (by omega) (by omega)
  ·have e:J.next x = J.done 1 x.word.nm:=by unfold Xc.next Xc.get;rw [hp,hk];rfl
   rw [e]
   exact ste_done hb _ _
 ·rcases hp with hp | hp | hp
  ·have e:J.next x = Xc.look { J with val:=x.word.nm }:=by unfold Xc.next Xc.remove;rw [hp,hk];rfl
   rw [e]
   exact ste_look ⟨hb.node,hb.climb,hb.op,hb.l0,hb.l3⟩ hk hl hn ho
  ·have e:J.next x = bif !x.word.mark then ({ J with pc:=5 },cswap (Xx J.node (wr (2+J.level))) x.word (wmarked x.word)) else bif J.level==0 then J.done 2 0 else Xc.look { J with level:=wr (J.level - 1) }:=by unfold Xc.next Xc.remove;rw [hp,hk];rfl
   rw [e,wr2 h0 h3]
   cases x.word.mark with
   | false =>
    exact steQ_of (hb.pcs 5) (cok_swap (Yv hb.node (by omega) (by omega)) (cp_of hst (wok_marked hw)) rfl) (by show (5:Int)≠12;decide) (by simp only;grind)
   | true =>
    cases hz:J.level==0 with
    | true=>exact ste_done hb _ _
    | false =>
     have hz:J.level≠0:=by simpa using hz
     rw [wri (by omega) (by omega)]
     exact ste_look ⟨hb.node,hb.climb,hb.op,by show 0≤J.level - 1;omega,by show J.level - 1≤3;omega⟩ hk (by show J.level - 1≤2;omega) hn ho
  ·have e:J.next x = bif !x.ok then J.look else bif decide (0 < J.level) then Xc.look { J with level:=wr (J.level - 1) } else (J.seek 6 (wr (J.op.key+1))).rem6 x:=by unfold Xc.next Xc.remove;rw [hp,hk];rfl
   rw [e]
   cases x.ok with
   | false=>exact ste_look hb hk hl hn ho
   | true =>
    cases hz:decide (0 < J.level) with
    | true =>
     have hz:0 < J.level:=of_decide_eq_true hz
     rw [wri (by omega) (by omega)]
     exact ste_look ⟨hb.node,hb.climb,hb.op,by show 0≤J.level - 1;omega,by show J.level - 1≤3;omega⟩ hk (by show J.level - 1≤2;omega) hn ho
    | false=>exact ste_rem6 hst (ste_seek hb _ _).1 hk rfl hn (ste_seek hb _ _).2 hw
 ·have e:J.next x = J.rem6 x:=by unfold Xc.next Xc.remove;rw [hp,hk];rfl
  rw [e]
  exact ste_rem6 hst hb hk hp hn ho hw
 ·rcases hp with hp | hp | hp
  ·have e:J.next x = bif x.word.nm==0 then ({ J with pc:=102 },cswap (Xx J.node 7) x.word (wcount x.word J.by_)) else (J.seek 103 (wr (J.op.key+1))).fin x:=by unfold Xc.next Xc.finish;rw [hp];rfl
   rw [e]
   cases x.word.nm==0 with
   | true=>exact steQ_of (hb.pcs 102) (cok_swap (Yv hb.node (by decide) (by decide)) (cp_of hst wok_count) rfl) (by show (5:Int)≠12;decide) (by simp only;grind)
   | false=>exact ste_fin hst (ste_seek hb _ _).1 hk rfl hn (ste_seek hb _ _).2 hw
  ·have e:J.next x = bif x.ok then J.done 1 J.val else (J.seek 103 (wr (J.op.key+1))).fin x:=by unfold Xc.next Xc.finish;rw [hp];rfl
   rw [e]
   cases x.ok with
   | true=>exact ste_done hb _ _
   | false=>exact ste_fin hst (ste_seek hb _ _).1 hk rfl hn (ste_seek hb _ _).2 hw
  ·have e:J.next x = J.done 1 J.val:=by unfold Xc.next Xc.finish;rw [hp];rfl
   rw [e]
   exact ste_done hb _ _
 ·have e:J.next x = J.fin x:=by unfold Xc.next Xc.finish;rw [hp];rfl
  rw [e]
  exact ste_fin hst hb hk hp hn ho hw
end
def OnW (wanted bucket:Int):Prop:=bucket = wanted∨bucket = par wanted∨bucket = par (par wanted)∨bucket = par (par (par wanted))
theorem int8 {n:Int} (h0:0≤n) (h1:n < 8):n = 0∨n = 1∨n = 2∨n = 3∨n = 4∨n = 5∨n = 6∨n = 7:=by omega
theorem par_in8 {b:Int} (h0:0≤b) (h1:b < 8):0≤par b∧par b < 8:=by
 rcases int8 h0 h1 with rfl | rfl | rfl | rfl | rfl | rfl | rfl | rfl <;> decide
theorem onw_par {a b:Int} (a0:0≤a) (a1:a < 8) (h:OnW a b) (hb:b≠0):OnW a (par b):=by
 rcases int8 a0 a1 with rfl | rfl | rfl | rfl | rfl | rfl | rfl | rfl <;> rcases h with rfl | rfl | rfl | rfl <;> first | exact absurd rfl hb | (unfold OnW;decide)
theorem onw_child {a b:Int} (a0:0≤a) (a1:a < 8):OnW a (childOf a b)∧0≤childOf a b∧childOf a b < 8:=by
 have p1:=par_in8 a0 a1
 have p2:=par_in8 p1.1 p1.2
 unfold childOf
 cases par a==b with
 | true=>exact ⟨Or.inl rfl,a0,a1⟩
 | false =>
  cases par (par a)==b with
  | true=>exact ⟨Or.inr (Or.inl rfl),p1⟩
  | false=>exact ⟨Or.inr (Or.inr (Or.inl rfl)),p2⟩
theorem broot_ok {n:Nat} {b:Int} (h0:0≤b) (h1:b < 8):AOk n (broot b):=by
 unfold broot
 rw [wri (n:=8+b) (by omega) (by omega),wri (by omega) (by omega)]
 exact aok_root (by omega) (by omega)
structure VauB (n:Nat) (J:Xb):Prop where
 base:WOk n J.base
 node:WOk n J.node
 sen:WOk n J.sentinel
 walk:WalkO n J.walk
 kind:J.op.kind = 6∨J.op.kind = 7∨J.op.kind = 8
 k0:0≤J.op.key
 k1:J.op.key < 256
 w0:0≤J.wanted
 w1:J.wanted < 8
 b0:0≤J.bucket
 b1:J.bucket < 8
 c0:0≤J.child
 c1:J.child < 8
def WSo (o:Option Xt):Prop:=∃ W,o = some W
def VauPcs (n:Nat) (J:Xb) (c:Xg):Prop :=
  J.pc = 0∨J.pc = 1 ∨
  (J.pc = 2∧OnW J.wanted J.bucket) ∨
  (J.pc = 3∧c.kind = 8∧OnW J.wanted J.child) ∨
  ((J.pc = 4∨J.pc = 8)∧WOn n J.node∧OnW J.wanted J.child) ∨
  (J.pc = 5∧WOn n J.node∧OnW J.wanted J.child∧WalkOn J.walk) ∨
  (J.pc = 7∧WOn n J.node∧OnW J.wanted J.child∧WSo J.walk) ∨
  ((J.pc = 6∨J.pc = 9∨J.pc = 10)∧OnW J.wanted J.child) ∨
  (J.pc = 11∧∃ I,J.inner = some I∧LitI n I c) ∨
  J.pc = 12∨J.pc = 13∨J.pc = 14∨J.pc = 15
structure VauI (n:Nat) (J:Xb) (c:Xg):Prop where
 b:VauB n J
 pc:(J.pc = -1∧c.kind = 12)∨(c.kind≠12∧VauPcs n J c)
def VauQ (st:Int) (n:Nat) (r:Xb × Xg):Prop:=VauI n r.1 r.2∧COk st n r.2
section
variable {st:Int} {n:Nat} {J:Xb} {x:Xi}
theorem vauQ_of {c:Xg} (b:VauB n J) (hc:COk st n c) (hk:c.kind≠12) (hp:VauPcs n J c):VauQ st n (J,c):=⟨⟨b,Or.inr ⟨hk,hp⟩⟩,hc⟩
theorem VauB.pcs (h:VauB n J) (p:Int):VauB n { J with pc:=p }:=⟨h.base,h.node,h.sen,h.walk,h.kind,h.k0,h.k1,h.w0,h.w1,h.b0,h.b1,h.c0,h.c1⟩
theorem vau_done (h:VauB n J) (a:GAns):VauQ st n (J.done a):=⟨⟨⟨h.base,h.node,h.sen,h.walk,h.kind,h.k0,h.k1,h.w0,h.w1,h.b0,h.b1,h.c0,h.c1⟩,Or.inl ⟨rfl,rfl⟩⟩,cok_done⟩
theorem vau_finC {I:Xn} {c:Xg} (h:VauB n J) (hp:J.pc = 11) (hi:J.inner = some I) (hI:LitI n I c) (hc:COk st n c):VauQ st n (J.finC c):=by
 unfold Xb.finC
 cases hk:!(c.kind==12) with
 | true =>
  have hk:c.kind≠12:=by simpa using hk
  exact vauQ_of h hc hk (Or.inr (Or.inr (Or.inr (Or.inr (Or.inr (Or.inr (Or.inr (Or.inr (Or.inl ⟨hp,I,hi,hI⟩)))))))))
 | false =>
  simp only [cond_false]
  cases (!(c.ans.code==1) || J.op.kind==8) with
  | true=>exact vau_done (J:={ J with answer:=c.ans }) ⟨h.base,h.node,h.sen,h.walk,h.kind,h.k0,h.k1,h.w0,h.w1,h.b0,h.b1,h.c0,h.c1⟩ c.ans
  | false=>exact vauQ_of ⟨h.base,h.node,h.sen,h.walk,h.kind,h.k0,h.k1,h.w0,h.w1,h.b0,h.b1,h.c0,h.c1⟩ (cok_load (aok_root (by decide) (by decide))) (by show (3:Int)≠12;decide) (Or.inr (Or.inr (Or.inr (Or.inr (Or.inr (Or.inr (Or.inr (Or.inr (Or.inr (Or.inl rfl))))))))))
theorem VauB.inn (h:VauB n J) (o:Option Xn):VauB n { J with inner:=o }:=⟨h.base,h.node,h.sen,h.walk,h.kind,h.k0,h.k1,h.w0,h.w1,h.b0,h.b1,h.c0,h.c1⟩
theorem vau_fin11 (hst:st≠2) {c:Xg} {I:Xn} (h:VauB n J) (hp:J.pc = 11) (hi:J.inner = some I) (hI:LitI n I c) (hc:c.kind≠12) (hx:XOk st n c x):VauQ st n (J.fin11 x):=by
 obtain ⟨h1,h2⟩:=lit_ok hst hI hc hx
 unfold Xb.fin11
 rw [hi]
 exact vau_finC (h.inn _) hp rfl h1 h2
theorem lit_new (ha:AOk n (Xx J.base 2)) (hk:J.op.kind = 6∨J.op.kind = 7∨J.op.kind = 8) (key:Int) {c:Xg} (hc:c.kind≠12):LitI n (Xn.from_ (Xx J.base 2) key J.op) c:=by
 refine ⟨ha,(fun W e=>by cases e),Or.inr ⟨Int.le_refl 0,by show (0:Int)≤7;decide⟩,⟨fun h=>?_,fun h=>absurd h hc⟩,hk,fun _=>⟨fun h=>?_,fun h=>?_,fun h=>?_⟩,fun _=>⟨by show (0:Int)≤6;decide,fun h=>?_,fun h=>?_⟩,fun _=>⟨by show (0:Int)≤2;decide,fun h=>?_,fun h=>?_⟩⟩
 all_goals first
  | (have h:(0:Int) = -1:=h;omega)
  | (have h:(0:Int) = 1:=h;omega)
  | (have h:(2:Int)≤0:=h;omega)
  | (have h:(0:Int) = 4:=h;omega)
  | (have h:(0:Int) = 1∨(0:Int) = 6:=h;omega)
  | (have h:(0:Int) = 2:=h;omega)
theorem vau_perform (hst:st≠2) (h:VauB n J):VauQ st n J.perform:=by
 unfold Xb.perform
 refine vau_fin11 hst (c:=calloc) (I:=Xn.from_ (Xx J.base 2) (ordr J.op.key) J.op) ⟨h.base,h.node,h.sen,h.walk,h.kind,h.k0,h.k1,h.w0,h.w1,h.b0,h.b1,h.c0,h.c1⟩ rfl rfl (lit_new (Yv h.base (by decide) (by decide)) h.kind _ (by decide)) (by decide) ⟨Yi,fun _ e=>(by cases e),fun e=>absurd e hst⟩
theorem vau_descend (hst:st≠2) (h:VauB n J):VauQ st n J.descend:=by
 unfold Xb.descend
 cases J.bucket==J.wanted with
 | true=>exact vau_perform hst h
 | false =>
  have hc:=onw_child (b:=J.bucket) h.w0 h.w1
  exact vauQ_of ⟨h.base,h.node,h.sen,h.walk,h.kind,h.k0,h.k1,h.w0,h.w1,h.b0,h.b1,hc.2.1,hc.2.2⟩ cok_alloc (by decide) (Or.inr (Or.inr (Or.inr (Or.inl ⟨rfl,rfl,hc.1⟩))))
theorem tmod_in {a b:Int} (h0:0≤a) (h1:0 < b):0≤Int.tmod a b∧Int.tmod a b < b:=⟨Int.tmod_nonneg b h0,Int.tmod_lt_of_pos a h1⟩
theorem vau_sizedZ (h:VauB n J) {z:Int} (hz:z = 1∨z = 2∨z = 4∨z = 8):VauQ st n (J.sizedZ z):=by
 have ht:=tmod_in (b:=z) h.k0 (by omega)
 have w1:Int.tmod J.op.key z < 8:=by omega
 exact vauQ_of ⟨h.base,h.node,h.sen,h.walk,h.kind,h.k0,h.k1,ht.1,w1,ht.1,w1,h.c0,h.c1⟩ (cok_load (broot_ok ht.1 w1)) (by show (3:Int)≠12;decide) (Or.inr (Or.inr (Or.inl ⟨rfl,Or.inl rfl⟩)))
theorem sizeW_in (k:Int):sizeW k = 1∨sizeW k = 2∨sizeW k = 4∨sizeW k = 8:=by
 unfold sizeW
 cases k==2 <;> cases k==4 <;> cases k==8 <;> decide
theorem vau_based (hst:st≠2) (h:VauB n J) (hw:OnW J.wanted J.bucket) (hx:WOk n x.word):VauQ st n (J.based x):=by
 unfold Xb.based
 cases x.word.sl==0 with
 | false=>exact vau_descend hst ⟨hx,h.node,h.sen,h.walk,h.kind,h.k0,h.k1,h.w0,h.w1,h.b0,h.b1,h.c0,h.c1⟩
 | true =>
  simp only [Bool.not_true,cond_false]
  cases hb:J.bucket==0 with
  | true=>exact vau_done h _
  | false =>
   have hb:J.bucket≠0:=by simpa using hb
   have hp:=par_in8 h.b0 h.b1
   exact vauQ_of ⟨h.base,h.node,h.sen,h.walk,h.kind,h.k0,h.k1,h.w0,h.w1,hp.1,hp.2,h.c0,h.c1⟩ (cok_load (broot_ok hp.1 hp.2)) (by show (3:Int)≠12;decide) (Or.inr (Or.inr (Or.inl ⟨rfl,onw_par h.w0 h.w1 hw hb⟩)))
theorem vau_walk5 (hst:st≠2) (h:VauB n J) (hp:J.pc = 5) (hn:WOn n J.node) (hc:OnW J.wanted J.child) (ho:WalkOn J.walk) (hx:WOk n x.word):VauQ st n (J.walk5 x):=by
 obtain ⟨h1,h2⟩:=walkS_ok (x:=x) hst h.walk ho hx
 have hs:WSo (walkS J.walk x).1:=by obtain ⟨W,e,_⟩:=ho;rw [e];exact ⟨_,rfl⟩
 unfold Xb.walk5
 generalize walkS J.walk x = r at *
 obtain ⟨o,c,b⟩:=r
 have hcu:=walkCur_ok h1
 simp only at *
 have hb:VauB n { J with walk:=o }:=⟨h.base,h.node,h.sen,h1,h.kind,h.k0,h.k1,h.w0,h.w1,h.b0,h.b1,h.c0,h.c1⟩
 cases b with
 | true=>exact vauQ_of hb (h2 rfl).1 (h2 rfl).2.1 (Or.inr (Or.inr (Or.inr (Or.inr (Or.inr (Or.inl ⟨hp,hn,hc,(h2 rfl).2.2⟩))))))
 | false =>
  simp only [cond_false]
  cases walkF o with
  | true=>exact vauQ_of ⟨hb.base,hb.node,wok_ref hcu.1,hb.walk,hb.kind,hb.k0,hb.k1,hb.w0,hb.w1,hb.b0,hb.b1,hb.c0,hb.c1⟩ (cok_drop hn) (by show (9:Int)≠12;decide) (Or.inr (Or.inr (Or.inr (Or.inr (Or.inr (Or.inr (Or.inr (Or.inl ⟨Or.inl rfl,hc⟩))))))))
  | false=>exact vauQ_of (hb.pcs 7) (cok_store (aon_field hn (by decide) (by decide)) (wok_ref hcu.1)) (by show (4:Int)≠12;decide) (Or.inr (Or.inr (Or.inr (Or.inr (Or.inr (Or.inr (Or.inl ⟨rfl,hn,hc,hs⟩)))))))
theorem vau_seek5 (hst:st≠2) (h:VauB n J) (hn:WOn n J.node) (hc:OnW J.wanted J.child) (hx:WOk n x.word):VauQ st n (J.seek.walk5 x):=by
 have hs:=@walk_seek n (Xx J.base 2) (bordr J.child) (Yv h.base (by decide) (by decide))
 exact vau_walk5 hst ⟨h.base,h.node,h.sen,hs.1,h.kind,h.k0,h.k1,h.w0,h.w1,h.b0,h.b1,h.c0,h.c1⟩ rfl hn hc hs.2 hx
theorem vau_pub (hst:st≠2) (h:VauB n J):VauQ st n J.pub:=vau_descend hst ⟨h.sen,h.node,h.sen,h.walk,h.kind,h.k0,h.k1,h.w0,h.w1,h.c0,h.c1,h.c0,h.c1⟩
theorem vau_ok {c:Xg} (hst:st≠2) (h:VauI n J c) (hc:c.kind≠12) (hx:XOk st n c x):VauQ st n (J.next x):=by
 have hw:=hx.1
 have hb:=h.b
 have ld:∀ {J:Xb} {a:Yj},VauB n J→AOk n a→VauPcs n J (cload a)→VauQ st n (J,cload a):=fun b a p=>vauQ_of b (cok_load a) (by show (3:Int)≠12;decide) p
 rcases h.pc with ⟨_,h⟩ | ⟨_,h⟩
 ·exact absurd h hc
 have l9:OnW J.wanted J.child→∀ s:Xf,WOk n s→VauQ st n ({ J with sentinel:=s,pc:=9 },cload (broot J.child)):=fun ho s hs =>
  ld ⟨hb.base,hb.node,hs,hb.walk,hb.kind,hb.k0,hb.k1,hb.w0,hb.w1,hb.b0,hb.b1,hb.c0,hb.c1⟩ (broot_ok hb.c0 hb.c1) (Or.inr (Or.inr (Or.inr (Or.inr (Or.inr (Or.inr (Or.inr (Or.inl ⟨Or.inr (Or.inl rfl),ho⟩))))))))
 rcases h with hp | hp | ⟨hp,ho⟩ | ⟨hp,h8,ho⟩ | ⟨hp | hp,hn,ho⟩ | ⟨hp,hn,ho,hwk⟩ | ⟨hp,hn,ho,hwk⟩ | ⟨hp | hp | hp,ho⟩ | ⟨hp,I,hi,hI⟩ | hp | hp | hp | hp
 ·have e:J.next x = ({ J with pc:=1 },cload (root 16)):=by unfold Xb.next;rw [hp];rfl
  rw [e]
  exact ld (hb.pcs 1) (aok_root (by decide) (by decide)) (Or.inr (Or.inl rfl))
 ·have e:J.next x = J.sizedZ (sizeW x.word.nm):=by unfold Xb.next;rw [hp];rfl
  rw [e]
  exact vau_sizedZ hb (sizeW_in _)
 ·have e:J.next x = J.based x:=by unfold Xb.next;rw [hp];rfl
  rw [e]
  exact vau_based hst hb ho hw
 ·have e:J.next x = bif !x.ok then J.perform else ({ J with node:=x.word,pc:=4 },cstore (Xx x.word 0) (wnum (bordr J.child))):=by unfold Xb.next Xb.create;rw [hp];rfl
  rw [e]
  cases hok:x.ok with
  | false=>exact vau_perform hst hb
  | true =>
   have hn:=hx.2.1 h8 hok
   exact vauQ_of ⟨hb.base,hw,hb.sen,hb.walk,hb.kind,hb.k0,hb.k1,hb.w0,hb.w1,hb.b0,hb.b1,hb.c0,hb.c1⟩ (cok_store (aon_field hn (by decide) (by decide)) wok_num) (by show (4:Int)≠12;decide) (Or.inr (Or.inr (Or.inr (Or.inr (Or.inl ⟨Or.inl rfl,hn,ho⟩)))))
 ·have e:J.next x = J.seek.walk5 x:=by unfold Xb.next Xb.create;rw [hp];rfl
  rw [e]
  exact vau_seek5 hst hb hn ho hw
 ·have e:J.next x = bif x.ok then ({ J with sentinel:=J.node,pc:=9 },cload (broot J.child)) else J.seek.walk5 x:=by unfold Xb.next Xb.create;rw [hp];rfl
  rw [e]
  cases x.ok with
  | true=>exact l9 ho _ hb.node
  | false=>exact vau_seek5 hst hb hn ho hw
 ·have e:J.next x = J.walk5 x:=by unfold Xb.next Xb.create;rw [hp];rfl
  rw [e]
  exact vau_walk5 hst hb hp hn ho hwk hw
 ·have e:J.next x = ({ J with pc:=8 },cswap (walkPrev J.walk) (walkCur J.walk) (wto (walkCur J.walk) J.node)):=by unfold Xb.next Xb.create;rw [hp];rfl
  rw [e]
  have hcu:=walkCur_ok hb.walk
  exact vauQ_of (hb.pcs 8) (cok_swap hcu.2.2.1 (cp_of hst (wok_to hb.node)) rfl) (by show (5:Int)≠12;decide) (Or.inr (Or.inr (Or.inr (Or.inr (Or.inl ⟨Or.inr rfl,hn,ho⟩)))))
 ·have e:J.next x = ({ J with pc:=9 },cload (broot J.child)):=by unfold Xb.next Xb.create;rw [hp];rfl
  rw [e]
  exact l9 ho _ hb.sen
 ·have e:J.next x = bif x.word.sl==0 then ({ J with pc:=10 },cswap (broot J.child) x.word (wto x.word J.sentinel)) else J.pub:=by unfold Xb.next Xb.create;rw [hp];rfl
  rw [e]
  cases x.word.sl==0 with
  | true=>exact vauQ_of (hb.pcs 10) (cok_swap (broot_ok hb.c0 hb.c1) (cp_of hst (wok_to hb.sen)) rfl) (by show (5:Int)≠12;decide) (Or.inr (Or.inr (Or.inr (Or.inr (Or.inr (Or.inr (Or.inr (Or.inl ⟨Or.inr (Or.inr rfl),ho⟩))))))))
  | false=>exact vau_pub hst hb
 ·have e:J.next x = J.pub:=by unfold Xb.next Xb.create;rw [hp];rfl
  rw [e]
  exact vau_pub hst hb
 ·have e:J.next x = J.fin11 x:=by unfold Xb.next;rw [hp];rfl
  rw [e]
  exact vau_fin11 hst hb hp hi hI hc hx
 ·have e:J.next x = J.counted x:=by unfold Xb.next;rw [hp];rfl
  rw [e]
  exact vauQ_of ⟨hb.base,hb.node,hb.sen,hb.walk,hb.kind,hb.k0,hb.k1,hb.w0,hb.w1,hb.b0,hb.b1,hb.c0,hb.c1⟩ (cok_swap (aok_root (by decide) (by decide)) (cp_of hst wok_count) rfl) (by show (5:Int)≠12;decide) (Or.inr (Or.inr (Or.inr (Or.inr (Or.inr (Or.inr (Or.inr (Or.inr (Or.inr (Or.inr (Or.inl rfl)))))))))))
 ·have e:J.next x = J.added x:=by unfold Xb.next;rw [hp];rfl
  rw [e]
  unfold Xb.added
  cases x.ok with
  | false=>exact ld (hb.pcs 12) (aok_root (by decide) (by decide)) (Or.inr (Or.inr (Or.inr (Or.inr (Or.inr (Or.inr (Or.inr (Or.inr (Or.inr (Or.inl rfl))))))))))
  | true =>
   cases J.op.kind==7 with
   | true=>exact vau_done hb _
   | false =>
    cases J.size==8 with
    | true=>exact vau_done hb _
    | false =>
     cases decide (J.count.nm < wr (2*J.size)) with
     | true=>exact vau_done hb _
     | false=>exact ld (hb.pcs 14) (aok_root (by decide) (by decide)) (Or.inr (Or.inr (Or.inr (Or.inr (Or.inr (Or.inr (Or.inr (Or.inr (Or.inr (Or.inr (Or.inr (Or.inl rfl))))))))))))
 ·have e:J.next x = J.resized x:=by unfold Xb.next;rw [hp];rfl
  rw [e]
  unfold Xb.resized
  cases x.word.nm==J.size with
  | true=>exact vauQ_of (hb.pcs 15) (cok_swap (aok_root (by decide) (by decide)) (cp_of hst wok_count) rfl) (by show (5:Int)≠12;decide) (Or.inr (Or.inr (Or.inr (Or.inr (Or.inr (Or.inr (Or.inr (Or.inr (Or.inr (Or.inr (Or.inr (Or.inr rfl))))))))))))
  | false=>exact vau_done hb _
 ·have e:J.next x = J.done J.answer:=by unfold Xb.next;rw [hp];rfl
  rw [e]
  exact vau_done hb _
end
end Go.Proofs.YtaipogljokblkaaGreatDoor
