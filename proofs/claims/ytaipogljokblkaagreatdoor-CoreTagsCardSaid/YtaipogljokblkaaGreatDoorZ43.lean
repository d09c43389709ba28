/- Core: LF, LG, LF2. -/
import Derived.Test.YtaipogljokblkaaGreatDoorZ42
import Derived.Test.YtaipogljokblkaaGreatDoorZ15
set_option linter.all false
set_option maxRecDepth 100000
set_option maxHeartbeats 8000000
namespace Go.Proofs.YtaipogljokblkaaGreatDoor
open Go Go.RowKit
set_option linter.unusedSimpArgs false
set_option linter.unusedVariables false
set_option linter.unusedSectionVars false
def inst (c:Xg):Bool:=c.kind==7 || c.kind==10
def Calm {α:Type} (f:α→Xi→α × Xg):Nat→α→Xg→Prop
 | 0,_,c=>inst c = false
 | k+1,J,c=>inst c = true→∀ x,Calm f k (f J x).1 (f J x).2
theorem X3 {α:Type} {f:α→Xi→α × Xg} {J:α} {c:Xg} (h:inst c = false):∀ k,Calm f k J c
 | 0=>h
 | _+1=>fun e=>by rw [h] at e;cases e
theorem calm_up {α:Type} {f:α→Xi→α × Xg}:∀ (k:Nat) {J:α} {c:Xg},Calm f k J c→Calm f (k+1) J c
 | 0,_,_,h=>X3 h 1
 | k+1,_,_,h=>fun e x=>calm_up k (h e x)
theorem calm_map {α β:Type} {f:α→Xi→α × Xg} {g:β→Xi→β × Xg} (i:α→β) (hi:∀ J x,g (i J) x = (i (f J x).1,(f J x).2)):∀ (k:Nat) {J:α} {c:Xg},Calm f k J c→Calm g k (i J) c
 | 0,_,_,h=>h
 | k+1,J,c,h=>fun e x=>by
  rw [hi J x]
  exact calm_map i hi k (h e x)
theorem pile_calm {J:Yg} (x:Xi) (h0:0≤J.pc) (h5:J.pc≤5):Calm Yg.next 3 (J.next x).1 (J.next x).2:=by
 obtain ⟨pc,last,op,node,top,val⟩:=J
 have hp:pc = 0∨pc = 1∨pc = 2∨pc = 3∨pc = 4∨pc = 5:=by simp only at h0 h5;omega
 clear h0 h5
 by_cases hk:op.kind = 1 <;> (rcases hp with rfl | rfl | rfl | rfl | rfl | rfl) <;> simp only [Yg.next,Yg.push,Yg.pop,Yg.done,beq_iff_eq,hk,Int.reduceEq,Int.reduceNeg,if_true,if_false,↓reduceIte] <;> (repeat' split) <;>
  first
  | exact X3 rfl 3
  | (refine fun _ y=>X3 ?_ 2;simp only [Yg.next,Yg.push,Yg.pop,Yg.done,beq_iff_eq,hk,Int.reduceEq,Int.reduceNeg,if_true,if_false,↓reduceIte];rfl)
theorem cor_calm {J:GCorJ} (x:Xi) (h0:0≤J.pc) (h8:J.pc≤8) (h4:J.op.kind = 4→J.pc≤8):Calm GCorJ.next 3 (J.next x).1 (J.next x).2:=by
 obtain ⟨pc,last,op,node,hh,t,nn,val⟩:=J
 have hp:pc = 0∨pc = 1∨pc = 2∨pc = 3∨pc = 4∨pc = 5∨pc = 6∨pc = 7∨pc = 8:=by simp only at h0 h8;omega
 clear h0 h8 h4
 by_cases hk:op.kind = 4 <;> (rcases hp with rfl | rfl | rfl | rfl | rfl | rfl | rfl | rfl | rfl) <;> simp only [GCorJ.next,GCorJ.enqueue,GCorJ.dequeue,GCorJ.done,beq_iff_eq,hk,Int.reduceEq,Int.reduceNeg,if_true,if_false,↓reduceIte] <;> (repeat' split) <;>
  first
  | exact X3 rfl 3
  | (refine fun _ y=>X3 ?_ 2;simp only [GCorJ.next,GCorJ.enqueue,GCorJ.dequeue,GCorJ.done,beq_iff_eq,hk,Int.reduceEq,Int.reduceNeg,if_true,if_false,↓reduceIte];rfl)
structure Mach (β:Type) (s:β→Xi→β × Xg × Bool) (A B:β→Prop):Prop where
 s2:∀ W x,(s W x).2.2 = true→inst (s W x).2.1 = false∨B (s W x).1∨A (s W x).1
 s1:∀ W x,A W→(s W x).2.2 = true→inst (s W x).2.1 = false∨B (s W x).1
 s0:∀ W x,B W→(s W x).2.2 = true∧inst (s W x).2.1 = false
theorem walk_on_s (W:Xt) (h:W.on.2.2 = true):inst W.on.2.1 = false∨W.on.1.pc = 8:=by
 unfold Xt.on at *
 split at h
 ·cases h
 ·rename_i h0;rw [if_neg h0];exact Or.inr rfl
theorem walk_mach:Mach Xt Xt.step (fun W=>W.pc = 7∨W.pc = 6) (fun W=>W.pc = 8):=by
 refine ⟨fun W x h=>?_,fun W x hp h=>?_,fun W x hp=>?_⟩
 ·
  have ho:∀ W:Xt,W.on.2.2 = true→inst W.on.2.1 = false∨W.on.1.pc = 8∨(W.on.1.pc = 7∨W.on.1.pc = 6):=fun W h=>(walk_on_s W h).imp id Or.inl
  unfold Xt.step at *
  (repeat' split at h) <;> (repeat' split) <;> first
   | contradiction
   | exact Or.inl rfl
   | exact Or.inr (Or.inr (Or.inl rfl))
   | exact Or.inr (Or.inr (Or.inr rfl))
   | exact ho _ h
   | cases h
 ·
  rcases hp with hp | hp
  ·have e:W.step x = Xt.on { W with cur:=W.next }:=by unfold Xt.step;rw [hp];rfl
   rw [e] at h ⊢
   exact walk_on_s _ h
  ·have e:W.step x = Xt.on { W with cur:=wto W.cur W.next }:=by unfold Xt.step;rw [hp];rfl
   rw [e] at h ⊢
   exact walk_on_s _ h
 ·
  have e:W.step x = W.behind:=by unfold Xt.step;rw [show W.pc = 8 from hp];rfl
  rw [e];exact ⟨rfl,rfl⟩
theorem climb_lower_s (C:Xe) (h:C.lower.2.2 = true):inst C.lower.2.1 = false∨(C.lower.1.pc = 8∨C.lower.1.pc = 9):=by
 unfold Xe.lower at *
 simp only at *
 split at h
 ·split at h <;> cases h
 ·rename_i h0
  rw [if_neg h0]
  split
  ·exact Or.inl rfl
  ·exact Or.inr (Or.inr rfl)
theorem climb_on_s (C:Xe) (h:C.on.2.2 = true):inst C.on.2.1 = false∨(C.on.1.pc = 8∨C.on.1.pc = 9):=by
 unfold Xe.on at *
 split at h
 ·rename_i h0;rw [if_pos h0];exact climb_lower_s _ h
 ·rename_i h0;rw [if_neg h0];exact Or.inr (Or.inl rfl)
theorem climb_mach:Mach Xe Xe.step (fun C=>C.pc = 7) (fun C=>C.pc = 8∨C.pc = 9):=by
 refine ⟨fun C x h=>?_,fun C x hp h=>?_,fun C x hp=>?_⟩
 ·
  have hl:∀ C:Xe,C.lower.2.2 = true→inst C.lower.2.1 = false∨(C.lower.1.pc = 8∨C.lower.1.pc = 9)∨C.lower.1.pc = 7:=fun C h=>(climb_lower_s C h).imp id Or.inl
  have ho:∀ C:Xe,C.on.2.2 = true→inst C.on.2.1 = false∨(C.on.1.pc = 8∨C.on.1.pc = 9)∨C.on.1.pc = 7:=fun C h=>(climb_on_s C h).imp id Or.inl
  unfold Xe.step at *
  (repeat' split at h) <;> (repeat' split) <;> first
   | contradiction
   | exact Or.inl rfl
   | exact Or.inr (Or.inr rfl)
   | exact hl _ h
   | exact ho _ h
   | cases h
 ·
  have e:C.step x = Xe.on { C with spot:={ C.spot with cur:=C.next } }:=by unfold Xe.step;rw [show C.pc = 7 from hp];rfl
  rw [e] at h ⊢
  exact climb_on_s _ h
 ·
  rcases hp with hp | hp
  ·have e:C.step x = C.behind:=by unfold Xe.step;rw [hp];rfl
   rw [e];exact ⟨rfl,rfl⟩
  ·have e:C.step x = C.enter:=by unfold Xe.step;rw [hp];rfl
   rw [e];exact ⟨rfl,rfl⟩
def Walker {α β:Type} (f:α→Xi→α × Xg) (s:β→Xi→β × Xg × Bool) (P:α→β→Prop):Prop :=
 ∀ J W x,P J W→((s W x).2.2 = true∧P (f J x).1 (s W x).1∧(f J x).2 = (s W x).2.1)∨((s W x).2.2 = false∧Calm f 1 (f J x).1 (f J x).2)
theorem Walker.calm {α β:Type} {f:α→Xi→α × Xg} {s:β→Xi→β × Xg × Bool} {A B:β→Prop} {P:α→β→Prop} (w:Walker f s P) (m:Mach β s A B) {J:α} {W:β} (x:Xi) (h:P J W):Calm f 3 (f J x).1 (f J x).2:=by
 have c1:∀ (J:α) (W:β) (c:Xg),P J W→(inst c = false∨B W)→Calm f 1 J c:=fun J W c h hw=>by
  rcases hw with hw | hw
  ·exact X3 hw 1
  ·intro _ y
   obtain ⟨s1,s2⟩:=m.s0 W y hw
   rcases w J W y h with ⟨_,_,e⟩ | ⟨e,_⟩
   ·show inst _ = false
    rw [e];exact s2
   ·rw [s1] at e;cases e
 have c2:∀ (J:α) (W:β) (c:Xg),P J W→(inst c = false∨B W∨A W)→Calm f 2 J c:=fun J W c h hw=>by
  rcases hw with hw | hw | hw
  ·exact X3 hw 2
  ·exact calm_up 1 (c1 J W c h (Or.inr hw))
  ·intro _ y
   rcases w J W y h with ⟨hb,hP,e⟩ | ⟨_,e⟩
   ·rw [e];exact c1 _ _ _ hP (m.s1 W y hw hb)
   ·exact e
 rcases w J W x h with ⟨hb,hP,e⟩ | ⟨_,e⟩
 ·rw [e];exact calm_up 2 (c2 _ _ _ hP (m.s2 W x hb))
 ·exact calm_up 2 (calm_up 1 e)
def LitW (J:Xn) (W:Xt):Prop:=J.walk = some W∧((J.op.kind = 6∧J.pc = 4)∨(J.op.kind = 7∧(J.pc = 1∨J.pc = 6))∨(J.op.kind = 8∧J.pc = 1))
theorem lit_walker:Walker Xn.next Xt.step LitW:=fun J W x h=>by
 obtain ⟨pc,last,start,key,op,walk,node,val⟩:=J
 obtain ⟨hw,hp⟩:=h
 simp only at hw hp
 subst hw
 cases hb:(W.step x).2.2 with
 | true =>
  refine Or.inl ⟨rfl,?_⟩
  rcases hp with ⟨hk,rfl⟩ | ⟨hk,rfl | rfl⟩ | ⟨hk,rfl⟩ <;>
   simp only [Xn.next,Xn.insert,Xn.remove,Xn.get,Xn.insWalk,Xn.remWalk,Xn.remWalk6,walkS,beq_iff_eq,hk,hb,Int.reduceEq,Int.reduceNeg,if_true,if_false,↓reduceIte,LitW] <;> simp
 | false =>
  refine Or.inr ⟨rfl,X3 ?_ 1⟩
  rcases hp with ⟨hk,rfl⟩ | ⟨hk,rfl | rfl⟩ | ⟨hk,rfl⟩ <;>
   simp only [Xn.next,Xn.insert,Xn.remove,Xn.get,Xn.insWalk,Xn.remWalk,Xn.remWalk6,walkS,beq_iff_eq,hk,hb,Int.reduceEq,Int.reduceNeg,if_true,if_false,↓reduceIte,Bool.false_eq_true] <;> (repeat' split) <;> rfl
theorem lit_seek {J:Xn} (p:Int) (h:(J.op.kind = 6∧p = 4)∨(J.op.kind = 7∧(p = 1∨p = 6))∨(J.op.kind = 8∧p = 1)):LitW (J.seek p) (Xt.new J.start J.key):=⟨rfl,h⟩
theorem lit_calm {n:Nat} {J:Xn} {c:Xg} (x:Xi) (h:LitI n J c) (hc:c.kind≠12):Calm Xn.next 3 (J.next x).1 (J.next x).2:=by
 obtain ⟨ha,hw,hp,hpc,hk,h6,h7,h8⟩:=h
 have hn:J.pc≠-1:=fun e=>hc (hpc.1 e)
 have hp':J.pc = 0∨J.pc = 1∨J.pc = 2∨J.pc = 3∨J.pc = 4∨J.pc = 5∨J.pc = 6∨J.pc = 7:=by omega
 have wk:=fun (J:Xn) (W:Xt) (h:LitW J W)=>lit_walker.calm walk_mach x h
 rcases hk with hk | hk | hk
 ·have s4:=lit_seek (J:=J) 4 (Or.inl ⟨hk,rfl⟩)
  have e4:(J.seek 4).next x = (J.seek 4).insWalk x:=by unfold Xn.next Xn.insert;rw [show (J.seek 4).op.kind = 6 from hk,show (J.seek 4).pc = 4 from rfl];rfl
  have w4:=wk _ _ s4
  rw [e4] at w4
  rcases hp' with hp | hp | hp | hp | hp | hp | hp | hp
  ·have e:J.next x = ({ J with pc:=1 },calloc):=by unfold Xn.next Xn.insert;rw [hk,hp];rfl
   rw [e];exact X3 rfl 3
  ·have e:J.next x = if !x.ok then J.done 4 0 else ({ J with node:=x.word,pc:=2 },cstore (Xx x.word 0) (wnum J.key)):=by unfold Xn.next Xn.insert;rw [hk,hp];rfl
   rw [e];split <;> exact X3 rfl 3
  ·have e:J.next x = ({ J with pc:=3 },cstore (Xx J.node 1) (wnum J.op.val)):=by unfold Xn.next Xn.insert;rw [hk,hp];rfl
   rw [e];exact X3 rfl 3
  ·have e:J.next x = (J.seek 4).insWalk x:=by unfold Xn.next Xn.insert;rw [hk,hp];rfl
   rw [e];exact w4
  ·obtain ⟨W,hW,_⟩:=(h6 hk).2.2 hp
   exact wk J W ⟨hW,Or.inl ⟨hk,hp⟩⟩
  ·have e:J.next x = J.done 3 0:=by unfold Xn.next Xn.insert;rw [hk,hp];rfl
   rw [e];exact X3 rfl 3
  ·have e:J.next x = ({ J with pc:=7 },cswap (walkPrev J.walk) (walkCur J.walk) (wto (walkCur J.walk) J.node)):=by unfold Xn.next Xn.insert;rw [hk,hp];rfl
   rw [e];exact X3 rfl 3
  ·have e:J.next x = if x.ok then J.done 1 0 else (J.seek 4).insWalk x:=by unfold Xn.next Xn.insert;rw [hk,hp];rfl
   rw [e];split
   ·exact X3 rfl 3
   ·exact w4
 ·have s1:=lit_seek (J:=J) 1 (Or.inr (Or.inl ⟨hk,Or.inl rfl⟩))
  have e1:(J.seek 1).next x = (J.seek 1).remWalk x:=by unfold Xn.next Xn.remove;rw [show (J.seek 1).op.kind = 7 from hk,show (J.seek 1).pc = 1 from rfl];rfl
  have w1:=wk _ _ s1
  rw [e1] at w1
  have s6:=lit_seek (J:=J) 6 (Or.inr (Or.inl ⟨hk,Or.inr rfl⟩))
  have e6:(J.seek 6).next x = (J.seek 6).remWalk6 x:=by unfold Xn.next Xn.remove;rw [show (J.seek 6).op.kind = 7 from hk,show (J.seek 6).pc = 6 from rfl];rfl
  have w6:=wk _ _ s6
  rw [e6] at w6
  rcases hp' with hp | hp | hp | hp | hp | hp | hp | hp
  ·have e:J.next x = (J.seek 1).remWalk x:=by unfold Xn.next Xn.remove;rw [hk,hp];rfl
   rw [e];exact w1
  ·obtain ⟨W,hW,_⟩:=(h7 hk).2.1 (Or.inl hp)
   exact wk J W ⟨hW,Or.inr (Or.inl ⟨hk,Or.inl hp⟩)⟩
  ·have e:J.next x = ({ J with val:=x.word.nm,pc:=3 },cswap (Xx (walkCur J.walk) 2) (walkNx J.walk) (wmarked (walkNx J.walk))):=by unfold Xn.next Xn.remove;rw [hk,hp];rfl
   rw [e];exact X3 rfl 3
  ·have e:J.next x = if x.ok then ({ J with pc:=4 },cswap (walkPrev J.walk) (walkCur J.walk) (wto (walkCur J.walk) (walkNx J.walk))) else (J.seek 1).remWalk x:=by unfold Xn.next Xn.remove;rw [hk,hp];rfl
   rw [e];split
   ·exact X3 rfl 3
   ·exact w1
  ·have e:J.next x = if x.ok then ({ J with pc:=5 },cretire (walkCur J.walk)) else (J.seek 6).remWalk6 x:=by unfold Xn.next Xn.remove;rw [hk,hp];rfl
   rw [e];split
   ·intro _ y
    have e:({ J with pc:=5 }:Xn).next y = ({ J with pc:=5 }:Xn).done 1 J.val:=by unfold Xn.next Xn.remove;rw [show ({ J with pc:=5 }:Xn).op.kind = 7 from hk];rfl
    rw [e];exact X3 rfl 2
   ·exact w6
  ·have e:J.next x = J.done 1 J.val:=by unfold Xn.next Xn.remove;rw [hk,hp];rfl
   rw [e];exact X3 rfl 3
  ·obtain ⟨W,hW,_⟩:=(h7 hk).2.1 (Or.inr hp)
   exact wk J W ⟨hW,Or.inr (Or.inl ⟨hk,Or.inr hp⟩)⟩
  ·have:=(h7 hk).1;omega
 ·have s1:=lit_seek (J:=J) 1 (Or.inr (Or.inr ⟨hk,rfl⟩))
  have e1:(J.seek 1).next x = (J.seek 1).remWalk x:=by unfold Xn.next Xn.get;rw [show (J.seek 1).op.kind = 8 from hk,show (J.seek 1).pc = 1 from rfl];rfl
  have w1:=wk _ _ s1
  rw [e1] at w1
  have:=(h8 hk).1
  rcases hp' with hp | hp | hp | hp | hp | hp | hp | hp
  ·have e:J.next x = (J.seek 1).remWalk x:=by unfold Xn.next Xn.get;rw [hk,hp];rfl
   rw [e];exact w1
  ·obtain ⟨W,hW,_⟩:=(h8 hk).2.1 hp
   exact wk J W ⟨hW,Or.inr (Or.inr ⟨hk,hp⟩)⟩
  ·have e:J.next x = J.done 1 x.word.nm:=by unfold Xn.next Xn.get;rw [hk,hp];rfl
   rw [e];exact X3 rfl 3
  all_goals omega
def BrdA (a:Yj):Prop:=a.sl = 0∧a.gn = 0∧25≤a.fd∧a.fd < 85
def AccOk (st:Int) (n:Nat) (a:GAcc):Prop :=
 (a.kind = 1∧(AOk n a.adr∨a.adr = root 24∨BrdA a.adr))∨(a.kind = 2∧((AOn n a.adr∧WOk n a.new)∨BrdA a.adr)) ∨
 (a.kind = 3∧((AOk n a.adr∧CP st n a.adr a.new∧a.new.tg = wr (a.old.tg+1))∨a.adr = root 24))∨a.kind = 4∨(a.kind = 5∧WOn n a.old)
def ARep (st:Int) (n:Nat) (a:GAcc) (x:Xi):Prop :=
 (AOk n a.adr→WOk n x.word)∧(a.kind = 4→WOk n x.word∧(x.ok = true→WOn n x.word))∧(st = 2→a.kind = 1→a.adr.sl = 0→a.adr.fd = 0→WOn n x.word)
def CAny (st:Int) (n:Nat) (c:Xg):Prop:=(COk st n c∧c.kind≠12)∨c = center∨c = cleave∨c = cscan
structure RBase (n t:Nat) (M:MR):Prop where
 me0:0≤M.R.me
 me1:M.R.me < 6
 th1:1≤M.R.threads
 th6:M.R.threads≤6
 eng:M.R.engine = 1∨M.R.engine = 2∨M.R.engine = 3∨M.R.engine = 4∨M.R.engine = 5
 nl:M.ns.length≤t
 dsub:M.ds.Sublist M.ns
 sl:M.ss.length≤54
 nref:∀ d∈M.ns,WOn n d.ref
def Hd (R R':Xa):Prop:=R'.me = R.me∧R'.threads = R.threads∧R'.engine = R.engine∧R'.most = R.most
theorem Hd.refl (R:Xa):Hd R R:=⟨rfl,rfl,rfl,rfl⟩
def ekeep (R:Xa):Prop:=R.engine = 2∨R.engine = 3
def edate (R:Xa):Prop:=R.engine = 3∨R.engine = 5
def lim (R:Xa):Int:=bif R.keeping then R.threads*9 else R.threads
def StpB (st:Int) (n:Nat) (R:Xa) (c:Xg):Prop :=
  R.call = c∧AccOk st n R.acc ∧
  ((R.step = 1∧((c.kind = 3∧R.acc.kind = 1∧R.acc.adr = c.adr∧AOk n c.adr)∨(c.kind = 4∧R.acc.kind = 2∧AOk n R.acc.adr)∨(c.kind = 5∧R.acc.kind = 3∧AOk n R.acc.adr)∨(c.kind = 8∧R.acc.kind = 4))) ∨
   R.step = 2∧c.kind≠3∧c.kind≠6∧c.kind≠8 ∨
   R.step = 3∧c.kind = 1 ∨
   (R.step = 4∧c.kind = 2∧ekeep R∧0≤R.index∧R.index < 9) ∨
   (R.step = 5∧c.kind = 6∧0≤c.i∧c.i < 9∧R.acc.kind = 1∧R.acc.adr = c.adr∧AOk n c.adr) ∨
   (R.step = 6∧c.kind = 6∧0≤c.i∧c.i < 9∧edate R∧AOk n c.adr∧WOk n R.word∧(st = 2→c.adr.sl = 0→c.adr.fd = 0→WOn n R.word)) ∨
   (R.step = 7∧c.kind = 6∧0≤c.i∧c.i < 9∧AOk n c.adr) ∨
   R.step = 8∧c.kind = 8 ∨
   R.step = 9∧c.kind = 10∧WOn n c.old∨R.step = 10∧c.kind = 10∧WOn n c.old∨R.step = 11∧c.kind = 10 ∨
   (R.step = 12∧(c.kind = 10∨c.kind = 11)∧R.engine = 4) ∨
   (R.step = 13∧(c.kind = 10∨c.kind = 11)∧R.engine≠1∧0≤R.index∧R.index < lim R) ∨
   (R.step = 14∧(c.kind = 10∨c.kind = 11)∧R.engine = 4) ∨
   (R.step = 15∧(c.kind = 10∨c.kind = 11)∧R.engine = 4) ∨
   (R.step = 16∧(c.kind = 10∨c.kind = 11)))
def StpR (st:Int) (n:Nat) (R:Xa) (c:Xg) (rep:Xi→Prop) (R':Xa):Prop :=
 Hd R R'∧((R'.step≠0∧StpB st n R' c)∨(R'.step = 0∧rep R'.reply))
def RepT (x:Xi):Prop:=x = ⟨.zero,true⟩
section
variable {st:Int} {n:Nat} {R:Xa} {c:Xg} {x:Xi}
theorem acc_load {a:Yj} (h:AOk n a∨a = root 24∨BrdA a):AccOk st n ⟨1,a,.zero,.zero⟩:=Or.inl ⟨rfl,h⟩
theorem acc_board {a:Yj} {w:Xf} (h:BrdA a):AccOk st n ⟨2,a,.zero,w⟩:=Or.inr (Or.inl ⟨rfl,Or.inr h⟩)
theorem acc_clock {o w:Xf}:AccOk st n ⟨3,root 24,o,w⟩:=Or.inr (Or.inr (Or.inl ⟨rfl,Or.inr rfl⟩))
theorem acc_new {a:Yj} {o w:Xf}:AccOk st n ⟨4,a,o,w⟩:=Or.inr (Or.inr (Or.inr (Or.inl rfl)))
theorem acc_free {a:Yj} {o w:Xf} (h:WOn n o):AccOk st n ⟨5,a,o,w⟩:=Or.inr (Or.inr (Or.inr (Or.inr ⟨rfl,h⟩)))
theorem brd_keep {me i:Int} (h0:0≤me) (h1:me < 6) (i0:0≤i) (i1:i < 9):BrdA (Xa.keep me i):=by
 unfold Xa.keep
 rw [wri (n:=me*9) (by omega) (by omega),wri (n:=25+me*9) (by omega) (by omega),wri (by omega) (by omega)]
 exact ⟨rfl,rfl,by show 25≤25+me*9+i;omega,by show 25+me*9+i < 85;omega⟩
theorem brd_span {me:Int} (h0:0≤me) (h1:me < 6):BrdA ⟨0,0,wr (79+me)⟩:=by
 rw [wri (by omega) (by omega)]
 exact ⟨rfl,rfl,by show 25≤79+me;omega,by show 79+me < 85;omega⟩
theorem stp_done (rep:Xi→Prop) (h:rep ⟨.zero,true⟩):StpR st n R c rep R.done:=⟨⟨rfl,rfl,rfl,rfl⟩,Or.inr ⟨rfl,h⟩⟩
theorem stp_finish {rep:Xi→Prop} (h:rep x):StpR st n R c rep (R.finish x):=⟨⟨rfl,rfl,rfl,rfl⟩,Or.inr ⟨rfl,h⟩⟩
theorem put_hd (R:Xa) (k:Int) (w:Xf):Hd R (R.putH k w)∧(R.putH k w).call = R.call∧(R.putH k w).index = R.index∧(R.putH k w).word = R.word:=by
 unfold Xa.putH
 cases k==0 <;> cases k==1 <;> cases k==2 <;> cases k==3 <;> cases k==4 <;> cases k==5 <;> cases k==6 <;> cases k==7 <;> exact ⟨⟨rfl,rfl,rfl,rfl⟩,rfl,rfl,rfl⟩
theorem post_hd (R:Xa) (s k:Int) (w:Xf):Hd R (R.post s k w)∧(R.post s k w).call = R.call∧(R.post s k w).index = R.index∧(R.post s k w).step = s∧(R.post s k w).acc = ⟨2,Xa.keep R.me k,.zero,w⟩∧(R.post s k w).word = R.word:=by
 obtain ⟨h1,h2,h3,h4⟩:=put_hd R k w
 exact ⟨h1,h2,h3,rfl,rfl,h4⟩
theorem stp_leaveK {rep:Xi→Prop} (hr:rep ⟨.zero,true⟩) (m0:0≤R.me) (m1:R.me < 6) (hk:ekeep R) (hc:R.call = c) (h2:c.kind = 2):∀ l:List Int,(∀ i∈l,0≤i∧i < 9)→StpR st n R c rep (R.leaveK l)
 | [],_=>stp_done rep hr
 | i :: l,hl=>by
  unfold Xa.leaveK
  cases wz (R.getH i) with
  | true=>exact stp_leaveK hr m0 m1 hk hc h2 l fun j hj=>hl j (List.mem_cons_of_mem _ hj)
  | false =>
   obtain ⟨i0,i1⟩:=hl i (List.mem_cons_self ..)
   obtain ⟨p1,p2,p3,p4,p5,p6⟩:=post_hd { R with index:=i } 4 i .zero
   simp only [cond_false]
   have hk':ekeep (Xa.post { R with index:=i } 4 i .zero):=by unfold ekeep;rw [p1.2.2.1];exact hk
   refine ⟨p1,Or.inl ⟨by rw [p4];decide,p2.trans hc,by rw [p5];exact acc_board (brd_keep m0 m1 i0 i1),?_⟩⟩
   exact Or.inr (Or.inr (Or.inr (Or.inl ⟨p4,h2,hk',by rw [p3];exact i0,by rw [p3];exact i1⟩)))
theorem stp_announce {rep:Xi→Prop} {s:Int} {sp:GSpan} (m0:0≤R.me) (m1:R.me < 6) (hc:R.call = c) (hs:(s = 2∧c.kind≠3∧c.kind≠6∧c.kind≠8)∨(s = 7∧c.kind = 6∧0≤c.i∧c.i < 9∧AOk n c.adr)):StpR st n R c rep (R.announce s sp):=by
 refine ⟨⟨rfl,rfl,rfl,rfl⟩,Or.inl ⟨?_,hc,acc_board (brd_span m0 m1),?_⟩⟩
 ·show s≠0
  rcases hs with h | h <;> omega
 ·rcases hs with h | h
  ·exact Or.inr (Or.inl h)
  ·exact Or.inr (Or.inr (Or.inr (Or.inr (Or.inr (Or.inr (Or.inl h))))))
theorem stp_leave {rep:Xi→Prop} (hr:rep ⟨.zero,true⟩) (m0:0≤R.me) (m1:R.me < 6) (hc:R.call = c) (h2:c.kind = 2) (l:List Int) (hl:∀ i∈l,0≤i∧i < 9):StpR st n R c rep (R.leave l):=by
 unfold Xa.leave
 cases (R.spanning && !(!R.span.is && (R.span.low==0 && R.span.high==0))) with
 | true=>exact stp_announce m0 m1 hc (Or.inl ⟨rfl,by omega,by omega,by omega⟩)
 | false =>
  cases hk:R.keeping with
  | true=>exact stp_leaveK hr m0 m1 (by unfold Xa.keeping at hk;simpa [ekeep] using hk) hc h2 l hl
  | false=>exact stp_done rep hr
theorem lim_in (t1:1≤R.threads) (t6:R.threads≤6):1≤lim R∧lim R≤54∧(R.keeping = false→lim R≤6):=by
 unfold lim
 cases R.keeping with
 | true=>exact ⟨by show 1≤R.threads*9;omega,by show R.threads*9≤54;omega,fun h=>by cases h⟩
 | false=>exact ⟨t1,by show R.threads≤54;omega,fun _=>t6⟩
theorem stp_look (t1:1≤R.threads) (t6:R.threads≤6) (hc:R.call = c) (hk:c.kind = 10∨c.kind = 11) (he:R.engine≠1) (k:Int) (k0:0≤k) :
  ((R.look k).2 = true→Hd R (R.look k).1∧(R.look k).1.step≠0∧StpB st n (R.look k).1 c∧(R.look k).1.index = k∧(R.look k).1.step = 13)∧((R.look k).2 = false↔¬ k < lim R):=by
 unfold Xa.look
 cases hK:R.keeping with
 | true =>
  have hl:lim R = R.threads*9:=by unfold lim;rw [hK];rfl
  simp only [cond_true]
  rw [wri (by omega) (by omega)]
  cases hd:decide (R.threads*9≤k) with
  | true =>
   have hd:=of_decide_eq_true hd
   exact ⟨fun h=>(by cases h),⟨fun _=>by omega,fun _=>rfl⟩⟩
  | false =>
   have hd:¬ R.threads*9≤k:=of_decide_eq_false hd
   refine ⟨fun _=>⟨⟨rfl,rfl,rfl,rfl⟩,by show (13:Int)≠0;decide,⟨hc,acc_load (Or.inr (Or.inr ?_)),?_⟩,rfl,rfl⟩,⟨fun h=>(by cases h),fun h=>absurd (by omega) h⟩⟩
   ·have e1:Int.tdiv k 9 = k / 9:=Int.tdiv_eq_ediv_of_nonneg k0
    have e2:Int.tmod k 9 = k % 9:=Int.tmod_eq_emod_of_nonneg k0
    have h9:wr (wr (25+wr (wr (k / 9)*9))+k % 9) = 25+k / 9*9+k % 9:=by
     rw [wri (n:=k / 9) (by omega) (by omega),wri (n:=k / 9*9) (by omega) (by omega),wri (n:=25+k / 9*9) (by omega) (by omega),wri (by omega) (by omega)]
    rw [e1,e2,h9]
    exact ⟨rfl,rfl,by show 25≤25+k / 9*9+k % 9;omega,by show 25+k / 9*9+k % 9 < 85;omega⟩
   ·have hl':k < lim (Xa.load { R with index:=k } 13 ⟨0,0,wr (wr (25+wr (wr (Int.tdiv k 9)*9))+Int.tmod k 9)⟩):=by show k < lim R;omega
    exact Or.inr (Or.inr (Or.inr (Or.inr (Or.inr (Or.inr (Or.inr (Or.inr (Or.inr (Or.inr (Or.inr (Or.inr (Or.inl ⟨rfl,hk,he,k0,hl'⟩))))))))))))
 | false =>
  have hl:lim R = R.threads:=by unfold lim;rw [hK];rfl
  simp only [cond_false]
  cases hd:decide (R.threads≤k) with
  | true =>
   have hd:=of_decide_eq_true hd
   exact ⟨fun h=>(by cases h),⟨fun _=>by omega,fun _=>rfl⟩⟩
  | false =>
   have hd:¬ R.threads≤k:=of_decide_eq_false hd
   refine ⟨fun _=>⟨⟨rfl,rfl,rfl,rfl⟩,by show (13:Int)≠0;decide,⟨hc,acc_load (Or.inr (Or.inr (brd_span k0 (by omega)))),?_⟩,rfl,rfl⟩,⟨fun h=>(by cases h),fun h=>absurd (by omega) h⟩⟩
   have hl':k < lim (Xa.load { R with index:=k } 13 ⟨0,0,wr (79+k)⟩):=by show k < lim R;omega
   exact Or.inr (Or.inr (Or.inr (Or.inr (Or.inr (Or.inr (Or.inr (Or.inr (Or.inr (Or.inr (Or.inr (Or.inr (Or.inl ⟨rfl,hk,he,k0,hl'⟩))))))))))))
theorem stp_scan (t1:1≤R.threads) (t6:R.threads≤6) (hc:R.call = c) (hk:c.kind = 10∨c.kind = 11):StpR st n R c RepT R.scan:=by
 unfold Xa.scan
 cases h1:R.engine==1 with
 | true=>exact stp_done RepT rfl
 | false =>
  have h1:R.engine≠1:=by simpa using h1
  simp only [cond_false]
  cases h4:R.engine==4 with
  | true =>
   have h4:R.engine = 4:=by simpa using h4
   exact ⟨⟨rfl,rfl,rfl,rfl⟩,Or.inl ⟨by show (12:Int)≠0;decide,hc,acc_load (Or.inr (Or.inl rfl)),Or.inr (Or.inr (Or.inr (Or.inr (Or.inr (Or.inr (Or.inr (Or.inr (Or.inr (Or.inr (Or.inr (Or.inl ⟨rfl,hk,h4⟩)))))))))))⟩⟩
  | false =>
   have hl:=stp_look (st:=st) (n:=n) t1 t6 hc hk h1 0 (by decide)
   have h2:(R.look 0).2 = true:=by
    have:=(lim_in t1 t6).1
    cases h:(R.look 0).2 with
    | true=>rfl
    | false=>exact absurd (hl.2.1 h) (by omega)
   obtain ⟨a,b,d,e,f⟩:=hl.1 h2
   exact ⟨a,Or.inl ⟨b,d⟩⟩
end
theorem vau_calm11 {J:Xb} {I:Xn}:∀ (k:Nat) {J:Xb} {I:Xn} {c:Xg},J.pc = 11→J.inner = some I→Calm Xn.next k I c→Calm Xb.next k J c
 | 0,_,_,_,_,_,h=>h
 | k+1,J,I,c,hp,hi,h=>fun e x=>by
  have h':=h e x
  have e:J.next x = Xb.finC { J with inner:=some (I.next x).1 } (I.next x).2:=by unfold Xb.next Xb.fin11;rw [hp,hi];rfl
  rw [e]
  unfold Xb.finC
  cases !((I.next x).2.kind==12) with
  | true=>exact vau_calm11 (J:=J) (I:=I) k hp rfl h'
  | false =>
   simp only [cond_false]
   cases (!((I.next x).2.ans.code==1) || J.op.kind==8) <;> exact X3 rfl k
theorem vau_finC_calm {J:Xb} {I:Xn} {c:Xg} (k:Nat) (hp:J.pc = 11) (hi:J.inner = some I) (h:Calm Xn.next k I c):Calm Xb.next k (J.finC c).1 (J.finC c).2:=by
 unfold Xb.finC
 cases !(c.kind==12) with
 | true=>exact vau_calm11 (J:=J) (I:=I) k hp hi h
 | false =>
  simp only [cond_false]
  cases (!(c.ans.code==1) || J.op.kind==8) <;> exact X3 rfl k
theorem vau_perform_calm {n:Nat} {J:Xb} (h:VauB n J):Calm Xb.next 3 J.perform.1 J.perform.2:=by
 have hl:=lit_calm (n:=n) (c:=calloc) Xi.zero (lit_new (J:=J) (n:=n) (Yv h.base (by decide) (by decide)) h.kind (ordr J.op.key) (by decide)) (by decide)
 exact vau_finC_calm 3 rfl rfl hl
theorem vau_descend_calm {n:Nat} {J:Xb} (h:VauB n J):Calm Xb.next 3 J.descend.1 J.descend.2:=by
 unfold Xb.descend
 cases J.bucket==J.wanted with
 | true=>exact vau_perform_calm h
 | false=>exact X3 rfl 3
def VauW (J:Xb) (W:Xt):Prop:=J.walk = some W∧J.pc = 5
theorem vau_walker:Walker Xb.next Xt.step VauW:=fun J W x h=>by
 obtain ⟨hw,hp⟩:=h
 have e:J.next x = J.walk5 x:=by unfold Xb.next Xb.create;rw [hp];rfl
 rw [e]
 unfold Xb.walk5 walkS
 rw [hw]
 simp only
 cases hb:(W.step x).2.2 with
 | true=>exact Or.inl ⟨rfl,⟨rfl,hp⟩,rfl⟩
 | false =>
  refine Or.inr ⟨rfl,X3 ?_ 1⟩
  simp only [cond_false]
  cases walkF (some (W.step x).1) <;> rfl
theorem vau_calm {n:Nat} {J:Xb} {c:Xg} (x:Xi) (h:VauI n J c) (hc:c.kind≠12) (hx:WOk n x.word):Calm Xb.next 3 (J.next x).1 (J.next x).2:=by
 have hb:=h.b
 have w5:Calm Xb.next 3 (J.seek.walk5 x).1 (J.seek.walk5 x).2:=by
  have h:=vau_walker.calm walk_mach (J:=J.seek) (W:=Xt.new (Xx J.base 2) (bordr J.child)) x ⟨rfl,rfl⟩
  have e:J.seek.next x = J.seek.walk5 x:=by unfold Xb.next Xb.create;rw [show J.seek.pc = 5 from rfl];rfl
  rwa [e] at h
 have pub:Calm Xb.next 3 J.pub.1 J.pub.2:=vau_descend_calm (n:=n) ⟨hb.sen,hb.node,hb.sen,hb.walk,hb.kind,hb.k0,hb.k1,hb.w0,hb.w1,hb.c0,hb.c1,hb.c0,hb.c1⟩
 rcases h.pc with ⟨_,h⟩ | ⟨_,h⟩
 ·exact absurd h hc
 rcases h with hp | hp | ⟨hp,ho⟩ | ⟨hp,h8,ho⟩ | ⟨hp | hp,hn,ho⟩ | ⟨hp,hn,ho,hwk⟩ | ⟨hp,hn,ho,hwk⟩ | ⟨hp | hp | hp,ho⟩ | ⟨hp,I,hi,hI⟩ | hp | hp | hp | hp
 ·have e:J.next x = ({ J with pc:=1 },cload (root 16)):=by unfold Xb.next;rw [hp];rfl
  rw [e];exact X3 rfl 3
 ·have e:J.next x = J.sizedZ (sizeW x.word.nm):=by unfold Xb.next;rw [hp];rfl
  rw [e];exact X3 rfl 3
 ·have e:J.next x = J.based x:=by unfold Xb.next;rw [hp];rfl
  rw [e]
  unfold Xb.based
  cases x.word.sl==0 with
  | false=>exact vau_descend_calm (n:=n) ⟨hx,hb.node,hb.sen,hb.walk,hb.kind,hb.k0,hb.k1,hb.w0,hb.w1,hb.b0,hb.b1,hb.c0,hb.c1⟩
  | true =>
   simp only [Bool.not_true,cond_false]
   cases J.bucket==0 <;> exact X3 rfl 3
 ·have e:J.next x = bif !x.ok then J.perform else ({ J with node:=x.word,pc:=4 },cstore (Xx x.word 0) (wnum (bordr J.child))):=by unfold Xb.next Xb.create;rw [hp];rfl
  rw [e]
  cases x.ok with
  | false=>exact vau_perform_calm hb
  | true=>exact X3 rfl 3
 ·have e:J.next x = J.seek.walk5 x:=by unfold Xb.next Xb.create;rw [hp];rfl
  rw [e];exact w5
 ·have e:J.next x = bif x.ok then ({ J with sentinel:=J.node,pc:=9 },cload (broot J.child)) else J.seek.walk5 x:=by unfold Xb.next Xb.create;rw [hp];rfl
  rw [e]
  cases x.ok with
  | true=>exact X3 rfl 3
  | false=>exact w5
 ·obtain ⟨W,hW,_⟩:=hwk
  exact vau_walker.calm walk_mach x ⟨hW,hp⟩
 ·have e:J.next x = ({ J with pc:=8 },cswap (walkPrev J.walk) (walkCur J.walk) (wto (walkCur J.walk) J.node)):=by unfold Xb.next Xb.create;rw [hp];rfl
  rw [e];exact X3 rfl 3
 ·have e:J.next x = ({ J with pc:=9 },cload (broot J.child)):=by unfold Xb.next Xb.create;rw [hp];rfl
  rw [e];exact X3 rfl 3
 ·have e:J.next x = bif x.word.sl==0 then ({ J with pc:=10 },cswap (broot J.child) x.word (wto x.word J.sentinel)) else J.pub:=by unfold Xb.next Xb.create;rw [hp];rfl
  rw [e]
  cases x.word.sl==0 with
  | true=>exact X3 rfl 3
  | false=>exact pub
 ·have e:J.next x = J.pub:=by unfold Xb.next Xb.create;rw [hp];rfl
  rw [e];exact pub
 ·have e:J.next x = Xb.finC { J with inner:=some (I.next x).1 } (I.next x).2:=by unfold Xb.next Xb.fin11;rw [hp,hi];rfl
  rw [e]
  exact vau_finC_calm 3 hp rfl (lit_calm x hI hc)
 ·have e:J.next x = J.counted x:=by unfold Xb.next;rw [hp];rfl
  rw [e];exact X3 rfl 3
 ·have e:J.next x = J.added x:=by unfold Xb.next;rw [hp];rfl
  rw [e]
  unfold Xb.added
  cases x.ok <;> cases J.op.kind==7 <;> cases J.size==8 <;> cases decide (J.count.nm < wr (2*J.size)) <;> exact X3 rfl 3
 ·have e:J.next x = J.resized x:=by unfold Xb.next;rw [hp];rfl
  rw [e]
  unfold Xb.resized
  cases x.word.nm==J.size <;> exact X3 rfl 3
 ·have e:J.next x = J.done J.answer:=by unfold Xb.next;rw [hp];rfl
  rw [e];exact X3 rfl 3
def SteW (J:Xc) (C:Xe):Prop:=J.climb = some C∧((J.op.kind = 6∧(J.pc = 5∨J.pc = 12))∨(J.op.kind = 7∧(J.pc = 1∨J.pc = 6))∨(J.op.kind = 8∧J.pc = 1)∨J.pc = 103)
theorem ste_link_calm (J:Xc) (k:Nat):Calm Xc.next k J.link.1 J.link.2:=by
 unfold Xc.link
 cases decide (J.op.tall≤J.level) <;> exact X3 rfl k
theorem ste_ins7_calm (J:Xc) (l:Int) (k:Nat):Calm Xc.next k (J.ins7 l).1 (J.ins7 l).2:=by
 unfold Xc.ins7
 simp only
 cases decide (l < J.op.tall) <;> exact X3 rfl k
theorem ste_walker:Walker Xc.next Xe.step SteW:=fun J C x h=>by
 obtain ⟨hw,hp⟩:=h
 rcases hp with ⟨hk,hp | hp⟩ | ⟨hk,hp | hp⟩ | ⟨hk,hp⟩ | hp
 ·have e:J.next x = J.ins5 x:=by unfold Xc.next Xc.insert;rw [hp,hk];rfl
  rw [e]
  unfold Xc.ins5 climbS
  rw [hw]
  simp only
  cases hb:(C.step x).2.2 with
  | true=>exact Or.inl ⟨rfl,⟨rfl,Or.inl ⟨hk,Or.inl hp⟩⟩,rfl⟩
  | false =>
   refine Or.inr ⟨rfl,?_⟩
   simp only [cond_false]
   cases !((climbF (some (C.step x).1)).sl==0) with
   | true=>exact X3 rfl 1
   | false=>exact ste_ins7_calm _ 0 1
 ·have e:J.next x = J.rai12 x:=by unfold Xc.next Xc.raise;rw [hp,hk];rfl
  rw [e]
  unfold Xc.rai12 climbS
  rw [hw]
  simp only
  cases hb:(C.step x).2.2 with
  | true=>exact Or.inl ⟨rfl,⟨rfl,Or.inl ⟨hk,Or.inr hp⟩⟩,rfl⟩
  | false =>
   refine Or.inr ⟨rfl,?_⟩
   simp only [cond_false]
   cases !weqR (climbF (some (C.step x).1)) J.node with
   | true=>exact X3 rfl 1
   | false=>exact ste_link_calm _ 1
 ·have e:J.next x = J.rem1 x 6:=by unfold Xc.next Xc.remove;rw [hp,hk];rfl
  rw [e]
  unfold Xc.rem1 climbS
  rw [hw]
  simp only
  cases hb:(C.step x).2.2 with
  | true=>exact Or.inl ⟨rfl,⟨rfl,Or.inr (Or.inl ⟨hk,Or.inl hp⟩)⟩,rfl⟩
  | false =>
   refine Or.inr ⟨rfl,?_⟩
   simp only [cond_false]
   cases (climbF (some (C.step x).1)).sl==0 <;> exact X3 rfl 1
 ·have e:J.next x = J.rem6 x:=by unfold Xc.next Xc.remove;rw [hp,hk];rfl
  rw [e]
  unfold Xc.rem6 climbS
  rw [hw]
  simp only
  cases hb:(C.step x).2.2 with
  | true=>exact Or.inl ⟨rfl,⟨rfl,Or.inr (Or.inl ⟨hk,Or.inr hp⟩)⟩,rfl⟩
  | false=>exact Or.inr ⟨rfl,X3 rfl 1⟩
 ·have e:J.next x = J.rem1 x 1:=by unfold Xc.next Xc.get;rw [hp,hk];rfl
  rw [e]
  unfold Xc.rem1 climbS
  rw [hw]
  simp only
  cases hb:(C.step x).2.2 with
  | true=>exact Or.inl ⟨rfl,⟨rfl,Or.inr (Or.inr (Or.inl ⟨hk,hp⟩))⟩,rfl⟩
  | false =>
   refine Or.inr ⟨rfl,?_⟩
   simp only [cond_false]
   cases (climbF (some (C.step x).1)).sl==0 <;> exact X3 rfl 1
 ·have e:J.next x = J.fin x:=by unfold Xc.next Xc.finish;rw [hp];rfl
  rw [e]
  unfold Xc.fin climbS
  rw [hw]
  simp only
  cases hb:(C.step x).2.2 with
  | true=>exact Or.inl ⟨rfl,⟨rfl,Or.inr (Or.inr (Or.inr hp))⟩,rfl⟩
  | false =>
   refine Or.inr ⟨rfl,fun _ y=>?_⟩
   have e:(⟨104,J.last,J.op,some (C.step x).1,J.node,J.level,J.by_,J.val⟩:Xc).next y = Xc.done ⟨104,J.last,J.op,some (C.step x).1,J.node,J.level,J.by_,J.val⟩ 1 J.val:=by unfold Xc.next Xc.finish;rfl
   show Calm Xc.next 0 (Xc.next (⟨104,J.last,J.op,some (C.step x).1,J.node,J.level,J.by_,J.val⟩:Xc) y).1 (Xc.next (⟨104,J.last,J.op,some (C.step x).1,J.node,J.level,J.by_,J.val⟩:Xc) y).2
   rw [e]
   exact X3 rfl 0
theorem ste_calm {n:Nat} {J:Xc} {c:Xg} (x:Xi) (h:SteI n J c) (hc:c.kind≠12):Calm Xc.next 3 (J.next x).1 (J.next x).2:=by
 have hb:=h.b
 have wk:=fun (J:Xc) (C:Xe) (h:SteW J C)=>ste_walker.calm climb_mach x h
 have sk:∀ (p b:Int),(J.op.kind = 6∧(p = 5∨p = 12))∨(J.op.kind = 7∧(p = 1∨p = 6))∨(J.op.kind = 8∧p = 1)∨p = 103→Calm Xc.next 3 ((J.seek p b).next x).1 ((J.seek p b).next x).2:=fun p b h=>wk (J.seek p b) (Xe.new b) ⟨rfl,h⟩
 have e5:∀ b,J.op.kind = 6→(J.seek 5 b).next x = (J.seek 5 b).ins5 x:=fun b hk=>by unfold Xc.next Xc.insert;rw [show (J.seek 5 b).pc = 5 from rfl,show (J.seek 5 b).op.kind = 6 from hk];rfl
 have e12:∀ b,J.op.kind = 6→(J.seek 12 b).next x = (J.seek 12 b).rai12 x:=fun b hk=>by unfold Xc.next Xc.raise;rw [show (J.seek 12 b).pc = 12 from rfl,show (J.seek 12 b).op.kind = 6 from hk];rfl
 have e1:∀ b,J.op.kind = 7→(J.seek 1 b).next x = (J.seek 1 b).rem1 x 6:=fun b hk=>by unfold Xc.next Xc.remove;rw [show (J.seek 1 b).pc = 1 from rfl,show (J.seek 1 b).op.kind = 7 from hk];rfl
 have e6:∀ b,J.op.kind = 7→(J.seek 6 b).next x = (J.seek 6 b).rem6 x:=fun b hk=>by unfold Xc.next Xc.remove;rw [show (J.seek 6 b).pc = 6 from rfl,show (J.seek 6 b).op.kind = 7 from hk];rfl
 have e1':∀ b,J.op.kind = 8→(J.seek 1 b).next x = (J.seek 1 b).rem1 x 1:=fun b hk=>by unfold Xc.next Xc.get;rw [show (J.seek 1 b).pc = 1 from rfl,show (J.seek 1 b).op.kind = 8 from hk];rfl
 have e103:∀ b,(J.seek 103 b).next x = (J.seek 103 b).fin x:=fun b=>by unfold Xc.next Xc.finish;rw [show (J.seek 103 b).pc = 103 from rfl];rfl
 rcases h.pc with ⟨_,h⟩ | ⟨_,h⟩
 ·exact absurd h hc
 rcases h with hp | ⟨hk,hp,hc8⟩ | ⟨hk,hp,hn⟩ | ⟨hk,hp,hn,ho⟩ | ⟨hk,hp,hn,ho⟩ | ⟨hk,hp,hl,hn,ho⟩ | ⟨hk,hp,hl,hn,ho⟩ | ⟨hk,hp,hl,hn,ho⟩ | ⟨hk,hp,ho⟩ | ⟨hk,hp,hn,ho⟩ | ⟨hk,hp,hl,hn,ho⟩ | ⟨hk,hp,hn,ho⟩ | ⟨hk,hp,hn,ho⟩ | ⟨hk,hp,hn,ho⟩
 ·rcases hb.op with ⟨hk,_⟩ | hk | hk
  ·have e:J.next x = ({ J with pc:=1 },calloc):=by unfold Xc.next Xc.insert;rw [hp,hk];rfl
   rw [e];exact X3 rfl 3
  ·have e:J.next x = (J.seek 1 J.op.key).rem1 x 6:=by unfold Xc.next Xc.remove;rw [hp,hk];rfl
   rw [e,← e1 _ hk];exact sk 1 _ (Or.inr (Or.inl ⟨hk,Or.inl rfl⟩))
  ·have e:J.next x = (J.seek 1 J.op.key).rem1 x 1:=by unfold Xc.next Xc.get;rw [hp,hk];rfl
   rw [e,← e1' _ hk];exact sk 1 _ (Or.inr (Or.inr (Or.inl ⟨hk,rfl⟩)))
 ·have e:J.next x = bif !x.ok then J.done 4 0 else ({ J with node:=x.word,pc:=2 },cstore (Xx x.word 0) (wnum J.op.key)):=by unfold Xc.next Xc.insert;rw [hp,hk];rfl
  rw [e]
  cases x.ok <;> exact X3 rfl 3
 ·rcases hp with hp | hp | hp
  ·have e:J.next x = ({ J with pc:=3 },cstore (Xx J.node 1) (wnum J.op.val)):=by unfold Xc.next Xc.insert;rw [hp,hk];rfl
   rw [e];exact X3 rfl 3
  ·have e:J.next x = ({ J with pc:=4 },cstore (Xx J.node 6) (wnum J.op.tall)):=by unfold Xc.next Xc.insert;rw [hp,hk];rfl
   rw [e];exact X3 rfl 3
  ·have e:J.next x = (J.seek 5 J.op.key).ins5 x:=by unfold Xc.next Xc.insert;rw [hp,hk];rfl
   rw [e,← e5 _ hk];exact sk 5 _ (Or.inl ⟨hk,Or.inl rfl⟩)
 ·obtain ⟨C,hC,_⟩:=ho
  exact wk J C ⟨hC,Or.inl ⟨hk,Or.inl hp⟩⟩
 ·rcases hp with hp | hp
  ·have e:J.next x = J.done 3 0:=by unfold Xc.next Xc.insert;rw [hp,hk];rfl
   rw [e];exact X3 rfl 3
  ·have e:J.next x = bif x.ok then Xc.link { J with level:=1 } else (J.seek 5 J.op.key).ins5 x:=by unfold Xc.next Xc.insert;rw [hp,hk];rfl
   rw [e]
   cases x.ok with
   | true=>exact ste_link_calm _ 3
   | false=>rw [cond_false,← e5 _ hk];exact sk 5 _ (Or.inl ⟨hk,Or.inl rfl⟩)
 ·have e:J.next x = J.ins7 (wr (J.level+1)):=by unfold Xc.next Xc.insert;rw [hp,hk];rfl
  rw [e];exact ste_ins7_calm _ _ 3
 ·rcases hp with hp | hp | hp
  ·have e:J.next x = bif x.word.mark then J.part 1 else bif !weq2 x.word (climbP J.climb J.level).cur then ({ J with pc:=10 },cswap (Xx J.node (wr (2+J.level))) x.word (wto x.word (climbP J.climb J.level).cur)) else ({ J with pc:=11 },cswap (climbP J.climb J.level).prev (climbP J.climb J.level).cur (wto (climbP J.climb J.level).cur J.node)):=by unfold Xc.next Xc.raise;rw [hp,hk];rfl
   rw [e]
   cases x.word.mark <;> cases weq2 x.word (climbP J.climb J.level).cur <;> exact X3 rfl 3
  ·have e:J.next x = bif !x.ok then J.link else ({ J with pc:=11 },cswap (climbP J.climb J.level).prev (climbP J.climb J.level).cur (wto (climbP J.climb J.level).cur J.node)):=by unfold Xc.next Xc.raise;rw [hp,hk];rfl
   rw [e]
   cases x.ok with
   | false=>exact ste_link_calm _ 3
   | true=>exact X3 rfl 3
  ·have e:J.next x = bif x.ok then Xc.link { J with level:=wr (J.level+1) } else (J.seek 12 J.op.key).rai12 x:=by unfold Xc.next Xc.raise;rw [hp,hk];rfl
   rw [e]
   cases x.ok with
   | true=>exact ste_link_calm _ 3
   | false=>rw [cond_false,← e12 _ hk];exact sk 12 _ (Or.inl ⟨hk,Or.inr rfl⟩)
 ·obtain ⟨C,hC,_⟩:=ho
  exact wk J C ⟨hC,Or.inl ⟨hk,Or.inr hp⟩⟩
 ·obtain ⟨C,hC,_⟩:=ho
  rcases hk with hk | hk
  ·exact wk J C ⟨hC,Or.inr (Or.inl ⟨hk,Or.inl hp⟩)⟩
  ·exact wk J C ⟨hC,Or.inr (Or.inr (Or.inl ⟨hk,hp⟩))⟩
 ·rcases hk with hk | hk
  ·have e:J.next x = bif decide (x.word.nm < 1) then ({ J with level:=0,pc:=3 },cload (Xx J.node 1)) else bif decide (3 < x.word.nm) then ({ J with level:=0,pc:=3 },cload (Xx J.node 1)) else ({ J with level:=wr (x.word.nm - 1),pc:=3 },cload (Xx J.node 1)):=by unfold Xc.next Xc.remove;rw [hp,hk];rfl
   rw [e]
   cases decide (x.word.nm < 1) <;> cases decide (3 < x.word.nm) <;> exact X3 rfl 3
  ·have e:J.next x = J.done 1 x.word.nm:=by unfold Xc.next Xc.get;rw [hp,hk];rfl
   rw [e];exact X3 rfl 3
 ·rcases hp with hp | hp | hp
  ·have e:J.next x = Xc.look { J with val:=x.word.nm }:=by unfold Xc.next Xc.remove;rw [hp,hk];rfl
   rw [e];exact X3 rfl 3
  ·have e:J.next x = bif !x.word.mark then ({ J with pc:=5 },cswap (Xx J.node (wr (2+J.level))) x.word (wmarked x.word)) else bif J.level==0 then J.done 2 0 else Xc.look { J with level:=wr (J.level - 1) }:=by unfold Xc.next Xc.remove;rw [hp,hk];rfl
   rw [e]
   cases x.word.mark <;> cases J.level==0 <;> exact X3 rfl 3
  ·have e:J.next x = bif !x.ok then J.look else bif decide (0 < J.level) then Xc.look { J with level:=wr (J.level - 1) } else (J.seek 6 (wr (J.op.key+1))).rem6 x:=by unfold Xc.next Xc.remove;rw [hp,hk];rfl
   rw [e]
   cases x.ok with
   | false=>exact X3 rfl 3
   | true =>
    cases decide (0 < J.level) with
    | true=>exact X3 rfl 3
    | false=>simp only [Bool.not_true,cond_false];rw [← e6 _ hk];exact sk 6 _ (Or.inr (Or.inl ⟨hk,Or.inr rfl⟩))
 ·obtain ⟨C,hC,_⟩:=ho
  exact wk J C ⟨hC,Or.inr (Or.inl ⟨hk,Or.inr hp⟩)⟩
 ·rcases hp with hp | hp | hp
  ·have e:J.next x = bif x.word.nm==0 then ({ J with pc:=102 },cswap (Xx J.node 7) x.word (wcount x.word J.by_)) else (J.seek 103 (wr (J.op.key+1))).fin x:=by unfold Xc.next Xc.finish;rw [hp];rfl
   rw [e]
   cases x.word.nm==0 with
   | true=>exact X3 rfl 3
   | false=>rw [cond_false,← e103];exact sk 103 _ (Or.inr (Or.inr (Or.inr rfl)))
  ·have e:J.next x = bif x.ok then J.done 1 J.val else (J.seek 103 (wr (J.op.key+1))).fin x:=by unfold Xc.next Xc.finish;rw [hp];rfl
   rw [e]
   cases x.ok with
   | true=>exact X3 rfl 3
   | false=>rw [cond_false,← e103];exact sk 103 _ (Or.inr (Or.inr (Or.inr rfl)))
  ·have e:J.next x = J.done 1 J.val:=by unfold Xc.next Xc.finish;rw [hp];rfl
   rw [e];exact X3 rfl 3
 ·obtain ⟨C,hC,_⟩:=ho
  exact wk J C ⟨hC,Or.inr (Or.inr (Or.inr hp))⟩
end Go.Proofs.YtaipogljokblkaaGreatDoor
