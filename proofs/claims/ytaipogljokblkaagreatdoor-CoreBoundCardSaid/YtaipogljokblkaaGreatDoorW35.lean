/- Core: LF, LG, LF2. -/
import Derived.Test.YtaipogljokblkaaGreatDoorW34
import Derived.Test.YtaipogljokblkaaGreatDoorW12
import Derived.Test.YtaipogljokblkaaGreatDoorW01
set_option linter.all false
set_option maxRecDepth 100000
set_option maxHeartbeats 8000000
namespace Go.Proofs.YtaipogljokblkaaGreatDoor
open Go Go.RowKit
set_option linter.unusedSimpArgs false
set_option linter.unusedVariables false
set_option linter.unusedSectionVars false
def DV(c:Xf):Bool:=c.kind==7||c.kind==10
def Calm{α:Type}(f:α->Xj->α × Xf):Nat->α->Xf->Prop
 |0,_,c=>DV c=false
 |k+1,J,c=>DV c=true->∀x,Calm f k (f J x).1 (f J x).2
theorem Ya{α:Type}{f:α->Xj->α × Xf}{J:α}{c:Xf}(h:DV c=false):∀k,Calm f k J c
 |0=>h
 |_+1=>λe=>by rw[h] at e;cases e
theorem LM{α:Type}{f:α->Xj->α × Xf}:∀(k:Nat) {J:α} {c:Xf},Calm f k J c->Calm f (k+1) J c
 |0,_,_,h=>Ya h 1
 |k+1,_,_,h=>λe x=>LM k (h e x)
theorem Ip{α β:Type}{f:α->Xj->α × Xf}{g:β->Xj->β × Xf}(i:α->β)(hi:∀J x,g (i J) x=(i (f J x).1,(f J x).2)):∀(k:Nat) {J:α} {c:Xf},Calm f k J c->Calm g k (i J) c
 |0,_,_,h=>h
 |k+1,J,c,h=>λe x=>by
  rw[hi J x];exact Ip i hi k (h e x)
theorem fW{J:X6}(x:Xj)(h0:0<=J.pc)(h5:J.pc<=5):Calm X6.next 3 (J.next x).1 (J.next x).2:=by
 obtain⟨pc,last,op,node,By,val⟩:=J;have hp:pc=0\/pc=1\/pc=2\/pc=3\/pc=4\/pc=5:=by simp only at h0 h5;omega
 clear h0 h5;by_cases hk:op.kind=1<;>(rcases hp with rfl|rfl|rfl|rfl|rfl|rfl)<;>simp only[X6.next,X6.push,X6.pop,X6.done,beq_iff_eq,hk,Int.reduceEq,Int.reduceNeg,if_true,if_false,↓reduceIte]<;>(repeat' split)<;>
  first
  |exact Ya rfl 3
  |(refine λ_ y=>Ya ?_ 2;simp only[X6.next,X6.push,X6.pop,X6.done,beq_iff_eq,hk,Int.reduceEq,Int.reduceNeg,if_true,if_false,↓reduceIte];rfl)
theorem qN{J:Yd}(x:Xj)(h0:0<=J.pc)(h8:J.pc<=8)(h4:J.op.kind=4->J.pc<=8):Calm Yd.next 3 (J.next x).1 (J.next x).2:=by
 obtain⟨pc,last,op,node,hh,t,nn,val⟩:=J;have hp:pc=0\/pc=1\/pc=2\/pc=3\/pc=4\/pc=5\/pc=6\/pc=7\/pc=8:=by simp only at h0 h8;omega
 clear h0 h8 h4;by_cases hk:op.kind=4<;>(rcases hp with rfl|rfl|rfl|rfl|rfl|rfl|rfl|rfl|rfl)<;>simp only[Yd.next,Yd.enqueue,Yd.dequeue,Yd.done,beq_iff_eq,hk,Int.reduceEq,Int.reduceNeg,if_true,if_false,↓reduceIte]<;>(repeat' split)<;>
  first
  |exact Ya rfl 3
  |(refine λ_ y=>Ya ?_ 2;simp only[Yd.next,Yd.enqueue,Yd.dequeue,Yd.done,beq_iff_eq,hk,Int.reduceEq,Int.reduceNeg,if_true,if_false,↓reduceIte];rfl)
structure Mach(β:Type)(s:β->Xj->β × Xf × Bool)(A B:β->Prop):Prop where
 s2:∀W x,(s W x).2.2=true->DV (s W x).2.1=false\/B (s W x).1\/A (s W x).1
 s1:∀W x,A W->(s W x).2.2=true->DV (s W x).2.1=false\/B (s W x).1
 s0:∀W x,B W->(s W x).2.2=true/\DV (s W x).2.1=false
theorem Mh(W:Xq)(h:W.on.2.2=true):DV W.on.2.1=false\/W.on.1.pc=8:=by
 unfold Xq.on at*;split at h
 ·cases h
 ·rename_i h0;rw[if_neg h0];exact Or.inr rfl
theorem Mi:Mach Xq Xq.step (λW=>W.pc=7\/W.pc=6) (λW=>W.pc=8):=by
 refine⟨λW x h=>?_,λW x hp h=>?_,λW x hp=>?_⟩
 ·
  have ho:∀W:Xq,W.on.2.2=true->DV W.on.2.1=false\/W.on.1.pc=8\/(W.on.1.pc=7\/W.on.1.pc=6):=λW h=>(Mh W h).imp id Or.inl;unfold Xq.step at*;(repeat' split at h)<;>(repeat' split)<;>first
   |contradiction
   |exact Or.inl rfl
   |exact Or.inr (Or.inr (Or.inl rfl))
   |exact Or.inr (Or.inr (Or.inr rfl))
   |exact ho _ h
   |cases h
 ·
  rcases hp with hp|hp
  ·have e:W.step x=Xq.on {W with Ay:=W.next}:=by unfold Xq.step;rw[hp];rfl
   rw[e] at h ⊢;exact Mh _ h
  ·have e:W.step x=Xq.on {W with Ay:=BC W.Ay W.next}:=by unfold Xq.step;rw[hp];rfl
   rw[e] at h ⊢;exact Mh _ h
 ·
  have e:W.step x=W.behind:=by unfold Xq.step;rw[show W.pc=8 from hp];rfl
  rw[e];exact⟨rfl,rfl⟩
theorem Kv(C:Xe)(h:C.lower.2.2=true):DV C.lower.2.1=false\/(C.lower.1.pc=8\/C.lower.1.pc=9):=by
 unfold Xe.lower at*;simp only at*;split at h
 ·split at h<;>cases h
 ·rename_i h0;rw[if_neg h0];split
  ·exact Or.inl rfl
  ·exact Or.inr (Or.inr rfl)
theorem Ps(C:Xe)(h:C.on.2.2=true):DV C.on.2.1=false\/(C.on.1.pc=8\/C.on.1.pc=9):=by
 unfold Xe.on at*;split at h
 ·rename_i h0;rw[if_pos h0];exact Kv _ h
 ·rename_i h0;rw[if_neg h0];exact Or.inr (Or.inl rfl)
theorem YX:Mach Xe Xe.step (λC=>C.pc=7) (λC=>C.pc=8\/C.pc=9):=by
 refine⟨λC x h=>?_,λC x hp h=>?_,λC x hp=>?_⟩
 ·
  have hl:∀C:Xe,C.lower.2.2=true->DV C.lower.2.1=false\/(C.lower.1.pc=8\/C.lower.1.pc=9)\/C.lower.1.pc=7:=λC h=>(Kv C h).imp id Or.inl;have ho:∀C:Xe,C.on.2.2=true->DV C.on.2.1=false\/(C.on.1.pc=8\/C.on.1.pc=9)\/C.on.1.pc=7:=λC h=>(Ps C h).imp id Or.inl;unfold Xe.step at*;(repeat' split at h)<;>(repeat' split)<;>first
   |contradiction
   |exact Or.inl rfl
   |exact Or.inr (Or.inr rfl)
   |exact hl _ h
   |exact ho _ h
   |cases h
 ·
  have e:C.step x=Xe.on {C with spot:={C.spot with Ay:=C.next}}:=by unfold Xe.step;rw[show C.pc=7 from hp];rfl
  rw[e] at h ⊢;exact Ps _ h
 ·
  rcases hp with hp|hp
  ·have e:C.step x=C.behind:=by unfold Xe.step;rw[hp];rfl
   rw[e];exact⟨rfl,rfl⟩
  ·have e:C.step x=C.enter:=by unfold Xe.step;rw[hp];rfl
   rw[e];exact⟨rfl,rfl⟩
def PE{α β:Type}(f:α->Xj->α × Xf)(s:β->Xj->β × Xf × Bool)(P:α->β->Prop):Prop:=
 ∀J W x,P J W->((s W x).2.2=true/\P (f J x).1 (s W x).1/\(f J x).2=(s W x).2.1)\/((s W x).2.2=false/\Calm f 1 (f J x).1 (f J x).2)
theorem PE.calm{α β:Type}{f:α->Xj->α × Xf}{s:β->Xj->β × Xf × Bool}{A B:β->Prop}{P:α->β->Prop}(w:PE f s P)(m:Mach β s A B){J:α}{W:β}(x:Xj)(h:P J W):Calm f 3 (f J x).1 (f J x).2:=by
 have c1:∀(J:α) (W:β) (c:Xf),P J W->(DV c=false\/B W)->Calm f 1 J c:=λJ W c h hw=>by
  rcases hw with hw|hw
  ·exact Ya hw 1
  ·intro _ y;obtain⟨s1,s2⟩:=m.s0 W y hw;rcases w J W y h with⟨_,_,e⟩|⟨e,_⟩
   ·show DV _=false;rw[e];exact s2
   ·rw[s1] at e;cases e
 have c2:∀(J:α) (W:β) (c:Xf),P J W->(DV c=false\/B W\/A W)->Calm f 2 J c:=λJ W c h hw=>by
  rcases hw with hw|hw|hw
  ·exact Ya hw 2
  ·exact LM 1 (c1 J W c h (Or.inr hw))
  ·intro _ y;rcases w J W y h with⟨hb,hP,e⟩|⟨_,e⟩
   ·rw[e];exact c1 _ _ _ hP (m.s1 W y hw hb)
   ·exact e
 rcases w J W x h with⟨hb,hP,e⟩|⟨_,e⟩
 ·rw[e];exact LM 2 (c2 _ _ _ hP (m.s2 W x hb))
 ·exact LM 2 (LM 1 e)
def wR(J:Xi)(W:Xq):Prop:=J.walk=some W/\((J.op.kind=6/\J.pc=4)\/(J.op.kind=7/\(J.pc=1\/J.pc=6))\/(J.op.kind=8/\J.pc=1))
theorem YA:PE Xi.next Xq.step wR:=λJ W x h=>by
 obtain⟨pc,last,start,key,op,walk,node,val⟩:=J;obtain⟨hw,hp⟩:=h;simp only at hw hp;subst hw;cases hb:(W.step x).2.2 with
 |true=>
  refine Or.inl ⟨rfl,?_⟩;rcases hp with⟨hk,rfl⟩|⟨hk,rfl|rfl⟩|⟨hk,rfl⟩<;>
   simp only[Xi.next,Xi.insert,Xi.Am,Xi.get,Xi.BK,Xi.AT,Xi.BI,CT,beq_iff_eq,hk,hb,Int.reduceEq,Int.reduceNeg,if_true,if_false,↓reduceIte,wR]<;>simp
 |false=>
  refine Or.inr ⟨rfl,Ya ?_ 1⟩;rcases hp with⟨hk,rfl⟩|⟨hk,rfl|rfl⟩|⟨hk,rfl⟩<;>
   simp only[Xi.next,Xi.insert,Xi.Am,Xi.get,Xi.BK,Xi.AT,Xi.BI,CT,beq_iff_eq,hk,hb,Int.reduceEq,Int.reduceNeg,if_true,if_false,↓reduceIte,Bool.false_eq_true]<;>(repeat' split)<;>rfl
theorem Ls{J:Xi}(p:Int)(h:(J.op.kind=6/\p=4)\/(J.op.kind=7/\(p=1\/p=6))\/(J.op.kind=8/\p=1)):wR (J.An p) (Xq.new J.start J.key):=⟨rfl,h⟩
theorem OD{n:Nat}{J:Xi}{c:Xf}(x:Xj)(h:Jb n J c)(hc:c.kind≠12):Calm Xi.next 3 (J.next x).1 (J.next x).2:=by
 obtain⟨ha,hw,hp,hpc,hk,h6,h7,h8⟩:=h;have hn:J.pc≠-1:=λe=>hc (hpc.1 e);have hp':J.pc=0\/J.pc=1\/J.pc=2\/J.pc=3\/J.pc=4\/J.pc=5\/J.pc=6\/J.pc=7:=Zo;have wk:=λ(J:Xi) (W:Xq) (h:wR J W)=>YA.calm Mi x h;rcases hk with hk|hk|hk
 ·have s4:=Ls (J:=J) 4 (Or.inl ⟨hk,rfl⟩);have e4:(J.An 4).next x=(J.An 4).BK x:=by unfold Xi.next Xi.insert;rw[show(J.An 4).op.kind=6 from hk,show(J.An 4).pc=4 from rfl];rfl
  have w4:=wk _ _ s4;rw[e4] at w4;rcases hp' with hp|hp|hp|hp|hp|hp|hp|hp
  ·have e:J.next x=({J with pc:=1},AK):=by unfold Xi.next Xi.insert;rw[hk,hp];rfl
   rw[e];exact Ya rfl 3
  ·have e:J.next x=if !x.ok then J.done 4 0 else({J with node:=x.word,pc:=2},Yf (Xg x.word 0) (Y5 J.key)):=by unfold Xi.next Xi.insert;rw[hk,hp];rfl
   rw[e];split<;>exact Ya rfl 3
  ·have e:J.next x=({J with pc:=3},Yf (Xg J.node 1) (Y5 J.op.val)):=by unfold Xi.next Xi.insert;rw[hk,hp];rfl
   rw[e];exact Ya rfl 3
  ·have e:J.next x=(J.An 4).BK x:=by unfold Xi.next Xi.insert;rw[hk,hp];rfl
   rw[e];exact w4
  ·obtain⟨W,hW,_⟩:=(h6 hk).2.2 hp;exact wk J W ⟨hW,Or.inl ⟨hk,hp⟩⟩
  ·have e:J.next x=J.done 3 0:=by unfold Xi.next Xi.insert;rw[hk,hp];rfl
   rw[e];exact Ya rfl 3
  ·have e:J.next x=({J with pc:=7},Xx (BF J.walk) (Xs J.walk) (BC (Xs J.walk) J.node)):=by unfold Xi.next Xi.insert;rw[hk,hp];rfl
   rw[e];exact Ya rfl 3
  ·have e:J.next x=if x.ok then J.done 1 0 else(J.An 4).BK x:=by unfold Xi.next Xi.insert;rw[hk,hp];rfl
   rw[e];split
   ·exact Ya rfl 3
   ·exact w4
 ·have s1:=Ls (J:=J) 1 (Or.inr (Or.inl ⟨hk,Or.inl rfl⟩));have e1:(J.An 1).next x=(J.An 1).AT x:=by unfold Xi.next Xi.Am;rw[show(J.An 1).op.kind=7 from hk,show(J.An 1).pc=1 from rfl];rfl
  have w1:=wk _ _ s1;rw[e1] at w1;have s6:=Ls (J:=J) 6 (Or.inr (Or.inl ⟨hk,Or.inr rfl⟩));have e6:(J.An 6).next x=(J.An 6).BI x:=by unfold Xi.next Xi.Am;rw[show(J.An 6).op.kind=7 from hk,show(J.An 6).pc=6 from rfl];rfl
  have w6:=wk _ _ s6;rw[e6] at w6;rcases hp' with hp|hp|hp|hp|hp|hp|hp|hp
  ·have e:J.next x=(J.An 1).AT x:=by unfold Xi.next Xi.Am;rw[hk,hp];rfl
   rw[e];exact w1
  ·obtain⟨W,hW,_⟩:=(h7 hk).2.1 (Or.inl hp);exact wk J W ⟨hW,Or.inr (Or.inl ⟨hk,Or.inl hp⟩)⟩
  ·have e:J.next x=({J with val:=x.word.nm,pc:=3},Xx (Xg (Xs J.walk) 2) (Cm J.walk) (Bg (Cm J.walk))):=by unfold Xi.next Xi.Am;rw[hk,hp];rfl
   rw[e];exact Ya rfl 3
  ·have e:J.next x=if x.ok then({J with pc:=4},Xx (BF J.walk) (Xs J.walk) (BC (Xs J.walk) (Cm J.walk))) else(J.An 1).AT x:=by unfold Xi.next Xi.Am;rw[hk,hp];rfl
   rw[e];split
   ·exact Ya rfl 3
   ·exact w1
  ·have e:J.next x=if x.ok then({J with pc:=5},AU (Xs J.walk)) else(J.An 6).BI x:=by unfold Xi.next Xi.Am;rw[hk,hp];rfl
   rw[e];split
   ·intro _ y;have e:({J with pc:=5}:Xi).next y=({J with pc:=5}:Xi).done 1 J.val:=by unfold Xi.next Xi.Am;rw[show({J with pc:=5}:Xi).op.kind=7 from hk];rfl
    rw[e];exact Ya rfl 2
   ·exact w6
  ·have e:J.next x=J.done 1 J.val:=by unfold Xi.next Xi.Am;rw[hk,hp];rfl
   rw[e];exact Ya rfl 3
  ·obtain⟨W,hW,_⟩:=(h7 hk).2.1 (Or.inr hp);exact wk J W ⟨hW,Or.inr (Or.inl ⟨hk,Or.inr hp⟩)⟩
  ·have:=(h7 hk).1;omega
 ·have s1:=Ls (J:=J) 1 (Or.inr (Or.inr ⟨hk,rfl⟩));have e1:(J.An 1).next x=(J.An 1).AT x:=by unfold Xi.next Xi.get;rw[show(J.An 1).op.kind=8 from hk,show(J.An 1).pc=1 from rfl];rfl
  have w1:=wk _ _ s1;rw[e1] at w1;have:=(h8 hk).1;rcases hp' with hp|hp|hp|hp|hp|hp|hp|hp
  ·have e:J.next x=(J.An 1).AT x:=by unfold Xi.next Xi.get;rw[hk,hp];rfl
   rw[e];exact w1
  ·obtain⟨W,hW,_⟩:=(h8 hk).2.1 hp;exact wk J W ⟨hW,Or.inr (Or.inr ⟨hk,hp⟩)⟩
  ·have e:J.next x=J.done 1 x.word.nm:=by unfold Xi.next Xi.get;rw[hk,hp];rfl
   rw[e];exact Ya rfl 3
  all_goals omega
def Kn(a:Yj):Prop:=a.sl=0/\a.gn=0/\25<=a.fd/\a.fd<85
def Nq(st:Int)(n:Nat)(a:Bo):Prop:=
 (a.kind=1/\(Je n a.A2\/a.A2=root 24\/Kn a.A2))\/(a.kind=2/\((rL n a.A2/\CI n a.new)\/Kn a.A2))\/
 (a.kind=3/\((Je n a.A2/\CP st n a.A2 a.new/\a.new.tg=wr (a.A1.tg+1))\/a.A2=root 24))\/a.kind=4\/(a.kind=5/\CH n a.A1)
def wS(st:Int)(n:Nat)(a:Bo)(x:Xj):Prop:=
 (Je n a.A2->CI n x.word)/\(a.kind=4->CI n x.word/\(x.ok=true->CH n x.word))/\(st=2->a.kind=1->a.A2.sl=0->a.A2.fd=0->CH n x.word)
def Z2(st:Int)(n:Nat)(c:Xf):Prop:=(JO st n c/\c.kind≠12)\/c=Yv\/c=AS\/c=LI
structure AD(n t:Nat)(M:MR):Prop where
 OA:0<=M.R.me
 O9:M.R.me<6
 Q7:1<=M.R.Ac
 Qd:M.R.Ac<=6
 eng:M.R.Aa=1\/M.R.Aa=2\/M.R.Aa=3\/M.R.Aa=4\/M.R.Aa=5
 nl:M.ns.length<=t
 Qr:M.ds.Sublist M.ns
 sl:M.ss.length<=54
 Qn:∀d∈M.ns,CH n d.ref
def Hd(R R':Xb):Prop:=R'.me=R.me/\R'.Ac=R.Ac/\R'.Aa=R.Aa/\R'.most=R.most
theorem Hd.refl(R:Xb):Hd R R:=⟨rfl,rfl,rfl,rfl⟩
theorem Hd.trans{A B C:Xb}(h:Hd A B)(k:Hd B C):Hd A C:=⟨k.1.trans h.1,k.2.1.trans h.2.1,k.2.2.1.trans h.2.2.1,k.2.2.2.trans h.2.2.2⟩
def Vh(R:Xb):Prop:=R.Aa=2\/R.Aa=3
def qI(R:Xb):Prop:=R.Aa=3\/R.Aa=5
def VK(R:Xb):Int:=bif R.Az then R.Ac*9 else R.Ac
def wM(st:Int)(n:Nat)(R:Xb)(c:Xf):Prop:=
  R.call=c/\Nq st n R.AY/\
  ((R.step = 1∧((c.kind = 3∧R.AY.kind = 1∧R.AY.A2 = c.A2∧Je n c.A2)∨(c.kind = 4∧R.AY.kind = 2∧Je n R.AY.A2)∨(c.kind = 5∧R.AY.kind = 3∧Je n R.AY.A2)∨(c.kind = 8∧R.AY.kind = 4))) ∨
   R.step=2/\c.kind≠3/\c.kind≠6/\c.kind≠8\/
   R.step=3/\c.kind=1\/
   (R.step=4/\c.kind=2/\Vh R/\0<=R.index/\R.index<9)\/
   (R.step=5/\c.kind=6/\0<=c.i/\c.i<9/\R.AY.kind=1/\R.AY.A2=c.A2/\Je n c.A2)\/
   (R.step=6/\c.kind=6/\0<=c.i/\c.i<9/\qI R/\Je n c.A2/\CI n R.word/\(st=2->c.A2.sl=0->c.A2.fd=0->CH n R.word))\/
   (R.step=7/\c.kind=6/\0<=c.i/\c.i<9/\Je n c.A2)\/
   R.step=8/\c.kind=8\/
   R.step=9/\c.kind=10/\CH n c.A1\/R.step=10/\c.kind=10/\CH n c.A1\/R.step=11/\c.kind=10\/
   (R.step=12/\(c.kind=10\/c.kind=11)/\R.Aa=4)\/
   (R.step=13/\(c.kind=10\/c.kind=11)/\R.Aa≠1/\0<=R.index/\R.index<VK R)\/
   (R.step=14/\(c.kind=10\/c.kind=11)/\R.Aa=4)\/
   (R.step=15/\(c.kind=10\/c.kind=11)/\R.Aa=4)\/
   (R.step=16/\(c.kind=10\/c.kind=11)))
def MI(st:Int)(n:Nat)(R:Xb)(c:Xf)(rep:Xj->Prop)(R':Xb):Prop:=
 Hd R R'/\((R'.step≠0/\wM st n R' c)\/(R'.step=0/\rep R'.Au))
def RepT(x:Xj):Prop:=x=⟨.zero,true⟩
section
variable{st:Int}{n:Nat}{R:Xb}{c:Xf}{x:Xj}
theorem CF{a:Yj}(h:Je n a\/a=root 24\/Kn a):Nq st n ⟨1,a,.zero,.zero⟩:=Or.inl ⟨rfl,h⟩
theorem Ir{a:Yj}{w:Xd}(h:Kn a):Nq st n ⟨2,a,.zero,w⟩:=Or.inr (Or.inl ⟨rfl,Or.inr h⟩)
theorem R3{o w:Xd}:Nq st n ⟨3,root 24,o,w⟩:=Or.inr (Or.inr (Or.inl ⟨rfl,Or.inr rfl⟩))
theorem bK{a:Yj}{o w:Xd}:Nq st n ⟨4,a,o,w⟩:=Or.inr (Or.inr (Or.inr (Or.inl rfl)))
theorem VA{a:Yj}{o w:Xd}(h:CH n o):Nq st n ⟨5,a,o,w⟩:=Or.inr (Or.inr (Or.inr (Or.inr ⟨rfl,h⟩)))
theorem GH{me i:Int}(h0:0<=me)(h1:me<6)(i0:0<=i)(i1:i<9):Kn (Xb.A5 me i):=by
 unfold Xb.A5;rw[Iy (n:=me*9) Zo Zo,Iy (n:=25+me*9) Zo Zo,Iy Zo Zo];exact⟨rfl,rfl,by show 25<=25+me*9+i;omega,by show 25+me*9+i<85;omega⟩
theorem Vy{me:Int}(h0:0<=me)(h1:me<6):Kn ⟨0,0,wr (79+me)⟩:=by
 rw[Iy Zo Zo];exact⟨rfl,rfl,by show 25<=79+me;omega,by show 79+me<85;omega⟩
theorem Jk(rep:Xj->Prop)(h:rep ⟨.zero,true⟩):MI st n R c rep R.done:=⟨⟨rfl,rfl,rfl,rfl⟩,Or.inr ⟨rfl,h⟩⟩
theorem Oj{rep:Xj->Prop}(h:rep x):MI st n R c rep (R.finish x):=⟨⟨rfl,rfl,rfl,rfl⟩,Or.inr ⟨rfl,h⟩⟩
theorem zD(R:Xb)(k:Int)(w:Xd):Hd R (R.Sz k w)/\(R.Sz k w).call=R.call/\(R.Sz k w).index=R.index/\(R.Sz k w).word=R.word:=by
 unfold Xb.Sz;cases k==0<;>cases k==1<;>cases k==2<;>cases k==3<;>cases k==4<;>cases k==5<;>cases k==6<;>cases k==7<;>exact⟨⟨rfl,rfl,rfl,rfl⟩,rfl,rfl,rfl⟩
theorem F6(R:Xb)(s k:Int)(w:Xd):Hd R (R.post s k w)/\(R.post s k w).call=R.call/\(R.post s k w).index=R.index/\(R.post s k w).step=s/\(R.post s k w).AY=⟨2,Xb.A5 R.me k,.zero,w⟩/\(R.post s k w).word=R.word:=by
 obtain⟨h1,h2,h3,h4⟩:=zD R k w;exact⟨h1,h2,h3,rfl,rfl,h4⟩
theorem Oi{rep:Xj->Prop}(hr:rep ⟨.zero,true⟩)(m0:0<=R.me)(m1:R.me<6)(hk:Vh R)(hc:R.call=c)(h2:c.kind=2):∀l:List Int,(∀i∈l,0<=i/\i<9)->MI st n R c rep (R.CD l)
 |[],_=>Jk rep hr
 |i::l,hl=>by
  unfold Xb.CD;cases wz (R.BM i) with
  |true=>exact Oi hr m0 m1 hk hc h2 l λj hj=>hl j (List.mem_cons_of_mem _ hj)
  |false=>
   obtain⟨i0,i1⟩:=hl i (List.mem_cons_self ..);obtain⟨p1,p2,p3,p4,p5,p6⟩:=F6 {R with index:=i} 4 i .zero;simp only[cond_false];have hk':Vh (Xb.post {R with index:=i} 4 i .zero):=by unfold Vh;rw[p1.2.2.1];exact hk
   refine⟨p1,Or.inl ⟨by rw[p4];decide,p2.trans hc,by rw[p5];exact Ir (GH m0 m1 i0 i1),?_⟩⟩;exact Or.inr (Or.inr (Or.inr (Or.inl ⟨p4,h2,hk',by rw[p3];exact i0,by rw[p3];exact i1⟩)))
theorem I3{rep:Xj->Prop}{s:Int}{sp:AN}(m0:0<=R.me)(m1:R.me<6)(hc:R.call=c)(hs:(s=2/\c.kind≠3/\c.kind≠6/\c.kind≠8)\/(s=7/\c.kind=6/\0<=c.i/\c.i<9/\Je n c.A2)):MI st n R c rep (R.Ec s sp):=by
 refine⟨⟨rfl,rfl,rfl,rfl⟩,Or.inl ⟨?_,hc,Ir (Vy m0 m1),?_⟩⟩
 ·show s≠0;rcases hs with h|h<;>omega
 ·rcases hs with h|h
  ·exact Or.inr (Or.inl h)
  ·exact Or.inr (Or.inr (Or.inr (Or.inr (Or.inr (Or.inr (Or.inl h))))))
theorem Q9{rep:Xj->Prop}(hr:rep ⟨.zero,true⟩)(m0:0<=R.me)(m1:R.me<6)(hc:R.call=c)(h2:c.kind=2)(l:List Int)(hl:∀i∈l,0<=i/\i<9):MI st n R c rep (R.CZ l):=by
 unfold Xb.CZ;cases(R.CU&&!(!R.span.is&&(R.span.low==0&&R.span.IC==0))) with
 |true=>exact I3 m0 m1 hc (Or.inl ⟨rfl,by omega,by omega,by omega⟩)
 |false=>
  cases hk:R.Az with
  |true=>exact Oi hr m0 m1 (by unfold Xb.Az at hk;simpa [Vh] using hk) hc h2 l hl
  |false=>exact Jk rep hr
theorem OF(t1:1<=R.Ac)(t6:R.Ac<=6):1<=VK R/\VK R<=54/\(R.Az=false->VK R<=6):=by
 unfold VK;cases R.Az with
 |true=>exact⟨by show 1<=R.Ac*9;omega,by show R.Ac*9<=54;omega,λh=>by cases h⟩
 |false=>exact⟨t1,by show R.Ac<=54;omega,λ_=>t6⟩
theorem KZ(t1:1<=R.Ac)(t6:R.Ac<=6)(hc:R.call=c)(hk:c.kind=10\/c.kind=11)(he:R.Aa≠1)(k:Int)(k0:0<=k):
  ((R.look k).2=true->Hd R (R.look k).1/\(R.look k).1.step≠0/\wM st n (R.look k).1 c/\(R.look k).1.index=k/\(R.look k).1.step=13)/\((R.look k).2=false↔¬k<VK R):=by
 unfold Xb.look
 cases hK:R.Az with
 |true=>
  have hl:VK R=R.Ac*9:=by unfold VK;rw[hK];rfl
  simp only[cond_true]
  rw[Iy Zo Zo]
  cases hd:decide (R.Ac*9<=k) with
  |true=>
   have hd:=of_decide_eq_true hd
   exact⟨λh=>(by cases h),⟨λ_=>by omega,λ_=>rfl⟩⟩
  |false=>
   have hd:¬R.Ac*9<=k:=of_decide_eq_false hd
   refine⟨λ_=>⟨⟨rfl,rfl,rfl,rfl⟩,by show(13:Int)≠0;decide,⟨hc,CF (Or.inr (Or.inr ?_)),?_⟩,rfl,rfl⟩,⟨λh=>(by cases h),λh=>absurd Zo h⟩⟩
   ·have e1:Int.tdiv k 9=k/9:=Int.tdiv_eq_ediv_of_nonneg k0;have e2:Int.tmod k 9=k%9:=Int.tmod_eq_emod_of_nonneg k0;have h9:wr (wr (25+wr (wr (k/9)*9))+k%9)=25+k/9*9+k%9:=by
     rw[Iy (n:=k/9) Zo Zo,Iy (n:=k/9*9) Zo Zo,Iy (n:=25+k/9*9) Zo Zo,Iy Zo Zo]
    rw[e1,e2,h9];exact⟨rfl,rfl,by show 25<=25+k/9*9+k%9;omega,by show 25+k/9*9+k%9<85;omega⟩
   ·have hl':k<VK (Xb.load {R with index:=k} 13 ⟨0,0,wr (wr (25+wr (wr (Int.tdiv k 9)*9))+Int.tmod k 9)⟩):=by show k<VK R;omega
    exact Or.inr (Or.inr (Or.inr (Or.inr (Or.inr (Or.inr (Or.inr (Or.inr (Or.inr (Or.inr (Or.inr (Or.inr (Or.inl ⟨rfl,hk,he,k0,hl'⟩))))))))))))
 |false=>
  have hl:VK R=R.Ac:=by unfold VK;rw[hK];rfl
  simp only[cond_false]
  cases hd:decide (R.Ac<=k) with
  |true=>
   have hd:=of_decide_eq_true hd
   exact⟨λh=>(by cases h),⟨λ_=>by omega,λ_=>rfl⟩⟩
  |false=>
   have hd:¬R.Ac<=k:=of_decide_eq_false hd
   refine⟨λ_=>⟨⟨rfl,rfl,rfl,rfl⟩,by show(13:Int)≠0;decide,⟨hc,CF (Or.inr (Or.inr (Vy k0 Zo))),?_⟩,rfl,rfl⟩,⟨λh=>(by cases h),λh=>absurd Zo h⟩⟩
   have hl':k<VK (Xb.load {R with index:=k} 13 ⟨0,0,wr (79+k)⟩):=by show k<VK R;omega
   exact Or.inr (Or.inr (Or.inr (Or.inr (Or.inr (Or.inr (Or.inr (Or.inr (Or.inr (Or.inr (Or.inr (Or.inr (Or.inl ⟨rfl,hk,he,k0,hl'⟩))))))))))))
theorem lH(t1:1<=R.Ac)(t6:R.Ac<=6)(hc:R.call=c)(hk:c.kind=10\/c.kind=11):MI st n R c RepT R.scan:=by
 unfold Xb.scan;cases h1:R.Aa==1 with
 |true=>exact Jk RepT rfl
 |false=>
  have h1:R.Aa≠1:=by simpa using h1
  simp only[cond_false];cases h4:R.Aa==4 with
  |true=>
   have h4:R.Aa=4:=by simpa using h4
   exact⟨⟨rfl,rfl,rfl,rfl⟩,Or.inl ⟨by show(12:Int)≠0;decide,hc,CF (Or.inr (Or.inl rfl)),Or.inr (Or.inr (Or.inr (Or.inr (Or.inr (Or.inr (Or.inr (Or.inr (Or.inr (Or.inr (Or.inr (Or.inl ⟨rfl,hk,h4⟩)))))))))))⟩⟩
  |false=>
   have hl:=KZ (st:=st) (n:=n) t1 t6 hc hk h1 0 Zd;have h2:(R.look 0).2=true:=by
    have:=(OF t1 t6).1;cases h:(R.look 0).2 with
    |true=>rfl
    |false=>exact absurd (hl.2.1 h) Zo
   obtain⟨a,b,d,e,f⟩:=hl.1 h2;exact⟨a,Or.inl ⟨b,d⟩⟩
end
theorem NY{J:Xa}{I:Xi}:∀(k:Nat) {J:Xa} {I:Xi} {c:Xf},J.pc=11->J.inner=some I->Calm Xi.next k I c->Calm Xa.next k J c
 |0,_,_,_,_,_,h=>h
 |k+1,J,I,c,hp,hi,h=>λe x=>by
  have h':=h e x;have e:J.next x=Xa.Gb {J with inner:=some (I.next x).1} (I.next x).2:=by unfold Xa.next Xa.Ii;rw[hp,hi];rfl
  rw[e];unfold Xa.Gb;cases !((I.next x).2.kind==12) with
  |true=>exact NY (J:=J) (I:=I) k hp rfl h'
  |false=>
   simp only[cond_false];cases(!((I.next x).2.BR.code==1)||J.op.kind==8)<;>exact Ya rfl k
theorem Ko{J:Xa}{I:Xi}{c:Xf}(k:Nat)(hp:J.pc=11)(hi:J.inner=some I)(h:Calm Xi.next k I c):Calm Xa.next k (J.Gb c).1 (J.Gb c).2:=by
 unfold Xa.Gb;cases !(c.kind==12) with
 |true=>exact NY (J:=J) (I:=I) k hp hi h
 |false=>
  simp only[cond_false];cases(!(c.BR.code==1)||J.op.kind==8)<;>exact Ya rfl k
theorem Hw{n:Nat}{J:Xa}(h:GN n J):Calm Xa.next 3 J.perform.1 J.perform.2:=by
 have hl:=OD (n:=n) (c:=AK) Xj.zero (aQ (J:=J) (n:=n) (Y1 h.base Zd Zd) h.kind (UL J.op.key) Zd) Zd;exact Ko 3 rfl rfl hl
theorem Hx{n:Nat}{J:Xa}(h:GN n J):Calm Xa.next 3 J.Dr.1 J.Dr.2:=by
 unfold Xa.Dr;cases J.Ai==J.wanted with
 |true=>exact Hw h
 |false=>exact Ya rfl 3
def VauW(J:Xa)(W:Xq):Prop:=J.walk=some W/\J.pc=5
theorem NX:PE Xa.next Xq.step VauW:=λJ W x h=>by
 obtain⟨hw,hp⟩:=h;have e:J.next x=J.Cq x:=by unfold Xa.next Xa.Ak;rw[hp];rfl
 rw[e];unfold Xa.Cq CT;rw[hw];simp only;cases hb:(W.step x).2.2 with
 |true=>exact Or.inl ⟨rfl,⟨rfl,hp⟩,rfl⟩
 |false=>
  refine Or.inr ⟨rfl,Ya ?_ 1⟩;simp only[cond_false];cases IV (some (W.step x).1)<;>rfl
theorem kD{n:Nat}{J:Xa}{c:Xf}(x:Xj)(h:rG n J c)(hc:c.kind≠12)(hx:CI n x.word):Calm Xa.next 3 (J.next x).1 (J.next x).2:=by
 have hb:=h.b;have w5:Calm Xa.next 3 (J.An.Cq x).1 (J.An.Cq x).2:=by
  have h:=NX.calm Mi (J:=J.An) (W:=Xq.new (Xg J.base 2) (Ds J.child)) x ⟨rfl,rfl⟩;have e:J.An.next x=J.An.Cq x:=by unfold Xa.next Xa.Ak;rw[show J.An.pc=5 from rfl];rfl
  rwa [e] at h
 have Iv:Calm Xa.next 3 J.Iv.1 J.Iv.2:=Hx (n:=n) ⟨hb.Qf,hb.node,hb.Qf,hb.walk,hb.kind,hb.k0,hb.k1,hb.w0,hb.w1,hb.c0,hb.c1,hb.c0,hb.c1⟩;rcases h.pc with⟨_,h⟩|⟨_,h⟩
 ·exact absurd h hc
 rcases h with hp|hp|⟨hp,ho⟩|⟨hp,h8,ho⟩|⟨hp|hp,hn,ho⟩|⟨hp,hn,ho,hwk⟩|⟨hp,hn,ho,hwk⟩|⟨hp|hp|hp,ho⟩|⟨hp,I,hi,hI⟩|hp|hp|hp|hp
 ·have e:J.next x=({J with pc:=1},X8 (root 16)):=by unfold Xa.next;rw[hp];rfl
  rw[e];exact Ya rfl 3
 ·have e:J.next x=J.Cn (Kq x.word.nm):=by unfold Xa.next;rw[hp];rfl
  rw[e];exact Ya rfl 3
 ·have e:J.next x=J.EO x:=by unfold Xa.next;rw[hp];rfl
  rw[e];unfold Xa.EO;cases x.word.sl==0 with
  |false=>exact Hx (n:=n) ⟨hx,hb.node,hb.Qf,hb.walk,hb.kind,hb.k0,hb.k1,hb.w0,hb.w1,hb.b0,hb.b1,hb.c0,hb.c1⟩
  |true=>
   simp only[Bool.not_true,cond_false];cases J.Ai==0<;>exact Ya rfl 3
 ·have e:J.next x=bif !x.ok then J.perform else({J with node:=x.word,pc:=4},Yf (Xg x.word 0) (Y5 (Ds J.child))):=by unfold Xa.next Xa.Ak;rw[hp];rfl
  rw[e];cases x.ok with
  |false=>exact Hw hb
  |true=>exact Ya rfl 3
 ·have e:J.next x=J.An.Cq x:=by unfold Xa.next Xa.Ak;rw[hp];rfl
  rw[e];exact w5
 ·have e:J.next x=bif x.ok then({J with sentinel:=J.node,pc:=9},X8 (DI J.child)) else J.An.Cq x:=by unfold Xa.next Xa.Ak;rw[hp];rfl
  rw[e];cases x.ok with
  |true=>exact Ya rfl 3
  |false=>exact w5
 ·obtain⟨W,hW,_⟩:=hwk;exact NX.calm Mi x ⟨hW,hp⟩
 ·have e:J.next x=({J with pc:=8},Xx (BF J.walk) (Xs J.walk) (BC (Xs J.walk) J.node)):=by unfold Xa.next Xa.Ak;rw[hp];rfl
  rw[e];exact Ya rfl 3
 ·have e:J.next x=({J with pc:=9},X8 (DI J.child)):=by unfold Xa.next Xa.Ak;rw[hp];rfl
  rw[e];exact Ya rfl 3
 ·have e:J.next x=bif x.word.sl==0 then({J with pc:=10},Xx (DI J.child) x.word (BC x.word J.sentinel)) else J.Iv:=by unfold Xa.next Xa.Ak;rw[hp];rfl
  rw[e];cases x.word.sl==0 with
  |true=>exact Ya rfl 3
  |false=>exact Iv
 ·have e:J.next x=J.Iv:=by unfold Xa.next Xa.Ak;rw[hp];rfl
  rw[e];exact Iv
 ·have e:J.next x=Xa.Gb {J with inner:=some (I.next x).1} (I.next x).2:=by unfold Xa.next Xa.Ii;rw[hp,hi];rfl
  rw[e];exact Ko 3 hp rfl (OD x hI hc)
 ·have e:J.next x=J.GX x:=by unfold Xa.next;rw[hp];rfl
  rw[e];exact Ya rfl 3
 ·have e:J.next x=J.He x:=by unfold Xa.next;rw[hp];rfl
  rw[e];unfold Xa.He;cases x.ok<;>cases J.op.kind==7<;>cases J.size==8<;>cases decide (J.count.nm<wr (2*J.size))<;>exact Ya rfl 3
 ·have e:J.next x=J.Dn x:=by unfold Xa.next;rw[hp];rfl
  rw[e];unfold Xa.Dn;cases x.word.nm==J.size<;>exact Ya rfl 3
 ·have e:J.next x=J.done J.answer:=by unfold Xa.next;rw[hp];rfl
  rw[e];exact Ya rfl 3
def SteW(J:Xc)(C:Xe):Prop:=J.Ab=some C/\((J.op.kind=6/\(J.pc=5\/J.pc=12))\/(J.op.kind=7/\(J.pc=1\/J.pc=6))\/(J.op.kind=8/\J.pc=1)\/J.pc=103)
theorem F3(J:Xc)(k:Nat):Calm Xc.next k J.link.1 J.link.2:=by
 unfold Xc.link;cases decide (J.op.Aj<=J.level)<;>exact Ya rfl k
theorem Kp(J:Xc)(l:Int)(k:Nat):Calm Xc.next k (J.M5 l).1 (J.M5 l).2:=by
 unfold Xc.M5;simp only;cases decide (l<J.op.Aj)<;>exact Ya rfl k
theorem Wy:PE Xc.next Xe.step SteW:=λJ C x h=>by
 obtain⟨hw,hp⟩:=h;rcases hp with⟨hk,hp|hp⟩|⟨hk,hp|hp⟩|⟨hk,hp⟩|hp
 ·have e:J.next x=J.Ig x:=by unfold Xc.next Xc.insert;rw[hp,hk];rfl
  rw[e];unfold Xc.Ig Bb;rw[hw];simp only;cases hb:(C.step x).2.2 with
  |true=>exact Or.inl ⟨rfl,⟨rfl,Or.inl ⟨hk,Or.inl hp⟩⟩,rfl⟩
  |false=>
   refine Or.inr ⟨rfl,?_⟩;simp only[cond_false];cases !((Dl (some (C.step x).1)).sl==0) with
   |true=>exact Ya rfl 1
   |false=>exact Kp _ 0 1
 ·have e:J.next x=J.Gi x:=by unfold Xc.next Xc.raise;rw[hp,hk];rfl
  rw[e];unfold Xc.Gi Bb;rw[hw];simp only;cases hb:(C.step x).2.2 with
  |true=>exact Or.inl ⟨rfl,⟨rfl,Or.inl ⟨hk,Or.inr hp⟩⟩,rfl⟩
  |false=>
   refine Or.inr ⟨rfl,?_⟩;simp only[cond_false];cases !rV (Dl (some (C.step x).1)) J.node with
   |true=>exact Ya rfl 1
   |false=>exact F3 _ 1
 ·have e:J.next x=J.FH x 6:=by unfold Xc.next Xc.Am;rw[hp,hk];rfl
  rw[e];unfold Xc.FH Bb;rw[hw];simp only;cases hb:(C.step x).2.2 with
  |true=>exact Or.inl ⟨rfl,⟨rfl,Or.inr (Or.inl ⟨hk,Or.inl hp⟩)⟩,rfl⟩
  |false=>
   refine Or.inr ⟨rfl,?_⟩;simp only[cond_false];cases(Dl (some (C.step x).1)).sl==0<;>exact Ya rfl 1
 ·have e:J.next x=J.Kj x:=by unfold Xc.next Xc.Am;rw[hp,hk];rfl
  rw[e];unfold Xc.Kj Bb;rw[hw];simp only;cases hb:(C.step x).2.2 with
  |true=>exact Or.inl ⟨rfl,⟨rfl,Or.inr (Or.inl ⟨hk,Or.inr hp⟩)⟩,rfl⟩
  |false=>exact Or.inr ⟨rfl,Ya rfl 1⟩
 ·have e:J.next x=J.FH x 1:=by unfold Xc.next Xc.get;rw[hp,hk];rfl
  rw[e];unfold Xc.FH Bb;rw[hw];simp only;cases hb:(C.step x).2.2 with
  |true=>exact Or.inl ⟨rfl,⟨rfl,Or.inr (Or.inr (Or.inl ⟨hk,hp⟩))⟩,rfl⟩
  |false=>
   refine Or.inr ⟨rfl,?_⟩;simp only[cond_false];cases(Dl (some (C.step x).1)).sl==0<;>exact Ya rfl 1
 ·have e:J.next x=J.fin x:=by unfold Xc.next Xc.finish;rw[hp];rfl
  rw[e];unfold Xc.fin Bb;rw[hw];simp only;cases hb:(C.step x).2.2 with
  |true=>exact Or.inl ⟨rfl,⟨rfl,Or.inr (Or.inr (Or.inr hp))⟩,rfl⟩
  |false=>
   refine Or.inr ⟨rfl,λ_ y=>?_⟩;have e:(⟨104,J.last,J.op,some (C.step x).1,J.node,J.level,J.Kf,J.val⟩:Xc).next y=Xc.done ⟨104,J.last,J.op,some (C.step x).1,J.node,J.level,J.Kf,J.val⟩ 1 J.val:=by unfold Xc.next Xc.finish;rfl
   show Calm Xc.next 0 (Xc.next (⟨104,J.last,J.op,some (C.step x).1,J.node,J.level,J.Kf,J.val⟩:Xc) y).1 (Xc.next (⟨104,J.last,J.op,some (C.step x).1,J.node,J.level,J.Kf,J.val⟩:Xc) y).2;rw[e];exact Ya rfl 0
theorem lM{n:Nat}{J:Xc}{c:Xf}(x:Xj)(h:jE n J c)(hc:c.kind≠12):Calm Xc.next 3 (J.next x).1 (J.next x).2:=by
 have hb:=h.b;have wk:=λ(J:Xc) (C:Xe) (h:SteW J C)=>Wy.calm YX x h;have sk:∀(p b:Int),(J.op.kind=6/\(p=5\/p=12))\/(J.op.kind=7/\(p=1\/p=6))\/(J.op.kind=8/\p=1)\/p=103->Calm Xc.next 3 ((J.An p b).next x).1 ((J.An p b).next x).2:=λp b h=>wk (J.An p b) (Xe.new b) ⟨rfl,h⟩;have e5:∀b,J.op.kind=6->(J.An 5 b).next x=(J.An 5 b).Ig x:=λb hk=>by unfold Xc.next Xc.insert;rw[show(J.An 5 b).pc=5 from rfl,show(J.An 5 b).op.kind=6 from hk];rfl
 have e12:∀b,J.op.kind=6->(J.An 12 b).next x=(J.An 12 b).Gi x:=λb hk=>by unfold Xc.next Xc.raise;rw[show(J.An 12 b).pc=12 from rfl,show(J.An 12 b).op.kind=6 from hk];rfl
 have e1:∀b,J.op.kind=7->(J.An 1 b).next x=(J.An 1 b).FH x 6:=λb hk=>by unfold Xc.next Xc.Am;rw[show(J.An 1 b).pc=1 from rfl,show(J.An 1 b).op.kind=7 from hk];rfl
 have e6:∀b,J.op.kind=7->(J.An 6 b).next x=(J.An 6 b).Kj x:=λb hk=>by unfold Xc.next Xc.Am;rw[show(J.An 6 b).pc=6 from rfl,show(J.An 6 b).op.kind=7 from hk];rfl
 have e1':∀b,J.op.kind=8->(J.An 1 b).next x=(J.An 1 b).FH x 1:=λb hk=>by unfold Xc.next Xc.get;rw[show(J.An 1 b).pc=1 from rfl,show(J.An 1 b).op.kind=8 from hk];rfl
 have e103:∀b,(J.An 103 b).next x=(J.An 103 b).fin x:=λb=>by unfold Xc.next Xc.finish;rw[show(J.An 103 b).pc=103 from rfl];rfl
 rcases h.pc with⟨_,h⟩|⟨_,h⟩
 ·exact absurd h hc
 rcases h with hp|⟨hk,hp,hc8⟩|⟨hk,hp,hn⟩|⟨hk,hp,hn,ho⟩|⟨hk,hp,hn,ho⟩|⟨hk,hp,hl,hn,ho⟩|⟨hk,hp,hl,hn,ho⟩|⟨hk,hp,hl,hn,ho⟩|⟨hk,hp,ho⟩|⟨hk,hp,hn,ho⟩|⟨hk,hp,hl,hn,ho⟩|⟨hk,hp,hn,ho⟩|⟨hk,hp,hn,ho⟩|⟨hk,hp,hn,ho⟩
 ·rcases hb.op with⟨hk,_⟩|hk|hk
  ·have e:J.next x=({J with pc:=1},AK):=by unfold Xc.next Xc.insert;rw[hp,hk];rfl
   rw[e];exact Ya rfl 3
  ·have e:J.next x=(J.An 1 J.op.key).FH x 6:=by unfold Xc.next Xc.Am;rw[hp,hk];rfl
   rw[e,←e1 _ hk];exact sk 1 _ (Or.inr (Or.inl ⟨hk,Or.inl rfl⟩))
  ·have e:J.next x=(J.An 1 J.op.key).FH x 1:=by unfold Xc.next Xc.get;rw[hp,hk];rfl
   rw[e,←e1' _ hk];exact sk 1 _ (Or.inr (Or.inr (Or.inl ⟨hk,rfl⟩)))
 ·have e:J.next x=bif !x.ok then J.done 4 0 else({J with node:=x.word,pc:=2},Yf (Xg x.word 0) (Y5 J.op.key)):=by unfold Xc.next Xc.insert;rw[hp,hk];rfl
  rw[e];cases x.ok<;>exact Ya rfl 3
 ·rcases hp with hp|hp|hp
  ·have e:J.next x=({J with pc:=3},Yf (Xg J.node 1) (Y5 J.op.val)):=by unfold Xc.next Xc.insert;rw[hp,hk];rfl
   rw[e];exact Ya rfl 3
  ·have e:J.next x=({J with pc:=4},Yf (Xg J.node 6) (Y5 J.op.Aj)):=by unfold Xc.next Xc.insert;rw[hp,hk];rfl
   rw[e];exact Ya rfl 3
  ·have e:J.next x=(J.An 5 J.op.key).Ig x:=by unfold Xc.next Xc.insert;rw[hp,hk];rfl
   rw[e,←e5 _ hk];exact sk 5 _ (Or.inl ⟨hk,Or.inl rfl⟩)
 ·obtain⟨C,hC,_⟩:=ho;exact wk J C ⟨hC,Or.inl ⟨hk,Or.inl hp⟩⟩
 ·rcases hp with hp|hp
  ·have e:J.next x=J.done 3 0:=by unfold Xc.next Xc.insert;rw[hp,hk];rfl
   rw[e];exact Ya rfl 3
  ·have e:J.next x=bif x.ok then Xc.link {J with level:=1} else(J.An 5 J.op.key).Ig x:=by unfold Xc.next Xc.insert;rw[hp,hk];rfl
   rw[e];cases x.ok with
   |true=>exact F3 _ 3
   |false=>rw[cond_false,←e5 _ hk];exact sk 5 _ (Or.inl ⟨hk,Or.inl rfl⟩)
 ·have e:J.next x=J.M5 (wr (J.level+1)):=by unfold Xc.next Xc.insert;rw[hp,hk];rfl
  rw[e];exact Kp _ _ 3
 ·rcases hp with hp|hp|hp
  ·have e:J.next x=bif x.word.mark then J.part 1 else bif !bP x.word (Yt J.Ab J.level).Ay then({J with pc:=10},Xx (Xg J.node (wr (2+J.level))) x.word (BC x.word (Yt J.Ab J.level).Ay)) else({J with pc:=11},Xx (Yt J.Ab J.level).prev (Yt J.Ab J.level).Ay (BC (Yt J.Ab J.level).Ay J.node)):=by unfold Xc.next Xc.raise;rw[hp,hk];rfl
   rw[e];cases x.word.mark<;>cases bP x.word (Yt J.Ab J.level).Ay<;>exact Ya rfl 3
  ·have e:J.next x=bif !x.ok then J.link else({J with pc:=11},Xx (Yt J.Ab J.level).prev (Yt J.Ab J.level).Ay (BC (Yt J.Ab J.level).Ay J.node)):=by unfold Xc.next Xc.raise;rw[hp,hk];rfl
   rw[e];cases x.ok with
   |false=>exact F3 _ 3
   |true=>exact Ya rfl 3
  ·have e:J.next x=bif x.ok then Xc.link {J with level:=wr (J.level+1)} else(J.An 12 J.op.key).Gi x:=by unfold Xc.next Xc.raise;rw[hp,hk];rfl
   rw[e];cases x.ok with
   |true=>exact F3 _ 3
   |false=>rw[cond_false,←e12 _ hk];exact sk 12 _ (Or.inl ⟨hk,Or.inr rfl⟩)
 ·obtain⟨C,hC,_⟩:=ho;exact wk J C ⟨hC,Or.inl ⟨hk,Or.inr hp⟩⟩
 ·obtain⟨C,hC,_⟩:=ho;rcases hk with hk|hk
  ·exact wk J C ⟨hC,Or.inr (Or.inl ⟨hk,Or.inl hp⟩)⟩
  ·exact wk J C ⟨hC,Or.inr (Or.inr (Or.inl ⟨hk,hp⟩))⟩
 ·rcases hk with hk|hk
  ·have e:J.next x=bif decide (x.word.nm<1) then({J with level:=0,pc:=3},X8 (Xg J.node 1)) else bif decide (3<x.word.nm) then({J with level:=0,pc:=3},X8 (Xg J.node 1)) else({J with level:=wr (x.word.nm-1),pc:=3},X8 (Xg J.node 1)):=by unfold Xc.next Xc.Am;rw[hp,hk];rfl
   rw[e];cases decide (x.word.nm<1)<;>cases decide (3<x.word.nm)<;>exact Ya rfl 3
  ·have e:J.next x=J.done 1 x.word.nm:=by unfold Xc.next Xc.get;rw[hp,hk];rfl
   rw[e];exact Ya rfl 3
 ·rcases hp with hp|hp|hp
  ·have e:J.next x=Xc.look {J with val:=x.word.nm}:=by unfold Xc.next Xc.Am;rw[hp,hk];rfl
   rw[e];exact Ya rfl 3
  ·have e:J.next x=bif !x.word.mark then({J with pc:=5},Xx (Xg J.node (wr (2+J.level))) x.word (Bg x.word)) else bif J.level==0 then J.done 2 0 else Xc.look {J with level:=wr (J.level-1)}:=by unfold Xc.next Xc.Am;rw[hp,hk];rfl
   rw[e];cases x.word.mark<;>cases J.level==0<;>exact Ya rfl 3
  ·have e:J.next x=bif !x.ok then J.look else bif decide (0<J.level) then Xc.look {J with level:=wr (J.level-1)} else(J.An 6 (wr (J.op.key+1))).Kj x:=by unfold Xc.next Xc.Am;rw[hp,hk];rfl
   rw[e];cases x.ok with
   |false=>exact Ya rfl 3
   |true=>
    cases decide (0<J.level) with
    |true=>exact Ya rfl 3
    |false=>simp only[Bool.not_true,cond_false];rw[←e6 _ hk];exact sk 6 _ (Or.inr (Or.inl ⟨hk,Or.inr rfl⟩))
 ·obtain⟨C,hC,_⟩:=ho;exact wk J C ⟨hC,Or.inr (Or.inl ⟨hk,Or.inr hp⟩)⟩
 ·rcases hp with hp|hp|hp
  ·have e:J.next x=bif x.word.nm==0 then({J with pc:=102},Xx (Xg J.node 7) x.word (Cx x.word J.Kf)) else(J.An 103 (wr (J.op.key+1))).fin x:=by unfold Xc.next Xc.finish;rw[hp];rfl
   rw[e];cases x.word.nm==0 with
   |true=>exact Ya rfl 3
   |false=>rw[cond_false,←e103];exact sk 103 _ (Or.inr (Or.inr (Or.inr rfl)))
  ·have e:J.next x=bif x.ok then J.done 1 J.val else(J.An 103 (wr (J.op.key+1))).fin x:=by unfold Xc.next Xc.finish;rw[hp];rfl
   rw[e];cases x.ok with
   |true=>exact Ya rfl 3
   |false=>rw[cond_false,←e103];exact sk 103 _ (Or.inr (Or.inr (Or.inr rfl)))
  ·have e:J.next x=J.done 1 J.val:=by unfold Xc.next Xc.finish;rw[hp];rfl
   rw[e];exact Ya rfl 3
 ·obtain⟨C,hC,_⟩:=ho;exact wk J C ⟨hC,Or.inr (Or.inr (Or.inr hp))⟩
end Go.Proofs.YtaipogljokblkaaGreatDoor
