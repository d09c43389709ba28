/- Core: LF, LG, LF2. -/
import Derived.Test.YtaipogljokblkaaGreatDoorE34
import Derived.Test.YtaipogljokblkaaGreatDoorE12
import Derived.Test.YtaipogljokblkaaGreatDoorE01
set_option linter.all false
set_option maxRecDepth 100000
set_option maxHeartbeats 8000000
namespace Go.Proofs.YtaipogljokblkaaGreatDoor
open Go Go.RowKit
set_option linter.unusedSimpArgs false
set_option linter.unusedVariables false
set_option linter.unusedSectionVars false
def Ep(c:Xf):Bool:=c.kind==7||c.kind==10
def Calm{α:Type}(f:α->Xj->α × Xf):Nat->α->Xf->Prop
 |0,_,c=>Ep c=false
 |k+1,J,c=>Ep c=true->∀x,Calm f k (f J x).1 (f J x).2
theorem X3{α:Type}{f:α->Xj->α × Xf}{J:α}{c:Xf}(h:Ep c=false):∀k,Calm f k J c
 |0=>h
 |_+1=>λe=>by rw[h] at e;cases e
theorem Lg{α:Type}{f:α->Xj->α × Xf}:∀(k:Nat) {J:α} {c:Xf},Calm f k J c->Calm f (k+1) J c
 |0,_,_,h=>X3 h 1
 |k+1,_,_,h=>λe x=>Lg k (h e x)
theorem Ie{α β:Type}{f:α->Xj->α × Xf}{g:β->Xj->β × Xf}(i:α->β)(hi:∀J x,g (i J) x=(i (f J x).1,(f J x).2)):∀(k:Nat) {J:α} {c:Xf},Calm f k J c->Calm g k (i J) c
 |0,_,_,h=>h
 |k+1,J,c,h=>λe x=>by
  rw[hi J x];exact Ie i hi k (h e x)
theorem eM{J:Xk}(x:Xj)(h0:0<=J.pc)(h5:J.pc<=5):Calm Xk.next 3 (J.next x).1 (J.next x).2:=by
 obtain⟨pc,last,op,node,Ss,val⟩:=J;have hp:pc=0\/pc=1\/pc=2\/pc=3\/pc=4\/pc=5:=by simp only at h0 h5;omega
 clear h0 h5;by_cases hk:op.kind=1<;>(rcases hp with rfl|rfl|rfl|rfl|rfl|rfl)<;>simp only[Xk.next,Xk.push,Xk.pop,Xk.done,beq_iff_eq,hk,Int.reduceEq,Int.reduceNeg,if_true,if_false,↓reduceIte]<;>(repeat' split)<;>
  first
  |exact X3 rfl 3
  |(refine λ_ y=>X3 ?_ 2;simp only[Xk.next,Xk.push,Xk.pop,Xk.done,beq_iff_eq,hk,Int.reduceEq,Int.reduceNeg,if_true,if_false,↓reduceIte];rfl)
theorem oZ{J:Xt}(x:Xj)(h0:0<=J.pc)(h8:J.pc<=8)(h4:J.op.kind=4->J.pc<=8):Calm Xt.next 3 (J.next x).1 (J.next x).2:=by
 obtain⟨pc,last,op,node,hh,t,nn,val⟩:=J;have hp:pc=0\/pc=1\/pc=2\/pc=3\/pc=4\/pc=5\/pc=6\/pc=7\/pc=8:=by simp only at h0 h8;omega
 clear h0 h8 h4;by_cases hk:op.kind=4<;>(rcases hp with rfl|rfl|rfl|rfl|rfl|rfl|rfl|rfl|rfl)<;>simp only[Xt.next,Xt.enqueue,Xt.dequeue,Xt.done,beq_iff_eq,hk,Int.reduceEq,Int.reduceNeg,if_true,if_false,↓reduceIte]<;>(repeat' split)<;>
  first
  |exact X3 rfl 3
  |(refine λ_ y=>X3 ?_ 2;simp only[Xt.next,Xt.enqueue,Xt.dequeue,Xt.done,beq_iff_eq,hk,Int.reduceEq,Int.reduceNeg,if_true,if_false,↓reduceIte];rfl)
structure Mach(β:Type)(s:β->Xj->β × Xf × Bool)(A B:β->Prop):Prop where
 s2:∀W x,(s W x).2.2=true->Ep (s W x).2.1=false\/B (s W x).1\/A (s W x).1
 s1:∀W x,A W->(s W x).2.2=true->Ep (s W x).2.1=false\/B (s W x).1
 s0:∀W x,B W->(s W x).2.2=true/\Ep (s W x).2.1=false
theorem Lz(W:Xm)(h:W.on.2.2=true):Ep W.on.2.1=false\/W.on.1.pc=8:=by
 unfold Xm.on at*;split at h
 ·cases h
 ·rename_i h0;rw[if_neg h0];exact Or.inr rfl
theorem L0:Mach Xm Xm.step (λW=>W.pc=7\/W.pc=6) (λW=>W.pc=8):=by
 refine⟨λW x h=>?_,λW x hp h=>?_,λW x hp=>?_⟩
 ·
  have ho:∀W:Xm,W.on.2.2=true->Ep W.on.2.1=false\/W.on.1.pc=8\/(W.on.1.pc=7\/W.on.1.pc=6):=λW h=>(Lz W h).imp id Or.inl;unfold Xm.step at*;(repeat' split at h)<;>(repeat' split)<;>first
   |contradiction
   |exact Or.inl rfl
   |exact Or.inr (Or.inr (Or.inl rfl))
   |exact Or.inr (Or.inr (Or.inr rfl))
   |exact ho _ h
   |cases h
 ·
  rcases hp with hp|hp
  ·have e:W.step x=Xm.on {W with cur:=W.next}:=by unfold Xm.step;rw[hp];rfl
   rw[e] at h ⊢;exact Lz _ h
  ·have e:W.step x=Xm.on {W with cur:=En W.cur W.next}:=by unfold Xm.step;rw[hp];rfl
   rw[e] at h ⊢;exact Lz _ h
 ·
  have e:W.step x=W.behind:=by unfold Xm.step;rw[show W.pc=8 from hp];rfl
  rw[e];exact⟨rfl,rfl⟩
theorem Kf(C:Xd)(h:C.lower.2.2=true):Ep C.lower.2.1=false\/(C.lower.1.pc=8\/C.lower.1.pc=9):=by
 unfold Xd.lower at*;simp only at*;split at h
 ·split at h<;>cases h
 ·rename_i h0;rw[if_neg h0];split
  ·exact Or.inl rfl
  ·exact Or.inr (Or.inr rfl)
theorem O4(C:Xd)(h:C.on.2.2=true):Ep C.on.2.1=false\/(C.on.1.pc=8\/C.on.1.pc=9):=by
 unfold Xd.on at*;split at h
 ·rename_i h0;rw[if_pos h0];exact Kf _ h
 ·rename_i h0;rw[if_neg h0];exact Or.inr (Or.inl rfl)
theorem XL:Mach Xd Xd.step (λC=>C.pc=7) (λC=>C.pc=8\/C.pc=9):=by
 refine⟨λC x h=>?_,λC x hp h=>?_,λC x hp=>?_⟩
 ·
  have hl:∀C:Xd,C.lower.2.2=true->Ep C.lower.2.1=false\/(C.lower.1.pc=8\/C.lower.1.pc=9)\/C.lower.1.pc=7:=λC h=>(Kf C h).imp id Or.inl;have ho:∀C:Xd,C.on.2.2=true->Ep C.on.2.1=false\/(C.on.1.pc=8\/C.on.1.pc=9)\/C.on.1.pc=7:=λC h=>(O4 C h).imp id Or.inl;unfold Xd.step at*;(repeat' split at h)<;>(repeat' split)<;>first
   |contradiction
   |exact Or.inl rfl
   |exact Or.inr (Or.inr rfl)
   |exact hl _ h
   |exact ho _ h
   |cases h
 ·
  have e:C.step x=Xd.on {C with spot:={C.spot with cur:=C.next}}:=by unfold Xd.step;rw[show C.pc=7 from hp];rfl
  rw[e] at h ⊢;exact O4 _ h
 ·
  rcases hp with hp|hp
  ·have e:C.step x=C.behind:=by unfold Xd.step;rw[hp];rfl
   rw[e];exact⟨rfl,rfl⟩
  ·have e:C.step x=C.enter:=by unfold Xd.step;rw[hp];rfl
   rw[e];exact⟨rfl,rfl⟩
def OG{α β:Type}(f:α->Xj->α × Xf)(s:β->Xj->β × Xf × Bool)(P:α->β->Prop):Prop:=
 ∀J W x,P J W->((s W x).2.2=true/\P (f J x).1 (s W x).1/\(f J x).2=(s W x).2.1)\/((s W x).2.2=false/\Calm f 1 (f J x).1 (f J x).2)
theorem OG.calm{α β:Type}{f:α->Xj->α × Xf}{s:β->Xj->β × Xf × Bool}{A B:β->Prop}{P:α->β->Prop}(w:OG f s P)(m:Mach β s A B){J:α}{W:β}(x:Xj)(h:P J W):Calm f 3 (f J x).1 (f J x).2:=by
 have c1:∀(J:α) (W:β) (c:Xf),P J W->(Ep c=false\/B W)->Calm f 1 J c:=λJ W c h hw=>by
  rcases hw with hw|hw
  ·exact X3 hw 1
  ·intro _ y;obtain⟨s1,s2⟩:=m.s0 W y hw;rcases w J W y h with⟨_,_,e⟩|⟨e,_⟩
   ·show Ep _=false;rw[e];exact s2
   ·rw[s1] at e;cases e
 have c2:∀(J:α) (W:β) (c:Xf),P J W->(Ep c=false\/B W\/A W)->Calm f 2 J c:=λJ W c h hw=>by
  rcases hw with hw|hw|hw
  ·exact X3 hw 2
  ·exact Lg 1 (c1 J W c h (Or.inr hw))
  ·intro _ y;rcases w J W y h with⟨hb,hP,e⟩|⟨_,e⟩
   ·rw[e];exact c1 _ _ _ hP (m.s1 W y hw hb)
   ·exact e
 rcases w J W x h with⟨hb,hP,e⟩|⟨_,e⟩
 ·rw[e];exact Lg 2 (c2 _ _ _ hP (m.s2 W x hb))
 ·exact Lg 2 (Lg 1 e)
def wN(J:Xh)(W:Xm):Prop:=J.walk=some W/\((J.op.kind=6/\J.pc=4)\/(J.op.kind=7/\(J.pc=1\/J.pc=6))\/(J.op.kind=8/\J.pc=1))
theorem WO:OG Xh.next Xm.step wN:=λJ W x h=>by
 obtain⟨pc,last,start,key,op,walk,node,val⟩:=J;obtain⟨hw,hp⟩:=h;simp only at hw hp;subst hw;cases hb:(W.step x).2.2 with
 |true=>
  refine Or.inl ⟨rfl,?_⟩;rcases hp with⟨hk,rfl⟩|⟨hk,rfl|rfl⟩|⟨hk,rfl⟩<;>
   simp only[Xh.next,Xh.insert,Xh.A6,Xh.get,Xh.Cr,Xh.BB,Xh.CQ,DH,beq_iff_eq,hk,hb,Int.reduceEq,Int.reduceNeg,if_true,if_false,↓reduceIte,wN]<;>simp
 |false=>
  refine Or.inr ⟨rfl,X3 ?_ 1⟩;rcases hp with⟨hk,rfl⟩|⟨hk,rfl|rfl⟩|⟨hk,rfl⟩<;>
   simp only[Xh.next,Xh.insert,Xh.A6,Xh.get,Xh.Cr,Xh.BB,Xh.CQ,DH,beq_iff_eq,hk,hb,Int.reduceEq,Int.reduceNeg,if_true,if_false,↓reduceIte,Bool.false_eq_true]<;>(repeat' split)<;>rfl
theorem KU{J:Xh}(p:Int)(h:(J.op.kind=6/\p=4)\/(J.op.kind=7/\(p=1\/p=6))\/(J.op.kind=8/\p=1)):wN (J.Au p) (Xm.new J.start J.key):=⟨rfl,h⟩
theorem NQ{n:Nat}{J:Xh}{c:Xf}(x:Xj)(h:IM n J c)(hc:c.kind≠12):Calm Xh.next 3 (J.next x).1 (J.next x).2:=by
 obtain⟨ha,hw,hp,hpc,hk,h6,h7,h8⟩:=h;have hn:J.pc≠-1:=λe=>hc (hpc.1 e);have hp':J.pc=0\/J.pc=1\/J.pc=2\/J.pc=3\/J.pc=4\/J.pc=5\/J.pc=6\/J.pc=7:=Zo;have wk:=λ(J:Xh) (W:Xm) (h:wN J W)=>WO.calm L0 x h;rcases hk with hk|hk|hk
 ·have s4:=KU (J:=J) 4 (Or.inl ⟨hk,rfl⟩);have e4:(J.Au 4).next x=(J.Au 4).Cr x:=by unfold Xh.next Xh.insert;rw[show(J.Au 4).op.kind=6 from hk,show(J.Au 4).pc=4 from rfl];rfl
  have w4:=wk _ _ s4;rw[e4] at w4;rcases hp' with hp|hp|hp|hp|hp|hp|hp|hp
  ·have e:J.next x=({J with pc:=1},Dd):=by unfold Xh.next Xh.insert;rw[hk,hp];rfl
   rw[e];exact X3 rfl 3
  ·have e:J.next x=if !x.ok then J.done 4 0 else({J with node:=x.word,pc:=2},AV (Xg x.word 0) (Yy J.key)):=by unfold Xh.next Xh.insert;rw[hk,hp];rfl
   rw[e];split<;>exact X3 rfl 3
  ·have e:J.next x=({J with pc:=3},AV (Xg J.node 1) (Yy J.op.val)):=by unfold Xh.next Xh.insert;rw[hk,hp];rfl
   rw[e];exact X3 rfl 3
  ·have e:J.next x=(J.Au 4).Cr x:=by unfold Xh.next Xh.insert;rw[hk,hp];rfl
   rw[e];exact w4
  ·obtain⟨W,hW,_⟩:=(h6 hk).2.2 hp;exact wk J W ⟨hW,Or.inl ⟨hk,hp⟩⟩
  ·have e:J.next x=J.done 3 0:=by unfold Xh.next Xh.insert;rw[hk,hp];rfl
   rw[e];exact X3 rfl 3
  ·have e:J.next x=({J with pc:=7},Y6 (CM J.walk) (Y9 J.walk) (En (Y9 J.walk) J.node)):=by unfold Xh.next Xh.insert;rw[hk,hp];rfl
   rw[e];exact X3 rfl 3
  ·have e:J.next x=if x.ok then J.done 1 0 else(J.Au 4).Cr x:=by unfold Xh.next Xh.insert;rw[hk,hp];rfl
   rw[e];split
   ·exact X3 rfl 3
   ·exact w4
 ·have s1:=KU (J:=J) 1 (Or.inr (Or.inl ⟨hk,Or.inl rfl⟩));have e1:(J.Au 1).next x=(J.Au 1).BB x:=by unfold Xh.next Xh.A6;rw[show(J.Au 1).op.kind=7 from hk,show(J.Au 1).pc=1 from rfl];rfl
  have w1:=wk _ _ s1;rw[e1] at w1;have s6:=KU (J:=J) 6 (Or.inr (Or.inl ⟨hk,Or.inr rfl⟩));have e6:(J.Au 6).next x=(J.Au 6).CQ x:=by unfold Xh.next Xh.A6;rw[show(J.Au 6).op.kind=7 from hk,show(J.Au 6).pc=6 from rfl];rfl
  have w6:=wk _ _ s6;rw[e6] at w6;rcases hp' with hp|hp|hp|hp|hp|hp|hp|hp
  ·have e:J.next x=(J.Au 1).BB x:=by unfold Xh.next Xh.A6;rw[hk,hp];rfl
   rw[e];exact w1
  ·obtain⟨W,hW,_⟩:=(h7 hk).2.1 (Or.inl hp);exact wk J W ⟨hW,Or.inr (Or.inl ⟨hk,Or.inl hp⟩)⟩
  ·have e:J.next x=({J with val:=x.word.nm,pc:=3},Y6 (Xg (Y9 J.walk) 2) (Io J.walk) (Ff (Io J.walk))):=by unfold Xh.next Xh.A6;rw[hk,hp];rfl
   rw[e];exact X3 rfl 3
  ·have e:J.next x=if x.ok then({J with pc:=4},Y6 (CM J.walk) (Y9 J.walk) (En (Y9 J.walk) (Io J.walk))) else(J.Au 1).BB x:=by unfold Xh.next Xh.A6;rw[hk,hp];rfl
   rw[e];split
   ·exact X3 rfl 3
   ·exact w1
  ·have e:J.next x=if x.ok then({J with pc:=5},EC (Y9 J.walk)) else(J.Au 6).CQ x:=by unfold Xh.next Xh.A6;rw[hk,hp];rfl
   rw[e];split
   ·intro _ y;have e:({J with pc:=5}:Xh).next y=({J with pc:=5}:Xh).done 1 J.val:=by unfold Xh.next Xh.A6;rw[show({J with pc:=5}:Xh).op.kind=7 from hk];rfl
    rw[e];exact X3 rfl 2
   ·exact w6
  ·have e:J.next x=J.done 1 J.val:=by unfold Xh.next Xh.A6;rw[hk,hp];rfl
   rw[e];exact X3 rfl 3
  ·obtain⟨W,hW,_⟩:=(h7 hk).2.1 (Or.inr hp);exact wk J W ⟨hW,Or.inr (Or.inl ⟨hk,Or.inr hp⟩)⟩
  ·have:=(h7 hk).1;omega
 ·have s1:=KU (J:=J) 1 (Or.inr (Or.inr ⟨hk,rfl⟩));have e1:(J.Au 1).next x=(J.Au 1).BB x:=by unfold Xh.next Xh.get;rw[show(J.Au 1).op.kind=8 from hk,show(J.Au 1).pc=1 from rfl];rfl
  have w1:=wk _ _ s1;rw[e1] at w1;have:=(h8 hk).1;rcases hp' with hp|hp|hp|hp|hp|hp|hp|hp
  ·have e:J.next x=(J.Au 1).BB x:=by unfold Xh.next Xh.get;rw[hk,hp];rfl
   rw[e];exact w1
  ·obtain⟨W,hW,_⟩:=(h8 hk).2.1 hp;exact wk J W ⟨hW,Or.inr (Or.inr ⟨hk,hp⟩)⟩
  ·have e:J.next x=J.done 1 x.word.nm:=by unfold Xh.next Xh.get;rw[hk,hp];rfl
   rw[e];exact X3 rfl 3
  all_goals omega
def Vf(a:X9):Prop:=a.sl=0/\a.gn=0/\25<=a.fd/\a.fd<85
def OS(st:Int)(n:Nat)(a:Bn):Prop:=
 (a.kind=1/\(IP n a.Ay\/a.Ay=root 24\/Vf a.Ay))\/(a.kind=2/\((qZ n a.Ay/\CE n a.new)\/Vf a.Ay))\/
 (a.kind=3/\((IP n a.Ay/\CP st n a.Ay a.new/\a.new.tg=wr (a.Bb.tg+1))\/a.Ay=root 24))\/a.kind=4\/(a.kind=5/\CD n a.Bb)
def wP(st:Int)(n:Nat)(a:Bn)(x:Xj):Prop:=
 (IP n a.Ay->CE n x.word)/\(a.kind=4->CE n x.word/\(x.ok=true->CD n x.word))/\(st=2->a.kind=1->a.Ay.sl=0->a.Ay.fd=0->CD n x.word)
def CAny(st:Int)(n:Nat)(c:Xf):Prop:=(JV st n c/\c.kind≠12)\/c=AB\/c=AP\/c=UF
structure AW(n t:Nat)(M:MR):Prop where
 PZ:0<=M.R.me
 PY:M.R.me<6
 QM:1<=M.R.Af
 SN:M.R.Af<=6
 eng:M.R.Aa=1\/M.R.Aa=2\/M.R.Aa=3\/M.R.Aa=4\/M.R.Aa=5
 nl:M.ns.length<=t
 Pm:M.ds.Sublist M.ns
 sl:M.ss.length<=54
 Pg:∀d∈M.ns,CD n d.ref
def Hd(R R':Xb):Prop:=R'.me=R.me/\R'.Af=R.Af/\R'.Aa=R.Aa/\R'.most=R.most
theorem Hd.refl(R:Xb):Hd R R:=⟨rfl,rfl,rfl,rfl⟩
def U8(R:Xb):Prop:=R.Aa=2\/R.Aa=3
def oV(R:Xb):Prop:=R.Aa=3\/R.Aa=5
def ZG(R:Xb):Int:=bif R.A2 then R.Af*9 else R.Af
def wH(st:Int)(n:Nat)(R:Xb)(c:Xf):Prop:=
  R.call=c/\OS st n R.BN/\
  ((R.step = 1∧((c.kind = 3∧R.BN.kind = 1∧R.BN.Ay = c.Ay∧IP n c.Ay)∨(c.kind = 4∧R.BN.kind = 2∧IP n R.BN.Ay)∨(c.kind = 5∧R.BN.kind = 3∧IP n R.BN.Ay)∨(c.kind = 8∧R.BN.kind = 4))) ∨
   R.step=2/\c.kind≠3/\c.kind≠6/\c.kind≠8\/
   R.step=3/\c.kind=1\/
   (R.step=4/\c.kind=2/\U8 R/\0<=R.index/\R.index<9)\/
   (R.step=5/\c.kind=6/\0<=c.i/\c.i<9/\R.BN.kind=1/\R.BN.Ay=c.Ay/\IP n c.Ay)\/
   (R.step=6/\c.kind=6/\0<=c.i/\c.i<9/\oV R/\IP n c.Ay/\CE n R.word/\(st=2->c.Ay.sl=0->c.Ay.fd=0->CD n R.word))\/
   (R.step=7/\c.kind=6/\0<=c.i/\c.i<9/\IP n c.Ay)\/
   R.step=8/\c.kind=8\/
   R.step=9/\c.kind=10/\CD n c.Bb\/R.step=10/\c.kind=10/\CD n c.Bb\/R.step=11/\c.kind=10\/
   (R.step=12/\(c.kind=10\/c.kind=11)/\R.Aa=4)\/
   (R.step=13/\(c.kind=10\/c.kind=11)/\R.Aa≠1/\0<=R.index/\R.index<ZG R)\/
   (R.step=14/\(c.kind=10\/c.kind=11)/\R.Aa=4)\/
   (R.step=15/\(c.kind=10\/c.kind=11)/\R.Aa=4)\/
   (R.step=16/\(c.kind=10\/c.kind=11)))
def Mc(st:Int)(n:Nat)(R:Xb)(c:Xf)(rep:Xj->Prop)(R':Xb):Prop:=
 Hd R R'/\((R'.step≠0/\wH st n R' c)\/(R'.step=0/\rep R'.AF))
def RepT(x:Xj):Prop:=x=⟨.zero,true⟩
section
variable{st:Int}{n:Nat}{R:Xb}{c:Xf}{x:Xj}
theorem Cz{a:X9}(h:IP n a\/a=root 24\/Vf a):OS st n ⟨1,a,.zero,.zero⟩:=Or.inl ⟨rfl,h⟩
theorem Ii{a:X9}{w:Xe}(h:Vf a):OS st n ⟨2,a,.zero,w⟩:=Or.inr (Or.inl ⟨rfl,Or.inr h⟩)
theorem QF{o w:Xe}:OS st n ⟨3,root 24,o,w⟩:=Or.inr (Or.inr (Or.inl ⟨rfl,Or.inr rfl⟩))
theorem aA{a:X9}{o w:Xe}:OS st n ⟨4,a,o,w⟩:=Or.inr (Or.inr (Or.inr (Or.inl rfl)))
theorem UW{a:X9}{o w:Xe}(h:CD n o):OS st n ⟨5,a,o,w⟩:=Or.inr (Or.inr (Or.inr (Or.inr ⟨rfl,h⟩)))
theorem Li{me i:Int}(h0:0<=me)(h1:me<6)(i0:0<=i)(i1:i<9):Vf (Xb.AG me i):=by
 unfold Xb.AG;rw[Sx (n:=me*9) Zo Zo,Sx (n:=25+me*9) Zo Zo,Sx Zo Zo];exact⟨rfl,rfl,by show 25<=25+me*9+i;omega,by show 25+me*9+i<85;omega⟩
theorem UO{me:Int}(h0:0<=me)(h1:me<6):Vf ⟨0,0,wr (79+me)⟩:=by
 rw[Sx Zo Zo];exact⟨rfl,rfl,by show 25<=79+me;omega,by show 79+me<85;omega⟩
theorem IV(rep:Xj->Prop)(h:rep ⟨.zero,true⟩):Mc st n R c rep R.done:=⟨⟨rfl,rfl,rfl,rfl⟩,Or.inr ⟨rfl,h⟩⟩
theorem Nv{rep:Xj->Prop}(h:rep x):Mc st n R c rep (R.finish x):=⟨⟨rfl,rfl,rfl,rfl⟩,Or.inr ⟨rfl,h⟩⟩
theorem yW(R:Xb)(k:Int)(w:Xe):Hd R (R.Ga k w)/\(R.Ga k w).call=R.call/\(R.Ga k w).index=R.index/\(R.Ga k w).word=R.word:=by
 unfold Xb.Ga;cases k==0<;>cases k==1<;>cases k==2<;>cases k==3<;>cases k==4<;>cases k==5<;>cases k==6<;>cases k==7<;>exact⟨⟨rfl,rfl,rfl,rfl⟩,rfl,rfl,rfl⟩
theorem MN(R:Xb)(s k:Int)(w:Xe):Hd R (R.post s k w)/\(R.post s k w).call=R.call/\(R.post s k w).index=R.index/\(R.post s k w).step=s/\(R.post s k w).BN=⟨2,Xb.AG R.me k,.zero,w⟩/\(R.post s k w).word=R.word:=by
 obtain⟨h1,h2,h3,h4⟩:=yW R k w;exact⟨h1,h2,h3,rfl,rfl,h4⟩
theorem Nu{rep:Xj->Prop}(hr:rep ⟨.zero,true⟩)(m0:0<=R.me)(m1:R.me<6)(hk:U8 R)(hc:R.call=c)(h2:c.kind=2):∀l:List Int,(∀i∈l,0<=i/\i<9)->Mc st n R c rep (R.E6 l)
 |[],_=>IV rep hr
 |i::l,hl=>by
  unfold Xb.E6;cases wz (R.B4 i) with
  |true=>exact Nu hr m0 m1 hk hc h2 l λj hj=>hl j (List.mem_cons_of_mem _ hj)
  |false=>
   obtain⟨i0,i1⟩:=hl i (List.mem_cons_self ..);obtain⟨p1,p2,p3,p4,p5,p6⟩:=MN {R with index:=i} 4 i .zero;simp only[cond_false];have hk':U8 (Xb.post {R with index:=i} 4 i .zero):=by unfold U8;rw[p1.2.2.1];exact hk
   refine⟨p1,Or.inl ⟨by rw[p4];decide,p2.trans hc,by rw[p5];exact Ii (Li m0 m1 i0 i1),?_⟩⟩;exact Or.inr (Or.inr (Or.inr (Or.inl ⟨p4,h2,hk',by rw[p3];exact i0,by rw[p3];exact i1⟩)))
theorem Iq{rep:Xj->Prop}{s:Int}{sp:AJ}(m0:0<=R.me)(m1:R.me<6)(hc:R.call=c)(hs:(s=2/\c.kind≠3/\c.kind≠6/\c.kind≠8)\/(s=7/\c.kind=6/\0<=c.i/\c.i<9/\IP n c.Ay)):Mc st n R c rep (R.Cy s sp):=by
 refine⟨⟨rfl,rfl,rfl,rfl⟩,Or.inl ⟨?_,hc,Ii (UO m0 m1),?_⟩⟩
 ·show s≠0;rcases hs with h|h<;>omega
 ·rcases hs with h|h
  ·exact Or.inr (Or.inl h)
  ·exact Or.inr (Or.inr (Or.inr (Or.inr (Or.inr (Or.inr (Or.inl h))))))
theorem P6{rep:Xj->Prop}(hr:rep ⟨.zero,true⟩)(m0:0<=R.me)(m1:R.me<6)(hc:R.call=c)(h2:c.kind=2)(l:List Int)(hl:∀i∈l,0<=i/\i<9):Mc st n R c rep (R.Fz l):=by
 unfold Xb.Fz;cases(R.Dq&&!(!R.span.is&&(R.span.low==0&&R.span.Hh==0))) with
 |true=>exact Iq m0 m1 hc (Or.inl ⟨rfl,by omega,by omega,by omega⟩)
 |false=>
  cases hk:R.A2 with
  |true=>exact Nu hr m0 m1 (by unfold Xb.A2 at hk;simpa [U8] using hk) hc h2 l hl
  |false=>exact IV rep hr
theorem NR(t1:1<=R.Af)(t6:R.Af<=6):1<=ZG R/\ZG R<=54/\(R.A2=false->ZG R<=6):=by
 unfold ZG;cases R.A2 with
 |true=>exact⟨by show 1<=R.Af*9;omega,by show R.Af*9<=54;omega,λh=>by cases h⟩
 |false=>exact⟨t1,by show R.Af<=54;omega,λ_=>t6⟩
theorem KD(t1:1<=R.Af)(t6:R.Af<=6)(hc:R.call=c)(hk:c.kind=10\/c.kind=11)(he:R.Aa≠1)(k:Int)(k0:0<=k):
  ((R.look k).2=true->Hd R (R.look k).1/\(R.look k).1.step≠0/\wH st n (R.look k).1 c/\(R.look k).1.index=k/\(R.look k).1.step=13)/\((R.look k).2=false↔¬k<ZG R):=by
 unfold Xb.look
 cases hK:R.A2 with
 |true=>
  have hl:ZG R=R.Af*9:=by unfold ZG;rw[hK];rfl
  simp only[cond_true]
  rw[Sx Zo Zo]
  cases hd:decide (R.Af*9<=k) with
  |true=>
   have hd:=of_decide_eq_true hd
   exact⟨λh=>(by cases h),⟨λ_=>by omega,λ_=>rfl⟩⟩
  |false=>
   have hd:¬R.Af*9<=k:=of_decide_eq_false hd
   refine⟨λ_=>⟨⟨rfl,rfl,rfl,rfl⟩,by show(13:Int)≠0;decide,⟨hc,Cz (Or.inr (Or.inr ?_)),?_⟩,rfl,rfl⟩,⟨λh=>(by cases h),λh=>absurd Zo h⟩⟩
   ·have e1:Int.tdiv k 9=k/9:=Int.tdiv_eq_ediv_of_nonneg k0;have e2:Int.tmod k 9=k%9:=Int.tmod_eq_emod_of_nonneg k0;have h9:wr (wr (25+wr (wr (k/9)*9))+k%9)=25+k/9*9+k%9:=by
     rw[Sx (n:=k/9) Zo Zo,Sx (n:=k/9*9) Zo Zo,Sx (n:=25+k/9*9) Zo Zo,Sx Zo Zo]
    rw[e1,e2,h9];exact⟨rfl,rfl,by show 25<=25+k/9*9+k%9;omega,by show 25+k/9*9+k%9<85;omega⟩
   ·have hl':k<ZG (Xb.load {R with index:=k} 13 ⟨0,0,wr (wr (25+wr (wr (Int.tdiv k 9)*9))+Int.tmod k 9)⟩):=by show k<ZG R;omega
    exact Or.inr (Or.inr (Or.inr (Or.inr (Or.inr (Or.inr (Or.inr (Or.inr (Or.inr (Or.inr (Or.inr (Or.inr (Or.inl ⟨rfl,hk,he,k0,hl'⟩))))))))))))
 |false=>
  have hl:ZG R=R.Af:=by unfold ZG;rw[hK];rfl
  simp only[cond_false]
  cases hd:decide (R.Af<=k) with
  |true=>
   have hd:=of_decide_eq_true hd
   exact⟨λh=>(by cases h),⟨λ_=>by omega,λ_=>rfl⟩⟩
  |false=>
   have hd:¬R.Af<=k:=of_decide_eq_false hd
   refine⟨λ_=>⟨⟨rfl,rfl,rfl,rfl⟩,by show(13:Int)≠0;decide,⟨hc,Cz (Or.inr (Or.inr (UO k0 Zo))),?_⟩,rfl,rfl⟩,⟨λh=>(by cases h),λh=>absurd Zo h⟩⟩
   have hl':k<ZG (Xb.load {R with index:=k} 13 ⟨0,0,wr (79+k)⟩):=by show k<ZG R;omega
   exact Or.inr (Or.inr (Or.inr (Or.inr (Or.inr (Or.inr (Or.inr (Or.inr (Or.inr (Or.inr (Or.inr (Or.inr (Or.inl ⟨rfl,hk,he,k0,hl'⟩))))))))))))
theorem kI(t1:1<=R.Af)(t6:R.Af<=6)(hc:R.call=c)(hk:c.kind=10\/c.kind=11):Mc st n R c RepT R.scan:=by
 unfold Xb.scan;cases h1:R.Aa==1 with
 |true=>exact IV RepT rfl
 |false=>
  have h1:R.Aa≠1:=by simpa using h1
  simp only[cond_false];cases h4:R.Aa==4 with
  |true=>
   have h4:R.Aa=4:=by simpa using h4
   exact⟨⟨rfl,rfl,rfl,rfl⟩,Or.inl ⟨by show(12:Int)≠0;decide,hc,Cz (Or.inr (Or.inl rfl)),Or.inr (Or.inr (Or.inr (Or.inr (Or.inr (Or.inr (Or.inr (Or.inr (Or.inr (Or.inr (Or.inr (Or.inl ⟨rfl,hk,h4⟩)))))))))))⟩⟩
  |false=>
   have hl:=KD (st:=st) (n:=n) t1 t6 hc hk h1 0 Zd;have h2:(R.look 0).2=true:=by
    have:=(NR t1 t6).1;cases h:(R.look 0).2 with
    |true=>rfl
    |false=>exact absurd (hl.2.1 h) Zo
   obtain⟨a,b,d,e,f⟩:=hl.1 h2;exact⟨a,Or.inl ⟨b,d⟩⟩
end
theorem Nl{J:Xa}{I:Xh}:∀(k:Nat) {J:Xa} {I:Xh} {c:Xf},J.pc=11->J.inner=some I->Calm Xh.next k I c->Calm Xa.next k J c
 |0,_,_,_,_,_,h=>h
 |k+1,J,I,c,hp,hi,h=>λe x=>by
  have h':=h e x;have e:J.next x=Xa.F9 {J with inner:=some (I.next x).1} (I.next x).2:=by unfold Xa.next Xa.Jy;rw[hp,hi];rfl
  rw[e];unfold Xa.F9;cases !((I.next x).2.kind==12) with
  |true=>exact Nl (J:=J) (I:=I) k hp rfl h'
  |false=>
   simp only[cond_false];cases(!((I.next x).2.A5.code==1)||J.op.kind==8)<;>exact X3 rfl k
theorem JZ{J:Xa}{I:Xh}{c:Xf}(k:Nat)(hp:J.pc=11)(hi:J.inner=some I)(h:Calm Xh.next k I c):Calm Xa.next k (J.F9 c).1 (J.F9 c).2:=by
 unfold Xa.F9;cases !(c.kind==12) with
 |true=>exact Nl (J:=J) (I:=I) k hp hi h
 |false=>
  simp only[cond_false];cases(!(c.A5.code==1)||J.op.kind==8)<;>exact X3 rfl k
theorem Hr{n:Nat}{J:Xa}(h:GJ n J):Calm Xa.next 3 J.perform.1 J.perform.2:=by
 have hl:=NQ (n:=n) (c:=Dd) Xj.zero (ZD (J:=J) (n:=n) (Y3 h.base Zd Zd) h.kind (Gy J.op.key) Zd) Zd;exact JZ 3 rfl rfl hl
theorem Hs{n:Nat}{J:Xa}(h:GJ n J):Calm Xa.next 3 J.Ch.1 J.Ch.2:=by
 unfold Xa.Ch;cases J.Am==J.wanted with
 |true=>exact Hr h
 |false=>exact X3 rfl 3
def VauW(J:Xa)(W:Xm):Prop:=J.walk=some W/\J.pc=5
theorem Nk:OG Xa.next Xm.step VauW:=λJ W x h=>by
 obtain⟨hw,hp⟩:=h;have e:J.next x=J.Dn x:=by unfold Xa.next Xa.Al;rw[hp];rfl
 rw[e];unfold Xa.Dn DH;rw[hw];simp only;cases hb:(W.step x).2.2 with
 |true=>exact Or.inl ⟨rfl,⟨rfl,hp⟩,rfl⟩
 |false=>
  refine Or.inr ⟨rfl,X3 ?_ 1⟩;simp only[cond_false];cases JY (some (W.step x).1)<;>rfl
theorem jB{n:Nat}{J:Xa}{c:Xf}(x:Xj)(h:qQ n J c)(hc:c.kind≠12)(hx:CE n x.word):Calm Xa.next 3 (J.next x).1 (J.next x).2:=by
 have hb:=h.b;have w5:Calm Xa.next 3 (J.Au.Dn x).1 (J.Au.Dn x).2:=by
  have h:=Nk.calm L0 (J:=J.Au) (W:=Xm.new (Xg J.base 2) (Yn J.child)) x ⟨rfl,rfl⟩;have e:J.Au.next x=J.Au.Dn x:=by unfold Xa.next Xa.Al;rw[show J.Au.pc=5 from rfl];rfl
  rwa [e] at h
 have Vg:Calm Xa.next 3 J.Vg.1 J.Vg.2:=Hs (n:=n) ⟨hb.OX,hb.node,hb.OX,hb.walk,hb.kind,hb.k0,hb.k1,hb.w0,hb.w1,hb.c0,hb.c1,hb.c0,hb.c1⟩;rcases h.pc with⟨_,h⟩|⟨_,h⟩
 ·exact absurd h hc
 rcases h with hp|hp|⟨hp,ho⟩|⟨hp,h8,ho⟩|⟨hp|hp,hn,ho⟩|⟨hp,hn,ho,hwk⟩|⟨hp,hn,ho,hwk⟩|⟨hp|hp|hp,ho⟩|⟨hp,I,hi,hI⟩|hp|hp|hp|hp
 ·have e:J.next x=({J with pc:=1},Yv (root 16)):=by unfold Xa.next;rw[hp];rfl
  rw[e];exact X3 rfl 3
 ·have e:J.next x=J.Ck (Cf x.word.nm):=by unfold Xa.next;rw[hp];rfl
  rw[e];exact X3 rfl 3
 ·have e:J.next x=J.EF x:=by unfold Xa.next;rw[hp];rfl
  rw[e];unfold Xa.EF;cases x.word.sl==0 with
  |false=>exact Hs (n:=n) ⟨hx,hb.node,hb.OX,hb.walk,hb.kind,hb.k0,hb.k1,hb.w0,hb.w1,hb.b0,hb.b1,hb.c0,hb.c1⟩
  |true=>
   simp only[Bool.not_true,cond_false];cases J.Am==0<;>exact X3 rfl 3
 ·have e:J.next x=bif !x.ok then J.perform else({J with node:=x.word,pc:=4},AV (Xg x.word 0) (Yy (Yn J.child))):=by unfold Xa.next Xa.Al;rw[hp];rfl
  rw[e];cases x.ok with
  |false=>exact Hr hb
  |true=>exact X3 rfl 3
 ·have e:J.next x=J.Au.Dn x:=by unfold Xa.next Xa.Al;rw[hp];rfl
  rw[e];exact w5
 ·have e:J.next x=bif x.ok then({J with sentinel:=J.node,pc:=9},Yv (FW J.child)) else J.Au.Dn x:=by unfold Xa.next Xa.Al;rw[hp];rfl
  rw[e];cases x.ok with
  |true=>exact X3 rfl 3
  |false=>exact w5
 ·obtain⟨W,hW,_⟩:=hwk;exact Nk.calm L0 x ⟨hW,hp⟩
 ·have e:J.next x=({J with pc:=8},Y6 (CM J.walk) (Y9 J.walk) (En (Y9 J.walk) J.node)):=by unfold Xa.next Xa.Al;rw[hp];rfl
  rw[e];exact X3 rfl 3
 ·have e:J.next x=({J with pc:=9},Yv (FW J.child)):=by unfold Xa.next Xa.Al;rw[hp];rfl
  rw[e];exact X3 rfl 3
 ·have e:J.next x=bif x.word.sl==0 then({J with pc:=10},Y6 (FW J.child) x.word (En x.word J.sentinel)) else J.Vg:=by unfold Xa.next Xa.Al;rw[hp];rfl
  rw[e];cases x.word.sl==0 with
  |true=>exact X3 rfl 3
  |false=>exact Vg
 ·have e:J.next x=J.Vg:=by unfold Xa.next Xa.Al;rw[hp];rfl
  rw[e];exact Vg
 ·have e:J.next x=Xa.F9 {J with inner:=some (I.next x).1} (I.next x).2:=by unfold Xa.next Xa.Jy;rw[hp,hi];rfl
  rw[e];exact JZ 3 hp rfl (NQ x hI hc)
 ·have e:J.next x=J.GV x:=by unfold Xa.next;rw[hp];rfl
  rw[e];exact X3 rfl 3
 ·have e:J.next x=J.Ih x:=by unfold Xa.next;rw[hp];rfl
  rw[e];unfold Xa.Ih;cases x.ok<;>cases J.op.kind==7<;>cases J.size==8<;>cases decide (J.count.nm<wr (2*J.size))<;>exact X3 rfl 3
 ·have e:J.next x=J.DD x:=by unfold Xa.next;rw[hp];rfl
  rw[e];unfold Xa.DD;cases x.word.nm==J.size<;>exact X3 rfl 3
 ·have e:J.next x=J.done J.answer:=by unfold Xa.next;rw[hp];rfl
  rw[e];exact X3 rfl 3
def SteW(J:Xc)(C:Xd):Prop:=J.Ab=some C/\((J.op.kind=6/\(J.pc=5\/J.pc=12))\/(J.op.kind=7/\(J.pc=1\/J.pc=6))\/(J.op.kind=8/\J.pc=1)\/J.pc=103)
theorem Fk(J:Xc)(k:Nat):Calm Xc.next k J.link.1 J.link.2:=by
 unfold Xc.link;cases decide (J.op.Ah<=J.level)<;>exact X3 rfl k
theorem Ka(J:Xc)(l:Int)(k:Nat):Calm Xc.next k (J.Kt l).1 (J.Kt l).2:=by
 unfold Xc.Kt;simp only;cases decide (l<J.op.Ah)<;>exact X3 rfl k
theorem VP:OG Xc.next Xd.step SteW:=λJ C x h=>by
 obtain⟨hw,hp⟩:=h;rcases hp with⟨hk,hp|hp⟩|⟨hk,hp|hp⟩|⟨hk,hp⟩|hp
 ·have e:J.next x=J.Jt x:=by unfold Xc.next Xc.insert;rw[hp,hk];rfl
  rw[e];unfold Xc.Jt AH;rw[hw];simp only;cases hb:(C.step x).2.2 with
  |true=>exact Or.inl ⟨rfl,⟨rfl,Or.inl ⟨hk,Or.inl hp⟩⟩,rfl⟩
  |false=>
   refine Or.inr ⟨rfl,?_⟩;simp only[cond_false];cases !((DN (some (C.step x).1)).sl==0) with
   |true=>exact X3 rfl 1
   |false=>exact Ka _ 0 1
 ·have e:J.next x=J.Jb x:=by unfold Xc.next Xc.raise;rw[hp,hk];rfl
  rw[e];unfold Xc.Jb AH;rw[hw];simp only;cases hb:(C.step x).2.2 with
  |true=>exact Or.inl ⟨rfl,⟨rfl,Or.inl ⟨hk,Or.inr hp⟩⟩,rfl⟩
  |false=>
   refine Or.inr ⟨rfl,?_⟩;simp only[cond_false];cases !xN (DN (some (C.step x).1)) J.node with
   |true=>exact X3 rfl 1
   |false=>exact Fk _ 1
 ·have e:J.next x=J.GH x 6:=by unfold Xc.next Xc.A6;rw[hp,hk];rfl
  rw[e];unfold Xc.GH AH;rw[hw];simp only;cases hb:(C.step x).2.2 with
  |true=>exact Or.inl ⟨rfl,⟨rfl,Or.inr (Or.inl ⟨hk,Or.inl hp⟩)⟩,rfl⟩
  |false=>
   refine Or.inr ⟨rfl,?_⟩;simp only[cond_false];cases(DN (some (C.step x).1)).sl==0<;>exact X3 rfl 1
 ·have e:J.next x=J.KM x:=by unfold Xc.next Xc.A6;rw[hp,hk];rfl
  rw[e];unfold Xc.KM AH;rw[hw];simp only;cases hb:(C.step x).2.2 with
  |true=>exact Or.inl ⟨rfl,⟨rfl,Or.inr (Or.inl ⟨hk,Or.inr hp⟩)⟩,rfl⟩
  |false=>exact Or.inr ⟨rfl,X3 rfl 1⟩
 ·have e:J.next x=J.GH x 1:=by unfold Xc.next Xc.get;rw[hp,hk];rfl
  rw[e];unfold Xc.GH AH;rw[hw];simp only;cases hb:(C.step x).2.2 with
  |true=>exact Or.inl ⟨rfl,⟨rfl,Or.inr (Or.inr (Or.inl ⟨hk,hp⟩))⟩,rfl⟩
  |false=>
   refine Or.inr ⟨rfl,?_⟩;simp only[cond_false];cases(DN (some (C.step x).1)).sl==0<;>exact X3 rfl 1
 ·have e:J.next x=J.fin x:=by unfold Xc.next Xc.finish;rw[hp];rfl
  rw[e];unfold Xc.fin AH;rw[hw];simp only;cases hb:(C.step x).2.2 with
  |true=>exact Or.inl ⟨rfl,⟨rfl,Or.inr (Or.inr (Or.inr hp))⟩,rfl⟩
  |false=>
   refine Or.inr ⟨rfl,λ_ y=>?_⟩;have e:(⟨104,J.last,J.op,some (C.step x).1,J.node,J.level,J.M5,J.val⟩:Xc).next y=Xc.done ⟨104,J.last,J.op,some (C.step x).1,J.node,J.level,J.M5,J.val⟩ 1 J.val:=by unfold Xc.next Xc.finish;rfl
   show Calm Xc.next 0 (Xc.next (⟨104,J.last,J.op,some (C.step x).1,J.node,J.level,J.M5,J.val⟩:Xc) y).1 (Xc.next (⟨104,J.last,J.op,some (C.step x).1,J.node,J.level,J.M5,J.val⟩:Xc) y).2;rw[e];exact X3 rfl 0
theorem kL{n:Nat}{J:Xc}{c:Xf}(x:Xj)(h:qR n J c)(hc:c.kind≠12):Calm Xc.next 3 (J.next x).1 (J.next x).2:=by
 have hb:=h.b;have wk:=λ(J:Xc) (C:Xd) (h:SteW J C)=>VP.calm XL x h;have sk:∀(p b:Int),(J.op.kind=6/\(p=5\/p=12))\/(J.op.kind=7/\(p=1\/p=6))\/(J.op.kind=8/\p=1)\/p=103->Calm Xc.next 3 ((J.Au p b).next x).1 ((J.Au p b).next x).2:=λp b h=>wk (J.Au p b) (Xd.new b) ⟨rfl,h⟩;have e5:∀b,J.op.kind=6->(J.Au 5 b).next x=(J.Au 5 b).Jt x:=λb hk=>by unfold Xc.next Xc.insert;rw[show(J.Au 5 b).pc=5 from rfl,show(J.Au 5 b).op.kind=6 from hk];rfl
 have e12:∀b,J.op.kind=6->(J.Au 12 b).next x=(J.Au 12 b).Jb x:=λb hk=>by unfold Xc.next Xc.raise;rw[show(J.Au 12 b).pc=12 from rfl,show(J.Au 12 b).op.kind=6 from hk];rfl
 have e1:∀b,J.op.kind=7->(J.Au 1 b).next x=(J.Au 1 b).GH x 6:=λb hk=>by unfold Xc.next Xc.A6;rw[show(J.Au 1 b).pc=1 from rfl,show(J.Au 1 b).op.kind=7 from hk];rfl
 have e6:∀b,J.op.kind=7->(J.Au 6 b).next x=(J.Au 6 b).KM x:=λb hk=>by unfold Xc.next Xc.A6;rw[show(J.Au 6 b).pc=6 from rfl,show(J.Au 6 b).op.kind=7 from hk];rfl
 have e1':∀b,J.op.kind=8->(J.Au 1 b).next x=(J.Au 1 b).GH x 1:=λb hk=>by unfold Xc.next Xc.get;rw[show(J.Au 1 b).pc=1 from rfl,show(J.Au 1 b).op.kind=8 from hk];rfl
 have e103:∀b,(J.Au 103 b).next x=(J.Au 103 b).fin x:=λb=>by unfold Xc.next Xc.finish;rw[show(J.Au 103 b).pc=103 from rfl];rfl
 rcases h.pc with⟨_,h⟩|⟨_,h⟩
 ·exact absurd h hc
 rcases h with hp|⟨hk,hp,hc8⟩|⟨hk,hp,hn⟩|⟨hk,hp,hn,ho⟩|⟨hk,hp,hn,ho⟩|⟨hk,hp,hl,hn,ho⟩|⟨hk,hp,hl,hn,ho⟩|⟨hk,hp,hl,hn,ho⟩|⟨hk,hp,ho⟩|⟨hk,hp,hn,ho⟩|⟨hk,hp,hl,hn,ho⟩|⟨hk,hp,hn,ho⟩|⟨hk,hp,hn,ho⟩|⟨hk,hp,hn,ho⟩
 ·rcases hb.op with⟨hk,_⟩|hk|hk
  ·have e:J.next x=({J with pc:=1},Dd):=by unfold Xc.next Xc.insert;rw[hp,hk];rfl
   rw[e];exact X3 rfl 3
  ·have e:J.next x=(J.Au 1 J.op.key).GH x 6:=by unfold Xc.next Xc.A6;rw[hp,hk];rfl
   rw[e,←e1 _ hk];exact sk 1 _ (Or.inr (Or.inl ⟨hk,Or.inl rfl⟩))
  ·have e:J.next x=(J.Au 1 J.op.key).GH x 1:=by unfold Xc.next Xc.get;rw[hp,hk];rfl
   rw[e,←e1' _ hk];exact sk 1 _ (Or.inr (Or.inr (Or.inl ⟨hk,rfl⟩)))
 ·have e:J.next x=bif !x.ok then J.done 4 0 else({J with node:=x.word,pc:=2},AV (Xg x.word 0) (Yy J.op.key)):=by unfold Xc.next Xc.insert;rw[hp,hk];rfl
  rw[e];cases x.ok<;>exact X3 rfl 3
 ·rcases hp with hp|hp|hp
  ·have e:J.next x=({J with pc:=3},AV (Xg J.node 1) (Yy J.op.val)):=by unfold Xc.next Xc.insert;rw[hp,hk];rfl
   rw[e];exact X3 rfl 3
  ·have e:J.next x=({J with pc:=4},AV (Xg J.node 6) (Yy J.op.Ah)):=by unfold Xc.next Xc.insert;rw[hp,hk];rfl
   rw[e];exact X3 rfl 3
  ·have e:J.next x=(J.Au 5 J.op.key).Jt x:=by unfold Xc.next Xc.insert;rw[hp,hk];rfl
   rw[e,←e5 _ hk];exact sk 5 _ (Or.inl ⟨hk,Or.inl rfl⟩)
 ·obtain⟨C,hC,_⟩:=ho;exact wk J C ⟨hC,Or.inl ⟨hk,Or.inl hp⟩⟩
 ·rcases hp with hp|hp
  ·have e:J.next x=J.done 3 0:=by unfold Xc.next Xc.insert;rw[hp,hk];rfl
   rw[e];exact X3 rfl 3
  ·have e:J.next x=bif x.ok then Xc.link {J with level:=1} else(J.Au 5 J.op.key).Jt x:=by unfold Xc.next Xc.insert;rw[hp,hk];rfl
   rw[e];cases x.ok with
   |true=>exact Fk _ 3
   |false=>rw[cond_false,←e5 _ hk];exact sk 5 _ (Or.inl ⟨hk,Or.inl rfl⟩)
 ·have e:J.next x=J.Kt (wr (J.level+1)):=by unfold Xc.next Xc.insert;rw[hp,hk];rfl
  rw[e];exact Ka _ _ 3
 ·rcases hp with hp|hp|hp
  ·have e:J.next x=bif x.word.mark then J.part 1 else bif !Vm x.word (Bh J.Ab J.level).cur then({J with pc:=10},Y6 (Xg J.node (wr (2+J.level))) x.word (En x.word (Bh J.Ab J.level).cur)) else({J with pc:=11},Y6 (Bh J.Ab J.level).prev (Bh J.Ab J.level).cur (En (Bh J.Ab J.level).cur J.node)):=by unfold Xc.next Xc.raise;rw[hp,hk];rfl
   rw[e];cases x.word.mark<;>cases Vm x.word (Bh J.Ab J.level).cur<;>exact X3 rfl 3
  ·have e:J.next x=bif !x.ok then J.link else({J with pc:=11},Y6 (Bh J.Ab J.level).prev (Bh J.Ab J.level).cur (En (Bh J.Ab J.level).cur J.node)):=by unfold Xc.next Xc.raise;rw[hp,hk];rfl
   rw[e];cases x.ok with
   |false=>exact Fk _ 3
   |true=>exact X3 rfl 3
  ·have e:J.next x=bif x.ok then Xc.link {J with level:=wr (J.level+1)} else(J.Au 12 J.op.key).Jb x:=by unfold Xc.next Xc.raise;rw[hp,hk];rfl
   rw[e];cases x.ok with
   |true=>exact Fk _ 3
   |false=>rw[cond_false,←e12 _ hk];exact sk 12 _ (Or.inl ⟨hk,Or.inr rfl⟩)
 ·obtain⟨C,hC,_⟩:=ho;exact wk J C ⟨hC,Or.inl ⟨hk,Or.inr hp⟩⟩
 ·obtain⟨C,hC,_⟩:=ho;rcases hk with hk|hk
  ·exact wk J C ⟨hC,Or.inr (Or.inl ⟨hk,Or.inl hp⟩)⟩
  ·exact wk J C ⟨hC,Or.inr (Or.inr (Or.inl ⟨hk,hp⟩))⟩
 ·rcases hk with hk|hk
  ·have e:J.next x=bif decide (x.word.nm<1) then({J with level:=0,pc:=3},Yv (Xg J.node 1)) else bif decide (3<x.word.nm) then({J with level:=0,pc:=3},Yv (Xg J.node 1)) else({J with level:=wr (x.word.nm-1),pc:=3},Yv (Xg J.node 1)):=by unfold Xc.next Xc.A6;rw[hp,hk];rfl
   rw[e];cases decide (x.word.nm<1)<;>cases decide (3<x.word.nm)<;>exact X3 rfl 3
  ·have e:J.next x=J.done 1 x.word.nm:=by unfold Xc.next Xc.get;rw[hp,hk];rfl
   rw[e];exact X3 rfl 3
 ·rcases hp with hp|hp|hp
  ·have e:J.next x=Xc.look {J with val:=x.word.nm}:=by unfold Xc.next Xc.A6;rw[hp,hk];rfl
   rw[e];exact X3 rfl 3
  ·have e:J.next x=bif !x.word.mark then({J with pc:=5},Y6 (Xg J.node (wr (2+J.level))) x.word (Ff x.word)) else bif J.level==0 then J.done 2 0 else Xc.look {J with level:=wr (J.level-1)}:=by unfold Xc.next Xc.A6;rw[hp,hk];rfl
   rw[e];cases x.word.mark<;>cases J.level==0<;>exact X3 rfl 3
  ·have e:J.next x=bif !x.ok then J.look else bif decide (0<J.level) then Xc.look {J with level:=wr (J.level-1)} else(J.Au 6 (wr (J.op.key+1))).KM x:=by unfold Xc.next Xc.A6;rw[hp,hk];rfl
   rw[e];cases x.ok with
   |false=>exact X3 rfl 3
   |true=>
    cases decide (0<J.level) with
    |true=>exact X3 rfl 3
    |false=>simp only[Bool.not_true,cond_false];rw[←e6 _ hk];exact sk 6 _ (Or.inr (Or.inl ⟨hk,Or.inr rfl⟩))
 ·obtain⟨C,hC,_⟩:=ho;exact wk J C ⟨hC,Or.inr (Or.inl ⟨hk,Or.inr hp⟩)⟩
 ·rcases hp with hp|hp|hp
  ·have e:J.next x=bif x.word.nm==0 then({J with pc:=102},Y6 (Xg J.node 7) x.word (BP x.word J.M5)) else(J.Au 103 (wr (J.op.key+1))).fin x:=by unfold Xc.next Xc.finish;rw[hp];rfl
   rw[e];cases x.word.nm==0 with
   |true=>exact X3 rfl 3
   |false=>rw[cond_false,←e103];exact sk 103 _ (Or.inr (Or.inr (Or.inr rfl)))
  ·have e:J.next x=bif x.ok then J.done 1 J.val else(J.Au 103 (wr (J.op.key+1))).fin x:=by unfold Xc.next Xc.finish;rw[hp];rfl
   rw[e];cases x.ok with
   |true=>exact X3 rfl 3
   |false=>rw[cond_false,←e103];exact sk 103 _ (Or.inr (Or.inr (Or.inr rfl)))
  ·have e:J.next x=J.done 1 J.val:=by unfold Xc.next Xc.finish;rw[hp];rfl
   rw[e];exact X3 rfl 3
 ·obtain⟨C,hC,_⟩:=ho;exact wk J C ⟨hC,Or.inr (Or.inr (Or.inr hp))⟩
end Go.Proofs.YtaipogljokblkaaGreatDoor
