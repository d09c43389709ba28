/- Core: LD, LE. -/
import Derived.Test.YtaipogljokblkaaGreatDoorE11
import Derived.Test.YtaipogljokblkaaGreatDoorE01
set_option linter.all false
set_option maxRecDepth 100000
set_option maxHeartbeats 8000000
namespace Go.Proofs.YtaipogljokblkaaGreatDoor
open Go Go.RowKit
set_option linter.unusedSimpArgs false
set_option linter.unusedVariables false
set_option linter.unusedSectionVars false
def ClO(n:Nat)(o:Option Xd):Prop:=∀C,o=some C->Sq n C
def OQ(o:Option Xd):Prop:=∃C,o=some C/\C.pc≠-1
def QI(o:Option Xd):Prop:=∃C,o=some C
theorem OQ.so{o:Option Xd}(h:OQ o):QI o:=h.imp λ_ h=>h.1
theorem O3{n:Nat}{b:Int}:ClO n (some (Xd.new b))/\OQ (some (Xd.new b)):=
 ⟨λC e=>by cases e;exact gK,_,rfl,by simp[Xd.new,Xd.zero]⟩
theorem Qz{n:Nat}{o:Option Xd}(h:ClO n o)(l:Int):M9 n (Bh o l):=by
 cases o with
 |none=>exact ES
 |some C=>
  have hb:=(h C rfl).b;show M9 n (EV C l);unfold EV Xd.E9;(repeat' split)
  ·exact ES
  ·exact ES
  ·exact hb.s0
  ·exact hb.s1
  ·exact hb.s2
theorem gM{n:Nat}{o:Option Xd}(h:ClO n o):CE n (DN o):=by
 cases o with
 |none=>exact Yr
 |some C=>exact(h C rfl).b.fd
theorem gL{st:Int}{n:Nat}{o:Option Xd}{x:Xj}(hst:st≠2)(h:ClO n o)(hp:OQ o)(hx:CE n x.word):
  ClO n (AH o x).1/\QI (AH o x).1/\((AH o x).2.2=true->JV st n (AH o x).2.1/\(AH o x).2.1.kind≠12/\OQ (AH o x).1):=by
 obtain⟨C,rfl,hpc⟩:=hp
 have hw:=pI (x:=x) hst (h C rfl) hpc hx
 refine⟨λC' e=>?_,⟨_,rfl⟩,λe=>?_⟩
 ·cases e;exact hw.1
 ·exact⟨(hw.2.1 e).1,(hw.2.1 e).2.1,_,rfl,(hw.2.1 e).2.2⟩
structure ID(n:Nat)(J:Xc):Prop where
 node:CE n J.node
 Ab:ClO n J.Ab
 op:(J.op.kind=6/\1<=J.op.Ah/\J.op.Ah<=3)\/J.op.kind=7\/J.op.kind=8
 l0:0<=J.level
 l3:J.level<=3
def StePc(n:Nat)(J:Xc)(c:Xf):Prop:=
 (J.pc=-1/\c.kind=12)\/(c.kind≠12/\(
  J.pc=0\/
  (J.op.kind=6/\J.pc=1/\c.kind=8)\/
  (J.op.kind=6/\(J.pc=2\/J.pc=3\/J.pc=4)/\CD n J.node)\/
  (J.op.kind=6/\J.pc=5/\CD n J.node/\OQ J.Ab)\/
  (J.op.kind=6/\(J.pc=6\/J.pc=8)/\CD n J.node/\QI J.Ab)\/
  (J.op.kind=6/\J.pc=7/\J.level<=2/\CD n J.node/\QI J.Ab)\/
  (J.op.kind=6/\(J.pc=9\/J.pc=10\/J.pc=11)/\J.level<=2/\CD n J.node/\QI J.Ab)\/
  (J.op.kind=6/\J.pc=12/\J.level<=2/\CD n J.node/\OQ J.Ab)\/
  ((J.op.kind=7\/J.op.kind=8)/\J.pc=1/\OQ J.Ab)\/
  ((J.op.kind=7\/J.op.kind=8)/\J.pc=2/\CD n J.node/\QI J.Ab)\/
  (J.op.kind=7/\(J.pc=3\/J.pc=4\/J.pc=5)/\J.level<=2/\CD n J.node/\QI J.Ab)\/
  (J.op.kind=7/\J.pc=6/\CD n J.node/\OQ J.Ab)\/
  ((J.op.kind=6\/J.op.kind=7)/\(J.pc=101\/J.pc=102\/J.pc=104)/\CD n J.node/\QI J.Ab)\/
  ((J.op.kind=6\/J.op.kind=7)/\J.pc=103/\CD n J.node/\OQ J.Ab)))
structure qR(n:Nat)(J:Xc)(c:Xf):Prop where
 b:ID n J
 pc:StePc n J c
def Lq(st:Int)(n:Nat)(r:Xc × Xf):Prop:=qR n r.1 r.2/\JV st n r.2
theorem wr2{l:Int}(h0:0<=l)(h1:l<=3):wr (2+l)=2+l:=Sx Zo Zo
theorem Bt {st:Int} {n:Nat} {J:Xc} {c:Xf} (b:ID n J) (hc:JV st n c) (hk:c.kind≠12) (hp:
  J.pc=0\/
  (J.op.kind=6/\J.pc=1/\c.kind=8)\/
  (J.op.kind=6/\(J.pc=2\/J.pc=3\/J.pc=4)/\CD n J.node)\/
  (J.op.kind=6/\J.pc=5/\CD n J.node/\OQ J.Ab)\/
  (J.op.kind=6/\(J.pc=6\/J.pc=8)/\CD n J.node/\QI J.Ab)\/
  (J.op.kind=6/\J.pc=7/\J.level<=2/\CD n J.node/\QI J.Ab)\/
  (J.op.kind=6/\(J.pc=9\/J.pc=10\/J.pc=11)/\J.level<=2/\CD n J.node/\QI J.Ab)\/
  (J.op.kind=6/\J.pc=12/\J.level<=2/\CD n J.node/\OQ J.Ab)\/
  ((J.op.kind=7\/J.op.kind=8)/\J.pc=1/\OQ J.Ab)\/
  ((J.op.kind=7\/J.op.kind=8)/\J.pc=2/\CD n J.node/\QI J.Ab)\/
  (J.op.kind=7/\(J.pc=3\/J.pc=4\/J.pc=5)/\J.level<=2/\CD n J.node/\QI J.Ab)\/
  (J.op.kind=7/\J.pc=6/\CD n J.node/\OQ J.Ab)\/
  ((J.op.kind=6\/J.op.kind=7)/\(J.pc=101\/J.pc=102\/J.pc=104)/\CD n J.node/\QI J.Ab)\/
  ((J.op.kind=6\/J.op.kind=7)/\J.pc=103/\CD n J.node/\OQ J.Ab)):Lq st n (J,c):=⟨⟨b,Or.inr ⟨hk,hp⟩⟩,hc⟩
section
variable{st:Int}{n:Nat}{J:Xc}{x:Xj}
theorem ID.Uc(h:ID n J)(p:Int):ID n {J with pc:=p}:=⟨h.node,h.Ab,h.op,h.l0,h.l3⟩
theorem Gs(h:ID n J)(a b:Int):Lq st n (J.done a b):=⟨⟨⟨h.node,h.Ab,h.op,h.l0,h.l3⟩,Or.inl ⟨rfl,rfl⟩⟩,DP⟩
theorem KF(h:ID n J)(hk:J.op.kind=6\/J.op.kind=7)(hn:CD n J.node)(hc:QI J.Ab)(b:Int):Lq st n (J.part b):=
 Bt ⟨h.node,h.Ab,h.op,h.l0,h.l3⟩ (Bl (Y3 h.node Zd Zd)) (by show(3:Int)≠12;decide) (by simp only;grind)
theorem KH(h:ID n J)(hk:J.op.kind=6)(hn:CD n J.node)(hc:QI J.Ab):Lq st n J.link:=by
 unfold Xc.link;cases hd:decide (J.op.Ah<=J.level) with
 |true=>exact KF h (Or.inl hk) hn hc 1
 |false=>
  have hd:¬J.op.Ah<=J.level:=of_decide_eq_false hd;have ho:=h.op;have hl:J.level<=2:=Zo;have h0:=h.l0;refine Bt ⟨h.node,h.Ab,h.op,h.l0,h.l3⟩ (Bl ?_) (by show(3:Int)≠12;decide) (by simp only;grind);rw[wr2 h.l0 h.l3];exact Y3 h.node Zo Zo
theorem KG(h:ID n J)(hk:J.op.kind=7)(hl:J.level<=2)(hn:CD n J.node)(hc:QI J.Ab):Lq st n J.look:=by
 have h0:=h.l0;refine Bt ⟨h.node,h.Ab,h.op,h.l0,h.l3⟩ (Bl ?_) (by show(3:Int)≠12;decide) (by simp only;grind);rw[wr2 h.l0 h.l3];exact Y3 h.node Zo Zo
theorem SP(hst:st≠2)(h:ID n J)(hk:J.op.kind=6)(hn:CD n J.node)(hc:QI J.Ab){lv:Int}(h0:0<=lv)(h3:lv<=3):Lq st n (J.Kt lv):=by
 have sp:=λl=>Qz h.Ab l;unfold Xc.Kt;simp only;cases hd:decide (lv<J.op.Ah) with
 |true=>
  have hd:lv<J.op.Ah:=of_decide_eq_true hd;have ho:=h.op;have hl:lv<=2:=Zo;refine Bt ⟨h.node,h.Ab,h.op,h0,h3⟩ (Gk ?_ (DU (sp lv).2)) (by show(4:Int)≠12;decide) (by simp only;grind);rw[wr2 h0 h3];exact Bm hn Zo Zo
 |false=>
  exact Bt ⟨h.node,h.Ab,h.op,h0,h3⟩ (Bx (sp 0).1 (EK hst (DX h.node)) rfl) (by show(5:Int)≠12;decide) (by simp only;grind)
theorem Ny(hst:st≠2)(h:ID n J)(ho:OQ J.Ab)(hx:CE n x.word):ID n {J with Ab:=(AH J.Ab x).1}/\QI (AH J.Ab x).1/\((AH J.Ab x).2.2=true->JV st n (AH J.Ab x).2.1/\(AH J.Ab x).2.1.kind≠12/\OQ (AH J.Ab x).1):=by
 have hc:=gL (x:=x) hst h.Ab ho hx;exact⟨⟨h.node,hc.1,h.op,h.l0,h.l3⟩,hc.2.1,hc.2.2⟩
theorem Nx(hst:st≠2)(h:ID n J)(hk:J.op.kind=6)(hp:J.pc=5)(hn:CD n J.node)(ho:OQ J.Ab)(hx:CE n x.word):Lq st n (J.Jt x):=by
 obtain⟨h1,h2,h3⟩:=Ny hst h ho hx;unfold Xc.Jt;generalize AH J.Ab x=r at*;obtain⟨o,c,b⟩:=r;simp only at*;cases b with
 |true=>exact Bt h1 (h3 rfl).1 (h3 rfl).2.1 (by have:=(h3 rfl).2.2;simp only;grind)
 |false=>
  simp only[cond_false];cases hf:!((DN o).sl==0) with
  |true=>exact Bt (h1.Uc 6) (DO hn) (by show(9:Int)≠12;decide) (by simp only;grind)
  |false=>exact SP hst h1 hk hn h2 Zd Zd
theorem P8(hst:st≠2)(h:ID n J)(hk:J.op.kind=6)(hp:J.pc=12)(hl:J.level<=2)(hn:CD n J.node)(ho:OQ J.Ab)(hx:CE n x.word):Lq st n (J.Jb x):=by
 obtain⟨h1,h2,h3⟩:=Ny hst h ho hx;unfold Xc.Jb;generalize AH J.Ab x=r at*;obtain⟨o,c,b⟩:=r;simp only at*;cases b with
 |true=>exact Bt h1 (h3 rfl).1 (h3 rfl).2.1 (by have:=(h3 rfl).2.2;simp only;grind)
 |false=>
  simp only[cond_false];cases hf:!xN (DN o) J.node with
  |true=>exact KF h1 (Or.inl hk) hn h2 1
  |false=>exact KH h1 hk hn h2
theorem KE(hst:st≠2)(h:ID n J)(hk:J.op.kind=7\/J.op.kind=8)(hp:J.pc=1)(ho:OQ J.Ab)(hx:CE n x.word){f:Int}(f0:0<=f)(f9:f<10):Lq st n (J.GH x f):=by
 obtain⟨h1,h2,h3⟩:=Ny hst h ho hx;have hF:=gM h1.Ab;unfold Xc.GH;generalize AH J.Ab x=r at*;obtain⟨o,c,b⟩:=r;simp only at*;cases b with
 |true=>exact Bt h1 (h3 rfl).1 (h3 rfl).2.1 (by have:=(h3 rfl).2.2;simp only;grind)
 |false=>
  simp only[cond_false];cases hf:(DN o).sl==0 with
  |true=>exact Gs (J:={J with Ab:=o,node:=DN o}) ⟨hF,h1.Ab,h1.op,h1.l0,h1.l3⟩ 2 0
  |false=>
   have hf:¬(DN o).sl=0:=by simpa using hf
   have hn:=DT hF hf;exact Bt ⟨hF,h1.Ab,h1.op,h1.l0,h1.l3⟩ (Bl (Y3 hF f0 f9)) (by show(3:Int)≠12;decide) (by simp only;grind)
theorem SO(hst:st≠2)(h:ID n J)(hk:J.op.kind=7)(hp:J.pc=6)(hn:CD n J.node)(ho:OQ J.Ab)(hx:CE n x.word):Lq st n (J.KM x):=by
 obtain⟨h1,h2,h3⟩:=Ny hst h ho hx;unfold Xc.KM;generalize AH J.Ab x=r at*;obtain⟨o,c,b⟩:=r;simp only at*;cases b with
 |true=>exact Bt h1 (h3 rfl).1 (h3 rfl).2.1 (by have:=(h3 rfl).2.2;simp only;grind)
 |false=>exact KF h1 (Or.inr hk) hn h2 2
theorem QS(hst:st≠2)(h:ID n J)(hk:J.op.kind=6\/J.op.kind=7)(hp:J.pc=103)(hn:CD n J.node)(ho:OQ J.Ab)(hx:CE n x.word):Lq st n (J.fin x):=by
 obtain⟨h1,h2,h3⟩:=Ny hst h ho hx;unfold Xc.fin;generalize AH J.Ab x=r at*;obtain⟨o,c,b⟩:=r;simp only at*;cases b with
 |true=>exact Bt h1 (h3 rfl).1 (h3 rfl).2.1 (by have:=(h3 rfl).2.2;simp only;grind)
 |false=>exact Bt (h1.Uc 104) (CL hn) (by show(10:Int)≠12;decide) (by simp only;grind)
theorem BE(h:ID n J)(p b:Int):ID n (J.Au p b)/\OQ (J.Au p b).Ab:=⟨⟨h.node,(O3 (n:=n)).1,h.op,h.l0,h.l3⟩,(O3 (n:=n)).2⟩
theorem yG{c:Xf}(hst:st≠2)(h:qR n J c)(hc:c.kind≠12)(hx:OU st n c x):Lq st n (J.next x):=by
 have hw:=hx.1;have hb:=h.b;have sp:=λl=>Qz hb.Ab l;have h0:=hb.l0;have h3:=hb.l3;rcases h.pc with⟨_,h⟩|⟨_,h⟩
 ·exact absurd h hc
 rcases h with hp|⟨hk,hp,hc8⟩|⟨hk,hp,hn⟩|⟨hk,hp,hn,ho⟩|⟨hk,hp,hn,ho⟩|⟨hk,hp,hl,hn,ho⟩|⟨hk,hp,hl,hn,ho⟩|⟨hk,hp,hl,hn,ho⟩|⟨hk,hp,ho⟩|⟨hk,hp,hn,ho⟩|⟨hk,hp,hl,hn,ho⟩|⟨hk,hp,hn,ho⟩|⟨hk,hp,hn,ho⟩|⟨hk,hp,hn,ho⟩
 ·
  rcases hb.op with⟨hk,_⟩|hk|hk
  ·have e:J.next x=({J with pc:=1},Dd):=by unfold Xc.next Xc.insert;rw[hp,hk];rfl
   rw[e];exact Bt (hb.Uc 1) CZ Zd (by simp only;grind [Gc])
  ·have e:J.next x=(J.Au 1 J.op.key).GH x 6:=by unfold Xc.next Xc.A6;rw[hp,hk];rfl
   rw[e];exact KE hst (BE hb _ _).1 (Or.inl hk) rfl (BE hb _ _).2 hw Zd Zd
  ·have e:J.next x=(J.Au 1 J.op.key).GH x 1:=by unfold Xc.next Xc.get;rw[hp,hk];rfl
   rw[e];exact KE hst (BE hb _ _).1 (Or.inr hk) rfl (BE hb _ _).2 hw Zd Zd
 ·
  have e:J.next x=bif !x.ok then J.done 4 0 else({J with node:=x.word,pc:=2},AV (Xg x.word 0) (Yy J.op.key)):=by unfold Xc.next Xc.insert;rw[hp,hk];rfl
  rw[e];cases ho:x.ok with
  |false=>exact Gs hb _ _
  |true=>
   have hn:=hx.2.1 hc8 ho;exact Bt ⟨hw,hb.Ab,hb.op,hb.l0,hb.l3⟩ (Gk (Bm hn Zd Zd) Cd) (by show(4:Int)≠12;decide) (by simp only;grind)
 ·rcases hp with hp|hp|hp
  ·have e:J.next x=({J with pc:=3},AV (Xg J.node 1) (Yy J.op.val)):=by unfold Xc.next Xc.insert;rw[hp,hk];rfl
   rw[e];exact Bt (hb.Uc 3) (Gk (Bm hn Zd Zd) Cd) (by show(4:Int)≠12;decide) (by simp only;grind)
  ·have e:J.next x=({J with pc:=4},AV (Xg J.node 6) (Yy J.op.Ah)):=by unfold Xc.next Xc.insert;rw[hp,hk];rfl
   rw[e];exact Bt (hb.Uc 4) (Gk (Bm hn Zd Zd) Cd) (by show(4:Int)≠12;decide) (by simp only;grind)
  ·have e:J.next x=(J.Au 5 J.op.key).Jt x:=by unfold Xc.next Xc.insert;rw[hp,hk];rfl
   rw[e];exact Nx hst (BE hb _ _).1 hk rfl hn (BE hb _ _).2 hw
 ·have e:J.next x=J.Jt x:=by unfold Xc.next Xc.insert;rw[hp,hk];rfl
  rw[e];exact Nx hst hb hk hp hn ho hw
 ·rcases hp with hp|hp
  ·have e:J.next x=J.done 3 0:=by unfold Xc.next Xc.insert;rw[hp,hk];rfl
   rw[e];exact Gs hb _ _
  ·have e:J.next x=bif x.ok then Xc.link {J with level:=1} else(J.Au 5 J.op.key).Jt x:=by unfold Xc.next Xc.insert;rw[hp,hk];rfl
   rw[e];cases x.ok with
   |true=>exact KH ⟨hb.node,hb.Ab,hb.op,by show(0:Int)<=1;decide,by show(1:Int)<=3;decide⟩ hk hn ho
   |false=>exact Nx hst (BE hb _ _).1 hk rfl hn (BE hb _ _).2 hw
 ·have e:J.next x=J.Kt (wr (J.level+1)):=by unfold Xc.next Xc.insert;rw[hp,hk];rfl
  rw[e,Sx Zo Zo];exact SP hst hb hk hn ho Zo Zo
 ·have sw:Lq st n ({J with pc:=11},Y6 (Bh J.Ab J.level).prev (Bh J.Ab J.level).cur (En (Bh J.Ab J.level).cur J.node)):=
   Bt (hb.Uc 11) (Bx (sp _).1 (EK hst (DX hb.node)) rfl) (by show(5:Int)≠12;decide) (by simp only;grind)
  rcases hp with hp|hp|hp
  ·have e:J.next x=bif x.word.mark then J.part 1 else bif !Vm x.word (Bh J.Ab J.level).cur then({J with pc:=10},Y6 (Xg J.node (wr (2+J.level))) x.word (En x.word (Bh J.Ab J.level).cur)) else({J with pc:=11},Y6 (Bh J.Ab J.level).prev (Bh J.Ab J.level).cur (En (Bh J.Ab J.level).cur J.node)):=by unfold Xc.next Xc.raise;rw[hp,hk];rfl
   rw[e];cases x.word.mark with
   |true=>exact KF hb (Or.inl hk) hn ho 1
   |false=>
    cases Vm x.word (Bh J.Ab J.level).cur with
    |false=>
     refine Bt (hb.Uc 10) (Bx ?_ (EK hst (DX (sp _).2)) rfl) (by show(5:Int)≠12;decide) (by simp only;grind);rw[wr2 h0 h3];exact Y3 hb.node Zo Zo
    |true=>exact sw
  ·have e:J.next x=bif !x.ok then J.link else({J with pc:=11},Y6 (Bh J.Ab J.level).prev (Bh J.Ab J.level).cur (En (Bh J.Ab J.level).cur J.node)):=by unfold Xc.next Xc.raise;rw[hp,hk];rfl
   rw[e];cases x.ok with
   |false=>exact KH hb hk hn ho
   |true=>exact sw
  ·have e:J.next x=bif x.ok then Xc.link {J with level:=wr (J.level+1)} else(J.Au 12 J.op.key).Jb x:=by unfold Xc.next Xc.raise;rw[hp,hk];rfl
   rw[e,Sx Zo Zo];cases x.ok with
   |true=>exact KH ⟨hb.node,hb.Ab,hb.op,by show 0<=J.level+1;omega,by show J.level+1<=3;omega⟩ hk hn ho
   |false=>exact P8 hst (BE hb _ _).1 hk rfl hl hn (BE hb _ _).2 hw
 ·have e:J.next x=J.Jb x:=by unfold Xc.next Xc.raise;rw[hp,hk];rfl
  rw[e];exact P8 hst hb hk hp hl hn ho hw
 ·rcases hk with hk|hk
  ·have e:J.next x=J.GH x 6:=by unfold Xc.next Xc.A6;rw[hp,hk];rfl
   rw[e];exact KE hst hb (Or.inl hk) hp ho hw Zd Zd
  ·have e:J.next x=J.GH x 1:=by unfold Xc.next Xc.get;rw[hp,hk];rfl
   rw[e];exact KE hst hb (Or.inr hk) hp ho hw Zd Zd
 ·rcases hk with hk|hk
  ·have e:J.next x=bif decide (x.word.nm<1) then({J with level:=0,pc:=3},Yv (Xg J.node 1)) else bif decide (3<x.word.nm) then({J with level:=0,pc:=3},Yv (Xg J.node 1)) else({J with level:=wr (x.word.nm-1),pc:=3},Yv (Xg J.node 1)):=by unfold Xc.next Xc.A6;rw[hp,hk];rfl
   rw[e];have one:∀l:Int,0<=l->l<=2->Lq st n ({J with level:=l,pc:=3},Yv (Xg J.node 1)):=λl a b=>
    Bt ⟨hb.node,hb.Ab,hb.op,a,by show l<=3;omega⟩ (Bl (Y3 hb.node Zd Zd)) (by show(3:Int)≠12;decide) (by simp only;grind)
   cases h1:decide (x.word.nm<1) with
   |true=>exact one 0 Zd Zd
   |false=>
    have h1:¬x.word.nm<1:=of_decide_eq_false h1;cases h2:decide (3<x.word.nm) with
    |true=>exact one 0 Zd Zd
    |false=>
     have h2:¬3<x.word.nm:=of_decide_eq_false h2;rw[Sx Zo Zo];exact one (x.word.nm-1) Zo Zo
  ·have e:J.next x=J.done 1 x.word.nm:=by unfold Xc.next Xc.get;rw[hp,hk];rfl
   rw[e];exact Gs hb _ _
 ·rcases hp with hp|hp|hp
  ·have e:J.next x=Xc.look {J with val:=x.word.nm}:=by unfold Xc.next Xc.A6;rw[hp,hk];rfl
   rw[e];exact KG ⟨hb.node,hb.Ab,hb.op,hb.l0,hb.l3⟩ hk hl hn ho
  ·have e:J.next x=bif !x.word.mark then({J with pc:=5},Y6 (Xg J.node (wr (2+J.level))) x.word (Ff x.word)) else bif J.level==0 then J.done 2 0 else Xc.look {J with level:=wr (J.level-1)}:=by unfold Xc.next Xc.A6;rw[hp,hk];rfl
   rw[e,wr2 h0 h3];cases x.word.mark with
   |false=>
    exact Bt (hb.Uc 5) (Bx (Y3 hb.node Zo Zo) (EK hst (CG hw)) rfl) (by show(5:Int)≠12;decide) (by simp only;grind)
   |true=>
    cases hz:J.level==0 with
    |true=>exact Gs hb _ _
    |false=>
     have hz:J.level≠0:=by simpa using hz
     rw[Sx Zo Zo];exact KG ⟨hb.node,hb.Ab,hb.op,by show 0<=J.level-1;omega,by show J.level-1<=3;omega⟩ hk (by show J.level-1<=2;omega) hn ho
  ·have e:J.next x=bif !x.ok then J.look else bif decide (0<J.level) then Xc.look {J with level:=wr (J.level-1)} else(J.Au 6 (wr (J.op.key+1))).KM x:=by unfold Xc.next Xc.A6;rw[hp,hk];rfl
   rw[e];cases x.ok with
   |false=>exact KG hb hk hl hn ho
   |true=>
    cases hz:decide (0<J.level) with
    |true=>
     have hz:0<J.level:=of_decide_eq_true hz;rw[Sx Zo Zo];exact KG ⟨hb.node,hb.Ab,hb.op,by show 0<=J.level-1;omega,by show J.level-1<=3;omega⟩ hk (by show J.level-1<=2;omega) hn ho
    |false=>exact SO hst (BE hb _ _).1 hk rfl hn (BE hb _ _).2 hw
 ·have e:J.next x=J.KM x:=by unfold Xc.next Xc.A6;rw[hp,hk];rfl
  rw[e];exact SO hst hb hk hp hn ho hw
 ·rcases hp with hp|hp|hp
  ·have e:J.next x=bif x.word.nm==0 then({J with pc:=102},Y6 (Xg J.node 7) x.word (BP x.word J.M5)) else(J.Au 103 (wr (J.op.key+1))).fin x:=by unfold Xc.next Xc.finish;rw[hp];rfl
   rw[e];cases x.word.nm==0 with
   |true=>exact Bt (hb.Uc 102) (Bx (Y3 hb.node Zd Zd) (EK hst Cs) rfl) (by show(5:Int)≠12;decide) (by simp only;grind)
   |false=>exact QS hst (BE hb _ _).1 hk rfl hn (BE hb _ _).2 hw
  ·have e:J.next x=bif x.ok then J.done 1 J.val else(J.Au 103 (wr (J.op.key+1))).fin x:=by unfold Xc.next Xc.finish;rw[hp];rfl
   rw[e];cases x.ok with
   |true=>exact Gs hb _ _
   |false=>exact QS hst (BE hb _ _).1 hk rfl hn (BE hb _ _).2 hw
  ·have e:J.next x=J.done 1 J.val:=by unfold Xc.next Xc.finish;rw[hp];rfl
   rw[e];exact Gs hb _ _
 ·have e:J.next x=J.fin x:=by unfold Xc.next Xc.finish;rw[hp];rfl
  rw[e];exact QS hst hb hk hp hn ho hw
end
def aC(wanted Am:Int):Prop:=Am=wanted\/Am=Eh wanted\/Am=Eh (Eh wanted)\/Am=Eh (Eh (Eh wanted))
theorem int8{n:Int}(h0:0<=n)(h1:n<8):n=0\/n=1\/n=2\/n=3\/n=4\/n=5\/n=6\/n=7:=Zo
theorem RD{b:Int}(h0:0<=b)(h1:b<8):0<=Eh b/\Eh b<8:=by
 rcases int8 h0 h1 with rfl|rfl|rfl|rfl|rfl|rfl|rfl|rfl<;>decide
theorem uA{a b:Int}(a0:0<=a)(a1:a<8)(h:aC a b)(hb:b≠0):aC a (Eh b):=by
 rcases int8 a0 a1 with rfl|rfl|rfl|rfl|rfl|rfl|rfl|rfl<;>rcases h with rfl|rfl|rfl|rfl<;>first|exact absurd rfl hb|(unfold aC;decide)
theorem eZ{a b:Int}(a0:0<=a)(a1:a<8):aC a (GX a b)/\0<=GX a b/\GX a b<8:=by
 have p1:=RD a0 a1;have p2:=RD p1.1 p1.2;unfold GX;cases Eh a==b with
 |true=>exact⟨Or.inl rfl,a0,a1⟩
 |false=>
  cases Eh (Eh a)==b with
  |true=>exact⟨Or.inr (Or.inl rfl),p1⟩
  |false=>exact⟨Or.inr (Or.inr (Or.inl rfl)),p2⟩
theorem Lh{n:Nat}{b:Int}(h0:0<=b)(h1:b<8):IP n (FW b):=by
 unfold FW;rw[Sx (n:=8+b) Zo Zo,Sx Zo Zo];exact Bf Zo Zo
structure GJ(n:Nat)(J:Xa):Prop where
 base:CE n J.base
 node:CE n J.node
 OX:CE n J.sentinel
 walk:Ll n J.walk
 kind:J.op.kind=6\/J.op.kind=7\/J.op.kind=8
 k0:0<=J.op.key
 k1:J.op.key<256
 w0:0<=J.wanted
 w1:J.wanted<8
 b0:0<=J.Am
 b1:J.Am<8
 c0:0<=J.child
 c1:J.child<8
def WSo(o:Option Xm):Prop:=∃W,o=some W
def Sj(n:Nat)(J:Xa)(c:Xf):Prop:=
  J.pc=0\/J.pc=1\/
  (J.pc=2/\aC J.wanted J.Am)\/
  (J.pc=3/\c.kind=8/\aC J.wanted J.child)\/
  ((J.pc=4\/J.pc=8)/\CD n J.node/\aC J.wanted J.child)\/
  (J.pc=5/\CD n J.node/\aC J.wanted J.child/\GD J.walk)\/
  (J.pc=7/\CD n J.node/\aC J.wanted J.child/\WSo J.walk)\/
  ((J.pc=6\/J.pc=9\/J.pc=10)/\aC J.wanted J.child)\/
  (J.pc=11/\∃I,J.inner=some I/\IM n I c)\/
  J.pc=12\/J.pc=13\/J.pc=14\/J.pc=15
structure qQ(n:Nat)(J:Xa)(c:Xf):Prop where
 b:GJ n J
 pc:(J.pc=-1/\c.kind=12)\/(c.kind≠12/\Sj n J c)
def Lm(st:Int)(n:Nat)(r:Xa × Xf):Prop:=qQ n r.1 r.2/\JV st n r.2
section
variable{st:Int}{n:Nat}{J:Xa}{x:Xj}
theorem De{c:Xf}(b:GJ n J)(hc:JV st n c)(hk:c.kind≠12)(hp:Sj n J c):Lm st n (J,c):=⟨⟨b,Or.inr ⟨hk,hp⟩⟩,hc⟩
theorem GJ.Uc(h:GJ n J)(p:Int):GJ n {J with pc:=p}:=⟨h.base,h.node,h.OX,h.walk,h.kind,h.k0,h.k1,h.w0,h.w1,h.b0,h.b1,h.c0,h.c1⟩
theorem Gp(h:GJ n J)(a:Yu):Lm st n (J.done a):=⟨⟨⟨h.base,h.node,h.OX,h.walk,h.kind,h.k0,h.k1,h.w0,h.w1,h.b0,h.b1,h.c0,h.c1⟩,Or.inl ⟨rfl,rfl⟩⟩,DP⟩
theorem jA{I:Xh}{c:Xf}(h:GJ n J)(hp:J.pc=11)(hi:J.inner=some I)(hI:IM n I c)(hc:JV st n c):Lm st n (J.F9 c):=by
 unfold Xa.F9;cases hk:!(c.kind==12) with
 |true=>
  have hk:c.kind≠12:=by simpa using hk
  exact De h hc hk (Or.inr (Or.inr (Or.inr (Or.inr (Or.inr (Or.inr (Or.inr (Or.inr (Or.inl ⟨hp,I,hi,hI⟩)))))))))
 |false=>
  simp only[cond_false];cases(!(c.A5.code==1)||J.op.kind==8) with
  |true=>exact Gp (J:={J with answer:=c.A5}) ⟨h.base,h.node,h.OX,h.walk,h.kind,h.k0,h.k1,h.w0,h.w1,h.b0,h.b1,h.c0,h.c1⟩ c.A5
  |false=>exact De ⟨h.base,h.node,h.OX,h.walk,h.kind,h.k0,h.k1,h.w0,h.w1,h.b0,h.b1,h.c0,h.c1⟩ (Bl (Bf Zd Zd)) (by show(3:Int)≠12;decide) (Or.inr (Or.inr (Or.inr (Or.inr (Or.inr (Or.inr (Or.inr (Or.inr (Or.inr (Or.inl rfl))))))))))
theorem GJ.Su(h:GJ n J)(o:Option Xh):GJ n {J with inner:=o}:=⟨h.base,h.node,h.OX,h.walk,h.kind,h.k0,h.k1,h.w0,h.w1,h.b0,h.b1,h.c0,h.c1⟩
theorem Py(hst:st≠2){c:Xf}{I:Xh}(h:GJ n J)(hp:J.pc=11)(hi:J.inner=some I)(hI:IM n I c)(hc:c.kind≠12)(hx:OU st n c x):Lm st n (J.Jy x):=by
 obtain⟨h1,h2⟩:=nP hst hI hc hx;unfold Xa.Jy;rw[hi];exact jA (h.Su _) hp rfl h1 h2
theorem ZD(ha:IP n (Xg J.base 2))(hk:J.op.kind=6\/J.op.kind=7\/J.op.kind=8)(key:Int){c:Xf}(hc:c.kind≠12):IM n (Xh.from_ (Xg J.base 2) key J.op) c:=by
 refine⟨ha,(λW e=>by cases e),Or.inr ⟨Int.le_refl 0,by show(0:Int)<=7;decide⟩,⟨λh=>?_,λh=>absurd h hc⟩,hk,λ_=>⟨λh=>?_,λh=>?_,λh=>?_⟩,λ_=>⟨by show(0:Int)<=6;decide,λh=>?_,λh=>?_⟩,λ_=>⟨by show(0:Int)<=2;decide,λh=>?_,λh=>?_⟩⟩;all_goals first
  |(have h:(0:Int)=-1:=h;omega)
  |(have h:(0:Int)=1:=h;omega)
  |(have h:(2:Int)<=0:=h;omega)
  |(have h:(0:Int)=4:=h;omega)
  |(have h:(0:Int)=1\/(0:Int)=6:=h;omega)
  |(have h:(0:Int)=2:=h;omega)
theorem Mg(hst:st≠2)(h:GJ n J):Lm st n J.perform:=by
 unfold Xa.perform;refine Py hst (c:=Dd) (I:=Xh.from_ (Xg J.base 2) (Gy J.op.key) J.op) ⟨h.base,h.node,h.OX,h.walk,h.kind,h.k0,h.k1,h.w0,h.w1,h.b0,h.b1,h.c0,h.c1⟩ rfl rfl (ZD (Y3 h.base Zd Zd) h.kind _ Zd) Zd ⟨Yr,λ_ e=>(by cases e),λe=>absurd e hst⟩
theorem Mh(hst:st≠2)(h:GJ n J):Lm st n J.Ch:=by
 unfold Xa.Ch;cases J.Am==J.wanted with
 |true=>exact Mg hst h
 |false=>
  have hc:=eZ (b:=J.Am) h.w0 h.w1;exact De ⟨h.base,h.node,h.OX,h.walk,h.kind,h.k0,h.k1,h.w0,h.w1,h.b0,h.b1,hc.2.1,hc.2.2⟩ CZ Zd (Or.inr (Or.inr (Or.inr (Or.inl ⟨rfl,rfl,hc.1⟩))))
theorem sK{a b:Int}(h0:0<=a)(h1:0<b):0<=Int.tmod a b/\Int.tmod a b<b:=⟨Int.tmod_nonneg b h0,Int.tmod_lt_of_pos a h1⟩
theorem Vr(h:GJ n J){z:Int}(hz:z=1\/z=2\/z=4\/z=8):Lm st n (J.Ck z):=by
 have ht:=sK (b:=z) h.k0 Zo;have w1:Int.tmod J.op.key z<8:=Zo;exact De ⟨h.base,h.node,h.OX,h.walk,h.kind,h.k0,h.k1,ht.1,w1,ht.1,w1,h.c0,h.c1⟩ (Bl (Lh ht.1 w1)) (by show(3:Int)≠12;decide) (Or.inr (Or.inr (Or.inl ⟨rfl,Or.inl rfl⟩)))
theorem kQ(k:Int):Cf k=1\/Cf k=2\/Cf k=4\/Cf k=8:=by
 unfold Cf;cases k==2<;>cases k==4<;>cases k==8<;>decide
theorem aV(hst:st≠2)(h:GJ n J)(hw:aC J.wanted J.Am)(hx:CE n x.word):Lm st n (J.EF x):=by
 unfold Xa.EF;cases x.word.sl==0 with
 |false=>exact Mh hst ⟨hx,h.node,h.OX,h.walk,h.kind,h.k0,h.k1,h.w0,h.w1,h.b0,h.b1,h.c0,h.c1⟩
 |true=>
  simp only[Bool.not_true,cond_false];cases hb:J.Am==0 with
  |true=>exact Gp h _
  |false=>
   have hb:J.Am≠0:=by simpa using hb
   have hp:=RD h.b0 h.b1;exact De ⟨h.base,h.node,h.OX,h.walk,h.kind,h.k0,h.k1,h.w0,h.w1,hp.1,hp.2,h.c0,h.c1⟩ (Bl (Lh hp.1 hp.2)) (by show(3:Int)≠12;decide) (Or.inr (Or.inr (Or.inl ⟨rfl,uA h.w0 h.w1 hw hb⟩)))
theorem Pw(hst:st≠2)(h:GJ n J)(hp:J.pc=5)(hn:CD n J.node)(hc:aC J.wanted J.child)(ho:GD J.walk)(hx:CE n x.word):Lm st n (J.Dn x):=by
 obtain⟨h1,h2⟩:=K7 (x:=x) hst h.walk ho hx;have hs:WSo (DH J.walk x).1:=by obtain⟨W,e,_⟩:=ho;rw[e];exact⟨_,rfl⟩
 unfold Xa.Dn;generalize DH J.walk x=r at*;obtain⟨o,c,b⟩:=r;have hcu:=EP h1;simp only at*;have hb:GJ n {J with walk:=o}:=⟨h.base,h.node,h.OX,h1,h.kind,h.k0,h.k1,h.w0,h.w1,h.b0,h.b1,h.c0,h.c1⟩;cases b with
 |true=>exact De hb (h2 rfl).1 (h2 rfl).2.1 (Or.inr (Or.inr (Or.inr (Or.inr (Or.inr (Or.inl ⟨hp,hn,hc,(h2 rfl).2.2⟩))))))
 |false=>
  simp only[cond_false];cases JY o with
  |true=>exact De ⟨hb.base,hb.node,DU hcu.1,hb.walk,hb.kind,hb.k0,hb.k1,hb.w0,hb.w1,hb.b0,hb.b1,hb.c0,hb.c1⟩ (DO hn) (by show(9:Int)≠12;decide) (Or.inr (Or.inr (Or.inr (Or.inr (Or.inr (Or.inr (Or.inr (Or.inl ⟨Or.inl rfl,hc⟩))))))))
  |false=>exact De (hb.Uc 7) (Gk (Bm hn Zd Zd) (DU hcu.1)) (by show(4:Int)≠12;decide) (Or.inr (Or.inr (Or.inr (Or.inr (Or.inr (Or.inr (Or.inl ⟨rfl,hn,hc,hs⟩)))))))
theorem Px(hst:st≠2)(h:GJ n J)(hn:CD n J.node)(hc:aC J.wanted J.child)(hx:CE n x.word):Lm st n (J.Au.Dn x):=by
 have hs:=@Pt n (Xg J.base 2) (Yn J.child) (Y3 h.base Zd Zd);exact Pw hst ⟨h.base,h.node,h.OX,hs.1,h.kind,h.k0,h.k1,h.w0,h.w1,h.b0,h.b1,h.c0,h.c1⟩ rfl hn hc hs.2 hx
theorem YQ(hst:st≠2)(h:GJ n J):Lm st n J.Vg:=Mh hst ⟨h.OX,h.node,h.OX,h.walk,h.kind,h.k0,h.k1,h.w0,h.w1,h.c0,h.c1,h.c0,h.c1⟩
theorem xS{c:Xf}(hst:st≠2)(h:qQ n J c)(hc:c.kind≠12)(hx:OU st n c x):Lm st n (J.next x):=by
 have hw:=hx.1;have hb:=h.b;have ld:∀{J:Xa} {a:X9},GJ n J->IP n a->Sj n J (Yv a)->Lm st n (J,Yv a):=λb a p=>De b (Bl a) (by show(3:Int)≠12;decide) p;rcases h.pc with⟨_,h⟩|⟨_,h⟩
 ·exact absurd h hc
 have l9:aC J.wanted J.child->∀s:Xe,CE n s->Lm st n ({J with sentinel:=s,pc:=9},Yv (FW J.child)):=λho s hs=>
  ld ⟨hb.base,hb.node,hs,hb.walk,hb.kind,hb.k0,hb.k1,hb.w0,hb.w1,hb.b0,hb.b1,hb.c0,hb.c1⟩ (Lh hb.c0 hb.c1) (Or.inr (Or.inr (Or.inr (Or.inr (Or.inr (Or.inr (Or.inr (Or.inl ⟨Or.inr (Or.inl rfl),ho⟩))))))))
 rcases h with hp|hp|⟨hp,ho⟩|⟨hp,h8,ho⟩|⟨hp|hp,hn,ho⟩|⟨hp,hn,ho,hwk⟩|⟨hp,hn,ho,hwk⟩|⟨hp|hp|hp,ho⟩|⟨hp,I,hi,hI⟩|hp|hp|hp|hp
 ·have e:J.next x=({J with pc:=1},Yv (root 16)):=by unfold Xa.next;rw[hp];rfl
  rw[e];exact ld (hb.Uc 1) (Bf Zd Zd) (Or.inr (Or.inl rfl))
 ·have e:J.next x=J.Ck (Cf x.word.nm):=by unfold Xa.next;rw[hp];rfl
  rw[e];exact Vr hb (kQ _)
 ·have e:J.next x=J.EF x:=by unfold Xa.next;rw[hp];rfl
  rw[e];exact aV hst hb ho hw
 ·have e:J.next x=bif !x.ok then J.perform else({J with node:=x.word,pc:=4},AV (Xg x.word 0) (Yy (Yn J.child))):=by unfold Xa.next Xa.Al;rw[hp];rfl
  rw[e];cases hok:x.ok with
  |false=>exact Mg hst hb
  |true=>
   have hn:=hx.2.1 h8 hok;exact De ⟨hb.base,hw,hb.OX,hb.walk,hb.kind,hb.k0,hb.k1,hb.w0,hb.w1,hb.b0,hb.b1,hb.c0,hb.c1⟩ (Gk (Bm hn Zd Zd) Cd) (by show(4:Int)≠12;decide) (Or.inr (Or.inr (Or.inr (Or.inr (Or.inl ⟨Or.inl rfl,hn,ho⟩)))))
 ·have e:J.next x=J.Au.Dn x:=by unfold Xa.next Xa.Al;rw[hp];rfl
  rw[e];exact Px hst hb hn ho hw
 ·have e:J.next x=bif x.ok then({J with sentinel:=J.node,pc:=9},Yv (FW J.child)) else J.Au.Dn x:=by unfold Xa.next Xa.Al;rw[hp];rfl
  rw[e];cases x.ok with
  |true=>exact l9 ho _ hb.node
  |false=>exact Px hst hb hn ho hw
 ·have e:J.next x=J.Dn x:=by unfold Xa.next Xa.Al;rw[hp];rfl
  rw[e];exact Pw hst hb hp hn ho hwk hw
 ·have e:J.next x=({J with pc:=8},Y6 (CM J.walk) (Y9 J.walk) (En (Y9 J.walk) J.node)):=by unfold Xa.next Xa.Al;rw[hp];rfl
  rw[e];have hcu:=EP hb.walk;exact De (hb.Uc 8) (Bx hcu.2.2.1 (EK hst (DX hb.node)) rfl) (by show(5:Int)≠12;decide) (Or.inr (Or.inr (Or.inr (Or.inr (Or.inl ⟨Or.inr rfl,hn,ho⟩)))))
 ·have e:J.next x=({J with pc:=9},Yv (FW J.child)):=by unfold Xa.next Xa.Al;rw[hp];rfl
  rw[e];exact l9 ho _ hb.OX
 ·have e:J.next x=bif x.word.sl==0 then({J with pc:=10},Y6 (FW J.child) x.word (En x.word J.sentinel)) else J.Vg:=by unfold Xa.next Xa.Al;rw[hp];rfl
  rw[e];cases x.word.sl==0 with
  |true=>exact De (hb.Uc 10) (Bx (Lh hb.c0 hb.c1) (EK hst (DX hb.OX)) rfl) (by show(5:Int)≠12;decide) (Or.inr (Or.inr (Or.inr (Or.inr (Or.inr (Or.inr (Or.inr (Or.inl ⟨Or.inr (Or.inr rfl),ho⟩))))))))
  |false=>exact YQ hst hb
 ·have e:J.next x=J.Vg:=by unfold Xa.next Xa.Al;rw[hp];rfl
  rw[e];exact YQ hst hb
 ·have e:J.next x=J.Jy x:=by unfold Xa.next;rw[hp];rfl
  rw[e];exact Py hst hb hp hi hI hc hx
 ·have e:J.next x=J.GV x:=by unfold Xa.next;rw[hp];rfl
  rw[e];exact De ⟨hb.base,hb.node,hb.OX,hb.walk,hb.kind,hb.k0,hb.k1,hb.w0,hb.w1,hb.b0,hb.b1,hb.c0,hb.c1⟩ (Bx (Bf Zd Zd) (EK hst Cs) rfl) (by show(5:Int)≠12;decide) (Or.inr (Or.inr (Or.inr (Or.inr (Or.inr (Or.inr (Or.inr (Or.inr (Or.inr (Or.inr (Or.inl rfl)))))))))))
 ·have e:J.next x=J.Ih x:=by unfold Xa.next;rw[hp];rfl
  rw[e];unfold Xa.Ih;cases x.ok with
  |false=>exact ld (hb.Uc 12) (Bf Zd Zd) (Or.inr (Or.inr (Or.inr (Or.inr (Or.inr (Or.inr (Or.inr (Or.inr (Or.inr (Or.inl rfl))))))))))
  |true=>
   cases J.op.kind==7 with
   |true=>exact Gp hb _
   |false=>
    cases J.size==8 with
    |true=>exact Gp hb _
    |false=>
     cases decide (J.count.nm<wr (2*J.size)) with
     |true=>exact Gp hb _
     |false=>exact ld (hb.Uc 14) (Bf Zd Zd) (Or.inr (Or.inr (Or.inr (Or.inr (Or.inr (Or.inr (Or.inr (Or.inr (Or.inr (Or.inr (Or.inr (Or.inl rfl))))))))))))
 ·have e:J.next x=J.DD x:=by unfold Xa.next;rw[hp];rfl
  rw[e];unfold Xa.DD;cases x.word.nm==J.size with
  |true=>exact De (hb.Uc 15) (Bx (Bf Zd Zd) (EK hst Cs) rfl) (by show(5:Int)≠12;decide) (Or.inr (Or.inr (Or.inr (Or.inr (Or.inr (Or.inr (Or.inr (Or.inr (Or.inr (Or.inr (Or.inr (Or.inr rfl))))))))))))
  |false=>exact Gp hb _
 ·have e:J.next x=J.done J.answer:=by unfold Xa.next;rw[hp];rfl
  rw[e];exact Gp hb _
end
end Go.Proofs.YtaipogljokblkaaGreatDoor
