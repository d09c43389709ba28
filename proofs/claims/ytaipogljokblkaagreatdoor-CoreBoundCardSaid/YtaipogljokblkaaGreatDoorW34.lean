/- Core: LD, LE. -/
import Derived.Test.YtaipogljokblkaaGreatDoorW10
import Derived.Test.YtaipogljokblkaaGreatDoorW01
set_option linter.all false
set_option maxRecDepth 100000
set_option maxHeartbeats 8000000
namespace Go.Proofs.YtaipogljokblkaaGreatDoor
open Go Go.RowKit
set_option linter.unusedSimpArgs false
set_option linter.unusedVariables false
set_option linter.unusedSectionVars false
def ClO(n:Nat)(o:Option Xe):Prop:=∀C,o=some C->Te n C
def PZ(o:Option Xe):Prop:=∃C,o=some C/\C.pc≠-1
def RA(o:Option Xe):Prop:=∃C,o=some C
theorem PZ.so{o:Option Xe}(h:PZ o):RA o:=h.imp λ_ h=>h.1
theorem Pr{n:Nat}{b:Int}:ClO n (some (Xe.new b))/\PZ (some (Xe.new b)):=
 ⟨λC e=>by cases e;exact iJ,_,rfl,by simp[Xe.new,Xe.zero]⟩
theorem Rr{n:Nat}{o:Option Xe}(h:ClO n o)(l:Int):No n (Yt o l):=by
 cases o with
 |none=>exact Fc
 |some C=>
  have hb:=(h C rfl).b;show No n (Fk C l);unfold Fk Xe.getS;(repeat' split)
  ·exact Fc
  ·exact Fc
  ·exact hb.s0
  ·exact hb.s1
  ·exact hb.s2
theorem iM{n:Nat}{o:Option Xe}(h:ClO n o):CI n (Dl o):=by
 cases o with
 |none=>exact Yq
 |some C=>exact(h C rfl).b.fd
theorem iK{st:Int}{n:Nat}{o:Option Xe}{x:Xj}(hst:st≠2)(h:ClO n o)(hp:PZ o)(hx:CI n x.word):
  ClO n (Bb o x).1/\RA (Bb o x).1/\((Bb o x).2.2=true->JO st n (Bb o x).2.1/\(Bb o x).2.1.kind≠12/\PZ (Bb o x).1):=by
 obtain⟨C,rfl,hpc⟩:=hp
 have hw:=qQ (x:=x) hst (h C rfl) hpc hx
 refine⟨λC' e=>?_,⟨_,rfl⟩,λe=>?_⟩
 ·cases e;exact hw.1
 ·exact⟨(hw.2.1 e).1,(hw.2.1 e).2.1,_,rfl,(hw.2.1 e).2.2⟩
structure IP(n:Nat)(J:Xc):Prop where
 node:CI n J.node
 Ab:ClO n J.Ab
 op:(J.op.kind=6/\1<=J.op.Aj/\J.op.Aj<=3)\/J.op.kind=7\/J.op.kind=8
 l0:0<=J.level
 l3:J.level<=3
def StePc(n:Nat)(J:Xc)(c:Xf):Prop:=
 (J.pc=-1/\c.kind=12)\/(c.kind≠12/\(
  J.pc=0\/
  (J.op.kind=6/\J.pc=1/\c.kind=8)\/
  (J.op.kind=6/\(J.pc=2\/J.pc=3\/J.pc=4)/\CH n J.node)\/
  (J.op.kind=6/\J.pc=5/\CH n J.node/\PZ J.Ab)\/
  (J.op.kind=6/\(J.pc=6\/J.pc=8)/\CH n J.node/\RA J.Ab)\/
  (J.op.kind=6/\J.pc=7/\J.level<=2/\CH n J.node/\RA J.Ab)\/
  (J.op.kind=6/\(J.pc=9\/J.pc=10\/J.pc=11)/\J.level<=2/\CH n J.node/\RA J.Ab)\/
  (J.op.kind=6/\J.pc=12/\J.level<=2/\CH n J.node/\PZ J.Ab)\/
  ((J.op.kind=7\/J.op.kind=8)/\J.pc=1/\PZ J.Ab)\/
  ((J.op.kind=7\/J.op.kind=8)/\J.pc=2/\CH n J.node/\RA J.Ab)\/
  (J.op.kind=7/\(J.pc=3\/J.pc=4\/J.pc=5)/\J.level<=2/\CH n J.node/\RA J.Ab)\/
  (J.op.kind=7/\J.pc=6/\CH n J.node/\PZ J.Ab)\/
  ((J.op.kind=6\/J.op.kind=7)/\(J.pc=101\/J.pc=102\/J.pc=104)/\CH n J.node/\RA J.Ab)\/
  ((J.op.kind=6\/J.op.kind=7)/\J.pc=103/\CH n J.node/\PZ J.Ab)))
structure jE(n:Nat)(J:Xc)(c:Xf):Prop where
 b:IP n J
 pc:StePc n J c
def LX(st:Int)(n:Nat)(r:Xc × Xf):Prop:=jE n r.1 r.2/\JO st n r.2
theorem rM{l:Int}(h0:0<=l)(h1:l<=3):wr (2+l)=2+l:=Iy Zo Zo
theorem Bx {st:Int} {n:Nat} {J:Xc} {c:Xf} (b:IP n J) (hc:JO st n c) (hk:c.kind≠12) (hp:
  J.pc=0\/
  (J.op.kind=6/\J.pc=1/\c.kind=8)\/
  (J.op.kind=6/\(J.pc=2\/J.pc=3\/J.pc=4)/\CH n J.node)\/
  (J.op.kind=6/\J.pc=5/\CH n J.node/\PZ J.Ab)\/
  (J.op.kind=6/\(J.pc=6\/J.pc=8)/\CH n J.node/\RA J.Ab)\/
  (J.op.kind=6/\J.pc=7/\J.level<=2/\CH n J.node/\RA J.Ab)\/
  (J.op.kind=6/\(J.pc=9\/J.pc=10\/J.pc=11)/\J.level<=2/\CH n J.node/\RA J.Ab)\/
  (J.op.kind=6/\J.pc=12/\J.level<=2/\CH n J.node/\PZ J.Ab)\/
  ((J.op.kind=7\/J.op.kind=8)/\J.pc=1/\PZ J.Ab)\/
  ((J.op.kind=7\/J.op.kind=8)/\J.pc=2/\CH n J.node/\RA J.Ab)\/
  (J.op.kind=7/\(J.pc=3\/J.pc=4\/J.pc=5)/\J.level<=2/\CH n J.node/\RA J.Ab)\/
  (J.op.kind=7/\J.pc=6/\CH n J.node/\PZ J.Ab)\/
  ((J.op.kind=6\/J.op.kind=7)/\(J.pc=101\/J.pc=102\/J.pc=104)/\CH n J.node/\RA J.Ab)\/
  ((J.op.kind=6\/J.op.kind=7)/\J.pc=103/\CH n J.node/\PZ J.Ab)):LX st n (J,c):=⟨⟨b,Or.inr ⟨hk,hp⟩⟩,hc⟩
section
variable{st:Int}{n:Nat}{J:Xc}{x:Xj}
theorem IP.UF(h:IP n J)(p:Int):IP n {J with pc:=p}:=⟨h.node,h.Ab,h.op,h.l0,h.l3⟩
theorem Gy(h:IP n J)(a b:Int):LX st n (J.done a b):=⟨⟨⟨h.node,h.Ab,h.op,h.l0,h.l3⟩,Or.inl ⟨rfl,rfl⟩⟩,Ea⟩
theorem Lb(h:IP n J)(hk:J.op.kind=6\/J.op.kind=7)(hn:CH n J.node)(hc:RA J.Ab)(b:Int):LX st n (J.part b):=
 Bx ⟨h.node,h.Ab,h.op,h.l0,h.l3⟩ (Bm (Y1 h.node Zd Zd)) (by show(3:Int)≠12;decide) (by simp only;grind)
theorem Ld(h:IP n J)(hk:J.op.kind=6)(hn:CH n J.node)(hc:RA J.Ab):LX st n J.link:=by
 unfold Xc.link;cases hd:decide (J.op.Aj<=J.level) with
 |true=>exact Lb h (Or.inl hk) hn hc 1
 |false=>
  have hd:¬J.op.Aj<=J.level:=of_decide_eq_false hd;have ho:=h.op;have hl:J.level<=2:=Zo;have h0:=h.l0;refine Bx ⟨h.node,h.Ab,h.op,h.l0,h.l3⟩ (Bm ?_) (by show(3:Int)≠12;decide) (by simp only;grind);rw[rM h.l0 h.l3];exact Y1 h.node Zo Zo
theorem Lc(h:IP n J)(hk:J.op.kind=7)(hl:J.level<=2)(hn:CH n J.node)(hc:RA J.Ab):LX st n J.look:=by
 have h0:=h.l0;refine Bx ⟨h.node,h.Ab,h.op,h.l0,h.l3⟩ (Bm ?_) (by show(3:Int)≠12;decide) (by simp only;grind);rw[rM h.l0 h.l3];exact Y1 h.node Zo Zo
theorem TC(hst:st≠2)(h:IP n J)(hk:J.op.kind=6)(hn:CH n J.node)(hc:RA J.Ab){lv:Int}(h0:0<=lv)(h3:lv<=3):LX st n (J.M5 lv):=by
 have sp:=λl=>Rr h.Ab l;unfold Xc.M5;simp only;cases hd:decide (lv<J.op.Aj) with
 |true=>
  have hd:lv<J.op.Aj:=of_decide_eq_true hd;have ho:=h.op;have hl:lv<=2:=Zo;refine Bx ⟨h.node,h.Ab,h.op,h0,h3⟩ (Gt ?_ (Ef (sp lv).2)) (by show(4:Int)≠12;decide) (by simp only;grind);rw[rM h0 h3];exact Bn hn Zo Zo
 |false=>
  exact Bx ⟨h.node,h.Ab,h.op,h0,h3⟩ (B6 (sp 0).1 (EV hst (Ei h.node)) rfl) (by show(5:Int)≠12;decide) (by simp only;grind)
theorem Oo(hst:st≠2)(h:IP n J)(ho:PZ J.Ab)(hx:CI n x.word):IP n {J with Ab:=(Bb J.Ab x).1}/\RA (Bb J.Ab x).1/\((Bb J.Ab x).2.2=true->JO st n (Bb J.Ab x).2.1/\(Bb J.Ab x).2.1.kind≠12/\PZ (Bb J.Ab x).1):=by
 have hc:=iK (x:=x) hst h.Ab ho hx;exact⟨⟨h.node,hc.1,h.op,h.l0,h.l3⟩,hc.2.1,hc.2.2⟩
theorem On(hst:st≠2)(h:IP n J)(hk:J.op.kind=6)(hp:J.pc=5)(hn:CH n J.node)(ho:PZ J.Ab)(hx:CI n x.word):LX st n (J.Ig x):=by
 obtain⟨h1,h2,h3⟩:=Oo hst h ho hx;unfold Xc.Ig;generalize Bb J.Ab x=r at*;obtain⟨o,c,b⟩:=r;simp only at*;cases b with
 |true=>exact Bx h1 (h3 rfl).1 (h3 rfl).2.1 (by have:=(h3 rfl).2.2;simp only;grind)
 |false=>
  simp only[cond_false];cases hf:!((Dl o).sl==0) with
  |true=>exact Bx (h1.UF 6) (DZ hn) (by show(9:Int)≠12;decide) (by simp only;grind)
  |false=>exact TC hst h1 hk hn h2 Zd Zd
theorem QA(hst:st≠2)(h:IP n J)(hk:J.op.kind=6)(hp:J.pc=12)(hl:J.level<=2)(hn:CH n J.node)(ho:PZ J.Ab)(hx:CI n x.word):LX st n (J.Gi x):=by
 obtain⟨h1,h2,h3⟩:=Oo hst h ho hx;unfold Xc.Gi;generalize Bb J.Ab x=r at*;obtain⟨o,c,b⟩:=r;simp only at*;cases b with
 |true=>exact Bx h1 (h3 rfl).1 (h3 rfl).2.1 (by have:=(h3 rfl).2.2;simp only;grind)
 |false=>
  simp only[cond_false];cases hf:!rV (Dl o) J.node with
  |true=>exact Lb h1 (Or.inl hk) hn h2 1
  |false=>exact Ld h1 hk hn h2
theorem La(hst:st≠2)(h:IP n J)(hk:J.op.kind=7\/J.op.kind=8)(hp:J.pc=1)(ho:PZ J.Ab)(hx:CI n x.word){f:Int}(f0:0<=f)(f9:f<10):LX st n (J.FH x f):=by
 obtain⟨h1,h2,h3⟩:=Oo hst h ho hx;have hF:=iM h1.Ab;unfold Xc.FH;generalize Bb J.Ab x=r at*;obtain⟨o,c,b⟩:=r;simp only at*;cases b with
 |true=>exact Bx h1 (h3 rfl).1 (h3 rfl).2.1 (by have:=(h3 rfl).2.2;simp only;grind)
 |false=>
  simp only[cond_false];cases hf:(Dl o).sl==0 with
  |true=>exact Gy (J:={J with Ab:=o,node:=Dl o}) ⟨hF,h1.Ab,h1.op,h1.l0,h1.l3⟩ 2 0
  |false=>
   have hf:¬(Dl o).sl=0:=by simpa using hf
   have hn:=Ee hF hf;exact Bx ⟨hF,h1.Ab,h1.op,h1.l0,h1.l3⟩ (Bm (Y1 hF f0 f9)) (by show(3:Int)≠12;decide) (by simp only;grind)
theorem TA(hst:st≠2)(h:IP n J)(hk:J.op.kind=7)(hp:J.pc=6)(hn:CH n J.node)(ho:PZ J.Ab)(hx:CI n x.word):LX st n (J.Kj x):=by
 obtain⟨h1,h2,h3⟩:=Oo hst h ho hx;unfold Xc.Kj;generalize Bb J.Ab x=r at*;obtain⟨o,c,b⟩:=r;simp only at*;cases b with
 |true=>exact Bx h1 (h3 rfl).1 (h3 rfl).2.1 (by have:=(h3 rfl).2.2;simp only;grind)
 |false=>exact Lb h1 (Or.inr hk) hn h2 2
theorem RM(hst:st≠2)(h:IP n J)(hk:J.op.kind=6\/J.op.kind=7)(hp:J.pc=103)(hn:CH n J.node)(ho:PZ J.Ab)(hx:CI n x.word):LX st n (J.fin x):=by
 obtain⟨h1,h2,h3⟩:=Oo hst h ho hx;unfold Xc.fin;generalize Bb J.Ab x=r at*;obtain⟨o,c,b⟩:=r;simp only at*;cases b with
 |true=>exact Bx h1 (h3 rfl).1 (h3 rfl).2.1 (by have:=(h3 rfl).2.2;simp only;grind)
 |false=>exact Bx (h1.UF 104) (CO hn) (by show(10:Int)≠12;decide) (by simp only;grind)
theorem BO(h:IP n J)(p b:Int):IP n (J.An p b)/\PZ (J.An p b).Ab:=⟨⟨h.node,(Pr (n:=n)).1,h.op,h.l0,h.l3⟩,(Pr (n:=n)).2⟩
theorem yP{c:Xf}(hst:st≠2)(h:jE n J c)(hc:c.kind≠12)(hx:PC st n c x):LX st n (J.next x):=by
 have hw:=hx.1;have hb:=h.b;have sp:=λl=>Rr hb.Ab l;have h0:=hb.l0;have h3:=hb.l3;rcases h.pc with⟨_,h⟩|⟨_,h⟩
 ·exact absurd h hc
 rcases h with hp|⟨hk,hp,hc8⟩|⟨hk,hp,hn⟩|⟨hk,hp,hn,ho⟩|⟨hk,hp,hn,ho⟩|⟨hk,hp,hl,hn,ho⟩|⟨hk,hp,hl,hn,ho⟩|⟨hk,hp,hl,hn,ho⟩|⟨hk,hp,ho⟩|⟨hk,hp,hn,ho⟩|⟨hk,hp,hl,hn,ho⟩|⟨hk,hp,hn,ho⟩|⟨hk,hp,hn,ho⟩|⟨hk,hp,hn,ho⟩
 ·
  rcases hb.op with⟨hk,_⟩|hk|hk
  ·have e:J.next x=({J with pc:=1},AK):=by unfold Xc.next Xc.insert;rw[hp,hk];rfl
   rw[e];exact Bx (hb.UF 1) Di Zd (by simp only;grind [Gm])
  ·have e:J.next x=(J.An 1 J.op.key).FH x 6:=by unfold Xc.next Xc.Am;rw[hp,hk];rfl
   rw[e];exact La hst (BO hb _ _).1 (Or.inl hk) rfl (BO hb _ _).2 hw Zd Zd
  ·have e:J.next x=(J.An 1 J.op.key).FH x 1:=by unfold Xc.next Xc.get;rw[hp,hk];rfl
   rw[e];exact La hst (BO hb _ _).1 (Or.inr hk) rfl (BO hb _ _).2 hw Zd Zd
 ·
  have e:J.next x=bif !x.ok then J.done 4 0 else({J with node:=x.word,pc:=2},Yf (Xg x.word 0) (Y5 J.op.key)):=by unfold Xc.next Xc.insert;rw[hp,hk];rfl
  rw[e];cases ho:x.ok with
  |false=>exact Gy hb _ _
  |true=>
   have hn:=hx.2.1 hc8 ho;exact Bx ⟨hw,hb.Ab,hb.op,hb.l0,hb.l3⟩ (Gt (Bn hn Zd Zd) Cg) (by show(4:Int)≠12;decide) (by simp only;grind)
 ·rcases hp with hp|hp|hp
  ·have e:J.next x=({J with pc:=3},Yf (Xg J.node 1) (Y5 J.op.val)):=by unfold Xc.next Xc.insert;rw[hp,hk];rfl
   rw[e];exact Bx (hb.UF 3) (Gt (Bn hn Zd Zd) Cg) (by show(4:Int)≠12;decide) (by simp only;grind)
  ·have e:J.next x=({J with pc:=4},Yf (Xg J.node 6) (Y5 J.op.Aj)):=by unfold Xc.next Xc.insert;rw[hp,hk];rfl
   rw[e];exact Bx (hb.UF 4) (Gt (Bn hn Zd Zd) Cg) (by show(4:Int)≠12;decide) (by simp only;grind)
  ·have e:J.next x=(J.An 5 J.op.key).Ig x:=by unfold Xc.next Xc.insert;rw[hp,hk];rfl
   rw[e];exact On hst (BO hb _ _).1 hk rfl hn (BO hb _ _).2 hw
 ·have e:J.next x=J.Ig x:=by unfold Xc.next Xc.insert;rw[hp,hk];rfl
  rw[e];exact On hst hb hk hp hn ho hw
 ·rcases hp with hp|hp
  ·have e:J.next x=J.done 3 0:=by unfold Xc.next Xc.insert;rw[hp,hk];rfl
   rw[e];exact Gy hb _ _
  ·have e:J.next x=bif x.ok then Xc.link {J with level:=1} else(J.An 5 J.op.key).Ig x:=by unfold Xc.next Xc.insert;rw[hp,hk];rfl
   rw[e];cases x.ok with
   |true=>exact Ld ⟨hb.node,hb.Ab,hb.op,by show(0:Int)<=1;decide,by show(1:Int)<=3;decide⟩ hk hn ho
   |false=>exact On hst (BO hb _ _).1 hk rfl hn (BO hb _ _).2 hw
 ·have e:J.next x=J.M5 (wr (J.level+1)):=by unfold Xc.next Xc.insert;rw[hp,hk];rfl
  rw[e,Iy Zo Zo];exact TC hst hb hk hn ho Zo Zo
 ·have sw:LX st n ({J with pc:=11},Xx (Yt J.Ab J.level).prev (Yt J.Ab J.level).Ay (BC (Yt J.Ab J.level).Ay J.node)):=
   Bx (hb.UF 11) (B6 (sp _).1 (EV hst (Ei hb.node)) rfl) (by show(5:Int)≠12;decide) (by simp only;grind)
  rcases hp with hp|hp|hp
  ·have e:J.next x=bif x.word.mark then J.part 1 else bif !bP x.word (Yt J.Ab J.level).Ay then({J with pc:=10},Xx (Xg J.node (wr (2+J.level))) x.word (BC x.word (Yt J.Ab J.level).Ay)) else({J with pc:=11},Xx (Yt J.Ab J.level).prev (Yt J.Ab J.level).Ay (BC (Yt J.Ab J.level).Ay J.node)):=by unfold Xc.next Xc.raise;rw[hp,hk];rfl
   rw[e];cases x.word.mark with
   |true=>exact Lb hb (Or.inl hk) hn ho 1
   |false=>
    cases bP x.word (Yt J.Ab J.level).Ay with
    |false=>
     refine Bx (hb.UF 10) (B6 ?_ (EV hst (Ei (sp _).2)) rfl) (by show(5:Int)≠12;decide) (by simp only;grind);rw[rM h0 h3];exact Y1 hb.node Zo Zo
    |true=>exact sw
  ·have e:J.next x=bif !x.ok then J.link else({J with pc:=11},Xx (Yt J.Ab J.level).prev (Yt J.Ab J.level).Ay (BC (Yt J.Ab J.level).Ay J.node)):=by unfold Xc.next Xc.raise;rw[hp,hk];rfl
   rw[e];cases x.ok with
   |false=>exact Ld hb hk hn ho
   |true=>exact sw
  ·have e:J.next x=bif x.ok then Xc.link {J with level:=wr (J.level+1)} else(J.An 12 J.op.key).Gi x:=by unfold Xc.next Xc.raise;rw[hp,hk];rfl
   rw[e,Iy Zo Zo];cases x.ok with
   |true=>exact Ld ⟨hb.node,hb.Ab,hb.op,by show 0<=J.level+1;omega,by show J.level+1<=3;omega⟩ hk hn ho
   |false=>exact QA hst (BO hb _ _).1 hk rfl hl hn (BO hb _ _).2 hw
 ·have e:J.next x=J.Gi x:=by unfold Xc.next Xc.raise;rw[hp,hk];rfl
  rw[e];exact QA hst hb hk hp hl hn ho hw
 ·rcases hk with hk|hk
  ·have e:J.next x=J.FH x 6:=by unfold Xc.next Xc.Am;rw[hp,hk];rfl
   rw[e];exact La hst hb (Or.inl hk) hp ho hw Zd Zd
  ·have e:J.next x=J.FH x 1:=by unfold Xc.next Xc.get;rw[hp,hk];rfl
   rw[e];exact La hst hb (Or.inr hk) hp ho hw Zd Zd
 ·rcases hk with hk|hk
  ·have e:J.next x=bif decide (x.word.nm<1) then({J with level:=0,pc:=3},X8 (Xg J.node 1)) else bif decide (3<x.word.nm) then({J with level:=0,pc:=3},X8 (Xg J.node 1)) else({J with level:=wr (x.word.nm-1),pc:=3},X8 (Xg J.node 1)):=by unfold Xc.next Xc.Am;rw[hp,hk];rfl
   rw[e];have one:∀l:Int,0<=l->l<=2->LX st n ({J with level:=l,pc:=3},X8 (Xg J.node 1)):=λl a b=>
    Bx ⟨hb.node,hb.Ab,hb.op,a,by show l<=3;omega⟩ (Bm (Y1 hb.node Zd Zd)) (by show(3:Int)≠12;decide) (by simp only;grind)
   cases h1:decide (x.word.nm<1) with
   |true=>exact one 0 Zd Zd
   |false=>
    have h1:¬x.word.nm<1:=of_decide_eq_false h1;cases h2:decide (3<x.word.nm) with
    |true=>exact one 0 Zd Zd
    |false=>
     have h2:¬3<x.word.nm:=of_decide_eq_false h2;rw[Iy Zo Zo];exact one (x.word.nm-1) Zo Zo
  ·have e:J.next x=J.done 1 x.word.nm:=by unfold Xc.next Xc.get;rw[hp,hk];rfl
   rw[e];exact Gy hb _ _
 ·rcases hp with hp|hp|hp
  ·have e:J.next x=Xc.look {J with val:=x.word.nm}:=by unfold Xc.next Xc.Am;rw[hp,hk];rfl
   rw[e];exact Lc ⟨hb.node,hb.Ab,hb.op,hb.l0,hb.l3⟩ hk hl hn ho
  ·have e:J.next x=bif !x.word.mark then({J with pc:=5},Xx (Xg J.node (wr (2+J.level))) x.word (Bg x.word)) else bif J.level==0 then J.done 2 0 else Xc.look {J with level:=wr (J.level-1)}:=by unfold Xc.next Xc.Am;rw[hp,hk];rfl
   rw[e,rM h0 h3];cases x.word.mark with
   |false=>
    exact Bx (hb.UF 5) (B6 (Y1 hb.node Zo Zo) (EV hst (CM hw)) rfl) (by show(5:Int)≠12;decide) (by simp only;grind)
   |true=>
    cases hz:J.level==0 with
    |true=>exact Gy hb _ _
    |false=>
     have hz:J.level≠0:=by simpa using hz
     rw[Iy Zo Zo];exact Lc ⟨hb.node,hb.Ab,hb.op,by show 0<=J.level-1;omega,by show J.level-1<=3;omega⟩ hk (by show J.level-1<=2;omega) hn ho
  ·have e:J.next x=bif !x.ok then J.look else bif decide (0<J.level) then Xc.look {J with level:=wr (J.level-1)} else(J.An 6 (wr (J.op.key+1))).Kj x:=by unfold Xc.next Xc.Am;rw[hp,hk];rfl
   rw[e];cases x.ok with
   |false=>exact Lc hb hk hl hn ho
   |true=>
    cases hz:decide (0<J.level) with
    |true=>
     have hz:0<J.level:=of_decide_eq_true hz;rw[Iy Zo Zo];exact Lc ⟨hb.node,hb.Ab,hb.op,by show 0<=J.level-1;omega,by show J.level-1<=3;omega⟩ hk (by show J.level-1<=2;omega) hn ho
    |false=>exact TA hst (BO hb _ _).1 hk rfl hn (BO hb _ _).2 hw
 ·have e:J.next x=J.Kj x:=by unfold Xc.next Xc.Am;rw[hp,hk];rfl
  rw[e];exact TA hst hb hk hp hn ho hw
 ·rcases hp with hp|hp|hp
  ·have e:J.next x=bif x.word.nm==0 then({J with pc:=102},Xx (Xg J.node 7) x.word (Cx x.word J.Kf)) else(J.An 103 (wr (J.op.key+1))).fin x:=by unfold Xc.next Xc.finish;rw[hp];rfl
   rw[e];cases x.word.nm==0 with
   |true=>exact Bx (hb.UF 102) (B6 (Y1 hb.node Zd Zd) (EV hst Cw) rfl) (by show(5:Int)≠12;decide) (by simp only;grind)
   |false=>exact RM hst (BO hb _ _).1 hk rfl hn (BO hb _ _).2 hw
  ·have e:J.next x=bif x.ok then J.done 1 J.val else(J.An 103 (wr (J.op.key+1))).fin x:=by unfold Xc.next Xc.finish;rw[hp];rfl
   rw[e];cases x.ok with
   |true=>exact Gy hb _ _
   |false=>exact RM hst (BO hb _ _).1 hk rfl hn (BO hb _ _).2 hw
  ·have e:J.next x=J.done 1 J.val:=by unfold Xc.next Xc.finish;rw[hp];rfl
   rw[e];exact Gy hb _ _
 ·have e:J.next x=J.fin x:=by unfold Xc.next Xc.finish;rw[hp];rfl
  rw[e];exact RM hst hb hk hp hn ho hw
end
def bM(wanted Ai:Int):Prop:=Ai=wanted\/Ai=E4 wanted\/Ai=E4 (E4 wanted)\/Ai=E4 (E4 (E4 wanted))
theorem int8{n:Int}(h0:0<=n)(h1:n<8):n=0\/n=1\/n=2\/n=3\/n=4\/n=5\/n=6\/n=7:=Zo
theorem S8{b:Int}(h0:0<=b)(h1:b<8):0<=E4 b/\E4 b<8:=by
 rcases int8 h0 h1 with rfl|rfl|rfl|rfl|rfl|rfl|rfl|rfl<;>decide
theorem uL{a b:Int}(a0:0<=a)(a1:a<8)(h:bM a b)(hb:b≠0):bM a (E4 b):=by
 rcases int8 a0 a1 with rfl|rfl|rfl|rfl|rfl|rfl|rfl|rfl<;>rcases h with rfl|rfl|rfl|rfl<;>first|exact absurd rfl hb|(unfold bM;decide)
theorem gC{a b:Int}(a0:0<=a)(a1:a<8):bM a (II a b)/\0<=II a b/\II a b<8:=by
 have p1:=S8 a0 a1;have p2:=S8 p1.1 p1.2;unfold II;cases E4 a==b with
 |true=>exact⟨Or.inl rfl,a0,a1⟩
 |false=>
  cases E4 (E4 a)==b with
  |true=>exact⟨Or.inr (Or.inl rfl),p1⟩
  |false=>exact⟨Or.inr (Or.inr (Or.inl rfl)),p2⟩
theorem LN{n:Nat}{b:Int}(h0:0<=b)(h1:b<8):Je n (DI b):=by
 unfold DI;rw[Iy (n:=8+b) Zo Zo,Iy Zo Zo];exact Bf Zo Zo
structure GN(n:Nat)(J:Xa):Prop where
 base:CI n J.base
 node:CI n J.node
 Qf:CI n J.sentinel
 walk:LS n J.walk
 kind:J.op.kind=6\/J.op.kind=7\/J.op.kind=8
 k0:0<=J.op.key
 k1:J.op.key<256
 w0:0<=J.wanted
 w1:J.wanted<8
 b0:0<=J.Ai
 b1:J.Ai<8
 c0:0<=J.child
 c1:J.child<8
def WSo(o:Option Xq):Prop:=∃W,o=some W
def SZ(n:Nat)(J:Xa)(c:Xf):Prop:=
  J.pc=0\/J.pc=1\/
  (J.pc=2/\bM J.wanted J.Ai)\/
  (J.pc=3/\c.kind=8/\bM J.wanted J.child)\/
  ((J.pc=4\/J.pc=8)/\CH n J.node/\bM J.wanted J.child)\/
  (J.pc=5/\CH n J.node/\bM J.wanted J.child/\GK J.walk)\/
  (J.pc=7/\CH n J.node/\bM J.wanted J.child/\WSo J.walk)\/
  ((J.pc=6\/J.pc=9\/J.pc=10)/\bM J.wanted J.child)\/
  (J.pc=11/\∃I,J.inner=some I/\Jb n I c)\/
  J.pc=12\/J.pc=13\/J.pc=14\/J.pc=15
structure rG(n:Nat)(J:Xa)(c:Xf):Prop where
 b:GN n J
 pc:(J.pc=-1/\c.kind=12)\/(c.kind≠12/\SZ n J c)
def LU(st:Int)(n:Nat)(r:Xa × Xf):Prop:=rG n r.1 r.2/\JO st n r.2
section
variable{st:Int}{n:Nat}{J:Xa}{x:Xj}
theorem Dm{c:Xf}(b:GN n J)(hc:JO st n c)(hk:c.kind≠12)(hp:SZ n J c):LU st n (J,c):=⟨⟨b,Or.inr ⟨hk,hp⟩⟩,hc⟩
theorem GN.UF(h:GN n J)(p:Int):GN n {J with pc:=p}:=⟨h.base,h.node,h.Qf,h.walk,h.kind,h.k0,h.k1,h.w0,h.w1,h.b0,h.b1,h.c0,h.c1⟩
theorem Gw(h:GN n J)(a:DQ):LU st n (J.done a):=⟨⟨⟨h.base,h.node,h.Qf,h.walk,h.kind,h.k0,h.k1,h.w0,h.w1,h.b0,h.b1,h.c0,h.c1⟩,Or.inl ⟨rfl,rfl⟩⟩,Ea⟩
theorem kC{I:Xi}{c:Xf}(h:GN n J)(hp:J.pc=11)(hi:J.inner=some I)(hI:Jb n I c)(hc:JO st n c):LU st n (J.Gb c):=by
 unfold Xa.Gb;cases hk:!(c.kind==12) with
 |true=>
  have hk:c.kind≠12:=by simpa using hk
  exact Dm h hc hk (Or.inr (Or.inr (Or.inr (Or.inr (Or.inr (Or.inr (Or.inr (Or.inr (Or.inl ⟨hp,I,hi,hI⟩)))))))))
 |false=>
  simp only[cond_false];cases(!(c.BR.code==1)||J.op.kind==8) with
  |true=>exact Gw (J:={J with answer:=c.BR}) ⟨h.base,h.node,h.Qf,h.walk,h.kind,h.k0,h.k1,h.w0,h.w1,h.b0,h.b1,h.c0,h.c1⟩ c.BR
  |false=>exact Dm ⟨h.base,h.node,h.Qf,h.walk,h.kind,h.k0,h.k1,h.w0,h.w1,h.b0,h.b1,h.c0,h.c1⟩ (Bm (Bf Zd Zd)) (by show(3:Int)≠12;decide) (Or.inr (Or.inr (Or.inr (Or.inr (Or.inr (Or.inr (Or.inr (Or.inr (Or.inr (Or.inl rfl))))))))))
theorem GN.inn(h:GN n J)(o:Option Xi):GN n {J with inner:=o}:=⟨h.base,h.node,h.Qf,h.walk,h.kind,h.k0,h.k1,h.w0,h.w1,h.b0,h.b1,h.c0,h.c1⟩
theorem Q6(hst:st≠2){c:Xf}{I:Xi}(h:GN n J)(hp:J.pc=11)(hi:J.inner=some I)(hI:Jb n I c)(hc:c.kind≠12)(hx:PC st n c x):LU st n (J.Ii x):=by
 obtain⟨h1,h2⟩:=oP hst hI hc hx;unfold Xa.Ii;rw[hi];exact kC (h.inn _) hp rfl h1 h2
theorem aQ(ha:Je n (Xg J.base 2))(hk:J.op.kind=6\/J.op.kind=7\/J.op.kind=8)(key:Int){c:Xf}(hc:c.kind≠12):Jb n (Xi.from_ (Xg J.base 2) key J.op) c:=by
 refine⟨ha,(λW e=>by cases e),Or.inr ⟨Int.le_refl 0,by show(0:Int)<=7;decide⟩,⟨λh=>?_,λh=>absurd h hc⟩,hk,λ_=>⟨λh=>?_,λh=>?_,λh=>?_⟩,λ_=>⟨by show(0:Int)<=6;decide,λh=>?_,λh=>?_⟩,λ_=>⟨by show(0:Int)<=2;decide,λh=>?_,λh=>?_⟩⟩;all_goals first
  |(have h:(0:Int)=-1:=h;omega)
  |(have h:(0:Int)=1:=h;omega)
  |(have h:(2:Int)<=0:=h;omega)
  |(have h:(0:Int)=4:=h;omega)
  |(have h:(0:Int)=1\/(0:Int)=6:=h;omega)
  |(have h:(0:Int)=2:=h;omega)
theorem MM(hst:st≠2)(h:GN n J):LU st n J.perform:=by
 unfold Xa.perform;refine Q6 hst (c:=AK) (I:=Xi.from_ (Xg J.base 2) (UL J.op.key) J.op) ⟨h.base,h.node,h.Qf,h.walk,h.kind,h.k0,h.k1,h.w0,h.w1,h.b0,h.b1,h.c0,h.c1⟩ rfl rfl (aQ (Y1 h.base Zd Zd) h.kind _ Zd) Zd ⟨Yq,λ_ e=>(by cases e),λe=>absurd e hst⟩
theorem MN(hst:st≠2)(h:GN n J):LU st n J.Dr:=by
 unfold Xa.Dr;cases J.Ai==J.wanted with
 |true=>exact MM hst h
 |false=>
  have hc:=gC (b:=J.Ai) h.w0 h.w1;exact Dm ⟨h.base,h.node,h.Qf,h.walk,h.kind,h.k0,h.k1,h.w0,h.w1,h.b0,h.b1,hc.2.1,hc.2.2⟩ Di Zd (Or.inr (Or.inr (Or.inr (Or.inl ⟨rfl,rfl,hc.1⟩))))
theorem sX{a b:Int}(h0:0<=a)(h1:0<b):0<=Int.tmod a b/\Int.tmod a b<b:=⟨Int.tmod_nonneg b h0,Int.tmod_lt_of_pos a h1⟩
theorem VY(h:GN n J){z:Int}(hz:z=1\/z=2\/z=4\/z=8):LU st n (J.Cn z):=by
 have ht:=sX (b:=z) h.k0 Zo;have w1:Int.tmod J.op.key z<8:=Zo;exact Dm ⟨h.base,h.node,h.Qf,h.walk,h.kind,h.k0,h.k1,ht.1,w1,ht.1,w1,h.c0,h.c1⟩ (Bm (LN ht.1 w1)) (by show(3:Int)≠12;decide) (Or.inr (Or.inr (Or.inl ⟨rfl,Or.inl rfl⟩)))
theorem lU(k:Int):Kq k=1\/Kq k=2\/Kq k=4\/Kq k=8:=by
 unfold Kq;cases k==2<;>cases k==4<;>cases k==8<;>decide
theorem cE(hst:st≠2)(h:GN n J)(hw:bM J.wanted J.Ai)(hx:CI n x.word):LU st n (J.EO x):=by
 unfold Xa.EO;cases x.word.sl==0 with
 |false=>exact MN hst ⟨hx,h.node,h.Qf,h.walk,h.kind,h.k0,h.k1,h.w0,h.w1,h.b0,h.b1,h.c0,h.c1⟩
 |true=>
  simp only[Bool.not_true,cond_false];cases hb:J.Ai==0 with
  |true=>exact Gw h _
  |false=>
   have hb:J.Ai≠0:=by simpa using hb
   have hp:=S8 h.b0 h.b1;exact Dm ⟨h.base,h.node,h.Qf,h.walk,h.kind,h.k0,h.k1,h.w0,h.w1,hp.1,hp.2,h.c0,h.c1⟩ (Bm (LN hp.1 hp.2)) (by show(3:Int)≠12;decide) (Or.inr (Or.inr (Or.inl ⟨rfl,uL h.w0 h.w1 hw hb⟩)))
theorem Q4(hst:st≠2)(h:GN n J)(hp:J.pc=5)(hn:CH n J.node)(hc:bM J.wanted J.child)(ho:GK J.walk)(hx:CI n x.word):LU st n (J.Cq x):=by
 obtain⟨h1,h2⟩:=KU (x:=x) hst h.walk ho hx;have hs:WSo (CT J.walk x).1:=by obtain⟨W,e,_⟩:=ho;rw[e];exact⟨_,rfl⟩
 unfold Xa.Cq;generalize CT J.walk x=r at*;obtain⟨o,c,b⟩:=r;have hcu:=Fa h1;simp only at*;have hb:GN n {J with walk:=o}:=⟨h.base,h.node,h.Qf,h1,h.kind,h.k0,h.k1,h.w0,h.w1,h.b0,h.b1,h.c0,h.c1⟩;cases b with
 |true=>exact Dm hb (h2 rfl).1 (h2 rfl).2.1 (Or.inr (Or.inr (Or.inr (Or.inr (Or.inr (Or.inl ⟨hp,hn,hc,(h2 rfl).2.2⟩))))))
 |false=>
  simp only[cond_false];cases IV o with
  |true=>exact Dm ⟨hb.base,hb.node,Ef hcu.1,hb.walk,hb.kind,hb.k0,hb.k1,hb.w0,hb.w1,hb.b0,hb.b1,hb.c0,hb.c1⟩ (DZ hn) (by show(9:Int)≠12;decide) (Or.inr (Or.inr (Or.inr (Or.inr (Or.inr (Or.inr (Or.inr (Or.inl ⟨Or.inl rfl,hc⟩))))))))
  |false=>exact Dm (hb.UF 7) (Gt (Bn hn Zd Zd) (Ef hcu.1)) (by show(4:Int)≠12;decide) (Or.inr (Or.inr (Or.inr (Or.inr (Or.inr (Or.inr (Or.inl ⟨rfl,hn,hc,hs⟩)))))))
theorem Q5(hst:st≠2)(h:GN n J)(hn:CH n J.node)(hc:bM J.wanted J.child)(hx:CI n x.word):LU st n (J.An.Cq x):=by
 have hs:=@Qy n (Xg J.base 2) (Ds J.child) (Y1 h.base Zd Zd);exact Q4 hst ⟨h.base,h.node,h.Qf,hs.1,h.kind,h.k0,h.k1,h.w0,h.w1,h.b0,h.b1,h.c0,h.c1⟩ rfl hn hc hs.2 hx
theorem ZG(hst:st≠2)(h:GN n J):LU st n J.Iv:=MN hst ⟨h.Qf,h.node,h.Qf,h.walk,h.kind,h.k0,h.k1,h.w0,h.w1,h.c0,h.c1,h.c0,h.c1⟩
theorem yC{c:Xf}(hst:st≠2)(h:rG n J c)(hc:c.kind≠12)(hx:PC st n c x):LU st n (J.next x):=by
 have hw:=hx.1;have hb:=h.b;have ld:∀{J:Xa} {a:Yj},GN n J->Je n a->SZ n J (X8 a)->LU st n (J,X8 a):=λb a p=>Dm b (Bm a) (by show(3:Int)≠12;decide) p;rcases h.pc with⟨_,h⟩|⟨_,h⟩
 ·exact absurd h hc
 have l9:bM J.wanted J.child->∀s:Xd,CI n s->LU st n ({J with sentinel:=s,pc:=9},X8 (DI J.child)):=λho s hs=>
  ld ⟨hb.base,hb.node,hs,hb.walk,hb.kind,hb.k0,hb.k1,hb.w0,hb.w1,hb.b0,hb.b1,hb.c0,hb.c1⟩ (LN hb.c0 hb.c1) (Or.inr (Or.inr (Or.inr (Or.inr (Or.inr (Or.inr (Or.inr (Or.inl ⟨Or.inr (Or.inl rfl),ho⟩))))))))
 rcases h with hp|hp|⟨hp,ho⟩|⟨hp,h8,ho⟩|⟨hp|hp,hn,ho⟩|⟨hp,hn,ho,hwk⟩|⟨hp,hn,ho,hwk⟩|⟨hp|hp|hp,ho⟩|⟨hp,I,hi,hI⟩|hp|hp|hp|hp
 ·have e:J.next x=({J with pc:=1},X8 (root 16)):=by unfold Xa.next;rw[hp];rfl
  rw[e];exact ld (hb.UF 1) (Bf Zd Zd) (Or.inr (Or.inl rfl))
 ·have e:J.next x=J.Cn (Kq x.word.nm):=by unfold Xa.next;rw[hp];rfl
  rw[e];exact VY hb (lU _)
 ·have e:J.next x=J.EO x:=by unfold Xa.next;rw[hp];rfl
  rw[e];exact cE hst hb ho hw
 ·have e:J.next x=bif !x.ok then J.perform else({J with node:=x.word,pc:=4},Yf (Xg x.word 0) (Y5 (Ds J.child))):=by unfold Xa.next Xa.Ak;rw[hp];rfl
  rw[e];cases hok:x.ok with
  |false=>exact MM hst hb
  |true=>
   have hn:=hx.2.1 h8 hok;exact Dm ⟨hb.base,hw,hb.Qf,hb.walk,hb.kind,hb.k0,hb.k1,hb.w0,hb.w1,hb.b0,hb.b1,hb.c0,hb.c1⟩ (Gt (Bn hn Zd Zd) Cg) (by show(4:Int)≠12;decide) (Or.inr (Or.inr (Or.inr (Or.inr (Or.inl ⟨Or.inl rfl,hn,ho⟩)))))
 ·have e:J.next x=J.An.Cq x:=by unfold Xa.next Xa.Ak;rw[hp];rfl
  rw[e];exact Q5 hst hb hn ho hw
 ·have e:J.next x=bif x.ok then({J with sentinel:=J.node,pc:=9},X8 (DI J.child)) else J.An.Cq x:=by unfold Xa.next Xa.Ak;rw[hp];rfl
  rw[e];cases x.ok with
  |true=>exact l9 ho _ hb.node
  |false=>exact Q5 hst hb hn ho hw
 ·have e:J.next x=J.Cq x:=by unfold Xa.next Xa.Ak;rw[hp];rfl
  rw[e];exact Q4 hst hb hp hn ho hwk hw
 ·have e:J.next x=({J with pc:=8},Xx (BF J.walk) (Xs J.walk) (BC (Xs J.walk) J.node)):=by unfold Xa.next Xa.Ak;rw[hp];rfl
  rw[e];have hcu:=Fa hb.walk;exact Dm (hb.UF 8) (B6 hcu.2.2.1 (EV hst (Ei hb.node)) rfl) (by show(5:Int)≠12;decide) (Or.inr (Or.inr (Or.inr (Or.inr (Or.inl ⟨Or.inr rfl,hn,ho⟩)))))
 ·have e:J.next x=({J with pc:=9},X8 (DI J.child)):=by unfold Xa.next Xa.Ak;rw[hp];rfl
  rw[e];exact l9 ho _ hb.Qf
 ·have e:J.next x=bif x.word.sl==0 then({J with pc:=10},Xx (DI J.child) x.word (BC x.word J.sentinel)) else J.Iv:=by unfold Xa.next Xa.Ak;rw[hp];rfl
  rw[e];cases x.word.sl==0 with
  |true=>exact Dm (hb.UF 10) (B6 (LN hb.c0 hb.c1) (EV hst (Ei hb.Qf)) rfl) (by show(5:Int)≠12;decide) (Or.inr (Or.inr (Or.inr (Or.inr (Or.inr (Or.inr (Or.inr (Or.inl ⟨Or.inr (Or.inr rfl),ho⟩))))))))
  |false=>exact ZG hst hb
 ·have e:J.next x=J.Iv:=by unfold Xa.next Xa.Ak;rw[hp];rfl
  rw[e];exact ZG hst hb
 ·have e:J.next x=J.Ii x:=by unfold Xa.next;rw[hp];rfl
  rw[e];exact Q6 hst hb hp hi hI hc hx
 ·have e:J.next x=J.GX x:=by unfold Xa.next;rw[hp];rfl
  rw[e];exact Dm ⟨hb.base,hb.node,hb.Qf,hb.walk,hb.kind,hb.k0,hb.k1,hb.w0,hb.w1,hb.b0,hb.b1,hb.c0,hb.c1⟩ (B6 (Bf Zd Zd) (EV hst Cw) rfl) (by show(5:Int)≠12;decide) (Or.inr (Or.inr (Or.inr (Or.inr (Or.inr (Or.inr (Or.inr (Or.inr (Or.inr (Or.inr (Or.inl rfl)))))))))))
 ·have e:J.next x=J.He x:=by unfold Xa.next;rw[hp];rfl
  rw[e];unfold Xa.He;cases x.ok with
  |false=>exact ld (hb.UF 12) (Bf Zd Zd) (Or.inr (Or.inr (Or.inr (Or.inr (Or.inr (Or.inr (Or.inr (Or.inr (Or.inr (Or.inl rfl))))))))))
  |true=>
   cases J.op.kind==7 with
   |true=>exact Gw hb _
   |false=>
    cases J.size==8 with
    |true=>exact Gw hb _
    |false=>
     cases decide (J.count.nm<wr (2*J.size)) with
     |true=>exact Gw hb _
     |false=>exact ld (hb.UF 14) (Bf Zd Zd) (Or.inr (Or.inr (Or.inr (Or.inr (Or.inr (Or.inr (Or.inr (Or.inr (Or.inr (Or.inr (Or.inr (Or.inl rfl))))))))))))
 ·have e:J.next x=J.Dn x:=by unfold Xa.next;rw[hp];rfl
  rw[e];unfold Xa.Dn;cases x.word.nm==J.size with
  |true=>exact Dm (hb.UF 15) (B6 (Bf Zd Zd) (EV hst Cw) rfl) (by show(5:Int)≠12;decide) (Or.inr (Or.inr (Or.inr (Or.inr (Or.inr (Or.inr (Or.inr (Or.inr (Or.inr (Or.inr (Or.inr (Or.inr rfl))))))))))))
  |false=>exact Gw hb _
 ·have e:J.next x=J.done J.answer:=by unfold Xa.next;rw[hp];rfl
  rw[e];exact Gw hb _
end
end Go.Proofs.YtaipogljokblkaaGreatDoor
