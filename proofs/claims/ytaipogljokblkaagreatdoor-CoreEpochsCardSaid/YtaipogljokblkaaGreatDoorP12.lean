/- Core: LD, LE. -/
import Derived.Test.YtaipogljokblkaaGreatDoorP09
set_option linter.all false
set_option maxRecDepth 100000
set_option maxHeartbeats 8000000
namespace Go.Proofs.YtaipogljokblkaaGreatDoor
open Go Go.RowKit
def zm(n:Nat)(o:Option Xb):Prop:=∀C,o=some C->TY n C
def Ql(o:Option Xb):Prop:=∃C,o=some C/\C.pc≠-1
def Sh(o:Option Xb):Prop:=∃C,o=some C
def Ql.so{o:Option Xb}(h:Ql o):Sh o:=h.imp λ_ h=>h.1
def PN{n:Nat}{b:Int}:zm n (some (Xb.new b))/\Ql (some (Xb.new b)):=
 ⟨λC e=>by cases e;exact lL,_,rfl,by simp[Xb.new,Xb.zero]⟩
def RR{n:Nat}{o:Option Xb}(h:zm n o)(l:Int):N2 n (Za o l):=by
 cases o with
 |none=>exact FC
 |some C=>
  have a:=(h C rfl).b;show N2 n (FD C l);unfold FD Xb.BU;(repeat' split)
  ·exact FC
  ·exact FC
  ·exact a.s0
  ·exact a.s1
  ·exact a.s2
def lN{n:Nat}{o:Option Xb}(h:zm n o):Dg n (Bh o):=by
 cases o with
 |none=>exact Yy
 |some C=>exact(h C rfl).b.fd
def lM{st:Int}{n:Nat}{o:Option Xb}{x:Xr}(b:st≠2)(h:zm n o)(d:Ql o)(f:Dg n x.word):
  zm n (Yg o x).1/\Sh (Yg o x).1/\((Yg o x).2.2=true->Kz st n (Yg o x).2.1/\(Yg o x).2.1.kind≠12/\Ql (Yg o x).1):=by
 obtain⟨C,rfl,c⟩:=d
 have a:=uL (x:=x) b (h C rfl) c f
 refine⟨λg e=>?_,⟨_,rfl⟩,λe=>?_⟩
 ·cases e;exact a.1
 ·exact⟨(a.2.1 e).1,(a.2.1 e).2.1,_,rfl,(a.2.1 e).2.2⟩
structure Ja(n:Nat)(J:Xa):Prop where
 node:Dg n J.node
 Ab:zm n J.Ab
 op:(J.op.kind=6/\1<=J.op.Al/\J.op.Al<=3)\/J.op.kind=7\/J.op.kind=8
 l0:0<=J.level
 l3:J.level<=3
def StePc(n:Nat)(J:Xa)(c:Xi):Prop:=
 (J.pc=-1/\c.kind=12)\/(c.kind≠12/\(
  J.pc=0\/
  (J.op.kind=6/\J.pc=1/\c.kind=8)\/
  (J.op.kind=6/\(J.pc=2\/J.pc=3\/J.pc=4)/\Df n J.node)\/
  (J.op.kind=6/\J.pc=5/\Df n J.node/\Ql J.Ab)\/
  (J.op.kind=6/\(J.pc=6\/J.pc=8)/\Df n J.node/\Sh J.Ab)\/
  (J.op.kind=6/\J.pc=7/\J.level<=2/\Df n J.node/\Sh J.Ab)\/
  (J.op.kind=6/\(J.pc=9\/J.pc=10\/J.pc=11)/\J.level<=2/\Df n J.node/\Sh J.Ab)\/
  (J.op.kind=6/\J.pc=12/\J.level<=2/\Df n J.node/\Ql J.Ab)\/
  ((J.op.kind=7\/J.op.kind=8)/\J.pc=1/\Ql J.Ab)\/
  ((J.op.kind=7\/J.op.kind=8)/\J.pc=2/\Df n J.node/\Sh J.Ab)\/
  (J.op.kind=7/\(J.pc=3\/J.pc=4\/J.pc=5)/\J.level<=2/\Df n J.node/\Sh J.Ab)\/
  (J.op.kind=7/\J.pc=6/\Df n J.node/\Ql J.Ab)\/
  ((J.op.kind=6\/J.op.kind=7)/\(J.pc=101\/J.pc=102\/J.pc=104)/\Df n J.node/\Sh J.Ab)\/
  ((J.op.kind=6\/J.op.kind=7)/\J.pc=103/\Df n J.node/\Ql J.Ab)))
structure vL(n:Nat)(J:Xa)(c:Xi):Prop where
 b:Ja n J
 pc:StePc n J c
def Ml(st:Int)(n:Nat)(r:Xa × Xi):Prop:=vL n r.1 r.2/\Kz st n r.2
def zo{l:Int}(a:0<=l)(b:l<=3):wr (2+l)=2+l:=FK Zo Zo
def B6 {st:Int} {n:Nat} {J:Xa} {c:Xi} (b:Ja n J) (a:Kz st n c) (d:c.kind≠12) (e:
  J.pc=0\/
  (J.op.kind=6/\J.pc=1/\c.kind=8)\/
  (J.op.kind=6/\(J.pc=2\/J.pc=3\/J.pc=4)/\Df n J.node)\/
  (J.op.kind=6/\J.pc=5/\Df n J.node/\Ql J.Ab)\/
  (J.op.kind=6/\(J.pc=6\/J.pc=8)/\Df n J.node/\Sh J.Ab)\/
  (J.op.kind=6/\J.pc=7/\J.level<=2/\Df n J.node/\Sh J.Ab)\/
  (J.op.kind=6/\(J.pc=9\/J.pc=10\/J.pc=11)/\J.level<=2/\Df n J.node/\Sh J.Ab)\/
  (J.op.kind=6/\J.pc=12/\J.level<=2/\Df n J.node/\Ql J.Ab)\/
  ((J.op.kind=7\/J.op.kind=8)/\J.pc=1/\Ql J.Ab)\/
  ((J.op.kind=7\/J.op.kind=8)/\J.pc=2/\Df n J.node/\Sh J.Ab)\/
  (J.op.kind=7/\(J.pc=3\/J.pc=4\/J.pc=5)/\J.level<=2/\Df n J.node/\Sh J.Ab)\/
  (J.op.kind=7/\J.pc=6/\Df n J.node/\Ql J.Ab)\/
  ((J.op.kind=6\/J.op.kind=7)/\(J.pc=101\/J.pc=102\/J.pc=104)/\Df n J.node/\Sh J.Ab)\/
  ((J.op.kind=6\/J.op.kind=7)/\J.pc=103/\Df n J.node/\Ql J.Ab)):Ml st n (J,c):=⟨⟨b,db ⟨d,e⟩⟩,a⟩
section
variable{st:Int}{n:Nat}{J:Xa}{x:Xr}
def Ja.V7(h:Ja n J)(p:Int):Ja n {J with pc:=p}:=⟨h.node,h.Ab,h.op,h.l0,h.l3⟩
def GP(h:Ja n J)(a b:Int):Ml st n (J.done a b):=⟨⟨⟨h.node,h.Ab,h.op,h.l0,h.l3⟩,fq ⟨rfl,rfl⟩⟩,Ep⟩
def Lr(h:Ja n J)(a:J.op.kind=6\/J.op.kind=7)(c:Df n J.node)(d:Sh J.Ab)(b:Int):Ml st n (J.part b):=
 B6 ⟨h.node,h.Ab,h.op,h.l0,h.l3⟩ (Bu (Zi h.node Zd Zd)) (by show(3:Int)≠12;decide) (by simp only;grind)
def Lt(h:Ja n J)(b:J.op.kind=6)(c:Df n J.node)(d:Sh J.Ab):Ml st n J.link:=by
 unfold Xa.link;cases a:decide (J.op.Al<=J.level) with
 |true=>exact Lr h (fq b) c d 1
 |false=>
  have a:¬J.op.Al<=J.level:=mu a;have e:=h.op;have f:J.level<=2:=Zo;have g:=h.l0;refine B6 ⟨h.node,h.Ab,h.op,h.l0,h.l3⟩ (Bu ?_) (by show(3:Int)≠12;decide) (by simp only;grind);rw[zo h.l0 h.l3];exact Zi h.node Zo Zo
def Ls(h:Ja n J)(a:J.op.kind=7)(b:J.level<=2)(c:Df n J.node)(d:Sh J.Ab):Ml st n J.look:=by
 have e:=h.l0;refine B6 ⟨h.node,h.Ab,h.op,h.l0,h.l3⟩ (Bu ?_) (by show(3:Int)≠12;decide) (by simp only;grind);rw[zo h.l0 h.l3];exact Zi h.node Zo Zo
def Uz(b:st≠2)(h:Ja n J)(i:J.op.kind=6)(g:Df n J.node)(j:Sh J.Ab){a:Int}(c:0<=a)(d:a<=3):Ml st n (J.Cg a):=by
 have e:=λl=>RR h.Ab l;unfold Xa.Cg;simp only;cases f:decide (a<J.op.Al) with
 |true=>
  have f:a<J.op.Al:=iz f;have k:=h.op;have m:a<=2:=Zo;refine B6 ⟨h.node,h.Ab,h.op,c,d⟩ (GK ?_ (Es (e a).2)) (by show(4:Int)≠12;decide) (by simp only;grind);rw[zo c d];exact Bw g Zo Zo
 |false=>
  exact B6 ⟨h.node,h.Ab,h.op,c,d⟩ (BB (e 0).1 (F6 b (Ey h.node)) rfl) (by show(5:Int)≠12;decide) (by simp only;grind)
def O1(a:st≠2)(h:Ja n J)(c:Ql J.Ab)(d:Dg n x.word):Ja n {J with Ab:=(Yg J.Ab x).1}/\Sh (Yg J.Ab x).1/\((Yg J.Ab x).2.2=true->Kz st n (Yg J.Ab x).2.1/\(Yg J.Ab x).2.1.kind≠12/\Ql (Yg J.Ab x).1):=by
 have b:=lM (x:=x) a h.Ab c d;exact⟨⟨h.node,b.1,h.op,h.l0,h.l3⟩,b.2.1,b.2.2⟩
def O0(a:st≠2)(h:Ja n J)(g:J.op.kind=6)(l:J.pc=5)(f:Df n J.node)(i:Ql J.Ab)(j:Dg n x.word):Ml st n (J.BP x):=by
 obtain⟨d,k,e⟩:=O1 a h i j;unfold Xa.BP;generalize Yg J.Ab x=r at*;obtain⟨o,c,b⟩:=r;simp only at*;cases b with
 |true=>exact B6 d (e rfl).1 (e rfl).2.1 (by have:=(e rfl).2.2;simp only;grind)
 |false=>
  simp only[gx];cases m:!((Bh o).sl==0) with
  |true=>exact B6 (d.V7 6) (Eo f) (by show(9:Int)≠12;decide) (by simp only;grind)
  |false=>exact Uz a d g f k Zd Zd
def Rb(a:st≠2)(h:Ja n J)(f:J.op.kind=6)(l:J.pc=12)(m:J.level<=2)(g:Df n J.node)(j:Ql J.Ab)(k:Dg n x.word):Ml st n (J.AK x):=by
 obtain⟨d,i,e⟩:=O1 a h j k;unfold Xa.AK;generalize Yg J.Ab x=r at*;obtain⟨o,c,b⟩:=r;simp only at*;cases b with
 |true=>exact B6 d (e rfl).1 (e rfl).2.1 (by have:=(e rfl).2.2;simp only;grind)
 |false=>
  simp only[gx];cases p:!mW (Bh o) J.node with
  |true=>exact Lr d (fq f) g i 1
  |false=>exact Lt d f g i
def Lq(d:st≠2)(h:Ja n J)(k:J.op.kind=7\/J.op.kind=8)(l:J.pc=1)(i:Ql J.Ab)(j:Dg n x.word){f:Int}(f0:0<=f)(f9:f<10):Ml st n (J.Bt x f):=by
 obtain⟨a,m,e⟩:=O1 d h i j;have hF:=lN a.Ab;unfold Xa.Bt;generalize Yg J.Ab x=r at*;obtain⟨o,c,b⟩:=r;simp only at*;cases b with
 |true=>exact B6 a (e rfl).1 (e rfl).2.1 (by have:=(e rfl).2.2;simp only;grind)
 |false=>
  simp only[gx];cases g:(Bh o).sl==0 with
  |true=>exact GP (J:={J with Ab:=o,node:=Bh o}) ⟨hF,a.Ab,a.op,a.l0,a.l3⟩ 2 0
  |false=>
   have g:¬(Bh o).sl=0:=by simpa using g
   have p:=Er hF g;exact B6 ⟨hF,a.Ab,a.op,a.l0,a.l3⟩ (Bu (Zi hF f0 f9)) (by show(3:Int)≠12;decide) (by simp only;grind)
def Ux(a:st≠2)(h:Ja n J)(f:J.op.kind=7)(l:J.pc=6)(g:Df n J.node)(i:Ql J.Ab)(j:Dg n x.word):Ml st n (J.Ca x):=by
 obtain⟨e,k,d⟩:=O1 a h i j;unfold Xa.Ca;generalize Yg J.Ab x=r at*;obtain⟨o,c,b⟩:=r;simp only at*;cases b with
 |true=>exact B6 e (d rfl).1 (d rfl).2.1 (by have:=(d rfl).2.2;simp only;grind)
 |false=>exact Lr e (db f) g k 2
def Sq(a:st≠2)(h:Ja n J)(j:J.op.kind=6\/J.op.kind=7)(k:J.pc=103)(f:Df n J.node)(g:Ql J.Ab)(i:Dg n x.word):Ml st n (J.fin x):=by
 obtain⟨e,l,d⟩:=O1 a h g i;unfold Xa.fin;generalize Yg J.Ab x=r at*;obtain⟨o,c,b⟩:=r;simp only at*;cases b with
 |true=>exact B6 e (d rfl).1 (d rfl).2.1 (by have:=(d rfl).2.2;simp only;grind)
 |false=>exact B6 (e.V7 104) (Dn f) (by show(10:Int)≠12;decide) (by simp only;grind)
def Ce(h:Ja n J)(p b:Int):Ja n (J.An p b)/\Ql (J.An p b).Ab:=⟨⟨h.node,(PN (n:=n)).1,h.op,h.l0,h.l3⟩,(PN (n:=n)).2⟩
def vp{c:Xi}(g:st≠2)(h:vL n J c)(y:c.kind≠12)(q:Qq st n c x):Ml st n (J.next x):=by
 have k:=q.1;have d:=h.b;have r:=λl=>RR d.Ab l;have s:=d.l0;have t:=d.l3;rcases h.pc with⟨_,h⟩|⟨_,h⟩
 ·exact absurd h y
 rcases h with hp|⟨f,hp,p⟩|⟨f,hp,i⟩|⟨f,hp,i,j⟩|⟨f,hp,i,j⟩|⟨f,hp,m,i,j⟩|⟨f,hp,m,i,j⟩|⟨f,hp,m,i,j⟩|⟨f,hp,j⟩|⟨f,hp,i,j⟩|⟨f,hp,m,i,j⟩|⟨f,hp,i,j⟩|⟨f,hp,i,j⟩|⟨f,hp,i,j⟩
 ·
  rcases d.op with⟨f,_⟩|f|f
  ·have e:J.next x=({J with pc:=1},Xu):=by unfold Xa.next Xa.insert;rw[hp,f];rfl
   rw[e];exact B6 (d.V7 1) Dy Zd (by simp only;grind [G8])
  ·have e:J.next x=(J.An 1 J.op.key).Bt x 6:=by unfold Xa.next Xa.Ak;rw[hp,f];rfl
   rw[e];exact Lq g (Ce d _ _).1 (fq f) rfl (Ce d _ _).2 k Zd Zd
  ·have e:J.next x=(J.An 1 J.op.key).Bt x 1:=by unfold Xa.next Xa.get;rw[hp,f];rfl
   rw[e];exact Lq g (Ce d _ _).1 (db f) rfl (Ce d _ _).2 k Zd Zd
 ·
  have e:J.next x=bif !x.ok then J.done 4 0 else({J with node:=x.word,pc:=2},Xq (Xh x.word 0) (Y6 J.op.key)):=by unfold Xa.next Xa.insert;rw[hp,f];rfl
  rw[e];cases j:x.ok with
  |false=>exact GP d _ _
  |true=>
   have i:=q.2.1 p j;exact B6 ⟨k,d.Ab,d.op,d.l0,d.l3⟩ (GK (Bw i Zd Zd) Cy) (by show(4:Int)≠12;decide) (by simp only;grind)
 ·rcases hp with hp|hp|hp
  ·have e:J.next x=({J with pc:=3},Xq (Xh J.node 1) (Y6 J.op.val)):=by unfold Xa.next Xa.insert;rw[hp,f];rfl
   rw[e];exact B6 (d.V7 3) (GK (Bw i Zd Zd) Cy) (by show(4:Int)≠12;decide) (by simp only;grind)
  ·have e:J.next x=({J with pc:=4},Xq (Xh J.node 6) (Y6 J.op.Al)):=by unfold Xa.next Xa.insert;rw[hp,f];rfl
   rw[e];exact B6 (d.V7 4) (GK (Bw i Zd Zd) Cy) (by show(4:Int)≠12;decide) (by simp only;grind)
  ·have e:J.next x=(J.An 5 J.op.key).BP x:=by unfold Xa.next Xa.insert;rw[hp,f];rfl
   rw[e];exact O0 g (Ce d _ _).1 f rfl i (Ce d _ _).2 k
 ·have e:J.next x=J.BP x:=by unfold Xa.next Xa.insert;rw[hp,f];rfl
  rw[e];exact O0 g d f hp i j k
 ·rcases hp with hp|hp
  ·have e:J.next x=J.done 3 0:=by unfold Xa.next Xa.insert;rw[hp,f];rfl
   rw[e];exact GP d _ _
  ·have e:J.next x=bif x.ok then Xa.link {J with level:=1} else(J.An 5 J.op.key).BP x:=by unfold Xa.next Xa.insert;rw[hp,f];rfl
   rw[e];cases x.ok with
   |true=>exact Lt ⟨d.node,d.Ab,d.op,by show(0:Int)<=1;decide,by show(1:Int)<=3;decide⟩ f i j
   |false=>exact O0 g (Ce d _ _).1 f rfl i (Ce d _ _).2 k
 ·have e:J.next x=J.Cg (wr (J.level+1)):=by unfold Xa.next Xa.insert;rw[hp,f];rfl
  rw[e,FK Zo Zo];exact Uz g d f i j Zo Zo
 ·have u:Ml st n ({J with pc:=11},Xp (Za J.Ab J.level).prev (Za J.Ab J.level).As (A4 (Za J.Ab J.level).As J.node)):=
   B6 (d.V7 11) (BB (r _).1 (F6 g (Ey d.node)) rfl) (by show(5:Int)≠12;decide) (by simp only;grind)
  rcases hp with hp|hp|hp
  ·have e:J.next x=bif x.word.mark then J.part 1 else bif !XE x.word (Za J.Ab J.level).As then({J with pc:=10},Xp (Xh J.node (wr (2+J.level))) x.word (A4 x.word (Za J.Ab J.level).As)) else({J with pc:=11},Xp (Za J.Ab J.level).prev (Za J.Ab J.level).As (A4 (Za J.Ab J.level).As J.node)):=by unfold Xa.next Xa.raise;rw[hp,f];rfl
   rw[e];cases x.word.mark with
   |true=>exact Lr d (fq f) i j 1
   |false=>
    cases XE x.word (Za J.Ab J.level).As with
    |false=>
     refine B6 (d.V7 10) (BB ?_ (F6 g (Ey (r _).2)) rfl) (by show(5:Int)≠12;decide) (by simp only;grind);rw[zo s t];exact Zi d.node Zo Zo
    |true=>exact u
  ·have e:J.next x=bif !x.ok then J.link else({J with pc:=11},Xp (Za J.Ab J.level).prev (Za J.Ab J.level).As (A4 (Za J.Ab J.level).As J.node)):=by unfold Xa.next Xa.raise;rw[hp,f];rfl
   rw[e];cases x.ok with
   |false=>exact Lt d f i j
   |true=>exact u
  ·have e:J.next x=bif x.ok then Xa.link {J with level:=wr (J.level+1)} else(J.An 12 J.op.key).AK x:=by unfold Xa.next Xa.raise;rw[hp,f];rfl
   rw[e,FK Zo Zo];cases x.ok with
   |true=>exact Lt ⟨d.node,d.Ab,d.op,by show 0<=J.level+1;omega,by show J.level+1<=3;omega⟩ f i j
   |false=>exact Rb g (Ce d _ _).1 f rfl m i (Ce d _ _).2 k
 ·have e:J.next x=J.AK x:=by unfold Xa.next Xa.raise;rw[hp,f];rfl
  rw[e];exact Rb g d f hp m i j k
 ·rcases f with f|f
  ·have e:J.next x=J.Bt x 6:=by unfold Xa.next Xa.Ak;rw[hp,f];rfl
   rw[e];exact Lq g d (fq f) hp j k Zd Zd
  ·have e:J.next x=J.Bt x 1:=by unfold Xa.next Xa.get;rw[hp,f];rfl
   rw[e];exact Lq g d (db f) hp j k Zd Zd
 ·rcases f with f|f
  ·have e:J.next x=bif decide (x.word.nm<1) then({J with level:=0,pc:=3},Xm (Xh J.node 1)) else bif decide (3<x.word.nm) then({J with level:=0,pc:=3},Xm (Xh J.node 1)) else({J with level:=wr (x.word.nm-1),pc:=3},Xm (Xh J.node 1)):=by unfold Xa.next Xa.Ak;rw[hp,f];rfl
   rw[e];have one:∀l:Int,0<=l->l<=2->Ml st n ({J with level:=l,pc:=3},Xm (Xh J.node 1)):=λl a b=>
    B6 ⟨d.node,d.Ab,d.op,a,by show l<=3;omega⟩ (Bu (Zi d.node Zd Zd)) (by show(3:Int)≠12;decide) (by simp only;grind)
   cases v:decide (x.word.nm<1) with
   |true=>exact one 0 Zd Zd
   |false=>
    have v:¬x.word.nm<1:=mu v;cases w:decide (3<x.word.nm) with
    |true=>exact one 0 Zd Zd
    |false=>
     have w:¬3<x.word.nm:=mu w;rw[FK Zo Zo];exact one (x.word.nm-1) Zo Zo
  ·have e:J.next x=J.done 1 x.word.nm:=by unfold Xa.next Xa.get;rw[hp,f];rfl
   rw[e];exact GP d _ _
 ·rcases hp with hp|hp|hp
  ·have e:J.next x=Xa.look {J with val:=x.word.nm}:=by unfold Xa.next Xa.Ak;rw[hp,f];rfl
   rw[e];exact Ls ⟨d.node,d.Ab,d.op,d.l0,d.l3⟩ f m i j
  ·have e:J.next x=bif !x.word.mark then({J with pc:=5},Xp (Xh J.node (wr (2+J.level))) x.word (Zc x.word)) else bif J.level==0 then J.done 2 0 else Xa.look {J with level:=wr (J.level-1)}:=by unfold Xa.next Xa.Ak;rw[hp,f];rfl
   rw[e,zo s t];cases x.word.mark with
   |false=>
    exact B6 (d.V7 5) (BB (Zi d.node Zo Zo) (F6 g (Dj k)) rfl) (by show(5:Int)≠12;decide) (by simp only;grind)
   |true=>
    cases o:J.level==0 with
    |true=>exact GP d _ _
    |false=>
     have o:J.level≠0:=by simpa using o
     rw[FK Zo Zo];exact Ls ⟨d.node,d.Ab,d.op,by show 0<=J.level-1;omega,by show J.level-1<=3;omega⟩ f (by show J.level-1<=2;omega) i j
  ·have e:J.next x=bif !x.ok then J.look else bif decide (0<J.level) then Xa.look {J with level:=wr (J.level-1)} else(J.An 6 (wr (J.op.key+1))).Ca x:=by unfold Xa.next Xa.Ak;rw[hp,f];rfl
   rw[e];cases x.ok with
   |false=>exact Ls d f m i j
   |true=>
    cases o:decide (0<J.level) with
    |true=>
     have o:0<J.level:=iz o;rw[FK Zo Zo];exact Ls ⟨d.node,d.Ab,d.op,by show 0<=J.level-1;omega,by show J.level-1<=3;omega⟩ f (by show J.level-1<=2;omega) i j
    |false=>exact Ux g (Ce d _ _).1 f rfl i (Ce d _ _).2 k
 ·have e:J.next x=J.Ca x:=by unfold Xa.next Xa.Ak;rw[hp,f];rfl
  rw[e];exact Ux g d f hp i j k
 ·rcases hp with hp|hp|hp
  ·have e:J.next x=bif x.word.nm==0 then({J with pc:=102},Xp (Xh J.node 7) x.word (Y5 x.word J.TD)) else(J.An 103 (wr (J.op.key+1))).fin x:=by unfold Xa.next Xa.finish;rw[hp];rfl
   rw[e];cases x.word.nm==0 with
   |true=>exact B6 (d.V7 102) (BB (Zi d.node Zd Zd) (F6 g CY) rfl) (by show(5:Int)≠12;decide) (by simp only;grind)
   |false=>exact Sq g (Ce d _ _).1 f rfl i (Ce d _ _).2 k
  ·have e:J.next x=bif x.ok then J.done 1 J.val else(J.An 103 (wr (J.op.key+1))).fin x:=by unfold Xa.next Xa.finish;rw[hp];rfl
   rw[e];cases x.ok with
   |true=>exact GP d _ _
   |false=>exact Sq g (Ce d _ _).1 f rfl i (Ce d _ _).2 k
  ·have e:J.next x=J.done 1 J.val:=by unfold Xa.next Xa.finish;rw[hp];rfl
   rw[e];exact GP d _ _
 ·have e:J.next x=J.fin x:=by unfold Xa.next Xa.finish;rw[hp];rfl
  rw[e];exact Sq g d f hp i j k
end
def eO(a b:Int):Prop:=b=a\/b=Bb a\/b=Bb (Bb a)\/b=Bb (Bb (Bb a))
def E'{n:Int}(a:0<=n)(b:n<8):n=0\/n=1\/n=2\/n=3\/n=4\/n=5\/n=6\/n=7:=Zo
def Kn{b:Int}(a:0<=b)(c:b<8):0<=Bb b/\Bb b<8:=by
 rcases E' a c with rfl|rfl|rfl|rfl|rfl|rfl|rfl|rfl<;>decide
def zE{a b:Int}(c:0<=a)(d:a<8)(h:eO a b)(e:b≠0):eO a (Bb b):=by
 rcases E' c d with rfl|rfl|rfl|rfl|rfl|rfl|rfl|rfl<;>rcases h with rfl|rfl|rfl|rfl<;>first|exact absurd rfl e|(unfold eO;decide)
def kC{a b:Int}(c:0<=a)(d:a<8):eO a (Bv a b)/\0<=Bv a b/\Bv a b<8:=by
 have p1:=Kn c d;have p2:=Kn p1.1 p1.2;unfold Bv;cases Bb a==b with
 |true=>exact⟨fq rfl,c,d⟩
 |false=>
  cases Bb (Bb a)==b with
  |true=>exact⟨db (fq rfl),p1⟩
  |false=>exact⟨d2 (fq rfl),p2⟩
def LX{n:Nat}{b:Int}(a:0<=b)(c:b<8):Jo n (Fq b):=by
 unfold Fq;rw[FK (n:=8+b) Zo Zo,FK Zo Zo];exact Bo Zo Zo
structure Hj(n:Nat)(J:Xc):Prop where
 base:Dg n J.base
 node:Dg n J.node
 Qx:Dg n J.sentinel
 walk:Mf n J.walk
 kind:J.op.kind=6\/J.op.kind=7\/J.op.kind=8
 k0:0<=J.op.key
 k1:J.op.key<256
 w0:0<=J.wanted
 w1:J.wanted<8
 b0:0<=J.Ao
 b1:J.Ao<8
 c0:0<=J.child
 c1:J.child<8
def WSo(o:Option Xj):Prop:=∃W,o=some W
def TN(n:Nat)(J:Xc)(c:Xi):Prop:=
  J.pc=0\/J.pc=1\/
  (J.pc=2/\eO J.wanted J.Ao)\/
  (J.pc=3/\c.kind=8/\eO J.wanted J.child)\/
  ((J.pc=4\/J.pc=8)/\Df n J.node/\eO J.wanted J.child)\/
  (J.pc=5/\Df n J.node/\eO J.wanted J.child/\Hf J.walk)\/
  (J.pc=7/\Df n J.node/\eO J.wanted J.child/\WSo J.walk)\/
  ((J.pc=6\/J.pc=9\/J.pc=10)/\eO J.wanted J.child)\/
  (J.pc=11/\∃I,J.inner=some I/\Jj n I c)\/
  J.pc=12\/J.pc=13\/J.pc=14\/J.pc=15
structure vK(n:Nat)(J:Xc)(c:Xi):Prop where
 b:Hj n J
 pc:(J.pc=-1/\c.kind=12)\/(c.kind≠12/\TN n J c)
def Mg(st:Int)(n:Nat)(r:Xc × Xi):Prop:=vK n r.1 r.2/\Kz st n r.2
section
variable{st:Int}{n:Nat}{J:Xc}{x:Xr}
def D9{c:Xi}(b:Hj n J)(a:Kz st n c)(d:c.kind≠12)(e:TN n J c):Mg st n (J,c):=⟨⟨b,db ⟨d,e⟩⟩,a⟩
def Hj.V7(h:Hj n J)(p:Int):Hj n {J with pc:=p}:=⟨h.base,h.node,h.Qx,h.walk,h.kind,h.k0,h.k1,h.w0,h.w1,h.b0,h.b1,h.c0,h.c1⟩
def GM(h:Hj n J)(a:DI):Mg st n (J.done a):=⟨⟨⟨h.base,h.node,h.Qx,h.walk,h.kind,h.k0,h.k1,h.w0,h.w1,h.b0,h.b1,h.c0,h.c1⟩,fq ⟨rfl,rfl⟩⟩,Ep⟩
def nJ{I:Xf}{c:Xi}(h:Hj n J)(b:J.pc=11)(d:J.inner=some I)(e:Jj n I c)(f:Kz st n c):Mg st n (J.Fu c):=by
 unfold Xc.Fu;cases a:!(c.kind==12) with
 |true=>
  have a:c.kind≠12:=by simpa using a
  exact D9 h f a (d8 (fq ⟨b,I,d,e⟩))
 |false=>
  simp only[gx];cases(!(c.BR.code==1)||J.op.kind==8) with
  |true=>exact GM (J:={J with answer:=c.BR}) ⟨h.base,h.node,h.Qx,h.walk,h.kind,h.k0,h.k1,h.w0,h.w1,h.b0,h.b1,h.c0,h.c1⟩ c.BR
  |false=>exact D9 ⟨h.base,h.node,h.Qx,h.walk,h.kind,h.k0,h.k1,h.w0,h.w1,h.b0,h.b1,h.c0,h.c1⟩ (Bu (Bo Zd Zd)) (by show(3:Int)≠12;decide) (d8 (db (fq rfl)))
def Hj.inn(h:Hj n J)(o:Option Xf):Hj n {J with inner:=o}:=⟨h.base,h.node,h.Qx,h.walk,h.kind,h.k0,h.k1,h.w0,h.w1,h.b0,h.b1,h.c0,h.c1⟩
def QU(a:st≠2){c:Xi}{I:Xf}(h:Hj n J)(b:J.pc=11)(d:J.inner=some I)(e:Jj n I c)(f:c.kind≠12)(g:Qq st n c x):Mg st n (J.GZ x):=by
 obtain⟨i,j⟩:=sP a e f g;unfold Xc.GZ;rw[d];exact nJ (h.inn _) b rfl i j
def dJ(ha:Jo n (Xh J.base 2))(b:J.op.kind=6\/J.op.kind=7\/J.op.kind=8)(a:Int){c:Xi}(d:c.kind≠12):Jj n (Xf.from_ (Xh J.base 2) a J.op) c:=by
 refine⟨ha,(λW e=>by cases e),db ⟨hJ 0,by show(0:Int)<=7;decide⟩,⟨λh=>?_,λh=>absurd h d⟩,b,λ_=>⟨λh=>?_,λh=>?_,λh=>?_⟩,λ_=>⟨by show(0:Int)<=6;decide,λh=>?_,λh=>?_⟩,λ_=>⟨by show(0:Int)<=2;decide,λh=>?_,λh=>?_⟩⟩;all_goals first
  |(have h:(0:Int)=-1:=h;omega)
  |(have h:(0:Int)=1:=h;omega)
  |(have h:(2:Int)<=0:=h;omega)
  |(have h:(0:Int)=4:=h;omega)
  |(have h:(0:Int)=1\/(0:Int)=6:=h;omega)
  |(have h:(0:Int)=2:=h;omega)
def Nd(a:st≠2)(h:Hj n J):Mg st n J.perform:=by
 unfold Xc.perform;refine QU a (c:=Xu) (I:=Xf.from_ (Xh J.base 2) (MG J.op.key) J.op) ⟨h.base,h.node,h.Qx,h.walk,h.kind,h.k0,h.k1,h.w0,h.w1,h.b0,h.b1,h.c0,h.c1⟩ rfl rfl (dJ (Zi h.base Zd Zd) h.kind _ Zd) Zd ⟨Yy,λ_ e=>(by cases e),λe=>absurd e a⟩
def Nf(a:st≠2)(h:Hj n J):Mg st n J.CD:=by
 unfold Xc.CD;cases J.Ao==J.wanted with
 |true=>exact Nd a h
 |false=>
  have c:=kC (b:=J.Ao) h.w0 h.w1;exact D9 ⟨h.base,h.node,h.Qx,h.walk,h.kind,h.k0,h.k1,h.w0,h.w1,h.b0,h.b1,c.2.1,c.2.2⟩ Dy Zd (d2 (db (fq ⟨rfl,rfl,c.1⟩)))
def xJ{a b:Int}(c:0<=a)(d:0<b):0<=Int.tmod a b/\Int.tmod a b<b:=⟨pj b c,oi a d⟩
def XK(h:Hj n J){z:Int}(d:z=1\/z=2\/z=4\/z=8):Mg st n (J.AG z):=by
 have a:=xJ (b:=z) h.k0 Zo;have c:Int.tmod J.op.key z<8:=Zo;exact D9 ⟨h.base,h.node,h.Qx,h.walk,h.kind,h.k0,h.k1,a.1,c,a.1,c,h.c0,h.c1⟩ (Bu (LX a.1 c)) (by show(3:Int)≠12;decide) (d2 (fq ⟨rfl,fq rfl⟩))
def pG(k:Int):F0 k=1\/F0 k=2\/F0 k=4\/F0 k=8:=by
 unfold F0;cases k==2<;>cases k==4<;>cases k==8<;>decide
def fH(b:st≠2)(h:Hj n J)(d:eO J.wanted J.Ao)(e:Dg n x.word):Mg st n (J.BC x):=by
 unfold Xc.BC;cases x.word.sl==0 with
 |false=>exact Nf b ⟨e,h.node,h.Qx,h.walk,h.kind,h.k0,h.k1,h.w0,h.w1,h.b0,h.b1,h.c0,h.c1⟩
 |true=>
  simp only[iv,gx];cases c:J.Ao==0 with
  |true=>exact GM h _
  |false=>
   have c:J.Ao≠0:=by simpa using c
   have a:=Kn h.b0 h.b1;exact D9 ⟨h.base,h.node,h.Qx,h.walk,h.kind,h.k0,h.k1,h.w0,h.w1,a.1,a.2,h.c0,h.c1⟩ (Bu (LX a.1 a.2)) (by show(3:Int)≠12;decide) (d2 (fq ⟨rfl,zE h.w0 h.w1 d c⟩))
def QR(g:st≠2)(h:Hj n J)(m:J.pc=5)(f:Df n J.node)(i:eO J.wanted J.child)(k:Hf J.walk)(p:Dg n x.word):Mg st n (J.D8 x):=by
 obtain⟨l,j⟩:=Lh (x:=x) g h.walk k p;have q:WSo (Cq J.walk x).1:=by obtain⟨W,e,_⟩:=k;rw[e];exact⟨_,rfl⟩
 unfold Xc.D8;generalize Cq J.walk x=r at*;obtain⟨o,c,b⟩:=r;have d:=FA l;simp only at*;have a:Hj n {J with walk:=o}:=⟨h.base,h.node,h.Qx,l,h.kind,h.k0,h.k1,h.w0,h.w1,h.b0,h.b1,h.c0,h.c1⟩;cases b with
 |true=>exact D9 a (j rfl).1 (j rfl).2.1 (d4 (db (fq ⟨m,f,i,(j rfl).2.2⟩)))
 |false=>
  simp only[gx];cases Li o with
  |true=>exact D9 ⟨a.base,a.node,Es d.1,a.walk,a.kind,a.k0,a.k1,a.w0,a.w1,a.b0,a.b1,a.c0,a.c1⟩ (Eo f) (by show(9:Int)≠12;decide) (d4 (d2 (db (fq ⟨fq rfl,i⟩))))
  |false=>exact D9 (a.V7 7) (GK (Bw f Zd Zd) (Es d.1)) (by show(4:Int)≠12;decide) (d4 (d2 (fq ⟨rfl,f,i,q⟩)))
def QS(a:st≠2)(h:Hj n J)(c:Df n J.node)(d:eO J.wanted J.child)(e:Dg n x.word):Mg st n (J.An.D8 x):=by
 have b:=@QN n (Xh J.base 2) (Yw J.child) (Zi h.base Zd Zd);exact QR a ⟨h.base,h.node,h.Qx,b.1,h.kind,h.k0,h.k1,h.w0,h.w1,h.b0,h.b1,h.c0,h.c1⟩ rfl c d b.2 e
def cE(a:st≠2)(h:Hj n J):Mg st n J.DJ:=Nf a ⟨h.Qx,h.node,h.Qx,h.walk,h.kind,h.k0,h.k1,h.w0,h.w1,h.c0,h.c1,h.c0,h.c1⟩
def uF{c:Xi}(f:st≠2)(h:vK n J c)(r:c.kind≠12)(m:Qq st n c x):Mg st n (J.next x):=by
 have j:=m.1;have d:=h.b;have l:∀{J:Xc} {a:Yc},Hj n J->Jo n a->TN n J (Xm a)->Mg st n (J,Xm a):=λb a p=>D9 b (Bu a) (by show(3:Int)≠12;decide) p;rcases h.pc with⟨_,h⟩|⟨_,h⟩
 ·exact absurd h r
 have t:eO J.wanted J.child->∀s:Xe,Dg n s->Mg st n ({J with sentinel:=s,pc:=9},Xm (Fq J.child)):=λg s u=>
  l ⟨d.base,d.node,u,d.walk,d.kind,d.k0,d.k1,d.w0,d.w1,d.b0,d.b1,d.c0,d.c1⟩ (LX d.c0 d.c1) (d4 (d2 (db (fq ⟨db (fq rfl),g⟩))))
 rcases h with hp|hp|⟨hp,g⟩|⟨hp,v,g⟩|⟨hp|hp,i,g⟩|⟨hp,i,g,k⟩|⟨hp,i,g,k⟩|⟨hp|hp|hp,g⟩|⟨hp,I,w,y⟩|hp|hp|hp|hp
 ·have e:J.next x=({J with pc:=1},Xm (root 16)):=by unfold Xc.next;rw[hp];rfl
  rw[e];exact l (d.V7 1) (Bo Zd Zd) (db (fq rfl))
 ·have e:J.next x=J.AG (F0 x.word.nm):=by unfold Xc.next;rw[hp];rfl
  rw[e];exact XK d (pG _)
 ·have e:J.next x=J.BC x:=by unfold Xc.next;rw[hp];rfl
  rw[e];exact fH f d g j
 ·have e:J.next x=bif !x.ok then J.perform else({J with node:=x.word,pc:=4},Xq (Xh x.word 0) (Y6 (Yw J.child))):=by unfold Xc.next Xc.Am;rw[hp];rfl
  rw[e];cases o:x.ok with
  |false=>exact Nd f d
  |true=>
   have i:=m.2.1 v o;exact D9 ⟨d.base,j,d.Qx,d.walk,d.kind,d.k0,d.k1,d.w0,d.w1,d.b0,d.b1,d.c0,d.c1⟩ (GK (Bw i Zd Zd) Cy) (by show(4:Int)≠12;decide) (d4 (fq ⟨fq rfl,i,g⟩))
 ·have e:J.next x=J.An.D8 x:=by unfold Xc.next Xc.Am;rw[hp];rfl
  rw[e];exact QS f d i g j
 ·have e:J.next x=bif x.ok then({J with sentinel:=J.node,pc:=9},Xm (Fq J.child)) else J.An.D8 x:=by unfold Xc.next Xc.Am;rw[hp];rfl
  rw[e];cases x.ok with
  |true=>exact t g _ d.node
  |false=>exact QS f d i g j
 ·have e:J.next x=J.D8 x:=by unfold Xc.next Xc.Am;rw[hp];rfl
  rw[e];exact QR f d hp i g k j
 ·have e:J.next x=({J with pc:=8},Xp (AM J.walk) (Yu J.walk) (A4 (Yu J.walk) J.node)):=by unfold Xc.next Xc.Am;rw[hp];rfl
  rw[e];have q:=FA d.walk;exact D9 (d.V7 8) (BB q.2.2.1 (F6 f (Ey d.node)) rfl) (by show(5:Int)≠12;decide) (d4 (fq ⟨db rfl,i,g⟩))
 ·have e:J.next x=({J with pc:=9},Xm (Fq J.child)):=by unfold Xc.next Xc.Am;rw[hp];rfl
  rw[e];exact t g _ d.Qx
 ·have e:J.next x=bif x.word.sl==0 then({J with pc:=10},Xp (Fq J.child) x.word (A4 x.word J.sentinel)) else J.DJ:=by unfold Xc.next Xc.Am;rw[hp];rfl
  rw[e];cases x.word.sl==0 with
  |true=>exact D9 (d.V7 10) (BB (LX d.c0 d.c1) (F6 f (Ey d.Qx)) rfl) (by show(5:Int)≠12;decide) (d4 (d2 (db (fq ⟨db (db rfl),g⟩))))
  |false=>exact cE f d
 ·have e:J.next x=J.DJ:=by unfold Xc.next Xc.Am;rw[hp];rfl
  rw[e];exact cE f d
 ·have e:J.next x=J.GZ x:=by unfold Xc.next;rw[hp];rfl
  rw[e];exact QU f d hp w y r m
 ·have e:J.next x=J.AX x:=by unfold Xc.next;rw[hp];rfl
  rw[e];exact D9 ⟨d.base,d.node,d.Qx,d.walk,d.kind,d.k0,d.k1,d.w0,d.w1,d.b0,d.b1,d.c0,d.c1⟩ (BB (Bo Zd Zd) (F6 f CY) rfl) (by show(5:Int)≠12;decide) (d8 (d2 (fq rfl)))
 ·have e:J.next x=J.Ck x:=by unfold Xc.next;rw[hp];rfl
  rw[e];unfold Xc.Ck;cases x.ok with
  |false=>exact l (d.V7 12) (Bo Zd Zd) (d8 (db (fq rfl)))
  |true=>
   cases J.op.kind==7 with
   |true=>exact GM d _
   |false=>
    cases J.size==8 with
    |true=>exact GM d _
    |false=>
     cases decide (J.count.nm<wr (2*J.size)) with
     |true=>exact GM d _
     |false=>exact l (d.V7 14) (Bo Zd Zd) (d8 (d2 (db (fq rfl))))
 ·have e:J.next x=J.AD x:=by unfold Xc.next;rw[hp];rfl
  rw[e];unfold Xc.AD;cases x.word.nm==J.size with
  |true=>exact D9 (d.V7 15) (BB (Bo Zd Zd) (F6 f CY) rfl) (by show(5:Int)≠12;decide) (d8 (d2 (db (db rfl))))
  |false=>exact GM d _
 ·have e:J.next x=J.done J.answer:=by unfold Xc.next;rw[hp];rfl
  rw[e];exact GM d _
end
