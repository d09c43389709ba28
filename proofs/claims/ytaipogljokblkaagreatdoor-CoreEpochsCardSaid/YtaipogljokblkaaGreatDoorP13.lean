/- Core: LF, LG, LF2. -/
import Derived.Test.YtaipogljokblkaaGreatDoorP12
import Derived.Test.YtaipogljokblkaaGreatDoorP10
set_option linter.all false
set_option maxRecDepth 100000
set_option maxHeartbeats 8000000
namespace Go.Proofs.YtaipogljokblkaaGreatDoor
open Go Go.RowKit
def EO(c:Xi):Bool:=c.kind==7||c.kind==10
def Calm{a:Type}(f:a->Xr->a × Xi):Nat->a->Xi->Prop
 |0,_,c=>EO c=false
 |k+1,J,c=>EO c=true->∀x,Calm f k (f J x).1 (f J x).2
def Ye{a:Type}{f:a->Xr->a × Xi}{J:a}{c:Xi}(h:EO c=false):∀k,Calm f k J c
 |0=>h
 |_+1=>λe=>by rw[h] at e;cases e
def LW{a:Type}{f:a->Xr->a × Xi}:∀(k:Nat) {J:a} {c:Xi},Calm f k J c->Calm f (k+1) J c
 |0,_,_,h=>Ye h 1
 |k+1,_,_,h=>λe x=>LW k (h e x)
def I4{a β:Type}{f:a->Xr->a × Xi}{g:β->Xr->β × Xi}(i:a->β)(b:∀J x,g (i J) x=(i (f J x).1,(f J x).2)):∀(k:Nat) {J:a} {c:Xi},Calm f k J c->Calm g k (i J) c
 |0,_,_,h=>h
 |k+1,J,c,h=>λe x=>by
  rw[b J x];exact I4 i b k (h e x)
def jU{J:Xy}(x:Xr)(a:0<=J.pc)(b:J.pc<=5):Calm Xy.next 3 (J.next x).1 (J.next x).2:=by
 obtain⟨pc,c,op,node,g,e⟩:=J;have f:pc=0\/pc=1\/pc=2\/pc=3\/pc=4\/pc=5:=by simp only at a b;omega
 clear a b;by_cases d:op.kind=1<;>(rcases f with rfl|rfl|rfl|rfl|rfl|rfl)<;>simp only[Xy.next,Xy.push,Xy.pop,Xy.done,jn,d,Int.reduceEq,Int.reduceNeg,ko,jx,↓reduceIte]<;>(repeat' split)<;>
  first
  |exact Ye rfl 3
  |(refine λ_ y=>Ye ?_ 2;simp only[Xy.next,Xy.push,Xy.pop,Xy.done,jn,d,Int.reduceEq,Int.reduceNeg,ko,jx,↓reduceIte];rfl)
def uG{J:Xx}(x:Xr)(a:0<=J.pc)(b:J.pc<=8)(e:J.op.kind=4->J.pc<=8):Calm Xx.next 3 (J.next x).1 (J.next x).2:=by
 obtain⟨pc,c,op,node,h,t,i,f⟩:=J;have g:pc=0\/pc=1\/pc=2\/pc=3\/pc=4\/pc=5\/pc=6\/pc=7\/pc=8:=by simp only at a b;omega
 clear a b e;by_cases d:op.kind=4<;>(rcases g with rfl|rfl|rfl|rfl|rfl|rfl|rfl|rfl|rfl)<;>simp only[Xx.next,Xx.enqueue,Xx.dequeue,Xx.done,jn,d,Int.reduceEq,Int.reduceNeg,ko,jx,↓reduceIte]<;>(repeat' split)<;>
  first
  |exact Ye rfl 3
  |(refine λ_ y=>Ye ?_ 2;simp only[Xx.next,Xx.enqueue,Xx.dequeue,Xx.done,jn,d,Int.reduceEq,Int.reduceNeg,ko,jx,↓reduceIte];rfl)
structure yw(β:Type)(s:β->Xr->β × Xi × Bool)(A B:β->Prop):Prop where
 s2:∀W x,(s W x).2.2=true->EO (s W x).2.1=false\/B (s W x).1\/A (s W x).1
 s1:∀W x,A W->(s W x).2.2=true->EO (s W x).2.1=false\/B (s W x).1
 s0:∀W x,B W->(s W x).2.2=true/\EO (s W x).2.1=false
def Mz(W:Xj)(h:W.on.2.2=true):EO W.on.2.1=false\/W.on.1.pc=8:=by
 unfold Xj.on at*;split at h
 ·cases h
 ·rename_i a;rw[fw a];exact db rfl
def M2:yw Xj Xj.step (λW=>W.pc=7\/W.pc=6) (λW=>W.pc=8):=by
 refine⟨λW x h=>?_,λW x hp h=>?_,λW x hp=>?_⟩
 ·
  have a:∀W:Xj,W.on.2.2=true->EO W.on.2.1=false\/W.on.1.pc=8\/(W.on.1.pc=7\/W.on.1.pc=6):=λW h=>(Mz W h).imp id fq;unfold Xj.step at*;(repeat' split at h)<;>(repeat' split)<;>first
   |contradiction
   |exact fq rfl
   |exact d2 (fq rfl)
   |exact d2 (db rfl)
   |exact a _ h
   |cases h
 ·
  rcases hp with hp|hp
  ·have e:W.step x=Xj.on {W with As:=W.next}:=by unfold Xj.step;rw[hp];rfl
   rw[e] at h ⊢;exact Mz _ h
  ·have e:W.step x=Xj.on {W with As:=A4 W.As W.next}:=by unfold Xj.step;rw[hp];rfl
   rw[e] at h ⊢;exact Mz _ h
 ·
  have e:W.step x=W.behind:=by unfold Xj.step;rw[show W.pc=8 from hp];rfl
  rw[e];exact⟨rfl,rfl⟩
def KD(C:Xb)(h:C.lower.2.2=true):EO C.lower.2.1=false\/(C.lower.1.pc=8\/C.lower.1.pc=9):=by
 unfold Xb.lower at*;simp only at*;split at h
 ·split at h<;>cases h
 ·rename_i a;rw[fw a];split
  ·exact fq rfl
  ·exact db (db rfl)
def PP(C:Xb)(h:C.on.2.2=true):EO C.on.2.1=false\/(C.on.1.pc=8\/C.on.1.pc=9):=by
 unfold Xb.on at*;split at h
 ·rename_i a;rw[ga a];exact KD _ h
 ·rename_i a;rw[fw a];exact db (fq rfl)
def aZ:yw Xb Xb.step (λC=>C.pc=7) (λC=>C.pc=8\/C.pc=9):=by
 refine⟨λC x h=>?_,λC x hp h=>?_,λC x hp=>?_⟩
 ·
  have a:∀C:Xb,C.lower.2.2=true->EO C.lower.2.1=false\/(C.lower.1.pc=8\/C.lower.1.pc=9)\/C.lower.1.pc=7:=λC h=>(KD C h).imp id fq;have b:∀C:Xb,C.on.2.2=true->EO C.on.2.1=false\/(C.on.1.pc=8\/C.on.1.pc=9)\/C.on.1.pc=7:=λC h=>(PP C h).imp id fq;unfold Xb.step at*;(repeat' split at h)<;>(repeat' split)<;>first
   |contradiction
   |exact fq rfl
   |exact db (db rfl)
   |exact a _ h
   |exact b _ h
   |cases h
 ·
  have e:C.step x=Xb.on {C with spot:={C.spot with As:=C.next}}:=by unfold Xb.step;rw[show C.pc=7 from hp];rfl
  rw[e] at h ⊢;exact PP _ h
 ·
  rcases hp with hp|hp
  ·have e:C.step x=C.behind:=by unfold Xb.step;rw[hp];rfl
   rw[e];exact⟨rfl,rfl⟩
  ·have e:C.step x=C.enter:=by unfold Xb.step;rw[hp];rfl
   rw[e];exact⟨rfl,rfl⟩
def Qc{a β:Type}(f:a->Xr->a × Xi)(s:β->Xr->β × Xi × Bool)(P:a->β->Prop):Prop:=
 ∀J W x,P J W->((s W x).2.2=true/\P (f J x).1 (s W x).1/\(f J x).2=(s W x).2.1)\/((s W x).2.2=false/\Calm f 1 (f J x).1 (f J x).2)
def Qc.calm{a β:Type}{f:a->Xr->a × Xi}{s:β->Xr->β × Xi × Bool}{A B:β->Prop}{P:a->β->Prop}(w:Qc f s P)(m:yw β s A B){J:a}{W:β}(x:Xr)(h:P J W):Calm f 3 (f J x).1 (f J x).2:=by
 have g:∀(J:a) (W:β) (c:Xi),P J W->(EO c=false\/B W)->Calm f 1 J c:=λJ W c h hw=>by
  rcases hw with hw|hw
  ·exact Ye hw 1
  ·intro _ y;obtain⟨i,j⟩:=m.s0 W y hw;rcases w J W y h with⟨_,_,e⟩|⟨e,_⟩
   ·show EO _=false;rw[e];exact j
   ·rw[i] at e;cases e
 have k:∀(J:a) (W:β) (c:Xi),P J W->(EO c=false\/B W\/A W)->Calm f 2 J c:=λJ W c h hw=>by
  rcases hw with hw|hw|hw
  ·exact Ye hw 2
  ·exact LW 1 (g J W c h (db hw))
  ·intro _ y;rcases w J W y h with⟨b,d,e⟩|⟨_,e⟩
   ·rw[e];exact g _ _ _ d (m.s1 W y hw b)
   ·exact e
 rcases w J W x h with⟨b,d,e⟩|⟨_,e⟩
 ·rw[e];exact LW 2 (k _ _ _ d (m.s2 W x b))
 ·exact LW 2 (LW 1 e)
def sj(J:Xf)(W:Xj):Prop:=J.walk=some W/\((J.op.kind=6/\J.pc=4)\/(J.op.kind=7/\(J.pc=1\/J.pc=6))\/(J.op.kind=8/\J.pc=1))
def aD:Qc Xf.next Xj.step sj:=λJ W x h=>by
 obtain⟨pc,c,start,g,op,d,node,i⟩:=J;obtain⟨e,b⟩:=h;simp only at e b;subst e;cases f:(W.step x).2.2 with
 |true=>
  refine fq ⟨rfl,?_⟩;rcases b with⟨a,rfl⟩|⟨a,rfl|rfl⟩|⟨a,rfl⟩<;>
   simp only[Xf.next,Xf.insert,Xf.Ak,Xf.get,Xf.AE,Xf.Ay,Xf.A6,Cq,jn,a,f,Int.reduceEq,Int.reduceNeg,ko,jx,↓reduceIte,sj]<;>simp
 |false=>
  refine db ⟨rfl,Ye ?_ 1⟩;rcases b with⟨a,rfl⟩|⟨a,rfl|rfl⟩|⟨a,rfl⟩<;>
   simp only[Xf.next,Xf.insert,Xf.Ak,Xf.get,Xf.AE,Xf.Ay,Xf.A6,Cq,jn,a,f,Int.reduceEq,Int.reduceNeg,ko,jx,↓reduceIte,im]<;>(repeat' split)<;>rfl
def LF{J:Xf}(p:Int)(h:(J.op.kind=6/\p=4)\/(J.op.kind=7/\(p=1\/p=6))\/(J.op.kind=8/\p=1)):sj (J.An p) (Xj.new J.start J.key):=⟨rfl,h⟩
def OX{n:Nat}{J:Xf}{c:Xi}(x:Xr)(h:Jj n J c)(q:c.kind≠12):Calm Xf.next 3 (J.next x).1 (J.next x).2:=by
 obtain⟨ha,w,hp,i,a,r,j,o⟩:=h;have z:J.pc≠-1:=λe=>q (i.1 e);have d:J.pc=0\/J.pc=1\/J.pc=2\/J.pc=3\/J.pc=4\/J.pc=5\/J.pc=6\/J.pc=7:=Zo;have b:=λ(J:Xf) (W:Xj) (h:sj J W)=>aD.calm M2 x h;rcases a with a|a|a
 ·have s:=LF (J:=J) 4 (fq ⟨a,rfl⟩);have t:(J.An 4).next x=(J.An 4).AE x:=by unfold Xf.next Xf.insert;rw[show(J.An 4).op.kind=6 from a,show(J.An 4).pc=4 from rfl];rfl
  have k:=b _ _ s;rw[t] at k;rcases d with hp|hp|hp|hp|hp|hp|hp|hp
  ·have e:J.next x=({J with pc:=1},Xu):=by unfold Xf.next Xf.insert;rw[a,hp];rfl
   rw[e];exact Ye rfl 3
  ·have e:J.next x=if !x.ok then J.done 4 0 else({J with node:=x.word,pc:=2},Xq (Xh x.word 0) (Y6 J.key)):=by unfold Xf.next Xf.insert;rw[a,hp];rfl
   rw[e];split<;>exact Ye rfl 3
  ·have e:J.next x=({J with pc:=3},Xq (Xh J.node 1) (Y6 J.op.val)):=by unfold Xf.next Xf.insert;rw[a,hp];rfl
   rw[e];exact Ye rfl 3
  ·have e:J.next x=(J.An 4).AE x:=by unfold Xf.next Xf.insert;rw[a,hp];rfl
   rw[e];exact k
  ·obtain⟨W,f,_⟩:=(r a).2.2 hp;exact b J W ⟨f,fq ⟨a,hp⟩⟩
  ·have e:J.next x=J.done 3 0:=by unfold Xf.next Xf.insert;rw[a,hp];rfl
   rw[e];exact Ye rfl 3
  ·have e:J.next x=({J with pc:=7},Xp (AM J.walk) (Yu J.walk) (A4 (Yu J.walk) J.node)):=by unfold Xf.next Xf.insert;rw[a,hp];rfl
   rw[e];exact Ye rfl 3
  ·have e:J.next x=if x.ok then J.done 1 0 else(J.An 4).AE x:=by unfold Xf.next Xf.insert;rw[a,hp];rfl
   rw[e];split
   ·exact Ye rfl 3
   ·exact k
 ·have l:=LF (J:=J) 1 (db (fq ⟨a,fq rfl⟩));have m:(J.An 1).next x=(J.An 1).Ay x:=by unfold Xf.next Xf.Ak;rw[show(J.An 1).op.kind=7 from a,show(J.An 1).pc=1 from rfl];rfl
  have g:=b _ _ l;rw[m] at g;have u:=LF (J:=J) 6 (db (fq ⟨a,db rfl⟩));have v:(J.An 6).next x=(J.An 6).A6 x:=by unfold Xf.next Xf.Ak;rw[show(J.An 6).op.kind=7 from a,show(J.An 6).pc=6 from rfl];rfl
  have p:=b _ _ u;rw[v] at p;rcases d with hp|hp|hp|hp|hp|hp|hp|hp
  ·have e:J.next x=(J.An 1).Ay x:=by unfold Xf.next Xf.Ak;rw[a,hp];rfl
   rw[e];exact g
  ·obtain⟨W,f,_⟩:=(j a).2.1 (fq hp);exact b J W ⟨f,db (fq ⟨a,fq hp⟩)⟩
  ·have e:J.next x=({J with val:=x.word.nm,pc:=3},Xp (Xh (Yu J.walk) 2) (CG J.walk) (Zc (CG J.walk))):=by unfold Xf.next Xf.Ak;rw[a,hp];rfl
   rw[e];exact Ye rfl 3
  ·have e:J.next x=if x.ok then({J with pc:=4},Xp (AM J.walk) (Yu J.walk) (A4 (Yu J.walk) (CG J.walk))) else(J.An 1).Ay x:=by unfold Xf.next Xf.Ak;rw[a,hp];rfl
   rw[e];split
   ·exact Ye rfl 3
   ·exact g
  ·have e:J.next x=if x.ok then({J with pc:=5},Xk (Yu J.walk)) else(J.An 6).A6 x:=by unfold Xf.next Xf.Ak;rw[a,hp];rfl
   rw[e];split
   ·intro _ y;have e:({J with pc:=5}:Xf).next y=({J with pc:=5}:Xf).done 1 J.val:=by unfold Xf.next Xf.Ak;rw[show({J with pc:=5}:Xf).op.kind=7 from a];rfl
    rw[e];exact Ye rfl 2
   ·exact p
  ·have e:J.next x=J.done 1 J.val:=by unfold Xf.next Xf.Ak;rw[a,hp];rfl
   rw[e];exact Ye rfl 3
  ·obtain⟨W,f,_⟩:=(j a).2.1 (db hp);exact b J W ⟨f,db (fq ⟨a,db hp⟩)⟩
  ·have:=(j a).1;omega
 ·have l:=LF (J:=J) 1 (db (db ⟨a,rfl⟩));have m:(J.An 1).next x=(J.An 1).Ay x:=by unfold Xf.next Xf.get;rw[show(J.An 1).op.kind=8 from a,show(J.An 1).pc=1 from rfl];rfl
  have g:=b _ _ l;rw[m] at g;have:=(o a).1;rcases d with hp|hp|hp|hp|hp|hp|hp|hp
  ·have e:J.next x=(J.An 1).Ay x:=by unfold Xf.next Xf.get;rw[a,hp];rfl
   rw[e];exact g
  ·obtain⟨W,f,_⟩:=(o a).2.1 hp;exact b J W ⟨f,db (db ⟨a,hp⟩)⟩
  ·have e:J.next x=J.done 1 x.word.nm:=by unfold Xf.next Xf.get;rw[a,hp];rfl
   rw[e];exact Ye rfl 3
  all_goals omega
def WU(a:Yc):Prop:=a.sl=0/\a.gn=0/\25<=a.fd/\a.fd<85
def Qn(st:Int)(n:Nat)(a:Bx):Prop:=
 (a.kind=1/\(Jo n a.AJ\/a.AJ=root 24\/WU a.AJ))\/(a.kind=2/\((vU n a.AJ/\Dg n a.new)\/WU a.AJ))\/
 (a.kind=3/\((Jo n a.AJ/\CP st n a.AJ a.new/\a.new.tg=wr (a.AU.tg+1))\/a.AJ=root 24))\/a.kind=4\/(a.kind=5/\Df n a.AU)
def su(st:Int)(n:Nat)(a:Bx)(x:Xr):Prop:=
 (Jo n a.AJ->Dg n x.word)/\(a.kind=4->Dg n x.word/\(x.ok=true->Df n x.word))/\(st=2->a.kind=1->a.AJ.sl=0->a.AJ.fd=0->Df n x.word)
def CAny(st:Int)(n:Nat)(c:Xi):Prop:=(Kz st n c/\c.kind≠12)\/c=Zj\/c=Y7\/c=EI
structure Bj(n t:Nat)(M:MR):Prop where
 Q9:0<=M.R.me
 Q8:M.R.me<6
 QY:1<=M.R.Ae
 Ua:M.R.Ae<=6
 eng:M.R.Aa=2\/M.R.Aa=4
 nl:M.ns.length<=t
 Pz:M.ds.Sublist M.ns
 sl:M.ss.length<=54
 OQ:∀d∈M.ns,Df n d.ref
def Hd(R R':Xd):Prop:=R'.me=R.me/\R'.Ae=R.Ae/\R'.Aa=R.Aa/\R'.most=R.most
def Hd.refl(R:Xd):Hd R R:=⟨rfl,rfl,rfl,rfl⟩
def Wl(R:Xd):Prop:=R.Aa=2\/R.Aa=3
def tZ(R:Xd):Prop:=R.Aa=3\/R.Aa=5
def dR(R:Xd):Int:=bif R.AO then R.Ae*9 else R.Ae
def ry(st:Int)(n:Nat)(R:Xd)(c:Xi):Prop:=
  R.call=c/\Qn st n R.AH/\
  ((R.step = 1∧((c.kind = 3∧R.AH.kind = 1∧R.AH.AJ = c.AJ∧Jo n c.AJ)∨(c.kind = 4∧R.AH.kind = 2∧Jo n R.AH.AJ)∨(c.kind = 5∧R.AH.kind = 3∧Jo n R.AH.AJ)∨(c.kind = 8∧R.AH.kind = 4))) ∨
   R.step=2/\c.kind≠3/\c.kind≠6/\c.kind≠8\/
   R.step=3/\c.kind=1\/
   (R.step=4/\c.kind=2/\Wl R/\0<=R.index/\R.index<9)\/
   (R.step=5/\c.kind=6/\0<=c.i/\c.i<9/\R.AH.kind=1/\R.AH.AJ=c.AJ/\Jo n c.AJ)\/
   (R.step=6/\c.kind=6/\0<=c.i/\c.i<9/\tZ R/\Jo n c.AJ/\Dg n R.word/\(st=2->c.AJ.sl=0->c.AJ.fd=0->Df n R.word))\/
   (R.step=7/\c.kind=6/\0<=c.i/\c.i<9/\Jo n c.AJ)\/
   R.step=8/\c.kind=8\/
   R.step=9/\c.kind=10/\Df n c.AU\/R.step=10/\c.kind=10/\Df n c.AU\/R.step=11/\c.kind=10\/
   (R.step=12/\(c.kind=10\/c.kind=11)/\R.Aa=4)\/
   (R.step=13/\(c.kind=10\/c.kind=11)/\R.Aa≠1/\0<=R.index/\R.index<dR R)\/
   (R.step=14/\(c.kind=10\/c.kind=11)/\R.Aa=4)\/
   (R.step=15/\(c.kind=10\/c.kind=11)/\R.Aa=4)\/
   (R.step=16/\(c.kind=10\/c.kind=11)))
def MZ(st:Int)(n:Nat)(R:Xd)(c:Xi)(rep:Xr->Prop)(R':Xd):Prop:=
 Hd R R'/\((R'.step≠0/\ry st n R' c)\/(R'.step=0/\rep R'.Az))
def RepT(x:Xr):Prop:=x=⟨.zero,true⟩
section
variable{st:Int}{n:Nat}{R:Xd}{c:Xi}{x:Xr}
def Dd{a:Yc}(h:Jo n a\/a=root 24\/WU a):Qn st n ⟨1,a,.zero,.zero⟩:=fq ⟨rfl,h⟩
def I6{a:Yc}{w:Xe}(h:WU a):Qn st n ⟨2,a,.zero,w⟩:=db (fq ⟨rfl,db h⟩)
def Sc{o w:Xe}:Qn st n ⟨3,root 24,o,w⟩:=d2 (fq ⟨rfl,db rfl⟩)
def eL{a:Yc}{o w:Xe}:Qn st n ⟨4,a,o,w⟩:=d2 (db (fq rfl))
def WJ{a:Yc}{o w:Xe}(h:Df n o):Qn st n ⟨5,a,o,w⟩:=d2 (db (db ⟨rfl,h⟩))
def LZ{a i:Int}(b:0<=a)(d:a<6)(e:0<=i)(f:i<9):WU (Xd.AL a i):=by
 unfold Xd.AL;rw[FK (n:=a*9) Zo Zo,FK (n:=25+a*9) Zo Zo,FK Zo Zo];exact⟨rfl,rfl,by show 25<=25+a*9+i;omega,by show 25+a*9+i<85;omega⟩
def Wz{a:Int}(b:0<=a)(d:a<6):WU ⟨0,0,wr (79+a)⟩:=by
 rw[FK Zo Zo];exact⟨rfl,rfl,by show 25<=79+a;omega,by show 79+a<85;omega⟩
def Ju(rep:Xr->Prop)(h:rep ⟨.zero,true⟩):MZ st n R c rep R.done:=⟨⟨rfl,rfl,rfl,rfl⟩,db ⟨rfl,h⟩⟩
def Oy{rep:Xr->Prop}(h:rep x):MZ st n R c rep (R.finish x):=⟨⟨rfl,rfl,rfl,rfl⟩,db ⟨rfl,h⟩⟩
def we(R:Xd)(k:Int)(w:Xe):Hd R (R.SZ k w)/\(R.SZ k w).call=R.call/\(R.SZ k w).index=R.index/\(R.SZ k w).word=R.word:=by
 unfold Xd.SZ;cases k==0<;>cases k==1<;>cases k==2<;>cases k==3<;>cases k==4<;>cases k==5<;>cases k==6<;>cases k==7<;>exact⟨⟨rfl,rfl,rfl,rfl⟩,rfl,rfl,rfl⟩
def NL(R:Xd)(s k:Int)(w:Xe):Hd R (R.post s k w)/\(R.post s k w).call=R.call/\(R.post s k w).index=R.index/\(R.post s k w).step=s/\(R.post s k w).AH=⟨2,Xd.AL R.me k,.zero,w⟩/\(R.post s k w).word=R.word:=by
 obtain⟨a,b,d,e⟩:=we R k w;exact⟨a,b,d,rfl,rfl,e⟩
def Ox{rep:Xr->Prop}(b:rep ⟨.zero,true⟩)(m0:0<=R.me)(d:R.me<6)(e:Wl R)(f:R.call=c)(g:c.kind=2):∀l:List Int,(∀i∈l,0<=i/\i<9)->MZ st n R c rep (R.IN l)
 |[],_=>Ju rep b
 |i::l,h=>by
  unfold Xd.IN;cases wz (R.Dc i) with
  |true=>exact Ox b m0 d e f g l λj q=>h j (gq _ q)
  |false=>
   obtain⟨k,m⟩:=h i (g6 ..);obtain⟨p1,p2,o,p,r,s⟩:=NL {R with index:=i} 4 i .zero;simp only[gx];have a:Wl (Xd.post {R with index:=i} 4 i .zero):=by unfold Wl;rw[p1.2.2.1];exact e
   refine⟨p1,fq ⟨by rw[p];decide,p2.trans f,by rw[r];exact I6 (LZ m0 d k m),?_⟩⟩;exact d2 (db (fq ⟨p,g,a,by rw[o];exact k,by rw[o];exact m⟩))
def IG{rep:Xr->Prop}{s:Int}{b:BL}(m0:0<=R.me)(d:R.me<6)(e:R.call=c)(a:(s=2/\c.kind≠3/\c.kind≠6/\c.kind≠8)\/(s=7/\c.kind=6/\0<=c.i/\c.i<9/\Jo n c.AJ)):MZ st n R c rep (R.DV s b):=by
 refine⟨⟨rfl,rfl,rfl,rfl⟩,fq ⟨?_,e,I6 (Wz m0 d),?_⟩⟩
 ·show s≠0;rcases a with h|h<;>omega
 ·rcases a with h|h
  ·exact db (fq h)
  ·exact d4 (d2 (fq h))
def Ra{rep:Xr->Prop}(a:rep ⟨.zero,true⟩)(m0:0<=R.me)(b:R.me<6)(d:R.call=c)(f:c.kind=2)(l:List Int)(g:∀i∈l,0<=i/\i<9):MZ st n R c rep (R.Cw l):=by
 unfold Xd.Cw;cases(R.EU&&!(!R.span.is&&(R.span.low==0&&R.span.KS==0))) with
 |true=>exact IG m0 b d (fq ⟨rfl,Zo,Zo,Zo⟩)
 |false=>
  cases e:R.AO with
  |true=>exact Ox a m0 b (by unfold Xd.AO at e;simpa [Wl] using e) d f l g
  |false=>exact Ju rep a
def OZ(t1:1<=R.Ae)(t6:R.Ae<=6):1<=dR R/\dR R<=54/\(R.AO=false->dR R<=6):=by
 unfold dR;cases R.AO with
 |true=>exact⟨by show 1<=R.Ae*9;omega,by show R.Ae*9<=54;omega,λh=>by cases h⟩
 |false=>exact⟨t1,by show R.Ae<=54;omega,λ_=>t6⟩
def Lp(t1:1<=R.Ae)(t6:R.Ae<=6)(e:R.call=c)(f:c.kind=10\/c.kind=11)(g:R.Aa≠1)(k:Int)(d:0<=k):
  ((R.look k).2=true->Hd R (R.look k).1/\(R.look k).1.step≠0/\ry st n (R.look k).1 c/\(R.look k).1.index=k/\(R.look k).1.step=13)/\((R.look k).2=false↔¬k<dR R):=by
 unfold Xd.look
 cases i:R.AO with
 |true=>
  have j:dR R=R.Ae*9:=by unfold dR;rw[i];rfl
  simp only[i9]
  rw[FK Zo Zo]
  cases a:decide (R.Ae*9<=k) with
  |true=>
   have a:=iz a
   exact⟨λh=>(by cases h),⟨λ_=>Zo,λ_=>rfl⟩⟩
  |false=>
   have a:¬R.Ae*9<=k:=mu a
   refine⟨λ_=>⟨⟨rfl,rfl,rfl,rfl⟩,by show(13:Int)≠0;decide,⟨e,Dd (db (db ?_)),?_⟩,rfl,rfl⟩,⟨λh=>(by cases h),λh=>absurd Zo h⟩⟩
   ·have l:Int.tdiv k 9=k/9:=Int.tdiv_eq_ediv_of_nonneg d;have m:Int.tmod k 9=k%9:=Int.tmod_eq_emod_of_nonneg d;have o:wr (wr (25+wr (wr (k/9)*9))+k%9)=25+k/9*9+k%9:=by
     rw[FK (n:=k/9) Zo Zo,FK (n:=k/9*9) Zo Zo,FK (n:=25+k/9*9) Zo Zo,FK Zo Zo]
    rw[l,m,o];exact⟨rfl,rfl,by show 25<=25+k/9*9+k%9;omega,by show 25+k/9*9+k%9<85;omega⟩
   ·have b:k<dR (Xd.load {R with index:=k} 13 ⟨0,0,wr (wr (25+wr (wr (Int.tdiv k 9)*9))+Int.tmod k 9)⟩):=by show k<dR R;omega
    exact d8 (d4 (fq ⟨rfl,f,g,d,b⟩))
 |false=>
  have j:dR R=R.Ae:=by unfold dR;rw[i];rfl
  simp only[gx]
  cases a:decide (R.Ae<=k) with
  |true=>
   have a:=iz a
   exact⟨λh=>(by cases h),⟨λ_=>Zo,λ_=>rfl⟩⟩
  |false=>
   have a:¬R.Ae<=k:=mu a
   refine⟨λ_=>⟨⟨rfl,rfl,rfl,rfl⟩,by show(13:Int)≠0;decide,⟨e,Dd (d2 (Wz d Zo)),?_⟩,rfl,rfl⟩,⟨λh=>(by cases h),λh=>absurd Zo h⟩⟩
   have b:k<dR (Xd.load {R with index:=k} 13 ⟨0,0,wr (79+k)⟩):=by show k<dR R;omega
   exact d8 (d4 (fq ⟨rfl,f,g,d,b⟩))
def oP(t1:1<=R.Ae)(t6:R.Ae<=6)(j:R.call=c)(k:c.kind=10\/c.kind=11):MZ st n R c RepT R.scan:=by
 unfold Xd.scan;cases g:R.Aa==1 with
 |true=>exact Ju RepT rfl
 |false=>
  have g:R.Aa≠1:=by simpa using g
  simp only[gx];cases i:R.Aa==4 with
  |true=>
   have i:R.Aa=4:=by simpa using i
   exact⟨⟨rfl,rfl,rfl,rfl⟩,fq ⟨by show(12:Int)≠0;decide,j,Dd (db (fq rfl)),d8 (d2 (db (fq ⟨rfl,k,i⟩)))⟩⟩
  |false=>
   have l:=Lp (st:=st) (n:=n) t1 t6 j k g 0 Zd;have m:(R.look 0).2=true:=by
    have:=(OZ t1 t6).1;cases h:(R.look 0).2 with
    |true=>rfl
    |false=>exact absurd (l.2.1 h) Zo
   obtain⟨a,b,d,e,f⟩:=l.1 m;exact⟨a,fq ⟨b,d⟩⟩
end
def Oj{J:Xc}{I:Xf}:∀(k:Nat) {J:Xc} {I:Xf} {c:Xi},J.pc=11->J.inner=some I->Calm Xf.next k I c->Calm Xc.next k J c
 |0,_,_,_,_,_,h=>h
 |k+1,J,I,c,a,b,h=>λe x=>by
  have d:=h e x;have e:J.next x=Xc.Fu {J with inner:=some (I.next x).1} (I.next x).2:=by unfold Xc.next Xc.GZ;rw[a,b];rfl
  rw[e];unfold Xc.Fu;cases !((I.next x).2.kind==12) with
  |true=>exact Oj (J:=J) (I:=I) k a rfl d
  |false=>
   simp only[gx];cases(!((I.next x).2.BR.code==1)||J.op.kind==8)<;>exact Ye rfl k
def K6{J:Xc}{I:Xf}{c:Xi}(k:Nat)(a:J.pc=11)(b:J.inner=some I)(h:Calm Xf.next k I c):Calm Xc.next k (J.Fu c).1 (J.Fu c).2:=by
 unfold Xc.Fu;cases !(c.kind==12) with
 |true=>exact Oj (J:=J) (I:=I) k a b h
 |false=>
  simp only[gx];cases(!(c.BR.code==1)||J.op.kind==8)<;>exact Ye rfl k
def Il{n:Nat}{J:Xc}(h:Hj n J):Calm Xc.next 3 J.perform.1 J.perform.2:=by
 have a:=OX (n:=n) (c:=Xu) Xr.zero (dJ (J:=J) (n:=n) (Zi h.base Zd Zd) h.kind (MG J.op.key) Zd) Zd;exact K6 3 rfl rfl a
def Im{n:Nat}{J:Xc}(h:Hj n J):Calm Xc.next 3 J.CD.1 J.CD.2:=by
 unfold Xc.CD;cases J.Ao==J.wanted with
 |true=>exact Il h
 |false=>exact Ye rfl 3
def VauW(J:Xc)(W:Xj):Prop:=J.walk=some W/\J.pc=5
def Oi:Qc Xc.next Xj.step VauW:=λJ W x h=>by
 obtain⟨b,a⟩:=h;have e:J.next x=J.D8 x:=by unfold Xc.next Xc.Am;rw[a];rfl
 rw[e];unfold Xc.D8 Cq;rw[b];simp only;cases c:(W.step x).2.2 with
 |true=>exact fq ⟨rfl,⟨rfl,a⟩,rfl⟩
 |false=>
  refine db ⟨rfl,Ye ?_ 1⟩;simp only[gx];cases Li (some (W.step x).1)<;>rfl
def nK{n:Nat}{J:Xc}{c:Xi}(x:Xr)(h:vK n J c)(g:c.kind≠12)(k:Dg n x.word):Calm Xc.next 3 (J.next x).1 (J.next x).2:=by
 have a:=h.b;have i:Calm Xc.next 3 (J.An.D8 x).1 (J.An.D8 x).2:=by
  have h:=Oi.calm M2 (J:=J.An) (W:=Xj.new (Xh J.base 2) (Yw J.child)) x ⟨rfl,rfl⟩;have e:J.An.next x=J.An.D8 x:=by unfold Xc.next Xc.Am;rw[show J.An.pc=5 from rfl];rfl
  rwa [e] at h
 have DJ:Calm Xc.next 3 J.DJ.1 J.DJ.2:=Im (n:=n) ⟨a.Qx,a.node,a.Qx,a.walk,a.kind,a.k0,a.k1,a.w0,a.w1,a.c0,a.c1,a.c0,a.c1⟩;rcases h.pc with⟨_,h⟩|⟨_,h⟩
 ·exact absurd h g
 rcases h with hp|hp|⟨hp,d⟩|⟨hp,p,d⟩|⟨hp|hp,j,d⟩|⟨hp,j,d,f⟩|⟨hp,j,d,f⟩|⟨hp|hp|hp,d⟩|⟨hp,I,l,m⟩|hp|hp|hp|hp
 ·have e:J.next x=({J with pc:=1},Xm (root 16)):=by unfold Xc.next;rw[hp];rfl
  rw[e];exact Ye rfl 3
 ·have e:J.next x=J.AG (F0 x.word.nm):=by unfold Xc.next;rw[hp];rfl
  rw[e];exact Ye rfl 3
 ·have e:J.next x=J.BC x:=by unfold Xc.next;rw[hp];rfl
  rw[e];unfold Xc.BC;cases x.word.sl==0 with
  |false=>exact Im (n:=n) ⟨k,a.node,a.Qx,a.walk,a.kind,a.k0,a.k1,a.w0,a.w1,a.b0,a.b1,a.c0,a.c1⟩
  |true=>
   simp only[iv,gx];cases J.Ao==0<;>exact Ye rfl 3
 ·have e:J.next x=bif !x.ok then J.perform else({J with node:=x.word,pc:=4},Xq (Xh x.word 0) (Y6 (Yw J.child))):=by unfold Xc.next Xc.Am;rw[hp];rfl
  rw[e];cases x.ok with
  |false=>exact Il a
  |true=>exact Ye rfl 3
 ·have e:J.next x=J.An.D8 x:=by unfold Xc.next Xc.Am;rw[hp];rfl
  rw[e];exact i
 ·have e:J.next x=bif x.ok then({J with sentinel:=J.node,pc:=9},Xm (Fq J.child)) else J.An.D8 x:=by unfold Xc.next Xc.Am;rw[hp];rfl
  rw[e];cases x.ok with
  |true=>exact Ye rfl 3
  |false=>exact i
 ·obtain⟨W,o,_⟩:=f;exact Oi.calm M2 x ⟨o,hp⟩
 ·have e:J.next x=({J with pc:=8},Xp (AM J.walk) (Yu J.walk) (A4 (Yu J.walk) J.node)):=by unfold Xc.next Xc.Am;rw[hp];rfl
  rw[e];exact Ye rfl 3
 ·have e:J.next x=({J with pc:=9},Xm (Fq J.child)):=by unfold Xc.next Xc.Am;rw[hp];rfl
  rw[e];exact Ye rfl 3
 ·have e:J.next x=bif x.word.sl==0 then({J with pc:=10},Xp (Fq J.child) x.word (A4 x.word J.sentinel)) else J.DJ:=by unfold Xc.next Xc.Am;rw[hp];rfl
  rw[e];cases x.word.sl==0 with
  |true=>exact Ye rfl 3
  |false=>exact DJ
 ·have e:J.next x=J.DJ:=by unfold Xc.next Xc.Am;rw[hp];rfl
  rw[e];exact DJ
 ·have e:J.next x=Xc.Fu {J with inner:=some (I.next x).1} (I.next x).2:=by unfold Xc.next Xc.GZ;rw[hp,l];rfl
  rw[e];exact K6 3 hp rfl (OX x m g)
 ·have e:J.next x=J.AX x:=by unfold Xc.next;rw[hp];rfl
  rw[e];exact Ye rfl 3
 ·have e:J.next x=J.Ck x:=by unfold Xc.next;rw[hp];rfl
  rw[e];unfold Xc.Ck;cases x.ok<;>cases J.op.kind==7<;>cases J.size==8<;>cases decide (J.count.nm<wr (2*J.size))<;>exact Ye rfl 3
 ·have e:J.next x=J.AD x:=by unfold Xc.next;rw[hp];rfl
  rw[e];unfold Xc.AD;cases x.word.nm==J.size<;>exact Ye rfl 3
 ·have e:J.next x=J.done J.answer:=by unfold Xc.next;rw[hp];rfl
  rw[e];exact Ye rfl 3
def SteW(J:Xa)(C:Xb):Prop:=J.Ab=some C/\((J.op.kind=6/\(J.pc=5\/J.pc=12))\/(J.op.kind=7/\(J.pc=1\/J.pc=6))\/(J.op.kind=8/\J.pc=1)\/J.pc=103)
def FN(J:Xa)(k:Nat):Calm Xa.next k J.link.1 J.link.2:=by
 unfold Xa.link;cases decide (J.op.Al<=J.level)<;>exact Ye rfl k
def K7(J:Xa)(l:Int)(k:Nat):Calm Xa.next k (J.Cg l).1 (J.Cg l).2:=by
 unfold Xa.Cg;simp only;cases decide (l<J.op.Al)<;>exact Ye rfl k
def YL:Qc Xa.next Xb.step SteW:=λJ C x h=>by
 obtain⟨b,hp⟩:=h;rcases hp with⟨a,hp|hp⟩|⟨a,hp|hp⟩|⟨a,hp⟩|hp
 ·have e:J.next x=J.BP x:=by unfold Xa.next Xa.insert;rw[hp,a];rfl
  rw[e];unfold Xa.BP Yg;rw[b];simp only;cases c:(C.step x).2.2 with
  |true=>exact fq ⟨rfl,⟨rfl,fq ⟨a,fq hp⟩⟩,rfl⟩
  |false=>
   refine db ⟨rfl,?_⟩;simp only[gx];cases !((Bh (some (C.step x).1)).sl==0) with
   |true=>exact Ye rfl 1
   |false=>exact K7 _ 0 1
 ·have e:J.next x=J.AK x:=by unfold Xa.next Xa.raise;rw[hp,a];rfl
  rw[e];unfold Xa.AK Yg;rw[b];simp only;cases c:(C.step x).2.2 with
  |true=>exact fq ⟨rfl,⟨rfl,fq ⟨a,db hp⟩⟩,rfl⟩
  |false=>
   refine db ⟨rfl,?_⟩;simp only[gx];cases !mW (Bh (some (C.step x).1)) J.node with
   |true=>exact Ye rfl 1
   |false=>exact FN _ 1
 ·have e:J.next x=J.Bt x 6:=by unfold Xa.next Xa.Ak;rw[hp,a];rfl
  rw[e];unfold Xa.Bt Yg;rw[b];simp only;cases c:(C.step x).2.2 with
  |true=>exact fq ⟨rfl,⟨rfl,db (fq ⟨a,fq hp⟩)⟩,rfl⟩
  |false=>
   refine db ⟨rfl,?_⟩;simp only[gx];cases(Bh (some (C.step x).1)).sl==0<;>exact Ye rfl 1
 ·have e:J.next x=J.Ca x:=by unfold Xa.next Xa.Ak;rw[hp,a];rfl
  rw[e];unfold Xa.Ca Yg;rw[b];simp only;cases c:(C.step x).2.2 with
  |true=>exact fq ⟨rfl,⟨rfl,db (fq ⟨a,db hp⟩)⟩,rfl⟩
  |false=>exact db ⟨rfl,Ye rfl 1⟩
 ·have e:J.next x=J.Bt x 1:=by unfold Xa.next Xa.get;rw[hp,a];rfl
  rw[e];unfold Xa.Bt Yg;rw[b];simp only;cases c:(C.step x).2.2 with
  |true=>exact fq ⟨rfl,⟨rfl,d2 (fq ⟨a,hp⟩)⟩,rfl⟩
  |false=>
   refine db ⟨rfl,?_⟩;simp only[gx];cases(Bh (some (C.step x).1)).sl==0<;>exact Ye rfl 1
 ·have e:J.next x=J.fin x:=by unfold Xa.next Xa.finish;rw[hp];rfl
  rw[e];unfold Xa.fin Yg;rw[b];simp only;cases c:(C.step x).2.2 with
  |true=>exact fq ⟨rfl,⟨rfl,d2 (db hp)⟩,rfl⟩
  |false=>
   refine db ⟨rfl,λ_ y=>?_⟩;have e:(⟨104,J.last,J.op,some (C.step x).1,J.node,J.level,J.TD,J.val⟩:Xa).next y=Xa.done ⟨104,J.last,J.op,some (C.step x).1,J.node,J.level,J.TD,J.val⟩ 1 J.val:=by unfold Xa.next Xa.finish;rfl
   show Calm Xa.next 0 (Xa.next (⟨104,J.last,J.op,some (C.step x).1,J.node,J.level,J.TD,J.val⟩:Xa) y).1 (Xa.next (⟨104,J.last,J.op,some (C.step x).1,J.node,J.level,J.TD,J.val⟩:Xa) y).2;rw[e];exact Ye rfl 0
def oV{n:Nat}{J:Xa}{c:Xi}(x:Xr)(h:vL n J c)(r:c.kind≠12):Calm Xa.next 3 (J.next x).1 (J.next x).2:=by
 have s:=h.b;have k:=λ(J:Xa) (C:Xb) (h:SteW J C)=>YL.calm aZ x h;have i:∀(p b:Int),(J.op.kind=6/\(p=5\/p=12))\/(J.op.kind=7/\(p=1\/p=6))\/(J.op.kind=8/\p=1)\/p=103->Calm Xa.next 3 ((J.An p b).next x).1 ((J.An p b).next x).2:=λp b h=>k (J.An p b) (Xb.new b) ⟨rfl,h⟩;have q:∀b,J.op.kind=6->(J.An 5 b).next x=(J.An 5 b).BP x:=λb a=>by unfold Xa.next Xa.insert;rw[show(J.An 5 b).pc=5 from rfl,show(J.An 5 b).op.kind=6 from a];rfl
 have l:∀b,J.op.kind=6->(J.An 12 b).next x=(J.An 12 b).AK x:=λb a=>by unfold Xa.next Xa.raise;rw[show(J.An 12 b).pc=12 from rfl,show(J.An 12 b).op.kind=6 from a];rfl
 have t:∀b,J.op.kind=7->(J.An 1 b).next x=(J.An 1 b).Bt x 6:=λb a=>by unfold Xa.next Xa.Ak;rw[show(J.An 1 b).pc=1 from rfl,show(J.An 1 b).op.kind=7 from a];rfl
 have u:∀b,J.op.kind=7->(J.An 6 b).next x=(J.An 6 b).Ca x:=λb a=>by unfold Xa.next Xa.Ak;rw[show(J.An 6 b).pc=6 from rfl,show(J.An 6 b).op.kind=7 from a];rfl
 have m:∀b,J.op.kind=8->(J.An 1 b).next x=(J.An 1 b).Bt x 1:=λb a=>by unfold Xa.next Xa.get;rw[show(J.An 1 b).pc=1 from rfl,show(J.An 1 b).op.kind=8 from a];rfl
 have j:∀b,(J.An 103 b).next x=(J.An 103 b).fin x:=λb=>by unfold Xa.next Xa.finish;rw[show(J.An 103 b).pc=103 from rfl];rfl
 rcases h.pc with⟨_,h⟩|⟨_,h⟩
 ·exact absurd h r
 rcases h with hp|⟨a,hp,v⟩|⟨a,hp,f⟩|⟨a,hp,f,d⟩|⟨a,hp,f,d⟩|⟨a,hp,o,f,d⟩|⟨a,hp,o,f,d⟩|⟨a,hp,o,f,d⟩|⟨a,hp,d⟩|⟨a,hp,f,d⟩|⟨a,hp,o,f,d⟩|⟨a,hp,f,d⟩|⟨a,hp,f,d⟩|⟨a,hp,f,d⟩
 ·rcases s.op with⟨a,_⟩|a|a
  ·have e:J.next x=({J with pc:=1},Xu):=by unfold Xa.next Xa.insert;rw[hp,a];rfl
   rw[e];exact Ye rfl 3
  ·have e:J.next x=(J.An 1 J.op.key).Bt x 6:=by unfold Xa.next Xa.Ak;rw[hp,a];rfl
   rw[e,←t _ a];exact i 1 _ (db (fq ⟨a,fq rfl⟩))
  ·have e:J.next x=(J.An 1 J.op.key).Bt x 1:=by unfold Xa.next Xa.get;rw[hp,a];rfl
   rw[e,←m _ a];exact i 1 _ (d2 (fq ⟨a,rfl⟩))
 ·have e:J.next x=bif !x.ok then J.done 4 0 else({J with node:=x.word,pc:=2},Xq (Xh x.word 0) (Y6 J.op.key)):=by unfold Xa.next Xa.insert;rw[hp,a];rfl
  rw[e];cases x.ok<;>exact Ye rfl 3
 ·rcases hp with hp|hp|hp
  ·have e:J.next x=({J with pc:=3},Xq (Xh J.node 1) (Y6 J.op.val)):=by unfold Xa.next Xa.insert;rw[hp,a];rfl
   rw[e];exact Ye rfl 3
  ·have e:J.next x=({J with pc:=4},Xq (Xh J.node 6) (Y6 J.op.Al)):=by unfold Xa.next Xa.insert;rw[hp,a];rfl
   rw[e];exact Ye rfl 3
  ·have e:J.next x=(J.An 5 J.op.key).BP x:=by unfold Xa.next Xa.insert;rw[hp,a];rfl
   rw[e,←q _ a];exact i 5 _ (fq ⟨a,fq rfl⟩)
 ·obtain⟨C,g,_⟩:=d;exact k J C ⟨g,fq ⟨a,fq hp⟩⟩
 ·rcases hp with hp|hp
  ·have e:J.next x=J.done 3 0:=by unfold Xa.next Xa.insert;rw[hp,a];rfl
   rw[e];exact Ye rfl 3
  ·have e:J.next x=bif x.ok then Xa.link {J with level:=1} else(J.An 5 J.op.key).BP x:=by unfold Xa.next Xa.insert;rw[hp,a];rfl
   rw[e];cases x.ok with
   |true=>exact FN _ 3
   |false=>rw[gx,←q _ a];exact i 5 _ (fq ⟨a,fq rfl⟩)
 ·have e:J.next x=J.Cg (wr (J.level+1)):=by unfold Xa.next Xa.insert;rw[hp,a];rfl
  rw[e];exact K7 _ _ 3
 ·rcases hp with hp|hp|hp
  ·have e:J.next x=bif x.word.mark then J.part 1 else bif !XE x.word (Za J.Ab J.level).As then({J with pc:=10},Xp (Xh J.node (wr (2+J.level))) x.word (A4 x.word (Za J.Ab J.level).As)) else({J with pc:=11},Xp (Za J.Ab J.level).prev (Za J.Ab J.level).As (A4 (Za J.Ab J.level).As J.node)):=by unfold Xa.next Xa.raise;rw[hp,a];rfl
   rw[e];cases x.word.mark<;>cases XE x.word (Za J.Ab J.level).As<;>exact Ye rfl 3
  ·have e:J.next x=bif !x.ok then J.link else({J with pc:=11},Xp (Za J.Ab J.level).prev (Za J.Ab J.level).As (A4 (Za J.Ab J.level).As J.node)):=by unfold Xa.next Xa.raise;rw[hp,a];rfl
   rw[e];cases x.ok with
   |false=>exact FN _ 3
   |true=>exact Ye rfl 3
  ·have e:J.next x=bif x.ok then Xa.link {J with level:=wr (J.level+1)} else(J.An 12 J.op.key).AK x:=by unfold Xa.next Xa.raise;rw[hp,a];rfl
   rw[e];cases x.ok with
   |true=>exact FN _ 3
   |false=>rw[gx,←l _ a];exact i 12 _ (fq ⟨a,db rfl⟩)
 ·obtain⟨C,g,_⟩:=d;exact k J C ⟨g,fq ⟨a,db hp⟩⟩
 ·obtain⟨C,g,_⟩:=d;rcases a with a|a
  ·exact k J C ⟨g,db (fq ⟨a,fq hp⟩)⟩
  ·exact k J C ⟨g,d2 (fq ⟨a,hp⟩)⟩
 ·rcases a with a|a
  ·have e:J.next x=bif decide (x.word.nm<1) then({J with level:=0,pc:=3},Xm (Xh J.node 1)) else bif decide (3<x.word.nm) then({J with level:=0,pc:=3},Xm (Xh J.node 1)) else({J with level:=wr (x.word.nm-1),pc:=3},Xm (Xh J.node 1)):=by unfold Xa.next Xa.Ak;rw[hp,a];rfl
   rw[e];cases decide (x.word.nm<1)<;>cases decide (3<x.word.nm)<;>exact Ye rfl 3
  ·have e:J.next x=J.done 1 x.word.nm:=by unfold Xa.next Xa.get;rw[hp,a];rfl
   rw[e];exact Ye rfl 3
 ·rcases hp with hp|hp|hp
  ·have e:J.next x=Xa.look {J with val:=x.word.nm}:=by unfold Xa.next Xa.Ak;rw[hp,a];rfl
   rw[e];exact Ye rfl 3
  ·have e:J.next x=bif !x.word.mark then({J with pc:=5},Xp (Xh J.node (wr (2+J.level))) x.word (Zc x.word)) else bif J.level==0 then J.done 2 0 else Xa.look {J with level:=wr (J.level-1)}:=by unfold Xa.next Xa.Ak;rw[hp,a];rfl
   rw[e];cases x.word.mark<;>cases J.level==0<;>exact Ye rfl 3
  ·have e:J.next x=bif !x.ok then J.look else bif decide (0<J.level) then Xa.look {J with level:=wr (J.level-1)} else(J.An 6 (wr (J.op.key+1))).Ca x:=by unfold Xa.next Xa.Ak;rw[hp,a];rfl
   rw[e];cases x.ok with
   |false=>exact Ye rfl 3
   |true=>
    cases decide (0<J.level) with
    |true=>exact Ye rfl 3
    |false=>simp only[iv,gx];rw[←u _ a];exact i 6 _ (db (fq ⟨a,db rfl⟩))
 ·obtain⟨C,g,_⟩:=d;exact k J C ⟨g,db (fq ⟨a,db hp⟩)⟩
 ·rcases hp with hp|hp|hp
  ·have e:J.next x=bif x.word.nm==0 then({J with pc:=102},Xp (Xh J.node 7) x.word (Y5 x.word J.TD)) else(J.An 103 (wr (J.op.key+1))).fin x:=by unfold Xa.next Xa.finish;rw[hp];rfl
   rw[e];cases x.word.nm==0 with
   |true=>exact Ye rfl 3
   |false=>rw[gx,←j];exact i 103 _ (d2 (db rfl))
  ·have e:J.next x=bif x.ok then J.done 1 J.val else(J.An 103 (wr (J.op.key+1))).fin x:=by unfold Xa.next Xa.finish;rw[hp];rfl
   rw[e];cases x.ok with
   |true=>exact Ye rfl 3
   |false=>rw[gx,←j];exact i 103 _ (d2 (db rfl))
  ·have e:J.next x=J.done 1 J.val:=by unfold Xa.next Xa.finish;rw[hp];rfl
   rw[e];exact Ye rfl 3
 ·obtain⟨C,g,_⟩:=d;exact k J C ⟨g,d2 (db hp)⟩
