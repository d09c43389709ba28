/- Core: EaX, EaY, EaZ. -/
import Derived.Test.YtaipogljokblkaaGreatDoorE40
import Derived.Test.YtaipogljokblkaaGreatDoorE01
import Derived.Test.YtaipogljokblkaaGreatDoorE42
set_option linter.all false
set_option maxRecDepth 100000
set_option maxHeartbeats 8000000
namespace Go.Proofs.YtaipogljokblkaaGreatDoor
open Go Go.RowKit
set_option linter.unusedSimpArgs false
set_option linter.unusedVariables false
set_option linter.unusedSectionVars false
inductive RT(P:Nat->MR->Pl->Prop):Nat->MR->Pl->Prop
 |z {b M p} (h0:M.R.step=0) (h:P b M p):RT P b M p
 |s {b M p} (h0:M.R.step≠0) (hl:M.ns.length<=b+1) (h:RT P b (M.Av (p.act M.R.BN).2) (p.act M.R.BN).1):RT P (b+1) M p
def Sv(e:Int)(R:Xb):Prop:=R.me=0/\R.Af=1/\R.Aa=e
def qW(e:Int):Prop:=e=1\/e=2\/e=3\/e=4\/e=5
structure EI(e:Int)(M:MR)(p:Pl)(v:Vw)(a b:Nat):Prop where
 s:M.R.step=0
 h:Sv e M.R
 m:EM M.ns p v a b
section
variable{P:Nat->MR->Pl->Prop}{e:Int}{M:MR}{R:Xb}{p q:Pl}{v:Vw}{a b n:Nat}{c:Xf}{x:Xj}{BN:Bn}
theorem RT.go{s:Int}{ns ds:List Xq}{ss:List Xe}(h0:R.step=s)(hs:s≠0)(ha:p.act R.BN=(q,x))(h:RT P b (MR.Av ⟨R,ns,ds,ss⟩ x) q)(hl:ns.length<=b+1:=by first|omega|(dsimp only;omega)|(simp[MR.note];omega)):RT P (b+1) ⟨R,ns,ds,ss⟩ p:=
 .s (by show R.step≠0;rw[h0];exact hs) hl (by show RT P b (MR.Av ⟨R,ns,ds,ss⟩ (p.act R.BN).2) (p.act R.BN).1;rw[ha];exact h)
theorem kG(h:M.R.step=1):M.Av x=M.wrap (M.R.finish x):=by unfold MR.Av;simp only[h];rfl
theorem sL(h:M.R.step=2):M.Av x=M.wrap M.R.done:=by unfold MR.Av;simp only[h];rfl
theorem tk_3(h:M.R.step=3):M.Av x=M.wrap (M.R.Cy 2 ⟨true,x.word.nm,x.word.nm⟩):=by unfold MR.Av;simp only[h];rfl
theorem tk_4(h:M.R.step=4):M.Av x=M.wrap (M.R.Fz (([0,1,2,3,4,5,6,7,8]:List Int).filter λn=>decide (M.R.index<n))):=by unfold MR.Av;simp only[h];rfl
theorem tk_5(h:M.R.step=5):M.Av x=M.wrap (M.R.Ev x):=by unfold MR.Av;simp only[h];rfl
theorem yA(h:M.R.step=6):M.Av x=M.wrap (M.R.Cb x):=by unfold MR.Av;simp only[h];rfl
theorem tk_7(h:M.R.step=7):M.Av x=M.wrap (M.R.load 5 M.R.call.Ay):=by unfold MR.Av;simp only[h];rfl
theorem tk_8(h:M.R.step=8):M.Av x=M.wrap (M.R.ask 1 ⟨4,.zero,.zero,Yy x.word.nm⟩):=by unfold MR.Av;simp only[h];rfl
theorem tk_9(h:M.R.step=9):M.Av x=M.wrap (Xb.load {M.R with word:=x.word} 10 (root 24)):=by unfold MR.Av;simp only[h];rfl
theorem tk_11(h:M.R.step=11):M.Av x=M.noted:=by unfold MR.Av;simp only[h];rfl
theorem tk_12(h:M.R.step=12):M.Av x=M.wrap (Xb.look {M.R with clock:=x.word} 0).1:=by unfold MR.Av;simp only[h];rfl
theorem wU(h:M.R.step=13):M.Av x=M.AK x:=by unfold MR.Av;simp only[h];rfl
theorem tk_14(h:M.R.step=14):M.Av x=M.wrap (M.R.load 15 (root 24)):=by unfold MR.Av;simp only[h];rfl
theorem tk_15(h:M.R.step=15):M.Av x=MR.sift {M with R:={M.R with clock:=x.word}}:=by unfold MR.Av;simp only[h];rfl
theorem tk_16(h:M.R.step=16):M.Av x=M.Gq:=by unfold MR.Av;simp only[h];rfl
theorem Hb{R':Xb}(h:R'.step=0):M.wrap R'=⟨R',M.ns,[],[]⟩:=by unfold MR.wrap;rw[h];rfl
theorem Db{R':Xb}{s:Int}(h:R'.step=s)(hs:s≠0):M.wrap R'=⟨R',M.ns,M.ds,M.ss⟩:=by unfold MR.wrap;rw[h,show(s==0)=false by simp[hs]];rfl
def PE(e:Int)(n:Nat)(v:Vw)(a:Nat)(x:Xj)(b:Nat)(M:MR)(p:Pl):Prop:=n+M.ns.length<=b/\EI e M p v a b/\M.R.AF=x
theorem Zj(h:RT (PE e (n+1) v a x) b M p):RT (PE e n v a x) b M p:=by
 induction h with
 |z h0 h=>exact .z h0 ⟨by have:=h.1;omega,h.2⟩
 |s h0 hl _ ih=>exact .s h0 hl ih
theorem Is{ns ds:List Xq}{ss:List Xe}(hh:Sv e R)(hm:EM ns p v a b)(hb:n+ns.length<=b):RT (PE e n v a x) b (MR.wrap ⟨R,ns,ds,ss⟩ (R.finish x)) p:=by
 rw[Hb rfl];exact .z rfl ⟨hb,⟨rfl,hh,hm⟩,rfl⟩
end
section
variable{P:Nat->MR->Pl->Prop}{e:Int}{M:MR}{R:Xb}{p q:Pl}{v:Vw}{a b n:Nat}{c:Xf}{x:Xj}{BN:Bn}
theorem Sd(M:MR)(h10:c.kind≠10)(h11:c.kind≠11):M.Aj c=⟨M.R.Aq c,M.ns,[],[]⟩:=by
 unfold MR.Aj;rw[show(c.kind==10)=false by simp[h10],show(c.kind==11)=false by simp[h11]];rfl
theorem vV(hk:c.kind=3):R.Aq c=(R.Aw c).load 1 c.Ay:=by unfold Xb.Aq;rw[hk];rfl
theorem qE(hk:c.kind=4):R.Aq c=(R.Aw c).ask 1 ⟨2,c.Ay,c.Bb,c.new⟩:=by unfold Xb.Aq;rw[hk];rfl
theorem vS(hk:c.kind=5):R.Aq c=(R.Aw c).ask 1 ⟨3,c.Ay,c.Bb,c.new⟩:=by unfold Xb.Aq;rw[hk];rfl
theorem vU(hk:c.kind=6):R.Aq c=(R.Aw c).load 5 c.Ay:=by unfold Xb.Aq;rw[hk];rfl
theorem vW(hk:c.kind=7):R.Aq c=(R.Aw c).hold c.i c.j:=by unfold Xb.Aq;rw[hk];rfl
theorem qF(hk:c.kind=8):R.Aq c=(R.Aw c).alloc:=by unfold Xb.Aq;rw[hk];rfl
theorem vX(hk:c.kind=9):R.Aq c=(R.Aw c).ask 2 ⟨5,.zero,c.Bb,.zero⟩:=by unfold Xb.Aq;rw[hk];rfl
theorem gU(h:EI e M p v a (n+1+M.ns.length))(hk:c.kind=3)(ha:v.Ad c.Ay):RT (PE e n v a ⟨v.get c.Ay,true⟩) (n+1+M.ns.length) (M.Aj c) p:=by
 rw[Sd M Zo Zo,vV hk];obtain⟨l1,l2⟩:=h.m.live ha;refine cast (by rw[Nat.add_right_comm]) (RT.go (b:=n+M.ns.length) (s:=1) rfl Zd (Mb l1) ?_);rw[kG rfl,l2];exact Is h.h (h.m.Bu.le (Nat.le_refl _) Zo) (Nat.le_refl _)
theorem XT(h:EI e M p v a (n+1+M.ns.length))(hk:c.kind=4)(ha:v.Ad c.Ay):RT (PE e n (v.put c.Ay c.new) a ⟨.zero,true⟩) (n+1+M.ns.length) (M.Aj c) p:=by
 rw[Sd M Zo Zo,qE hk];obtain⟨l1,l2⟩:=h.m.live ha;refine cast (by rw[Nat.add_right_comm]) (RT.go (b:=n+M.ns.length) (s:=1) rfl Zd (qM l1) ?_);rw[kG rfl];exact Is h.h ((h.m.Bu.put ha).le (Nat.le_refl _) Zo) (Nat.le_refl _)
theorem gS(h:EI e M p v a (n+1+M.ns.length))(hk:c.kind=5)(ha:v.Ad c.Ay)(hs:Dm (v.get c.Ay) c.Bb=true):RT (PE e n (v.put c.Ay c.new) a ⟨v.get c.Ay,true⟩) (n+1+M.ns.length) (M.Aj c) p:=by
 rw[Sd M Zo Zo,vS hk];obtain⟨l1,l2⟩:=h.m.live ha;refine cast (by rw[Nat.add_right_comm]) (RT.go (b:=n+M.ns.length) (s:=1) rfl Zd (YG l1 (by rw[l2];exact hs)) ?_);rw[kG rfl,l2];exact Is h.h ((h.m.Bu.put ha).le (Nat.le_refl _) Zo) (Nat.le_refl _)
theorem gW(h:EI e M p v a (n+1+M.ns.length))(hk:c.kind=9)(hr:v.Rf c.Bb):RT (PE e n (v.drop c.Bb.sl) a ⟨.zero,true⟩) (n+1+M.ns.length) (M.Aj c) p:=by
 rw[Sd M Zo Zo,vX hk];obtain⟨e1,e2,e3,_⟩:=h.m.hd _ hr.2.1;refine cast (by rw[Nat.add_right_comm]) (RT.go (b:=n+M.ns.length) (s:=2) rfl Zd (qO (MS e2 (e3.trans hr.2.2.symm))) ?_);rw[sL rfl];refine Is h.h ((h.m.Be (v':=v.drop c.Bb.sl) e1 e2 ⟨rfl,rfl,rfl,λt ht=>ht⟩ ⟨.refl _,λm hm he=>?_⟩).le (Nat.le_refl _) Zo) (Nat.le_refl _);exact(h.m.nt m hm).2.2.2 (by rw[he];exact hr.2.1)
theorem nY{i:Int}(i0:0<=i)(i9:i<9):Xb.AG 0 i=⟨0,0,25+i⟩:=by
 have:i=0\/i=1\/i=2\/i=3\/i=4\/i=5\/i=6\/i=7\/i=8:=Zo;rcases this with rfl|rfl|rfl|rfl|rfl|rfl|rfl|rfl|rfl<;>rfl
theorem MM{k:Int}{w:Xe}(h:Sv e R):Sv e (R.Ga k w)/\(R.Ga k w).call=R.call/\(R.Ga k w).word=R.word/\(R.Ga k w).Aa=R.Aa/\(R.Ga k w).B4 k=w/\(R.Ga k w).me=R.me:=by
 unfold Xb.Ga Xb.B4;cases k==0<;>cases k==1<;>cases k==2<;>cases k==3<;>cases k==4<;>cases k==5<;>cases k==6<;>cases k==7<;>exact⟨h,rfl,rfl,rfl,rfl,rfl⟩
theorem Lk{f:Int}{o w:Xe}:p.act ⟨2,⟨0,0,f⟩,o,w⟩=(p.Bu.put ⟨0,0,f⟩ w,⟨.zero,true⟩):=qM (Mv rfl)
theorem Gg{o w:Xe}:p.act ⟨1,root 24,o,w⟩=(p.Bu,⟨p.board 24,true⟩):=Mb (Mv rfl)
theorem gV(h:EI e M p v a (n+1+M.ns.length))(hk:c.kind=7)(hi:0<=c.i/\c.i<9):RT (PE e n v a ⟨.zero,true⟩) (n+1+M.ns.length) (M.Aj c) p:=by
 rw[Sd M Zo Zo,vW hk];unfold Xb.hold;cases(M.R.Aw c).A2&&!wQ ((M.R.Aw c).B4 c.i) ((M.R.Aw c).B4 c.j) with
 |false=>exact .z rfl ⟨(by show n+M.ns.length<=_;omega),⟨rfl,h.h,h.m⟩,rfl⟩
 |true=>
  simp only[cond_true];unfold Xb.post;obtain⟨p1,p2,p3,p4,p5,p6⟩:=MM (R:=M.R.Aw c) (k:=c.i) (w:=(M.R.Aw c).B4 c.j) (e:=e) h.h;generalize(M.R.Aw c).Ga c.i ((M.R.Aw c).B4 c.j)=R1 at*;have hme:(M.R.Aw c).me=0:=h.h.1;rw[hme,nY hi.1 hi.2];refine cast (by rw[Nat.add_right_comm]) (RT.go (b:=n+M.ns.length) (s:=2) rfl Zd Lk ?_);rw[sL rfl];exact Is p1 ((h.m.Bu.vL Zo).le (Nat.le_refl _) Zo) (Nat.le_refl _)
theorem XV(h:EI e M p v a (n+2+M.ns.length)):RT (PE e n v a ⟨.zero,true⟩) (n+2+M.ns.length) (M.Aj AB) p:=by
 rw[Sd M Zd Zd,show M.R.Aq AB=(M.R.Aw AB).enter from rfl];unfold Xb.enter;cases(M.R.Aw AB).Dq with
 |false=>exact .z rfl ⟨(by show n+M.ns.length<=_;omega),⟨rfl,h.h,h.m⟩,rfl⟩
 |true=>
  simp only[cond_true];refine cast (by rw[show n+2+M.ns.length=n+M.ns.length+1+1 by omega]) (RT.go (b:=n+M.ns.length+1) (s:=3) rfl Zd Gg ?_);rw[tk_3 rfl,Db (s:=2) rfl Zd];have hme:M.R.me=0:=h.h.1;refine RT.go (b:=n+M.ns.length) (s:=2) rfl Zd Lk ?_;rw[sL rfl];exact Is h.h ((h.m.Bu.Bu.vL (show 25<=wr (79+M.R.me) by rw[hme];decide)).le (Nat.le_refl _) Zo) (Nat.le_refl _)
theorem XW(h:EI e M p v (a+1) (n+2+M.ns.length))(hk:c.kind=8):RT (λb M' p'=>∃s g,s≠0/\¬v.held s/\PE e n (v.take s g) a ⟨⟨s,g,0,0,false⟩,true⟩ b M' p') (n+2+M.ns.length) (M.Aj c) p:=by
 rw[Sd M Zo Zo,qF hk];unfold Xb.alloc;rw[show n+2+M.ns.length=n+M.ns.length+1+1 by omega];cases hd:(M.R.Aw c).dating with
 |false=>
  simp only[cond_false];obtain⟨l,m,e1,e2,e3,e4⟩:=h.m.take 0;refine RT.go (b:=n+M.ns.length+1) (s:=1) rfl Zd (YI e1) ?_;rw[kG rfl,Hb rfl];exact .z rfl ⟨m,_,e2,e3,Nat.le_succ _,⟨rfl,h.h,e4.le (Nat.le_refl _) Zo⟩,rfl⟩
 |true=>
  simp only[cond_true];refine RT.go (b:=n+M.ns.length+1) (s:=8) rfl Zd Gg ?_;rw[tk_8 rfl,Db (s:=1) rfl Zd];obtain⟨l,m,e1,e2,e3,e4⟩:=h.m.Bu.take (p.board 24).nm;refine RT.go (b:=n+M.ns.length) (s:=1) rfl Zd (YI e1) ?_;rw[kG rfl,Hb rfl];exact .z rfl ⟨m,_,e2,e3,Nat.le_refl _,⟨rfl,h.h,e4.le (Nat.le_refl _) Zo⟩,rfl⟩
end
section
variable{P:Nat->MR->Pl->Prop}{e:Int}{M:MR}{R:Xb}{p q:Pl}{v:Vw}{a b n:Nat}{c:Xf}{x:Xj}{ns ds:List Xq}{ss:List Xe}{w:Xe}
theorem iK(w:Xe):OV (Yt w) w=true:=by simp[OV,Yt]
theorem xL{n:Int}(h:n≠0):wz (Yy n)=false:=by simp[wz,Yy,h]
theorem xA{m i:Int}(h:m=0)(i0:0<=i)(i9:i<9):Xb.AG m i=⟨0,0,25+i⟩:=by rw[h];exact nY i0 i9
structure Kept(R:Xb)(e now:Int)(w:Xe)(i:Int):Prop where
 k2:e=2->R.B4 i=Yt w
 k3:e=3->R.B4 i=Yy now
 k5:e=5->R.span.is=true/\R.span.Hh=now
theorem prot2(hh:Sv e R)(he:qW e)(hs:R.step=5)(hc:R.call=c)(hacc:R.BN=⟨1,c.Ay,.zero,.zero⟩)(ha:v.Ad c.Ay)(hm:EM ns p v a (n+2+ns.length))(hk:e=1\/e=4\/Kept R e (p.board 24).nm (v.get c.Ay) c.i):RT (PE e n v a ⟨v.get c.Ay,true⟩) (n+2+ns.length) ⟨R,ns,[],[]⟩ p:=by
 obtain⟨l1,l2⟩:=hm.live ha;obtain⟨h1,h2,h3⟩:=hh;rw[show n+2+ns.length=n+ns.length+1+1 by omega];refine RT.go (b:=n+ns.length+1) hs Zd ((congrArg p.act hacc).trans (Mb l1)) ?_;rw[tk_5 hs];unfold Xb.Ev;simp only[l2];have fin:∀{R':Xb},Sv e R'->∀ds ss,RT (PE e n v a ⟨v.get c.Ay,true⟩) (n+ns.length+1) (MR.wrap ⟨R,ns,ds,ss⟩ (R'.finish ⟨v.get c.Ay,true⟩)) p.Bu:=λ{R'} hR ds ss=>by
  rw[Hb rfl];exact .z rfl ⟨Nat.le_succ _,⟨rfl,hR,hm.Bu.le (Nat.le_refl _) (by show n+ns.length+1<=_;omega)⟩,rfl⟩
 have nod:∀k:Int,e=k->k≠3->k≠5->Xb.dating {R with word:=v.get c.Ay}=false:=λk hk k3 k5=>by
  show(R.Aa==3||R.Aa==5)=false;rw[h3,hk];simp[k3,k5]
 rcases he with rfl|rfl|rfl|rfl|rfl
 ·rw[nod 1 rfl Zd Zd];simp only[cond_false,show(R.Aa==2)=false by rw[h3];rfl,Bool.false_and];exact fin ⟨h1,h2,h3⟩ _ _
 ·have hk:=(hk.resolve_left Zd).resolve_left Zd;rw[nod 2 rfl Zd Zd];have hg:Xb.B4 {R with word:=v.get c.Ay} R.call.i=Yt (v.get c.Ay):=by rw[hc];exact hk.k2 rfl
  simp only[cond_false,hg,iK,Bool.not_true,Bool.and_false];exact fin ⟨h1,h2,h3⟩ _ _
 ·have hk:=(hk.resolve_left Zd).resolve_left Zd;rw[show Xb.dating {R with word:=v.get c.Ay}=true by show(R.Aa==3||R.Aa==5)=true;rw[h3];rfl];simp only[cond_true];rw[Db (s:=6) rfl Zd];refine RT.go (b:=n+ns.length) (s:=6) rfl Zd Gg ?_;rw[yA rfl];unfold Xb.Cb;have hcv:Xb.FP (Xb.load {R with word:=v.get c.Ay} 6 (root 24)) (Xb.load {R with word:=v.get c.Ay} 6 (root 24)).call.i (p.Bu.board 24).nm=true:=by
   unfold Xb.FP;rw[show((Xb.load {R with word:=v.get c.Ay} 6 (root 24)).Aa==3)=true by show(R.Aa==3)=true;rw[h3];rfl];have hg:Xb.B4 (Xb.load {R with word:=v.get c.Ay} 6 (root 24)) R.call.i=Yy (p.board 24).nm:=by rw[hc];exact hk.k3 rfl
   show(!wz (Xb.B4 (Xb.load {R with word:=v.get c.Ay} 6 (root 24)) R.call.i)&&(Xb.B4 (Xb.load {R with word:=v.get c.Ay} 6 (root 24)) R.call.i).nm==(p.board 24).nm)=true;rw[hg,xL (by have:=hm.ck.1;omega)];simp[Yy]
  simp only[hcv,cond_true];exact Is ⟨h1,h2,h3⟩ (hm.Bu.Bu.le (Nat.le_refl _) Zo) (Nat.le_refl _)
 ·rw[nod 4 rfl Zd Zd];simp only[cond_false,show(R.Aa==2)=false by rw[h3];rfl,Bool.false_and];exact fin ⟨h1,h2,h3⟩ _ _
 ·have hk:=(hk.resolve_left Zd).resolve_left Zd;rw[show Xb.dating {R with word:=v.get c.Ay}=true by show(R.Aa==3||R.Aa==5)=true;rw[h3];rfl];simp only[cond_true];rw[Db (s:=6) rfl Zd];refine RT.go (b:=n+ns.length) (s:=6) rfl Zd Gg ?_;rw[yA rfl];unfold Xb.Cb;have hcv:Xb.FP (Xb.load {R with word:=v.get c.Ay} 6 (root 24)) (Xb.load {R with word:=v.get c.Ay} 6 (root 24)).call.i (p.Bu.board 24).nm=true:=by
   unfold Xb.FP;rw[show((Xb.load {R with word:=v.get c.Ay} 6 (root 24)).Aa==3)=false by show(R.Aa==3)=false;rw[h3];rfl];obtain⟨k1,k2⟩:=hk.k5 rfl;show(R.span.is&&R.span.Hh==(p.board 24).nm)=true;rw[k1,k2];simp
  simp only[hcv,cond_true];exact Is ⟨h1,h2,h3⟩ (hm.Bu.Bu.le (Nat.le_refl _) Zo) (Nat.le_refl _)
theorem mD(hh:Sv e R)(he:qW e)(hs:R.step=7)(hc:R.call=c){f:Int}{w:Xe}(hf:25<=f)(hacc:R.BN=⟨2,⟨0,0,f⟩,.zero,w⟩)(ha:v.Ad c.Ay)(hm:EM ns p v a (n+3+ns.length))(hk:e=1\/e=4\/Kept R e (p.board 24).nm (v.get c.Ay) c.i):RT (PE e n v a ⟨v.get c.Ay,true⟩) (n+3+ns.length) ⟨R,ns,[],[]⟩ p:=by
 rw[show n+3+ns.length=n+2+ns.length+1 by omega];refine RT.go (b:=n+2+ns.length) hs Zd ((congrArg p.act hacc).trans Lk) ?_;rw[tk_7 hs,Db (s:=5) rfl Zd];refine prot2 (p:=p.Bu.put ⟨0,0,f⟩ w) (c:=c) hh he rfl hc (by show(⟨1,R.call.Ay,.zero,.zero⟩:Bn)=_;rw[hc]) ha ((hm.Bu.vL hf).le (Nat.le_refl _) Zo) ?_;rcases hk with hk|hk|hk
 ·exact Or.inl hk
 ·exact Or.inr (Or.inl hk)
 ·refine Or.inr (Or.inr ?_);have e1:(p.Bu.put ⟨0,0,f⟩ w).board 24=p.board 24:=by rw[KO rfl];exact Yi _ _ (show(24:Int)≠f by omega)
  rw[e1];exact⟨hk.k2,hk.k3,hk.k5⟩
theorem gT(h:EI e M p v a (n+5+M.ns.length))(he:qW e)(hk:c.kind=6)(hi:0<=c.i/\c.i<9)(ha:v.Ad c.Ay):RT (PE e n v a ⟨v.get c.Ay,true⟩) (n+5+M.ns.length) (M.Aj c) p:=by
 rw[Sd M Zo Zo,vU hk];obtain⟨l1,l2⟩:=h.m.live ha;obtain⟨h1,h2,h3⟩:=h.h;rw[show n+5+M.ns.length=n+3+M.ns.length+1+1 by omega];refine RT.go (b:=n+3+M.ns.length+1) (s:=5) rfl Zd (Mb l1) ?_;rw[tk_5 rfl];unfold Xb.Ev;simp only[l2];have fin:∀{R' R'':Xb},Sv e R'->∀ds ss,RT (PE e n v a ⟨v.get c.Ay,true⟩) (n+3+M.ns.length+1) (MR.wrap ⟨R'',M.ns,ds,ss⟩ (R'.finish ⟨v.get c.Ay,true⟩)) p.Bu:=λ{R' R''} hR ds ss=>by
  rw[Hb rfl];exact .z rfl ⟨by show n+M.ns.length<=_;omega,⟨rfl,hR,h.m.Bu.le (Nat.le_refl _) (by show n+3+M.ns.length+1<=_;omega)⟩,rfl⟩
 cases hd:Xb.dating {(M.R.Aw c).load 5 c.Ay with word:=v.get c.Ay} with
 |false=>
  simp only[cond_false];cases hw:(((M.R.Aw c).load 5 c.Ay).Aa==2&&(!((v.get c.Ay).sl==0)&&!OV (Xb.B4 {(M.R.Aw c).load 5 c.Ay with word:=v.get c.Ay} ((M.R.Aw c).load 5 c.Ay).call.i) (v.get c.Ay))) with
  |false=>
   simp only[cond_false];exact fin ⟨h1,h2,h3⟩ _ _
  |true=>
   have e2:e=2:=by
    have:=(Bool.and_eq_true _ _▸hw).1;have this:(M.R.Aa==2)=true:=this;rw[h3] at this;simpa using this
   subst e2;simp only[cond_true];unfold Xb.post;obtain⟨p1,p2,p3,p4,p5,p6⟩:=MM (R:={(M.R.Aw c).load 5 c.Ay with word:=v.get c.Ay}) (k:=c.i) (w:=Yt (v.get c.Ay)) (e:=2) ⟨h1,h2,h3⟩;rw[show Xb.AG (Xb.me {(M.R.Aw c).load 5 c.Ay with word:=v.get c.Ay}) ((M.R.Aw c).load 5 c.Ay).call.i=⟨0,0,25+c.i⟩ from xA h1 hi.1 hi.2,show((M.R.Aw c).load 5 c.Ay).call.i=c.i from rfl];generalize Xb.Ga {(M.R.Aw c).load 5 c.Ay with word:=v.get c.Ay} c.i (Yt (v.get c.Ay))=R1 at*;rw[Db (s:=7) rfl Zd,show n+3+M.ns.length+1=n+1+3+M.ns.length by omega];have:=mD (n:=n+1) (R:=R1.ask 7 ⟨2,⟨0,0,25+c.i⟩,.zero,Yt (v.get c.Ay)⟩) (c:=c) (p:=p.Bu) p1 he rfl p2 (show 25<=25+c.i by omega) rfl ha (h.m.Bu.le (Nat.le_refl _) Zo) (Or.inr (Or.inr ⟨λ_=>p5,λh=>by omega,λh=>by omega⟩));exact Zj this
 |true=>
  simp only[cond_true];rw[Db (s:=6) rfl Zd];refine RT.go (b:=n+3+M.ns.length) (s:=6) rfl Zd Gg ?_;rw[yA rfl];unfold Xb.Cb;cases hcv:Xb.FP (Xb.load {(M.R.Aw c).load 5 c.Ay with word:=v.get c.Ay} 6 (root 24)) (Xb.load {(M.R.Aw c).load 5 c.Ay with word:=v.get c.Ay} 6 (root 24)).call.i (p.Bu.board 24).nm with
  |true=>
   simp only[cond_true];rw[Hb rfl];exact .z rfl ⟨by show n+M.ns.length<=_;omega,⟨rfl,⟨h1,h2,h3⟩,h.m.Bu.Bu.le (Nat.le_refl _) (by show n+3+M.ns.length<=_;omega)⟩,rfl⟩
  |false=>
   simp only[cond_false];cases h3':((Xb.load {(M.R.Aw c).load 5 c.Ay with word:=v.get c.Ay} 6 (root 24)).Aa==3) with
   |true=>
    have e3:e=3:=by
     have h3':(M.R.Aa==3)=true:=h3';rw[h3] at h3';simpa using h3'
    subst e3;simp only[cond_true];unfold Xb.post;obtain⟨p1,p2,p3,p4,p5,p6⟩:=MM (R:=Xb.load {(M.R.Aw c).load 5 c.Ay with word:=v.get c.Ay} 6 (root 24)) (k:=c.i) (w:=Yy (p.Bu.board 24).nm) (e:=3) ⟨h1,h2,h3⟩;rw[show(Xb.load {(M.R.Aw c).load 5 c.Ay with word:=v.get c.Ay} 6 (root 24)).call.i=c.i from rfl,show(Xb.load {(M.R.Aw c).load 5 c.Ay with word:=v.get c.Ay} 6 (root 24)).me=0 from h1,nY hi.1 hi.2];generalize Xb.Ga (Xb.load {(M.R.Aw c).load 5 c.Ay with word:=v.get c.Ay} 6 (root 24)) c.i (Yy (p.Bu.board 24).nm)=R1 at*;rw[Db (s:=7) rfl Zd];exact mD (R:=R1.ask 7 ⟨2,⟨0,0,25+c.i⟩,.zero,Yy (p.Bu.board 24).nm⟩) (c:=c) (p:=p.Bu.Bu) p1 he rfl p2 (show 25<=25+c.i by omega) rfl ha (h.m.Bu.Bu.le (Nat.le_refl _) Zo) (Or.inr (Or.inr ⟨λh=>by omega,λ_=>p5,λh=>by omega⟩))
   |false=>
    simp only[cond_false];unfold Xb.Cy;rw[Db (s:=7) rfl Zd];refine mD (c:=c) (p:=p.Bu.Bu) (f:=wr (79+M.R.me)) ⟨h1,h2,h3⟩ he rfl rfl (by rw[h1];decide) rfl ha (h.m.Bu.Bu.le (Nat.le_refl _) Zo) ?_;have hd:(M.R.Aa==3||M.R.Aa==5)=true:=hd;have h3':(M.R.Aa==3)=false:=h3';rw[h3',h3] at hd;have e5:e=5:=by simpa using hd
    exact Or.inr (Or.inr ⟨λh=>by omega,λh=>by omega,λ_=>⟨rfl,rfl⟩⟩)
end
section
variable{P:Nat->MR->Pl->Prop}{e:Int}{M:MR}{R:Xb}{p q:Pl}{v:Vw}{a b n:Nat}{c:Xf}{x:Xj}{ns ds:List Xq}{ss:List Xe}{w:Xe}
def rE(j:Int):List Int:=([0,1,2,3,4,5,6,7,8]:List Int).filter λn=>decide (j<n)
theorem vP{j i:Int}(h:i∈rE j):j<i/\0<=i/\i<9/\(rE i).length+1<=(rE j).length:=by
 obtain⟨h1,h2⟩:=List.mem_filter.1 h;have h2:j<i:=of_decide_eq_true h2;have h3:0<=i/\i<9:=by simp at h1;omega
 exact⟨h2,h3.1,h3.2,filter_lt (s:=i) (λx hx=>decide_eq_true (by have:=of_decide_eq_true hx;omega)) (decide_eq_true h2) (decide_eq_false Zo) _ h1⟩
theorem yV{k:Int}{w:Xe}:(R.Ga k w).index=R.index:=by
 unfold Xb.Ga;cases k==0<;>cases k==1<;>cases k==2<;>cases k==3<;>cases k==4<;>cases k==5<;>cases k==6<;>cases k==7<;>rfl
theorem Qe:∀l:List Int,R.E6 l=R.done\/∃i∈l,R.E6 l=Xb.post {R with index:=i} 4 i .zero
 |[]=>Or.inl rfl
 |i::l=>by
  unfold Xb.E6;cases wz (R.B4 i) with
  |true=>exact(Qe l).imp id λ⟨j,hj,h⟩=>⟨j,List.mem_cons_of_mem _ hj,h⟩
  |false=>exact Or.inr ⟨i,List.mem_cons_self ..,rfl⟩
theorem NS(hk:R.A2=true)(l:List Int):R.Fz l=R.E6 l:=by
 unfold Xb.Fz;have hs:R.Dq=false:=by
  unfold Xb.A2 at hk;unfold Xb.Dq;simp at hk ⊢;omega
 rw[hs,hk];rfl
theorem dB:∀(k:Nat) (R:Xb) (j:Int) (p:Pl),(rE j).length<=k->Sv e R->R.A2=true->EM ns p v a (n+k+ns.length)->RT (PE e n v a ⟨.zero,true⟩) (n+k+ns.length) (MR.mk (R.E6 (rE j)) ns [] []) p:=by
 intro k;induction k with
 |zero=>
  intro R j p hl hh hk hm;have:rE j=[]:=List.eq_nil_of_length_eq_zero Zo;rw[this];exact .z rfl ⟨Nat.le_refl _,⟨rfl,hh,hm⟩,rfl⟩
 |succ k ih=>
  intro R j p hl hh hk hm;rcases Qe (R:=R) (rE j) with h|⟨i,hi,h⟩
  ·rw[h];exact .z rfl ⟨by show n+ns.length<=_;omega,⟨rfl,hh,hm⟩,rfl⟩
  ·obtain⟨i1,i0,i9,i2⟩:=vP hi;rw[h];unfold Xb.post;obtain⟨p1,p2,p3,p4,p5,p6⟩:=MM (R:={R with index:=i}) (k:=i) (w:=.zero) (e:=e) hh;have p7:(Xb.Ga {R with index:=i} i .zero).index=i:=yV;rw[show Xb.AG (Xb.me {R with index:=i}) i=⟨0,0,25+i⟩ from xA hh.1 i0 i9];have hk1:(Xb.Ga {R with index:=i} i .zero).A2=true:=by unfold Xb.A2 at hk ⊢;rw[p4];exact hk
   generalize Xb.Ga {R with index:=i} i .zero=R1 at*;rw[show n+(k+1)+ns.length=n+k+ns.length+1 by omega] at hm ⊢;refine RT.go (b:=n+k+ns.length) (s:=4) rfl Zd Lk ?_;rw[tk_4 rfl];rw[show([0,1,2,3,4,5,6,7,8]:List Int).filter (λn=>decide ((MR.mk (R1.ask 4 ⟨2,⟨0,0,25+i⟩,.zero,.zero⟩) ns [] []).R.index<n))=rE i from by show rE R1.index=_;rw[p7]];rw[NS (show Xb.A2 (R1.ask 4 ⟨2,⟨0,0,25+i⟩,.zero,.zero⟩)=true from hk1)];have:=ih (R1.ask 4 ⟨2,⟨0,0,25+i⟩,.zero,.zero⟩) i (p.Bu.put ⟨0,0,25+i⟩ .zero) Zo p1 hk1 ((hm.Bu.vL Zo).le (Nat.le_refl _) Zo);have e1:∀R':Xb,MR.wrap ⟨R1.ask 4 ⟨2,⟨0,0,25+i⟩,.zero,.zero⟩,ns,[],[]⟩ R'=⟨R',ns,[],[]⟩:=λR'=>by unfold MR.wrap;cases R'.step==0<;>rfl
   rw[e1];exact this
theorem XU(h:EI e M p v a (n+9+M.ns.length)):RT (PE e n v a ⟨.zero,true⟩) (n+9+M.ns.length) (M.Aj AP) p:=by
 rw[Sd M Zd Zd,show M.R.Aq AP=(M.R.Aw AP).Fz (rE (-1)) from rfl];cases hk:(M.R.Aw AP).A2 with
 |true=>
  rw[NS hk];exact dB 9 _ (-1) p Zd h.h hk h.m
 |false=>
  unfold Xb.Fz;rw[hk];cases(M.R.Aw AP).Dq&&!(!(M.R.Aw AP).span.is&&((M.R.Aw AP).span.low==0&&(M.R.Aw AP).span.Hh==0)) with
  |false=>exact .z rfl ⟨by show n+M.ns.length<=_;omega,⟨rfl,h.h,h.m⟩,rfl⟩
  |true=>
   simp only[cond_true];unfold Xb.Cy;rw[show n+9+M.ns.length=n+8+M.ns.length+1 by omega];refine RT.go (b:=n+8+M.ns.length) (s:=2) rfl Zd Lk ?_;rw[sL rfl];have hme:M.R.me=0:=h.h.1;exact Is h.h ((h.m.Bu.vL (show 25<=wr (79+M.R.me) by rw[hme];decide)).le (Nat.le_refl _) Zo) Zo
theorem sZ:∀(ds ns:List Xq) (R:Xb) (p:Pl),ds.Sublist ns->Sv e R->EM ns p v a (n+ns.length)->RT (PE e n v a ⟨.zero,true⟩) (n+ns.length) (MR.reap ⟨R,ns,ds,ss⟩) p:=by
 intro ds;induction ds with
 |nil=>
  intro ns R p _ hh hm;show RT _ _ (MR.wrap ⟨R,ns,[],ss⟩ R.done) p;rw[Hb rfl];exact .z rfl ⟨Nat.le_refl _,⟨rfl,hh,hm⟩,rfl⟩
 |cons d r ih=>
  intro ns R p hs hh hm;have hd:d∈ns:=hs.subset (List.mem_cons_self ..);obtain⟨l1,l2,n1,n2,n3⟩:=List.exists_erase_eq hd;obtain⟨e1,e2,e3,e4⟩:=hm.nt d hd;have hlen:ns.length=(ns.erase d).length+1:=by rw[n3,n2];simp;omega
  have hnd:=hm.nd;rw[n2,List.map_append,List.map_cons] at hnd;show RT _ _ (MR.mk (R.ask 16 ⟨5,.zero,d.ref,.zero⟩) ns (d::r) ss) p;rw[hlen,←Nat.add_assoc] at hm ⊢;refine RT.go (b:=n+(ns.erase d).length) (s:=16) rfl Zd (qO (MS e2 e3)) ?_;rw[tk_16 rfl];refine ih (ns.erase d) {R with Be:=wr (R.Be+1)} _ ?_ hh ((hm.Be (v':=v) e1 e2 ⟨rfl,rfl,rfl,λt ht=>⟨λet=>e4 (et▸ht),ht⟩⟩ ⟨List.erase_sublist ..,λm hm' he=>?_⟩).le (Nat.le_refl _) Zo)
  ·have:=hs.erase d;rwa [List.erase_cons_head] at this
  ·rw[n3] at hm';rcases List.mem_append.1 hm' with hm'|hm'
   ·exact(List.nodup_append.1 hnd).2.2 _ (List.mem_map_of_mem hm') _ (List.mem_cons_self ..) he
   ·exact(List.nodup_cons.1 (List.nodup_append.1 hnd).2.1).1 (he▸List.mem_map_of_mem hm')
theorem Rt(hh:Sv e R)(hm:EM ns p v a (n+ns.length)):RT (PE e n v a ⟨.zero,true⟩) (n+ns.length) (MR.sift ⟨R,ns,ds,ss⟩) p:=sZ _ ns R p List.filter_sublist hh hm
theorem qN{z:Int}{o w:Xe}:p.act ⟨1,⟨0,0,z⟩,o,w⟩=(p.Bu,⟨p.board z,true⟩):=Mb (Mv rfl)
theorem LN(hh:Sv e R)(he:e=2\/e=3)(j:Int):(9<=j->R.look j=(R,false))/\(j<9->∃z,R.look j=(Xb.load {R with index:=j} 13 ⟨0,0,z⟩,true)):=by
 obtain⟨h1,h2,h3⟩:=hh;unfold Xb.look;rw[show R.A2=true by unfold Xb.A2;rw[h3];rcases he with rfl|rfl<;>rfl];have e1:decide (wr (R.Af*9)<=j)=decide (9<=j):=by rw[h2];rfl
 rw[e1];constructor
 ·intro h;rw[decide_eq_true h];rfl
 ·intro h;rw[decide_eq_false Zo];exact⟨_,rfl⟩
theorem LM(hh:Sv e R)(he:e=4\/e=5)(j:Int):(1<=j->R.look j=(R,false))/\(j<1->∃z,R.look j=(Xb.load {R with index:=j} 13 ⟨0,0,z⟩,true)):=by
 obtain⟨h1,h2,h3⟩:=hh;unfold Xb.look;rw[show R.A2=false by unfold Xb.A2;rw[h3];rcases he with rfl|rfl<;>rfl];have e1:decide (R.Af<=j)=decide (1<=j):=by rw[h2]
 rw[e1];simp only[cond_false];constructor
 ·intro h;rw[decide_eq_true h];rfl
 ·intro h;rw[decide_eq_false Zo];exact⟨_,rfl⟩
theorem Zl(he:e=2\/e=3):∀(k i:Nat),i+k=9->1<=k->∀(R:Xb) (z:Int) (ss:List Xe) (p:Pl),Sv e R->R.step=13->R.index=i->R.BN=⟨1,⟨0,0,z⟩,.zero,.zero⟩->EM ns p v a (n+k+ns.length)->RT (PE e n v a ⟨.zero,true⟩) (n+k+ns.length) ⟨R,ns,ds,ss⟩ p:=by
 intro k;induction k with
 |zero=>intro i _ h;omega
 |succ k ih=>
  intro i hi _ R z ss p hh hs hx hacc hm;rw[show n+(k+1)+ns.length=n+k+ns.length+1 by omega] at hm ⊢;refine RT.go (b:=n+k+ns.length) hs Zd ((congrArg p.act hacc).trans qN) ?_;rw[wU hs];unfold MR.AK;obtain⟨k1,k2⟩:=LN hh he (R.index+1);simp only;by_cases hk0:k=0
  ·subst hk0;rw[k1 Zo];simp only[cond_false,show(!(R.Aa==4))=true by rw[hh.2.2];rcases he with rfl|rfl<;>rfl,cond_true];exact Rt (n:=n) hh (hm.Bu.le (Nat.le_refl _) Zo)
  ·obtain⟨z',k2⟩:=k2 Zo;rw[k2];simp only[cond_true];exact ih (i+1) Zo Zo (Xb.load {R with index:=R.index+1} 13 ⟨0,0,z'⟩) z' (ss++[p.board z]) p.Bu hh rfl (by show R.index+1=_;rw[hx];omega) rfl (hm.Bu.le (Nat.le_refl _) Zo)
theorem Ir{m:Nat}{M:MR}(h:RT (PE e (n+m) v a x) b M p):RT (PE e n v a x) b M p:=by
 induction m with
 |zero=>exact h
 |succ m ih=>exact ih (Zj h)
theorem wW{m:Nat}(hh:Sv e R)(hs:R.step=15)(hacc:R.BN=⟨1,root 24,.zero,.zero⟩)(hm:EM ns p v a (n+m+1+ns.length)):RT (PE e n v a ⟨.zero,true⟩) (n+m+1+ns.length) ⟨R,ns,ds,ss⟩ p:=by
 rw[show n+m+1+ns.length=n+m+ns.length+1 by omega];refine RT.go (b:=n+m+ns.length) hs Zd ((congrArg p.act hacc).trans Gg) ?_;rw[tk_15 hs];exact Ir (Rt (n:=n+m) hh (hm.Bu.le (Nat.le_refl _) Zo))
theorem Zi{m:Nat}{z:Int}(hh:Sv e R)(he:e=4\/e=5)(hs:R.step=13)(hx:R.index=0)(hacc:R.BN=⟨1,⟨0,0,z⟩,.zero,.zero⟩)(hc:e=4->R.clock=p.board 24)(hm:EM ns p v a (n+m+3+ns.length)):RT (PE e n v a ⟨.zero,true⟩) (n+m+3+ns.length) ⟨R,ns,ds,ss⟩ p:=by
 rw[show n+m+3+ns.length=n+m+2+ns.length+1 by omega];refine RT.go (b:=n+m+2+ns.length) hs Zd ((congrArg p.act hacc).trans qN) ?_;rw[wU hs];unfold MR.AK;obtain⟨k1,_⟩:=LM hh he (R.index+1);simp only;rw[k1 Zo];simp only[cond_false];rcases he with rfl|rfl
 ·simp only[show(!(R.Aa==4))=false by rw[hh.2.2];rfl,cond_false];cases Ew R.clock.nm ((ss++[p.board z]).map DY) with
  |false=>
   simp only[cond_false];exact wW (m:=m+1) hh rfl rfl (hm.Bu.le (Nat.le_refl _) Zo)
  |true=>
   simp only[cond_true];rw[show n+m+2+ns.length=n+m+1+ns.length+1 by omega];refine RT.go (b:=n+m+1+ns.length) (s:=14) rfl Zd (YG (Mv rfl) (by rw[eT];show Dm (p.board 24) R.clock=true;rw[hc rfl];exact Yx _)) ?_;rw[tk_14 rfl,Db (s:=15) rfl Zd,hc rfl];exact wW (m:=m) hh rfl rfl ((hm.Bu.Bu.le (b':=n+m+1+ns.length+1) (Nat.le_refl _) Zo).clk)
 ·simp only[show(!(R.Aa==4))=true by rw[hh.2.2];rfl,cond_true];exact Ir (m:=m+2) (Rt (n:=n+(m+2)) hh (hm.Bu.le (Nat.le_refl _) Zo))
theorem sY(hh:Sv e R)(he:qW e)(hm:EM ns p v a (n+12+ns.length)):RT (PE e n v a ⟨.zero,true⟩) (n+12+ns.length) (MR.scan ⟨R,ns,[],[]⟩) p:=by
 have h3:=hh.2.2;unfold MR.scan Xb.scan;simp only;rcases he with rfl|rfl|rfl|rfl|rfl
 ·rw[show(R.Aa==1)=true by rw[h3];rfl];simp only[cond_true];rw[Hb rfl];exact .z rfl ⟨by show n+ns.length<=_;omega,⟨rfl,hh,hm⟩,rfl⟩
 ·rw[show(R.Aa==1)=false by rw[h3];rfl,show(R.Aa==4)=false by rw[h3];rfl];simp only[cond_false];obtain⟨z,k⟩:=(LN hh (Or.inl rfl) 0).2 Zd;rw[k];simp only;rw[Db (s:=13) rfl Zd];exact Ir (m:=3) (cast (by rw[show n+3+9+ns.length=n+12+ns.length by omega]) (Zl (n:=n+3) (Or.inl rfl) 9 0 rfl Zd (Xb.load {R with index:=0} 13 ⟨0,0,z⟩) z [] p hh rfl rfl rfl (hm.le (Nat.le_refl _) Zo)))
 ·rw[show(R.Aa==1)=false by rw[h3];rfl,show(R.Aa==4)=false by rw[h3];rfl];simp only[cond_false];obtain⟨z,k⟩:=(LN hh (Or.inr rfl) 0).2 Zd;rw[k];simp only;rw[Db (s:=13) rfl Zd];exact Ir (m:=3) (cast (by rw[show n+3+9+ns.length=n+12+ns.length by omega]) (Zl (n:=n+3) (Or.inr rfl) 9 0 rfl Zd (Xb.load {R with index:=0} 13 ⟨0,0,z⟩) z [] p hh rfl rfl rfl (hm.le (Nat.le_refl _) Zo)))
 ·rw[show(R.Aa==1)=false by rw[h3];rfl,show(R.Aa==4)=true by rw[h3];rfl];simp only[cond_false,cond_true];rw[Db (s:=12) rfl Zd,show n+12+ns.length=n+8+3+ns.length+1 by omega];refine RT.go (b:=n+8+3+ns.length) (s:=12) rfl Zd Gg ?_;rw[tk_12 rfl];obtain⟨z,k⟩:=(LM (R:={(MR.mk (R.load 12 (root 24)) ns [] []).R with clock:=p.board 24}) (e:=4) hh (Or.inl rfl) 0).2 Zd;simp only at k ⊢;rw[k];simp only;rw[Db (s:=13) rfl Zd];exact Zi (m:=8) (z:=z) (p:=p.Bu) hh (Or.inl rfl) rfl rfl rfl (λ_=>rfl) (hm.Bu.le (Nat.le_refl _) Zo)
 ·rw[show(R.Aa==1)=false by rw[h3];rfl,show(R.Aa==4)=false by rw[h3];rfl];simp only[cond_false];obtain⟨z,k⟩:=(LM hh (Or.inr rfl) 0).2 Zd;rw[k];simp only;rw[Db (s:=13) rfl Zd,show n+12+ns.length=n+9+3+ns.length by omega];exact Zi (m:=9) (z:=z) hh (Or.inr rfl) rfl rfl rfl (λh=>by omega) (hm.le (Nat.le_refl _) Zo)
theorem N1(hh:Sv e R)(he:qW e)(hm:EM ns p v a (n+12+ns.length)):RT (PE e n v a ⟨.zero,true⟩) (n+12+ns.length) (MR.noted ⟨R,ns,[],[]⟩) p:=by
 unfold MR.noted;simp only;cases decide (R.most<=(ns.length:Int)) with
 |true=>exact sY hh he hm
 |false=>
  simp only[cond_false];rw[Hb rfl];exact .z rfl ⟨by show n+ns.length<=_;omega,⟨rfl,hh,hm⟩,rfl⟩
theorem UN(h:EI e M p v a (n+40+M.ns.length))(he:qW e)(hk:c.kind=10)(hr:v.Rf c.Bb):RT (PE e n (v.drop c.Bb.sl) a ⟨.zero,true⟩) (n+40+M.ns.length) (M.Aj c) p:=by
 have h3:=h.h.2.2;have hh:=h.h;rw[show M.Aj c=MR.retire ⟨M.R.Aw c,M.ns,[],[]⟩ by unfold MR.Aj;rw[hk];rfl];obtain⟨o1,o2,o3,_⟩:=h.m.hd _ hr.2.1;have hlive:p.live (Xg c.Bb 9).sl (Xg c.Bb 9).gn=true:=MS o2 (o3.trans hr.2.2.symm);have hlen:∀bi de:Int,(M.ns++([⟨Yt c.Bb,bi,de⟩]:List Xq)).length=M.ns.length+1:=λbi de=>by simp
 unfold MR.retire;simp only[show(M.R.Aw c).Aa=M.R.Aa from rfl];have date:(e=3\/e=5)->(M.R.Aa==2)=false/\(M.R.Aa==1)=false/\(M.R.Aa==4)=false/\(M.R.Aa==3||M.R.Aa==5)=true:=λhe=>by
  rw[h3];rcases he with rfl|rfl<;>exact⟨rfl,rfl,rfl,rfl⟩
 have dat:(e=3\/e=5)->RT (PE e n (v.drop c.Bb.sl) a ⟨.zero,true⟩) (n+40+M.ns.length) (bif M.R.Aa==2 then((MR.mk (M.R.Aw c) M.ns [] []).note 0 0).noted else(MR.mk (M.R.Aw c) M.ns [] []).wrap (M.R.Aw c).GM) p:=λhe'=>by
  obtain ⟨d1,d2,d3,d4⟩:=date he';unfold Xb.GM;simp only [d1,d2,d3,cond_false,show (M.R.Aw c).Aa = M.R.Aa from rfl];rw [Db (s:=9) rfl Zd,show n+40+M.ns.length = n+24+12+(M.ns.length+1)+1+1+1 by omega];refine RT.go (b:=n+24+12+(M.ns.length+1)+1+1) (s:=9) rfl Zd (Mb hlive) ?_;rw [tk_9 rfl,Db (s:=10) rfl Zd];refine RT.go (b:=n+24+12+(M.ns.length+1)+1) (s:=10) rfl Zd Gg ?_;unfold MR.Av;simp only [Xb.load,Xb.ask,show ((10:Int)==1) = false from rfl,show ((10:Int)==2) = false from rfl,show ((10:Int)==3) = false from rfl,show ((10:Int)==4) = false from rfl,show ((10:Int)==5) = false from rfl,show ((10:Int)==6) = false from rfl,show ((10:Int)==7) = false from rfl,show ((10:Int)==8) = false from rfl,show ((10:Int)==9) = false from rfl,show ((10:Int)==10) = true from rfl,cond_true,cond_false,Xb.dating,show (M.R.Aw c).Aa = M.R.Aa from rfl,d4];refine RT.go (b:=n+24+12+(M.ns.length+1)) (s:=11) rfl Zd (YG (Mv rfl) (Yx _)) ?_;rw [tk_11 rfl];refine Ir (m:=24) ?_;have:=N1 (n:=n+24) (v:=v.drop c.Bb.sl) (a:=a) (e:=e) (R:=Xb.advance { (M.R.Aw c) with step:=10,BN:=⟨1,root 24,.zero,.zero⟩,word:=p.get (Xg c.Bb 9),clock:=p.board 24 } 11) (ns:=M.ns++([⟨Yt c.Bb,(p.get (Xg c.Bb 9)).nm,(p.board 24).nm⟩]:List Xq)) (p:=(p.Bu.Bu.Bu.put (root 24) (BP (p.board 24) 1))) hh he (by
   rw[hlen];exact((h.m.Bu.Bu.Bu.note hr).le (b':=n+24+12+(M.ns.length+1)+1) (Nat.le_refl _) Zo).clk)
  rw[hlen] at this;exact this
 rcases he with rfl|rfl|rfl|rfl|rfl
 ·rw[show(M.R.Aa==2)=false by rw[h3];rfl];unfold Xb.GM;simp only[show(M.R.Aw c).Aa=M.R.Aa from rfl,show(M.R.Aa==1)=true by rw[h3];rfl,cond_true,cond_false];rw[Hb rfl];exact .z rfl ⟨by show n+M.ns.length<=_;omega,⟨rfl,hh,h.m.drop _⟩,rfl⟩
 ·rw[show(M.R.Aa==2)=true by rw[h3];rfl];simp only[cond_true];have:=N1 (n:=n+27) (v:=v.drop c.Bb.sl) (a:=a) (e:=2) (R:=M.R.Aw c) (ns:=M.ns++([⟨Yt c.Bb,0,0⟩]:List Xq)) (p:=p) hh (Or.inr (Or.inl rfl)) ((h.m.note hr).le (Nat.le_refl _) (by rw[hlen];omega));rw[hlen,show n+27+12+(M.ns.length+1)=n+40+M.ns.length by omega] at this;exact Ir (m:=27) this
 ·exact dat (Or.inl rfl)
 ·rw[show(M.R.Aa==2)=false by rw[h3];rfl];unfold Xb.GM;simp only[show(M.R.Aw c).Aa=M.R.Aa from rfl,show(M.R.Aa==1)=false by rw[h3];rfl,show(M.R.Aa==4)=true by rw[h3];rfl,cond_true,cond_false];rw[Db (s:=10) rfl Zd,show n+40+M.ns.length=n+26+12+(M.ns.length+1)+1 by omega];refine RT.go (b:=n+26+12+(M.ns.length+1)) (s:=10) rfl Zd Gg ?_;unfold MR.Av;simp only[Xb.load,Xb.ask,show((10:Int)==1)=false from rfl,show((10:Int)==2)=false from rfl,show((10:Int)==3)=false from rfl,show((10:Int)==4)=false from rfl,show((10:Int)==5)=false from rfl,show((10:Int)==6)=false from rfl,show((10:Int)==7)=false from rfl,show((10:Int)==8)=false from rfl,show((10:Int)==9)=false from rfl,show((10:Int)==10)=true from rfl,cond_true,cond_false,Xb.dating,show(M.R.Aw c).Aa=M.R.Aa from rfl,show(M.R.Aa==3||M.R.Aa==5)=false by rw[h3];rfl];have:=N1 (n:=n+26) (v:=v.drop c.Bb.sl) (a:=a) (e:=4) (R:={(M.R.Aw c) with step:=10,BN:=⟨1,root 24,.zero,.zero⟩,clock:=p.board 24}) (ns:=M.ns++([⟨Yt c.Bb,(M.R.Aw c).word.nm,(p.board 24).nm⟩]:List Xq)) (p:=p.Bu) hh (Or.inr (Or.inr (Or.inr (Or.inl rfl)))) ((h.m.Bu.note hr).le (Nat.le_refl _) (by rw[hlen];omega));rw[hlen] at this;exact Ir (m:=26) this
 ·exact dat (Or.inr rfl)
end
end Go.Proofs.YtaipogljokblkaaGreatDoor
