/- Core: BdY, BdZ, BeA, BeB. -/
import Derived.Test.YtaipogljokblkaaGreatDoorW44
import Derived.Test.YtaipogljokblkaaGreatDoorW01
set_option linter.all false
set_option maxRecDepth 100000
set_option maxHeartbeats 8000000
namespace Go.Proofs.YtaipogljokblkaaGreatDoor
open Go Go.RowKit
set_option linter.unusedSimpArgs false
set_option linter.unusedVariables false
set_option linter.unusedSectionVars false
structure BZ(b:Bool)(p:Pl)(g:SG)(k:Nat)(J:Xc)(c:Xf):Prop where
 pc:J.pc=-1\/(0<=J.pc/\J.pc<=12)\/(101<=J.pc/\J.pc<=104)
 dn:J.pc=-1↔c.kind=12
 c0:J.pc=0->c.kind=1
 u1:J.op.kind=6->J.pc=1->c=AK
 fr:J.op.kind=6->2<=J.pc->J.pc<=8->Qb p g.own k J.node
 u2:J.op.kind=6->2<=J.pc->J.pc<=4->∃f v,(f=0\/f=1\/f=6)/\v.mark=false/\c=Yf (Xg J.node f) v
 cl:J.op.kind=6->7<=J.pc->J.pc<=12->∃C,J.Ab=some C/\AZ p g.own C
 kc:(J.op.kind=6/\(J.pc=5\/J.pc=12))\/(J.op.kind≠6/\(J.pc=1\/J.pc=6))\/J.pc=103->∃C,J.Ab=some C/\AZ p g.own C/\IS C c
 u6:J.op.kind=6->J.pc=6->c=GG J.node
 u7:J.op.kind=6->J.pc=7->∃f v,2<=f/\f<=4/\v.mark=false/\PD p g.own v/\c=Yf (Xg J.node f) v
 u8:J.op.kind=6->J.pc=8->c=Xx (Yt J.Ab 0).prev (Yt J.Ab 0).Ay (BC (Yt J.Ab 0).Ay J.node)
 dy:(J.op.kind=6/\9<=J.pc)\/(J.op.kind≠6/\6<=J.pc)->J.pc≠104->IZ p g k (J.op.kind==6) J.node
 u9:J.op.kind=6->J.pc=9->c.kind=3
 sw:J.op.kind=6->J.pc=10\/J.pc=11->∃a o w,c=Xx a o w/\VP p g.own a/\o.mark=false/\w.mark=false/\PD p g.own w/\w.tg=wr (o.tg+1)
 rn:J.op.kind≠6->2<=J.pc->J.pc<=5->J.node.sl≠0/\PD p g.own J.node
 r2:J.op.kind≠6->J.pc=2\/J.pc=3->c.kind=3
 r4:J.op.kind≠6->J.pc=4->c=X8 (Xg J.node (wr (2+J.level)))
 r5:J.op.kind≠6->J.pc=5->∃o,c=Xx (Xg J.node (wr (2+J.level))) o (Bg o)/\o.mark=false/\PD p g.own o
 f1:J.pc=101->c=X8 (Xg J.node 7)/\(J.Kf=1\/J.Kf=2)
 f2:J.pc=102->∃o,c=Xx (Xg J.node 7) o (Cx o J.Kf)/\o.nm=0/\wr (o.nm+J.Kf)≠0/\((p.slot J.node.sl).cell 7=o\/((p.slot J.node.sl).cell 7).nm≠0)
 f3:J.pc=103->((p.slot J.node.sl).cell 7).nm≠0
 f4:J.pc=104->c=AU J.node/\(b=true->IZ p g k (J.op.kind==6) J.node/\((p.slot J.node.sl).cell 7).nm≠0)
 rx:J.op.kind≠6->J.pc<=6\/101<=J.pc
section
variable{b:Bool}{p p':Pl}{k j:Nat}{c:Xf}{x:Xj}{J:Xc}{C:Xe}{g g':SG}
theorem BZ.A9(h:BZ b p g k J c)(hq:SQ p g)(e:Ed j p g p' g')(hk:k≠j):BZ b p' g' k J c:=by
 have dd:=λh1 h2=>(h.dy h1 h2).A9 hq e hk;refine⟨h.pc,h.dn,h.c0,h.u1,λh1 h2 h3=>(h.fr h1 h2 h3).A9 e.ev hk,h.u2,λh1 h2 h3=>?_,λh1=>?_,h.u6,λh1 h2=>?_,h.u8,dd,h.u9,λh1 h2=>?_,λh1 h2 h3=>⟨(h.rn h1 h2 h3).1,(h.rn h1 h2 h3).2.A9 e.ev⟩,h.r2,h.r4,λh1 h2=>?_,h.f1,λh1=>?_,λh1=>?_,λh1=>?_,h.rx⟩
 ·obtain⟨C,q1,q2⟩:=h.cl h1 h2 h3;exact⟨C,q1,q2.A9 e.ev⟩
 ·obtain⟨C,q1,q2,q3⟩:=h.kc h1;exact⟨C,q1,q2.A9 e.ev,q3⟩
 ·obtain⟨f,v,q1,q2,q3,q4,q5⟩:=h.u7 h1 h2;exact⟨f,v,q1,q2,q3,q4.A9 e.ev,q5⟩
 ·obtain⟨a,o,w,q1,q2,q3,q4,q5,q6⟩:=h.sw h1 h2;exact⟨a,o,w,q1,q2.A9 e.ev,q3,q4,q5.A9 e.ev,q6⟩
 ·obtain⟨o,q1,q2,q3⟩:=h.r5 h1 h2;exact⟨o,q1,q2,q3.A9 e.ev⟩
 ·obtain⟨o,q1,q2,q3,q4⟩:=h.f2 h1;exact⟨o,q1,q2,q3,(h.dy Zo Zo).seen hq e.ev q4⟩
 ·exact(h.dy Zo Zo).done hq e.ev (h.f3 h1)
 ·obtain⟨q1,q2⟩:=h.f4 h1;exact⟨q1,λhb=>⟨(q2 hb).1.A9 hq e hk,(q2 hb).1.done hq e.ev (q2 hb).2⟩⟩
theorem I4(hp:J.pc=-1)(hc:c.kind=12):BZ b p g k J c:=by
 have hk:c.kind=12:=by exact hc
 refine⟨by omega,⟨λ_=>hc,λ_=>hp⟩,?_,?_,?_,?_,?_,?_,?_,?_,?_,?_,?_,?_,?_,?_,?_,?_,?_,?_,?_,?_,?_⟩<;>intros<;>first|omega
theorem sk_u1(ho:J.op.kind=6)(hp:J.pc=1)(hc:c=AK):BZ b p g k J c:=by
 have hk:c.kind=8:=by rw[hc];rfl
 refine⟨by omega,⟨λh=>(by omega),λh=>(by omega)⟩,?_,?_,?_,?_,?_,?_,?_,?_,?_,?_,?_,?_,?_,?_,?_,?_,?_,?_,?_,?_,?_⟩<;>intros<;>first|omega|exact hc
theorem lS(ho:J.op.kind=6)(hp:2<=J.pc/\J.pc<=4)(hf:Qb p g.own k J.node)(hc:∃f v,(f=0\/f=1\/f=6)/\v.mark=false/\c=Yf (Xg J.node f) v):BZ b p g k J c:=by
 have hk:c.kind=4:=by obtain⟨f,v,_,_,e⟩:=hc;rw[e];rfl
 refine⟨by omega,⟨λh=>(by omega),λh=>(by omega)⟩,?_,?_,?_,?_,?_,?_,?_,?_,?_,?_,?_,?_,?_,?_,?_,?_,?_,?_,?_,?_,?_⟩<;>intros<;>first|omega|exact hf|exact hc
theorem sk_5(ho:J.op.kind=6)(hp:J.pc=5)(hf:Qb p g.own k J.node)(hl:J.Ab=some C)(hC:AZ p g.own C)(hcc:IS C c):BZ b p g k J c:=by
 refine⟨by omega,⟨λh=>(by omega),λh=>absurd h (Ew hcc).1⟩,?_,?_,?_,?_,?_,?_,?_,?_,?_,?_,?_,?_,?_,?_,?_,?_,?_,?_,?_,?_,?_⟩<;>intros<;>first|omega|exact hf|exact⟨C,hl,hC,hcc⟩
theorem sk_u6(ho:J.op.kind=6)(hp:J.pc=6)(hf:Qb p g.own k J.node)(hc:c=GG J.node):BZ b p g k J c:=by
 have hk:c.kind=9:=by rw[hc];rfl
 refine⟨by omega,⟨λh=>(by omega),λh=>(by omega)⟩,?_,?_,?_,?_,?_,?_,?_,?_,?_,?_,?_,?_,?_,?_,?_,?_,?_,?_,?_,?_,?_⟩<;>intros<;>first|omega|exact hf|exact hc
theorem sk_u7(ho:J.op.kind=6)(hp:J.pc=7)(hf:Qb p g.own k J.node)(hl:J.Ab=some C)(hC:AZ p g.own C)(hc:∃f v,2<=f/\f<=4/\v.mark=false/\PD p g.own v/\c=Yf (Xg J.node f) v):BZ b p g k J c:=by
 have hk:c.kind=4:=by obtain⟨f,v,_,_,_,_,e⟩:=hc;rw[e];rfl
 refine⟨by omega,⟨λh=>(by omega),λh=>(by omega)⟩,?_,?_,?_,?_,?_,?_,?_,?_,?_,?_,?_,?_,?_,?_,?_,?_,?_,?_,?_,?_,?_⟩<;>intros<;>first|omega|exact hf|exact⟨C,hl,hC⟩|exact hc
theorem sk_u8(ho:J.op.kind=6)(hp:J.pc=8)(hf:Qb p g.own k J.node)(hl:J.Ab=some C)(hC:AZ p g.own C)(hc:c=Xx (Yt J.Ab 0).prev (Yt J.Ab 0).Ay (BC (Yt J.Ab 0).Ay J.node)):BZ b p g k J c:=by
 have hk:c.kind=5:=by rw[hc];rfl
 refine⟨by omega,⟨λh=>(by omega),λh=>(by omega)⟩,?_,?_,?_,?_,?_,?_,?_,?_,?_,?_,?_,?_,?_,?_,?_,?_,?_,?_,?_,?_,?_⟩<;>intros<;>first|omega|exact hf|exact⟨C,hl,hC⟩|exact hc
theorem sk_9(ho:J.op.kind=6)(hp:J.pc=9)(hd:IZ p g k (J.op.kind==6) J.node)(hl:J.Ab=some C)(hC:AZ p g.own C)(hc:c.kind=3):BZ b p g k J c:=by
 have hk:c.kind=3:=by exact hc
 refine⟨by omega,⟨λh=>(by omega),λh=>(by omega)⟩,?_,?_,?_,?_,?_,?_,?_,?_,?_,?_,?_,?_,?_,?_,?_,?_,?_,?_,?_,?_,?_⟩<;>intros<;>first|omega|exact hd|exact⟨C,hl,hC⟩|exact hc
theorem wX(ho:J.op.kind=6)(hp:J.pc=10\/J.pc=11)(hd:IZ p g k (J.op.kind==6) J.node)(hl:J.Ab=some C)(hC:AZ p g.own C)(hc:∃a o w,c=Xx a o w/\VP p g.own a/\o.mark=false/\w.mark=false/\PD p g.own w/\w.tg=wr (o.tg+1)):BZ b p g k J c:=by
 have hk:c.kind=5:=by obtain⟨a,o,w,e,_⟩:=hc;rw[e];rfl
 refine⟨by omega,⟨λh=>(by omega),λh=>(by omega)⟩,?_,?_,?_,?_,?_,?_,?_,?_,?_,?_,?_,?_,?_,?_,?_,?_,?_,?_,?_,?_,?_⟩<;>intros<;>first|omega|exact hd|exact⟨C,hl,hC⟩|exact hc
theorem sk_12(ho:J.op.kind=6)(hp:J.pc=12)(hd:IZ p g k (J.op.kind==6) J.node)(hl:J.Ab=some C)(hC:AZ p g.own C)(hcc:IS C c):BZ b p g k J c:=by
 refine⟨by omega,⟨λh=>(by omega),λh=>absurd h (Ew hcc).1⟩,?_,?_,?_,?_,?_,?_,?_,?_,?_,?_,?_,?_,?_,?_,?_,?_,?_,?_,?_,?_,?_⟩<;>intros<;>first|omega|exact hd|exact⟨C,hl,hC⟩|exact⟨C,hl,hC,hcc⟩
theorem sk_r1(ho:J.op.kind≠6)(hp:J.pc=1)(hl:J.Ab=some C)(hC:AZ p g.own C)(hcc:IS C c):BZ b p g k J c:=by
 refine⟨by omega,⟨λh=>(by omega),λh=>absurd h (Ew hcc).1⟩,?_,?_,?_,?_,?_,?_,?_,?_,?_,?_,?_,?_,?_,?_,?_,?_,?_,?_,?_,?_,?_⟩<;>intros<;>first|omega|exact⟨C,hl,hC,hcc⟩
theorem ZT(ho:J.op.kind≠6)(hp:J.pc=2\/J.pc=3)(hn:J.node.sl≠0/\PD p g.own J.node)(hc:c.kind=3):BZ b p g k J c:=by
 have hk:c.kind=3:=by exact hc
 refine⟨by omega,⟨λh=>(by omega),λh=>(by omega)⟩,?_,?_,?_,?_,?_,?_,?_,?_,?_,?_,?_,?_,?_,?_,?_,?_,?_,?_,?_,?_,?_⟩<;>intros<;>first|omega|exact hn|exact hc
theorem sk_r4(ho:J.op.kind≠6)(hp:J.pc=4)(hn:J.node.sl≠0/\PD p g.own J.node)(hc:c=X8 (Xg J.node (wr (2+J.level)))):BZ b p g k J c:=by
 have hk:c.kind=3:=by rw[hc];rfl
 refine⟨by omega,⟨λh=>(by omega),λh=>(by omega)⟩,?_,?_,?_,?_,?_,?_,?_,?_,?_,?_,?_,?_,?_,?_,?_,?_,?_,?_,?_,?_,?_⟩<;>intros<;>first|omega|exact hn|exact hc
theorem sk_r5(ho:J.op.kind≠6)(hp:J.pc=5)(hn:J.node.sl≠0/\PD p g.own J.node)(hc:∃o,c=Xx (Xg J.node (wr (2+J.level))) o (Bg o)/\o.mark=false/\PD p g.own o):BZ b p g k J c:=by
 have hk:c.kind=5:=by obtain⟨o,e,_⟩:=hc;rw[e];rfl
 refine⟨by omega,⟨λh=>(by omega),λh=>(by omega)⟩,?_,?_,?_,?_,?_,?_,?_,?_,?_,?_,?_,?_,?_,?_,?_,?_,?_,?_,?_,?_,?_⟩<;>intros<;>first|omega|exact hn|exact hc
theorem sk_r6(ho:J.op.kind≠6)(hp:J.pc=6)(hd:IZ p g k (J.op.kind==6) J.node)(hl:J.Ab=some C)(hC:AZ p g.own C)(hcc:IS C c):BZ b p g k J c:=by
 refine⟨by omega,⟨λh=>(by omega),λh=>absurd h (Ew hcc).1⟩,?_,?_,?_,?_,?_,?_,?_,?_,?_,?_,?_,?_,?_,?_,?_,?_,?_,?_,?_,?_,?_⟩<;>intros<;>first|omega|exact hd|exact⟨C,hl,hC,hcc⟩
theorem yW(hp:J.pc=101)(hd:IZ p g k (J.op.kind==6) J.node)(hc:c=X8 (Xg J.node 7)/\(J.Kf=1\/J.Kf=2)):BZ b p g k J c:=by
 have hk:c.kind=3:=by rw[hc.1];rfl
 refine⟨by omega,⟨λh=>(by omega),λh=>(by omega)⟩,?_,?_,?_,?_,?_,?_,?_,?_,?_,?_,?_,?_,?_,?_,?_,?_,?_,?_,?_,?_,?_⟩<;>intros<;>first|omega|exact hd|exact hc
theorem yV(hp:J.pc=102)(hd:IZ p g k (J.op.kind==6) J.node)(hc:∃o,c=Xx (Xg J.node 7) o (Cx o J.Kf)/\o.nm=0/\wr (o.nm+J.Kf)≠0/\((p.slot J.node.sl).cell 7=o\/((p.slot J.node.sl).cell 7).nm≠0)):BZ b p g k J c:=by
 have hk:c.kind=5:=by obtain⟨o,e,_⟩:=hc;rw[e];rfl
 refine⟨by omega,⟨λh=>(by omega),λh=>(by omega)⟩,?_,?_,?_,?_,?_,?_,?_,?_,?_,?_,?_,?_,?_,?_,?_,?_,?_,?_,?_,?_,?_⟩<;>intros<;>first|omega|exact hd|exact hc
theorem yU(hp:J.pc=103)(hd:IZ p g k (J.op.kind==6) J.node)(h7:((p.slot J.node.sl).cell 7).nm≠0)(hl:J.Ab=some C)(hC:AZ p g.own C)(hcc:IS C c):BZ b p g k J c:=by
 refine⟨by omega,⟨λh=>(by omega),λh=>absurd h (Ew hcc).1⟩,?_,?_,?_,?_,?_,?_,?_,?_,?_,?_,?_,?_,?_,?_,?_,?_,?_,?_,?_,?_,?_⟩<;>intros<;>first|omega|exact hd|exact h7|exact⟨C,hl,hC,hcc⟩
theorem lT(hp:J.pc=104)(hc:c=AU J.node/\(b=true->IZ p g k (J.op.kind==6) J.node/\((p.slot J.node.sl).cell 7).nm≠0)):BZ b p g k J c:=by
 have hk:c.kind=10:=by rw[hc.1];rfl
 refine⟨by omega,⟨λh=>(by omega),λh=>(by omega)⟩,?_,?_,?_,?_,?_,?_,?_,?_,?_,?_,?_,?_,?_,?_,?_,?_,?_,?_,?_,?_,?_⟩<;>intros<;>first|omega|exact hc
end
section
variable{b:Bool}{p p':Pl}{own:Int->Tk}{k j:Nat}{c:Xf}{x:Xj}{J:Xc}{C:Xe}{g g':SG}{n:Xd}
theorem WH(h:AZ p own C)(l:Int):Kx p own (Fk C l):=by
 unfold Fk Xe.getS;by_cases h1:l<0
 ·rw[if_pos (by simp[h1])];exact Fe
 ·rw[if_neg (by simp[h1])];by_cases h3:(3:Int)<=l
  ·rw[if_pos (by simp[h3])];exact Fe
  ·rw[if_neg (by simp[h3])];by_cases e0:l=0
   ·rw[if_pos (by simp[e0])];exact h.s0
   ·rw[if_neg (by simp[e0])];by_cases e1:l=1
    ·rw[if_pos (by simp[e1])];exact h.s1
    ·rw[if_neg (by simp[e1])];exact h.s2
theorem SS(hl:J.Ab=some C)(h:AZ p own C)(l:Int):Kx p own (Yt J.Ab l):=by rw[hl];exact WH h l
theorem N4(hd:IZ p g k (J.op.kind==6) J.node){i:Int}(hi:i=1\/i=2):BZ true p g k (J.part i).1 (J.part i).2:=yW (J:={J with Kf:=i,pc:=101}) rfl hd ⟨rfl,hi⟩
theorem N6(ho:J.op.kind=6)(hd:IZ p g k (J.op.kind==6) J.node)(hl:J.Ab=some C)(hC:AZ p g.own C):BZ true p g k J.link.1 J.link.2:=by
 unfold Xc.link;cases decide (J.op.Aj<=J.level) with
 |true=>exact N4 hd (Or.inl rfl)
 |false=>exact sk_9 (J:={J with pc:=9}) ho rfl hd hl hC rfl
theorem N5(ho:J.op.kind≠6)(hn:J.node.sl≠0/\PD p g.own J.node):BZ true p g k J.look.1 J.look.2:=sk_r4 (J:={J with pc:=4}) ho rfl hn rfl
theorem ZU{l:Int}(ho:J.op.kind=6)(ht:J.op.Aj<=3)(h0:0<=l)(hf:Qb p g.own k J.node)(hl:J.Ab=some C)(hC:AZ p g.own C):BZ true p g k (J.M5 l).1 (J.M5 l).2:=by
 unfold Xc.M5;simp only;cases hlt:decide (l<J.op.Aj) with
 |true=>
  have hlt:=of_decide_eq_true hlt;have hs:=SS hl hC l;exact sk_u7 (J:={J with level:=l,pc:=7}) ho rfl hf hl hC ⟨wr (2+l),AF (Yt J.Ab l).Ay,by rw[rM h0 Zo];omega,by rw[rM h0 Zo];omega,rfl,λh=>hs.2.1 h,rfl⟩
 |false=>exact sk_u8 (J:={J with level:=l,pc:=8}) ho rfl hf hl hC rfl
theorem Po(hl:J.Ab=some C):Bb J.Ab x=(some (C.step x).1,(C.step x).2.1,(C.step x).2.2):=by rw[hl];rfl
theorem Sm(ho:J.op.kind=6)(hp:J.pc=5)(ht:J.op.Aj<=3)(hf:Qb p g.own k J.node)(hl:J.Ab=some C)(hr:BS p g.own (C.step x)):BZ true p g k (J.Ig x).1 (J.Ig x).2:=by
 unfold Xc.Ig;simp only[Po hl];cases hb:(C.step x).2.2 with
 |true=>exact sk_5 (J:={J with Ab:=some (C.step x).1}) ho hp hf rfl hr.1 (hr.2 hb)
 |false=>
  simp only[cond_false];cases !((Dl (some (C.step x).1)).sl==0) with
  |true=>exact sk_u6 (J:={J with Ab:=some (C.step x).1,pc:=6}) ho rfl hf rfl
  |false=>exact ZU (J:={J with Ab:=some (C.step x).1}) ho ht (Int.le_refl 0) hf rfl hr.1
theorem Ui(ho:J.op.kind=6)(hp:J.pc=12)(hd:IZ p g k (J.op.kind==6) J.node)(hl:J.Ab=some C)(hr:BS p g.own (C.step x)):BZ true p g k (J.Gi x).1 (J.Gi x).2:=by
 unfold Xc.Gi;simp only[Po hl];cases hb:(C.step x).2.2 with
 |true=>exact sk_12 (J:={J with Ab:=some (C.step x).1}) ho hp hd rfl hr.1 (hr.2 hb)
 |false=>
  simp only[cond_false];cases !rV (Dl (some (C.step x).1)) J.node with
  |true=>exact N4 (J:={J with Ab:=some (C.step x).1}) hd (Or.inl rfl)
  |false=>exact N6 (J:={J with Ab:=some (C.step x).1}) ho hd rfl hr.1
theorem N3{m:Int}(ho:J.op.kind≠6)(hp:J.pc=1)(hl:J.Ab=some C)(hr:BS p g.own (C.step x)):BZ true p g k (J.FH x m).1 (J.FH x m).2:=by
 unfold Xc.FH;simp only[Po hl];cases hb:(C.step x).2.2 with
 |true=>exact sk_r1 (J:={J with Ab:=some (C.step x).1}) ho hp rfl hr.1 (hr.2 hb)
 |false=>
  simp only[cond_false];cases hz:(Dl (some (C.step x).1)).sl==0 with
  |true=>exact I4 rfl rfl
  |false=>exact ZT (J:={J with Ab:=some (C.step x).1,node:=Dl (some (C.step x).1),pc:=2}) ho (Or.inl rfl) ⟨by simpa using hz,hr.1.fd⟩ rfl
theorem ZS(ho:J.op.kind≠6)(hp:J.pc=6)(hd:IZ p g k (J.op.kind==6) J.node)(hl:J.Ab=some C)(hr:BS p g.own (C.step x)):BZ true p g k (J.Kj x).1 (J.Kj x).2:=by
 unfold Xc.Kj;simp only[Po hl];cases hb:(C.step x).2.2 with
 |true=>exact sk_r6 (J:={J with Ab:=some (C.step x).1}) ho hp hd rfl hr.1 (hr.2 hb)
 |false=>exact N4 (J:={J with Ab:=some (C.step x).1}) hd (Or.inr rfl)
theorem WL(hp:J.pc=103)(hd:IZ p g k (J.op.kind==6) J.node)(h7:((p.slot J.node.sl).cell 7).nm≠0)(hl:J.Ab=some C)(hr:BS p g.own (C.step x)):BZ true p g k (J.fin x).1 (J.fin x).2:=by
 unfold Xc.fin;simp only[Po hl];cases hb:(C.step x).2.2 with
 |true=>exact yU (J:={J with Ab:=some (C.step x).1}) hp hd h7 rfl hr.1 (hr.2 hb)
 |false=>exact lT (J:={J with Ab:=some (C.step x).1,pc:=104}) rfl ⟨rfl,λ_=>⟨hd,h7⟩⟩
def CR(p:Pl)(g:SG)(k:Nat)(J:Xc)(x:Xj)(p':Pl):Prop:=
 ∃g',SQ p' g'/\Ed k p g p' g'/\BZ true p' g' k (J.next x).1 (J.next x).2/\∀s,g'.own s=.note k↔g.own s=.note k
theorem DM(h:SQ p' g)(e:Ed k p g p' g)(hk:BZ true p' g k (J.next x).1 (J.next x).2):CR p g k J x p':=⟨g,h,e,hk,λ_=>Iff.rfl⟩
theorem Cj(h:SQ p g)(e:X3 p p')(hk:BZ true p' g k (J.next x).1 (J.next x).2):CR p g k J x p':=DM (h.alike e) (Ed.alike e) hk
theorem zL(ho:J.op.kind=6)(h0:J.pc≠-1)(h9:J.pc<9):J.next x=J.insert x:=by
 unfold Xc.next;rw[show(J.pc==-1)=false from by simp[h0],show decide (101<=J.pc)=false from by simp;omega,show(J.op.kind==6)=true from by simp[ho],show decide (9<=J.pc)=false from by simp;omega];rfl
theorem zK(ho:J.op.kind=6)(h9:9<=J.pc)(h1:J.pc<101):J.next x=J.raise x:=by
 unfold Xc.next;rw[show(J.pc==-1)=false from by simp;omega,show decide (101<=J.pc)=false from by simp;omega,show(J.op.kind==6)=true from by simp[ho],show decide (9<=J.pc)=true from by simp[h9]];rfl
theorem zN(h1:101<=J.pc):J.next x=J.finish x:=by
 unfold Xc.next;rw[show(J.pc==-1)=false from by simp;omega,show decide (101<=J.pc)=true from by simp[h1]];rfl
theorem zJ(ho:J.op.kind=7)(h0:J.pc≠-1)(h1:J.pc<101):J.next x=J.Am x:=by
 unfold Xc.next;rw[show(J.pc==-1)=false from by simp[h0],show decide (101<=J.pc)=false from by simp;omega,show(J.op.kind==6)=false from by simp[ho],show(J.op.kind==7)=true from by simp[ho]];rfl
theorem zM(h6:J.op.kind≠6)(h7:J.op.kind≠7)(h0:J.pc≠-1)(h1:J.pc<101):J.next x=J.get x:=by
 unfold Xc.next;rw[show(J.pc==-1)=false from by simp[h0],show decide (101<=J.pc)=false from by simp;omega,show(J.op.kind==6)=false from by simp[h6],show(J.op.kind==7)=false from by simp[h7]];rfl
theorem dX(h:SQ p g)(hk:BZ false p g k J c)(hs:Sem p g.own c x p')(tb:Me p)(ho:J.op.kind=6)(hpc:J.pc≠-1)(h9:J.pc<9)(ht:J.op.Aj<=3)(l0:0<=J.level)(l3:J.level<=3):CR p g k J x p':=by
 have hn:=zL (x:=x) ho hpc h9;have hp:=hk.pc;have hp:J.pc=0\/J.pc=1\/J.pc=2\/J.pc=3\/J.pc=4\/J.pc=5\/J.pc=6\/J.pc=7\/J.pc=8:=Zo;rcases hp with hp|hp|hp|hp|hp|hp|hp|hp|hp
 ·have hc:=hk.c0 hp;have he:J.insert x=({J with pc:=1},AK):=by unfold Xc.insert;rw[hp];rfl
  have hK:∀e:X3 p p',CR p g k J x p':=λe=>Cj h e (by rw[hn,he];exact sk_u1 (J:={J with pc:=1}) ho rfl rfl);cases hs<;>first|omega|exact hK (by assumption)
 ·have hc:=hk.u1 ho hp;subst hc;have hkind:AK.kind=8:=rfl;cases hs with
  |@alloc s _ hf h0 e hw hg hok=>
   have he:J.insert x=({J with node:=x.word,pc:=2},Yf (Xg x.word 0) (Y5 J.op.key)):=by unfold Xc.insert;rw[hp,hok];rfl
   obtain⟨r1,r2,r3,r4⟩:=dK (k:=k) h hf h0 e hw hg;exact⟨_,r1,r2,by rw[hn,he];exact lS (J:={J with node:=x.word,pc:=2}) ho ⟨by show(2:Int)<=2;decide,by show(2:Int)<=4;decide⟩ r3 ⟨0,_,Or.inl rfl,rfl,rfl⟩,r4⟩
  |Kg _ e hok=>
   have he:J.insert x=J.done 4 0:=by unfold Xc.insert;rw[hp,hok];rfl
   exact Cj h e (by rw[hn,he];exact I4 rfl rfl)
  |_=>omega
 ·obtain⟨f,v,hf,hm,rfl⟩:=hk.u2 ho Zo Zo;have he:J.insert x=({J with pc:=3},Yf (Xg J.node 1) (Y5 J.op.val)):=by unfold Xc.insert;rw[hp];rfl
  obtain⟨r1,r2,r3⟩:=JT h (hk.fr ho Zo Zo) hm Zo (λ_ _=>by omega) hs;exact DM r1 r2 (by rw[hn,he];exact lS (J:={J with pc:=3}) ho ⟨by show(2:Int)<=3;decide,by show(3:Int)<=4;decide⟩ r3 ⟨1,_,Or.inr (Or.inl rfl),rfl,rfl⟩)
 ·obtain⟨f,v,hf,hm,rfl⟩:=hk.u2 ho Zo Zo;have he:J.insert x=({J with pc:=4},Yf (Xg J.node 6) (Y5 J.op.Aj)):=by unfold Xc.insert;rw[hp];rfl
  obtain⟨r1,r2,r3⟩:=JT h (hk.fr ho Zo Zo) hm Zo (λ_ _=>by omega) hs;exact DM r1 r2 (by rw[hn,he];exact lS (J:={J with pc:=4}) ho ⟨by show(2:Int)<=4;decide,Int.le_refl 4⟩ r3 ⟨6,_,Or.inr (Or.inr rfl),rfl,rfl⟩)
 ·obtain⟨f,v,hf,hm,rfl⟩:=hk.u2 ho Zo Zo;have he:J.insert x=(J.An 5 J.op.key).Ig x:=by unfold Xc.insert;rw[hp];rfl
  obtain⟨r1,r2,r3⟩:=JT h (hk.fr ho Zo Zo) hm Zo (λ_ _=>by omega) hs;exact DM r1 r2 (by rw[hn,he];exact Sm (J:=J.An 5 J.op.key) ho rfl ht r3 rfl FM)
 ·obtain⟨C,hl,hC,hcc⟩:=hk.kc (Or.inl ⟨ho,Or.inl hp⟩);have hf:=hk.fr ho Zo Zo;have he:J.insert x=J.Ig x:=by unfold Xc.insert;rw[hp];rfl
  obtain⟨r1,r2,r3,r4⟩:=Ke (k:=k) h hC hcc hs tb;exact DM r1 r2 (by rw[hn,he];exact Sm ho hp ht (hf.Nu r2.ev (r4 _ _ hf.o)) hl r3)
 ·have hc:=hk.u6 ho hp;subst hc;have he:J.insert x=J.done 3 0:=by unfold Xc.insert;rw[hp];rfl
  obtain⟨r1,r2,r3⟩:=lL h (hk.fr ho Zo Zo) hs;exact⟨_,r1,r2,by rw[hn,he];exact I4 rfl rfl,r3⟩
 ·obtain⟨f,v,f0,f1,hm,hv,rfl⟩:=hk.u7 ho hp;obtain⟨C,hl,hC⟩:=hk.cl ho Zo Zo;have he:J.insert x=J.M5 (wr (J.level+1)):=by unfold Xc.insert;rw[hp];rfl
  obtain⟨r1,r2,r3⟩:=JT h (hk.fr ho Zo Zo) hm Zo (λ_ _=>hv) hs;exact DM r1 r2 (by rw[hn,he];exact ZU ho ht (by rw[Iy Zo Zo];omega) r3 hl (hC.A9 r2.ev))
 ·have hc:=hk.u8 ho hp;subst hc;obtain⟨C,hl,hC⟩:=hk.cl ho Zo Zo;have hf:=hk.fr ho Zo Zo;have hsp:=SS hl hC 0;rcases TB h hf hsp.1 hsp.2.2 tb hs with⟨hok,e⟩|⟨hok,g',r1,r2,r3,r4⟩
  ·have he:J.insert x=(J.An 5 J.op.key).Ig x:=by unfold Xc.insert;rw[hp,hok];rfl
   exact Cj h e (by rw[hn,he];exact Sm (J:=J.An 5 J.op.key) ho rfl ht (hf.al e) rfl FM)
  ·have he:J.insert x=Xc.link {J with level:=1}:=by unfold Xc.insert;rw[hp,hok];rfl
   exact⟨g',r1,r2,by rw[hn,he];exact N6 (J:={J with level:=1}) ho (by show IZ p' g' k (J.op.kind==6) J.node;rw[show(J.op.kind==6)=true from by simp[ho]];exact r3) hl (hC.A9 r2.ev),r4⟩
theorem lP(h:SQ p g)(hk:BZ false p g k J c)(hs:Sem p g.own c x p')(tb:Me p)(ho:J.op.kind=6)(h9:9<=J.pc)(h1:J.pc<101)(l0:0<=J.level)(l2:J.level<=2):CR p g k J x p':=by
 have hn:=zK (x:=x) ho h9 h1;have hp:=hk.pc;have hd:=hk.dy (Or.inl ⟨ho,h9⟩) Zo;obtain⟨C,hl,hC⟩:=hk.cl ho Zo Zo;have hp:J.pc=9\/J.pc=10\/J.pc=11\/J.pc=12:=Zo;have sw11:∀{q:Pl},SQ q g->IZ q g k (J.op.kind==6) J.node->AZ q g.own C->BZ true q g k {J with pc:=11} (Xx (Yt J.Ab J.level).prev (Yt J.Ab J.level).Ay (BC (Yt J.Ab J.level).Ay J.node)):=λhq hd' hC'=>by
  have hsp:=SS hl hC' J.level;have hv:=hd'.live hq;exact wX (J:={J with pc:=11}) ho (Or.inr rfl) hd' hl hC' ⟨_,_,_,rfl,hsp.1,hsp.2.2,rfl,λh=>hv.2.2 h,rfl⟩
 rcases hp with hp|hp|hp|hp
 ·have hc:=hk.u9 ho hp;have hK:∀e:X3 p p',CR p g k J x p':=λe=>by
   have hd':=hd.Nu h (Ed.alike (k:=k) e);have hC':=hC.al e;refine Cj h e ?_;rw[hn];cases hm:x.word.mark with
   |true=>
    have he:J.raise x=J.part 1:=by unfold Xc.raise;rw[hp,hm];rfl
    rw[he];exact N4 hd' (Or.inl rfl)
   |false=>
    cases hw:bP x.word (Yt J.Ab J.level).Ay with
    |false=>
     have he:J.raise x=({J with pc:=10},Xx (Xg J.node (wr (2+J.level))) x.word (BC x.word (Yt J.Ab J.level).Ay)):=by unfold Xc.raise;simp only[hp,hm,hw];rfl
     rw[he];have hsp:=SS hl hC' J.level;have hv:=hd'.live (h.alike e);exact wX (J:={J with pc:=10}) ho (Or.inl rfl) hd' hl hC' ⟨_,_,_,rfl,by rw[rM l0 Zo];exact JY hv.1 hv.2.2 Zo,hm,rfl,λh=>hsp.2.1 h,rfl⟩
    |true=>
     have he:J.raise x=({J with pc:=11},Xx (Yt J.Ab J.level).prev (Yt J.Ab J.level).Ay (BC (Yt J.Ab J.level).Ay J.node)):=by unfold Xc.raise;simp only[hp,hm,hw];rfl
     rw[he];exact sw11 (h.alike e) hd' hC'
  cases hs<;>first|omega|exact hK (by assumption)
 ·obtain⟨a,o,w,rfl,q1,q2,q3,q4,q5⟩:=hk.sw ho (Or.inl hp);obtain⟨r1,r2,r3⟩:=Om (k:=k) h q1 q2 q3 q4 q5 tb hs;have hd':=hd.Nu h r2;refine DM r1 r2 ?_;rw[hn];cases hok:x.ok with
  |true=>
   have he:J.raise x=({J with pc:=11},Xx (Yt J.Ab J.level).prev (Yt J.Ab J.level).Ay (BC (Yt J.Ab J.level).Ay J.node)):=by unfold Xc.raise;simp only[hp,hok];rfl
   rw[he];exact sw11 r1 hd' (hC.A9 r2.ev)
  |false=>
   have he:J.raise x=J.link:=by unfold Xc.raise;simp only[hp,hok];rfl
   rw[he];exact N6 ho hd' hl (hC.A9 r2.ev)
 ·obtain⟨a,o,w,rfl,q1,q2,q3,q4,q5⟩:=hk.sw ho (Or.inr hp);obtain⟨r1,r2,r3⟩:=Om (k:=k) h q1 q2 q3 q4 q5 tb hs;have hd':=hd.Nu h r2;refine DM r1 r2 ?_;rw[hn];cases hok:x.ok with
  |true=>
   have he:J.raise x=Xc.link {J with level:=wr (J.level+1)}:=by unfold Xc.raise;simp only[hp,hok];rfl
   rw[he];exact N6 (J:={J with level:=wr (J.level+1)}) ho hd' hl (hC.A9 r2.ev)
  |false=>
   have he:J.raise x=(J.An 12 J.op.key).Gi x:=by unfold Xc.raise;simp only[hp,hok];rfl
   rw[he];exact Ui (J:=J.An 12 J.op.key) ho rfl hd' rfl FM
 ·obtain⟨C,hl,hC,hcc⟩:=hk.kc (Or.inl ⟨ho,Or.inr hp⟩);obtain⟨r1,r2,r3,_⟩:=Ke (k:=k) h hC hcc hs tb;have he:J.raise x=J.Gi x:=by unfold Xc.raise;simp only[hp];rfl
  exact DM r1 r2 (by rw[hn,he];exact Ui ho hp (hd.Nu h r2) hl r3)
end
section
variable{b:Bool}{p p':Pl}{own:Int->Tk}{k j:Nat}{c:Xf}{x:Xj}{J:Xc}{C:Xe}{g g':SG}{n:Xd}
theorem dW(h:SQ p g)(hk:BZ false p g k J c)(hs:Sem p g.own c x p')(tb:Me p)(ho:J.op.kind=7)(hpc:J.pc≠-1)(h1:J.pc<=6)(l0:0<=J.level)(l2:J.pc=4\/J.pc=5->J.level<=2):CR p g k J x p':=by
 have hn:=zJ (x:=x) ho hpc Zo;have ho6:J.op.kind≠6:=Zo;have hkb:(J.op.kind==6)=false:=by simp[ho6]
 have hp:=hk.pc;have hp:J.pc=0\/J.pc=1\/J.pc=2\/J.pc=3\/J.pc=4\/J.pc=5\/J.pc=6:=Zo;rcases hp with hp|hp|hp|hp|hp|hp|hp
 ·have hc:=hk.c0 hp;have he:J.Am x=(J.An 1 J.op.key).FH x 6:=by unfold Xc.Am;rw[hp];rfl
  have hK:∀e:X3 p p',CR p g k J x p':=λe=>Cj h e (by rw[hn,he];exact N3 (J:=J.An 1 J.op.key) ho6 rfl rfl FM);cases hs<;>first|omega|exact hK (by assumption)
 ·obtain⟨C,hl,hC,hcc⟩:=hk.kc (Or.inr (Or.inl ⟨ho6,Or.inl hp⟩));have he:J.Am x=J.FH x 6:=by unfold Xc.Am;rw[hp];rfl
  obtain⟨r1,r2,r3,_⟩:=Ke (k:=k) h hC hcc hs tb;exact DM r1 r2 (by rw[hn,he];exact N3 ho6 hp hl r3)
 ·have hc:=hk.r2 ho6 (Or.inl hp);obtain ⟨n0,hpn⟩:=hk.rn ho6 Zo Zo;have hK:∀ e:X3 p p',CR p g k J x p':=fun e=>Cj h e (by
   have hn':J.node.sl≠0/\PD p' g.own J.node:=⟨n0,hpn.Nw e⟩;rw[hn];cases h1:decide (x.word.nm<1) with
   |true=>
    have he:J.Am x=({J with level:=0,pc:=3},X8 (Xg J.node 1)):=by unfold Xc.Am;rw[hp,h1];rfl
    rw[he];exact ZT (J:={J with level:=0,pc:=3}) ho6 (Or.inr rfl) hn' rfl
   |false=>
    cases h3:decide (3<x.word.nm) with
    |true=>
     have he:J.Am x=({J with level:=0,pc:=3},X8 (Xg J.node 1)):=by unfold Xc.Am;rw[hp,h1,h3];rfl
     rw[he];exact ZT (J:={J with level:=0,pc:=3}) ho6 (Or.inr rfl) hn' rfl
    |false=>
     have he:J.Am x=({J with level:=wr (x.word.nm-1),pc:=3},X8 (Xg J.node 1)):=by unfold Xc.Am;rw[hp,h1,h3];rfl
     rw[he];exact ZT (J:={J with level:=wr (x.word.nm-1),pc:=3}) ho6 (Or.inr rfl) hn' rfl)
  cases hs<;>first|omega|exact hK (by assumption)
 ·have hc:=hk.r2 ho6 (Or.inr hp);obtain⟨n0,hpn⟩:=hk.rn ho6 Zo Zo;have he:J.Am x=Xc.look {J with val:=x.word.nm}:=by unfold Xc.Am;rw[hp];rfl
  have hK:∀e:X3 p p',CR p g k J x p':=λe=>Cj h e (by rw[hn,he];exact N5 (J:={J with val:=x.word.nm}) ho6 ⟨n0,hpn.Nw e⟩);cases hs<;>first|omega|exact hK (by assumption)
 ·have hc:=hk.r4 ho6 hp;obtain⟨n0,hpn⟩:=hk.rn ho6 Zo Zo;have l2:=l2 (Or.inl hp);rw[rM l0 Zo] at hc;subst hc;have hkind:(X8 (Xg J.node (2+J.level))).kind=3:=rfl;cases hs with
  |look _ e hx hno=>
   have hpd:=h.look (JY n0 hpn Zo) e hx hno;have hn':J.node.sl≠0/\PD p' g.own J.node:=⟨n0,hpn.Nw e⟩;refine Cj h e ?_;rw[hn];cases hm:x.word.mark with
   |false=>
    have he:J.Am x=({J with pc:=5},Xx (Xg J.node (wr (2+J.level))) x.word (Bg x.word)):=by unfold Xc.Am;rw[hp,hm];rfl
    rw[he];exact sk_r5 (J:={J with pc:=5}) ho6 rfl hn' ⟨_,rfl,hm,hpd⟩
   |true=>
    by_cases hz:J.level=0
    ·have he:J.Am x=J.done 2 0:=by unfold Xc.Am;rw[hp,hm,hz];rfl
     rw[he];exact I4 rfl rfl
    ·have he:J.Am x=Xc.look {J with level:=wr (J.level-1)}:=by unfold Xc.Am;rw[hp,hm,show(J.level==0)=false from by simp[hz]];rfl
     rw[he];exact N5 (J:={J with level:=wr (J.level-1)}) ho6 hn'
  |_=>omega
 ·obtain⟨o,hc,hm,hpo⟩:=hk.r5 ho6 hp;obtain⟨n0,hpn⟩:=hk.rn ho6 Zo Zo;have l2:=l2 (Or.inr hp);rw[rM l0 Zo] at hc;subst hc;rcases lK (k:=k) h n0 hpn Zo Zo hm hpo tb hs with⟨hok,e⟩|⟨hok,g',r1,r2,r3,r4⟩
  ·have he:J.Am x=J.look:=by unfold Xc.Am;rw[hp,hok];rfl
   exact Cj h e (by rw[hn,he];exact N5 ho6 ⟨n0,hpn.Nw e⟩)
  ·refine⟨g',r1,r2,?_,λs=>by rw[r4]⟩;rw[hn];by_cases hz:0<J.level
   ·have he:J.Am x=Xc.look {J with level:=wr (J.level-1)}:=by unfold Xc.Am;rw[hp,hok,show decide (0<J.level)=true from by simp[hz]];rfl
    rw[he];exact N5 (J:={J with level:=wr (J.level-1)}) ho6 ⟨n0,hpn.A9 r2.ev⟩
   ·have he:J.Am x=(J.An 6 (wr (J.op.key+1))).Kj x:=by unfold Xc.Am;rw[hp,hok,show decide (0<J.level)=false from by simp[hz]];rfl
    rw[he];exact ZS (J:=J.An 6 (wr (J.op.key+1))) ho6 rfl (by show IZ p' g' k (J.op.kind==6) J.node;rw[hkb];exact r3 Zo) rfl FM
 ·obtain⟨C,hl,hC,hcc⟩:=hk.kc (Or.inr (Or.inl ⟨ho6,Or.inr hp⟩));have hd:=hk.dy (Or.inr ⟨ho6,by omega⟩) Zo;have he:J.Am x=J.Kj x:=by unfold Xc.Am;rw[hp];rfl
  obtain⟨r1,r2,r3,_⟩:=Ke (k:=k) h hC hcc hs tb;exact DM r1 r2 (by rw[hn,he];exact ZS ho6 hp (hd.Nu h r2) hl r3)
theorem yR(h:SQ p g)(hk:BZ false p g k J c)(hs:Sem p g.own c x p')(tb:Me p)(h6:J.op.kind≠6)(h7:J.op.kind≠7)(hpc:J.pc≠-1)(h1:J.pc<=2):CR p g k J x p':=by
 have hn:=zM (x:=x) h6 h7 hpc Zo;have hp:=hk.pc;have hp:J.pc=0\/J.pc=1\/J.pc=2:=Zo;rcases hp with hp|hp|hp
 ·have hc:=hk.c0 hp;have he:J.get x=(J.An 1 J.op.key).FH x 1:=by unfold Xc.get;rw[hp];rfl
  have hK:∀e:X3 p p',CR p g k J x p':=λe=>Cj h e (by rw[hn,he];exact N3 (J:=J.An 1 J.op.key) h6 rfl rfl FM);cases hs<;>first|omega|exact hK (by assumption)
 ·obtain⟨C,hl,hC,hcc⟩:=hk.kc (Or.inr (Or.inl ⟨h6,Or.inl hp⟩));have he:J.get x=J.FH x 1:=by unfold Xc.get;rw[hp];rfl
  obtain⟨r1,r2,r3,_⟩:=Ke (k:=k) h hC hcc hs tb;exact DM r1 r2 (by rw[hn,he];exact N3 h6 hp hl r3)
 ·have hc:=hk.r2 h6 (Or.inl hp);have he:J.get x=J.done 1 x.word.nm:=by unfold Xc.get;rw[hp];rfl
  have hK:∀e:X3 p p',CR p g k J x p':=λe=>Cj h e (by rw[hn,he];exact I4 rfl rfl);cases hs<;>first|omega|exact hK (by assumption)
theorem dY(h:SQ p g)(hk:BZ false p g k J c)(hs:Sem p g.own c x p')(tb:Me p)(h1:101<=J.pc):CR p g k J x p':=by
 have hn:=zN (x:=x) h1;have hp:=hk.pc;have hp:J.pc=101\/J.pc=102\/J.pc=103\/J.pc=104:=Zo;rcases hp with hp|hp|hp|hp
 ·obtain⟨hc,hb⟩:=hk.f1 hp;subst hc;have hd:=hk.dy Zo Zo;obtain⟨n0,hl,_⟩:=hd.live h;have hkind:(X8 (Xg J.node 7)).kind=3:=rfl;cases hs with
  |look _ e hx _=>
   have hx:x.word=(p.slot J.node.sl).cell 7:=(hx (Or.inr hl)).trans (AM (d:=Xg J.node 7) n0);have hx':(p'.slot J.node.sl).cell 7=x.word:=by rw[e.slot,hx]
   have hd':=hd.Nu h (Ed.alike (k:=k) e);refine Cj h e ?_;rw[hn];by_cases hz:x.word.nm=0
   ·have he:J.finish x=({J with pc:=102},Xx (Xg J.node 7) x.word (Cx x.word J.Kf)):=by unfold Xc.finish;rw[hp,show(x.word.nm==0)=true from by simp[hz]];rfl
    rw[he];exact yV (J:={J with pc:=102}) rfl hd' ⟨_,rfl,hz,by show wr (x.word.nm+J.Kf)≠0;rw[hz,Iy Zo Zo];omega,Or.inl hx'⟩
   ·have he:J.finish x=(J.An 103 (wr (J.op.key+1))).fin x:=by unfold Xc.finish;rw[hp,show(x.word.nm==0)=false from by simp[hz]];rfl
    rw[he];exact WL (J:=J.An 103 (wr (J.op.key+1))) rfl hd' (by show((p'.slot J.node.sl).cell 7).nm≠0;rw[hx'];exact hz) rfl FM
  |_=>omega
 ·obtain⟨o,hc,hz,hb,h7⟩:=hk.f2 hp;subst hc;have hd:=hk.dy Zo Zo;rcases tK h hd hz hb h7 tb hs with⟨hok,e,h7'⟩|⟨hok,r1,r2⟩
  ·have he:J.finish x=(J.An 103 (wr (J.op.key+1))).fin x:=by unfold Xc.finish;rw[hp,hok];rfl
   exact Cj h e (by rw[hn,he];exact WL (J:=J.An 103 (wr (J.op.key+1))) rfl (hd.Nu h (Ed.alike (k:=k) e)) h7' rfl FM)
  ·have he:J.finish x=J.done 1 J.val:=by unfold Xc.finish;rw[hp,hok];rfl
   exact⟨_,r1,r2,by rw[hn,he];exact I4 rfl rfl,λs=>by rw[L7]⟩
 ·obtain⟨C,hl,hC,hcc⟩:=hk.kc (Or.inr (Or.inr hp));have hd:=hk.dy Zo Zo;have he:J.finish x=J.fin x:=by unfold Xc.finish;rw[hp];rfl
  obtain⟨r1,r2,r3,_⟩:=Ke (k:=k) h hC hcc hs tb;exact DM r1 r2 (by rw[hn,he];exact WL hp (hd.Nu h r2) (hd.done h r2.ev (hk.f3 hp)) hl r3)
 ·have hc:=(hk.f4 hp).1;subst hc;have hkind:(AU J.node).kind=10:=rfl;have he:J.finish x=J.done 1 J.val:=by unfold Xc.finish;rw[hp];rfl
  cases hs with
  |calm _ e=>exact Cj h e (by rw[hn,he];exact I4 rfl rfl)
  |_=>omega
theorem tI{m:Nat}(h:SQ p g)(hk:BZ false p g k J c)(hs:Sem p g.own c x p')(tb:Me p)(hI:jE m J c)(hpc:J.pc≠-1):CR p g k J x p':=by
 have hb:=hI.b;by_cases h101:101<=J.pc
 ·exact dY h hk hs tb h101
 rcases hI.pc with⟨q,_⟩|⟨_,q⟩
 ·exact absurd q hpc
 ·by_cases h6:J.op.kind=6
  ·have ht:=hb.op;by_cases h9:9<=J.pc
   ·refine lP h hk hs tb h6 h9 Zo hb.l0 ?_;rcases q with q|⟨_,q,_⟩|⟨_,q,_⟩|⟨_,q,_⟩|⟨_,q,_⟩|⟨_,q,_⟩|⟨_,q,q2,_⟩|⟨_,q,q2,_⟩|⟨q,_⟩|⟨q,_⟩|⟨q,_⟩|⟨q,_⟩|⟨_,q,_⟩|⟨_,q,_⟩<;>omega
   ·exact dX h hk hs tb h6 hpc Zo Zo hb.l0 hb.l3
  ·by_cases h7:J.op.kind=7
   ·refine dW h hk hs tb h7 hpc ?_ hb.l0 ?_;all_goals (rcases q with q|⟨q,_⟩|⟨q,_⟩|⟨q,_⟩|⟨q,_⟩|⟨q,_⟩|⟨q,_⟩|⟨q,_⟩|⟨_,q,_⟩|⟨_,q,_⟩|⟨_,q,q2,_⟩|⟨_,q,_⟩|⟨_,q,_⟩|⟨_,q,_⟩<;>omega)
   ·refine yR h hk hs tb h6 h7 hpc ?_;rcases q with q|⟨q,_⟩|⟨q,_⟩|⟨q,_⟩|⟨q,_⟩|⟨q,_⟩|⟨q,_⟩|⟨q,_⟩|⟨_,q,_⟩|⟨_,q,_⟩|⟨q,_,_⟩|⟨q,_,_⟩|⟨q,_,_⟩|⟨q,_,_⟩<;>omega
theorem lQ(h:SQ p g)(hk:BZ true p g k J c)(hc:c.kind=10):
  ∃g',g.own c.A1.sl=.chain/\(p.slot c.A1.sl).Ap=c.A1.gn/\SQ p g'/\Ed k p g p g'/\g'.own=Ah g.own c.A1.sl (.note (k+1000))/\BZ false p g' k J c:=by
 have hp:=hk.pc
 have hd:J.pc≠-1:=λe=>by have:=hk.dn.1 e;omega
 have hkc:¬((J.op.kind=6/\(J.pc=5\/J.pc=12))\/(J.op.kind≠6/\(J.pc=1\/J.pc=6))\/J.pc=103):=λq=>by
  obtain⟨C,_,_,q⟩:=hk.kc q;exact(Ew q).2 hc
 by_cases h4:J.pc=104
 ·obtain⟨e,hq⟩:=hk.f4 h4;subst e;obtain⟨hd,h7⟩:=hq rfl;obtain⟨r1,r2⟩:=dZ h hd h7;exact⟨_,hd.chn h,hd.2,r1,r2,rfl,lT h4 ⟨rfl,λe=>by cases e⟩⟩
 ·exfalso;by_cases h101:101<=J.pc
  ·have hp:J.pc=101\/J.pc=102:=Zo;rcases hp with hp|hp
   ·rw[(hk.f1 hp).1] at hc;cases hc
   ·obtain⟨o,e,_⟩:=hk.f2 hp;rw[e] at hc;cases hc
  ·by_cases h0:J.pc=0
   ·have:=hk.c0 h0;omega
   ·by_cases h6:J.op.kind=6
    ·have hp:J.pc=1\/(2<=J.pc/\J.pc<=4)\/J.pc=6\/J.pc=7\/J.pc=8\/J.pc=9\/(J.pc=10\/J.pc=11):=Zo;rcases hp with hp|hp|hp|hp|hp|hp|hp
     ·rw[hk.u1 h6 hp] at hc;cases hc
     ·obtain⟨f,v,_,_,e⟩:=hk.u2 h6 hp.1 hp.2;rw[e] at hc;cases hc
     ·rw[hk.u6 h6 hp] at hc;cases hc
     ·obtain⟨f,v,_,_,_,_,e⟩:=hk.u7 h6 hp;rw[e] at hc;cases hc
     ·rw[hk.u8 h6 hp] at hc;cases hc
     ·have:=hk.u9 h6 hp;omega
     ·obtain⟨a,o,w,e,_⟩:=hk.sw h6 hp;rw[e] at hc;cases hc
    ·have hp:(J.pc=2\/J.pc=3)\/J.pc=4\/J.pc=5\/7<=J.pc:=Zo;rcases hp with hp|hp|hp|hp
     ·have:=hk.r2 h6 hp;omega
     ·rw[hk.r4 h6 hp] at hc;cases hc
     ·obtain⟨o,e,_⟩:=hk.r5 h6 hp;rw[e] at hc;cases hc
     ·have:=hk.rx h6;omega
end
def qT(st:Int):Int->Xd->Xd->Prop:=bif st==1 then rP else bif st==2 then Tg else bif st==5 then Qg else Ie
def JG(st:Int)(p:Pl)(g:SG):Prop:=
 (st=1/\BN p g.own)\/(st=2/\BN p g.own/\CQ p g.own)\/((st=3\/st=4)/\BN p g.own/\LQ p g.own)\/(st=5/\SQ p g)
structure N0(st:Int)(a:Nat)(p:Pl)(g:SG)(p':Pl)(g':SG):Prop where
 ev:Bs a (qT st) p g.own p' g'.own
 d:∀s j,j≠a->(g.d s=.held j↔g'.d s=.held j)
 e:∀s j,j≠a->(g.e s=.held j↔g'.e s=.held j)
def JK(b:Bool)(p:Pl)(g:SG)(k:Nat):Yz->Xf->Prop
 |.pile J,c=>Dd b p g.own k J c
 |.Ti J,c=>Em b p g.own k J c
 |.lit J,c=>CS b p g.own k J c
 |.RF J,c=>Ek b p g.own k J c
 |.RW J,c=>BZ b p g k J c
def xU(st:Int)(p:Pl)(g:SG)(k:Nat)(J:Yz)(x:Xj)(p':Pl):Prop:=
 ∃g',JG st p' g'/\N0 st k p g p' g'/\JK true p' g' k (J.next x).1 (J.next x).2/\∀s,g'.own s=.note k↔g.own s=.note k
section
variable{b:Bool}{st:Int}{n:Nat}{p p':Pl}{g g':SG}{k a:Nat}{J:Yz}{c:Xf}{x:Xj}{s:Int}
theorem FK{own':Int->Tk}(e:Bs a (qT st) p g.own p' own'):N0 st a p g p' ⟨own',g.d,g.e⟩:=⟨e,λ_ _ _=>Iff.rfl,λ_ _ _=>Iff.rfl⟩
theorem evoJ_s(e:N0 5 a p g p' g'):Ed a p g p' g':=⟨e.ev,e.d,e.e⟩
theorem YO(e:Ed a p g p' g'):N0 5 a p g p' g':=⟨e.ev,e.d,e.e⟩
theorem SH(h:JK b p g k J c)(hg:JG st p g)(hI:JI st n J c)(e:N0 st a p g p' g')(ha:k≠a):JK b p' g' k J c:=by
 cases J with
 |pile J=>
  obtain⟨rfl,_⟩:=hI;rcases hg with⟨_,hg⟩|⟨q,_⟩|⟨q,_⟩|⟨q,_⟩<;>first|omega|exact Dd.A9 h e.ev ha hg
 |Ti J=>
  obtain⟨rfl,_⟩:=hI;rcases hg with⟨q,_⟩|⟨_,hg,_⟩|⟨q,_⟩|⟨q,_⟩<;>first|omega|exact Em.A9 h e.ev ha hg
 |lit J=>obtain⟨rfl,_⟩:=hI;exact CS.A9 h e.ev ha
 |RF J=>obtain⟨rfl,_⟩:=hI;exact Ek.A9 h e.ev ha
 |RW J=>
  obtain⟨rfl,_⟩:=hI;rcases hg with⟨q,_⟩|⟨q,_⟩|⟨q,_⟩|⟨_,hg⟩<;>first|omega|exact BZ.A9 h hg (evoJ_s e) ha
theorem Lx(hg:JG st p g)(hI:JI st n J c)(hc:c.kind≠12)(hk:JK false p g k J c)(hs:Sem p g.own c x p')(tb:Me p):xU st p g k J x p':=by
 have mk:∀{own':Int->Tk},JG st p' ⟨own',g.d,g.e⟩->Bs k (qT st) p g.own p' own'->JK true p' ⟨own',g.d,g.e⟩ k (J.next x).1 (J.next x).2->(∀s,own' s=.note k↔g.own s=.note k)->xU st p g k J x p':=λa b c d=>⟨_,a,FK b,c,d⟩;cases J with
 |pile J=>
  obtain⟨rfl,hI⟩:=hI;have hp:J.pc≠-1:=λe=>hc (hI.2.2.1.1 e);rcases hg with⟨_,hg⟩|⟨q,_⟩|⟨q,_⟩|⟨q,_⟩<;>first|omega|skip
  have hb:=tb.BP 0 Zd Zd;by_cases ho:J.op.kind=1
  ·obtain⟨own',r1,r2,r3,r4⟩:=fV hg hk hs hp ho hb.1 hb.2;exact mk (Or.inl ⟨rfl,r1⟩) r2 r3 r4
  ·obtain⟨own',r1,r2,r3,r4⟩:=nN hg hk hs hp ho hb.1 hb.2;exact mk (Or.inl ⟨rfl,r1⟩) r2 r3 r4
 |Ti J=>
  obtain⟨rfl,hI⟩:=hI;have hp:J.pc≠-1:=λe=>hc (hI.2.2.2.2.1.1 e);rcases hg with⟨q,_⟩|⟨_,hg,hq⟩|⟨q,_⟩|⟨q,_⟩<;>first|omega|skip
  by_cases ho:J.op.kind=4
  ·obtain⟨own',r1,r2,r3,r4,r5⟩:=vU hg hq hk hs hp ho tb;exact mk (Or.inr (Or.inl ⟨rfl,r1,r2⟩)) r3 r4 r5
  ·obtain⟨own',r1,r2,r3,r4,r5⟩:=vV hg hq hk hs hp ho tb;exact mk (Or.inr (Or.inl ⟨rfl,r1,r2⟩)) r3 r4 r5
 |lit J=>
  obtain⟨rfl,_⟩:=hI;have hp:J.pc≠-1:=λe=>hc (CS.dn hk |>.1 e);rcases hg with⟨q,_⟩|⟨q,_⟩|⟨_,hg,hq⟩|⟨q,_⟩<;>first|omega|skip
  obtain⟨own',r1,r2,r3,r4,r5⟩:=UT hg hq hk hs hp tb;exact mk (Or.inr (Or.inr (Or.inl ⟨Or.inl rfl,r1,r2⟩))) r3 r4 r5
 |RF J=>
  obtain⟨rfl,hI⟩:=hI;have hp:J.pc≠-1:=λe=>hc (Ek.dn hk |>.1 e);rcases hg with⟨q,_⟩|⟨q,_⟩|⟨_,hg,hq⟩|⟨q,_⟩<;>first|omega|skip
  obtain⟨own',r1,r2,r3,r4,r5⟩:=kB hg hq hk hs hp tb hI.b.b0 hI.b.b1 hI.b.c0 hI.b.c1;exact mk (Or.inr (Or.inr (Or.inl ⟨Or.inr rfl,r1,r2⟩))) r3 r4 r5
 |RW J=>
  obtain⟨rfl,hI⟩:=hI;have hp:J.pc≠-1:=λe=>hc (BZ.dn hk |>.1 e);rcases hg with⟨q,_⟩|⟨q,_⟩|⟨q,_⟩|⟨_,hg⟩<;>first|omega|skip
  obtain⟨g',r1,r2,r3,r4⟩:=tI hg hk hs tb hI hp;exact⟨g',Or.inr (Or.inr (Or.inr ⟨rfl,r1⟩)),YO r2,r3,r4⟩
theorem gT(hg:JG st p g)(hI:JI st n J c)(hk:JK true p g k J c)(hc:c.kind=10):
  ∃g',JG st p g'/\N0 st k p g p g'/\g'.own=Ah g.own c.A1.sl (.note (k+1000))/\(∀j,g.own c.A1.sl≠.note j)/\(p.slot c.A1.sl).Ap=c.A1.gn/\JK false p g' k J c:=by
 have nn:g.own c.A1.sl=.Bi k->∀j,g.own c.A1.sl≠.note j:=λe j=>by rw[e];simp
 cases J with
 |pile J=>
  obtain⟨rfl,hI⟩:=hI
  have hp:J.pc≠-1:=λe=>by have:=hI.2.2.1.1 e;omega
  rcases hg with⟨_,hg⟩|⟨q,_⟩|⟨q,_⟩|⟨q,_⟩<;>first|omega|skip
  obtain⟨r0,r1,r2,r3,r4⟩:=XQ hg hk hc hp
  exact⟨⟨_,g.d,g.e⟩,Or.inl ⟨rfl,r2⟩,FK r3,rfl,nn r0,r1,r4⟩
 |Ti J=>
  obtain⟨rfl,hI⟩:=hI
  have hp:J.pc≠-1:=λe=>by have:=hI.2.2.2.2.1.1 e;omega
  rcases hg with⟨q,_⟩|⟨_,hg,hq⟩|⟨q,_⟩|⟨q,_⟩<;>first|omega|skip
  obtain⟨r0,r1,r2,r3,r4,r5⟩:=iH hg hq hk hc hp
  exact⟨⟨_,g.d,g.e⟩,Or.inr (Or.inl ⟨rfl,r2,r3⟩),FK r4,rfl,nn r0,r1,r5⟩
 |lit J=>
  obtain⟨rfl,_⟩:=hI
  rcases hg with⟨q,_⟩|⟨q,_⟩|⟨_,hg,hq⟩|⟨q,_⟩<;>first|omega|skip
  obtain⟨r0,r1,r2,r3,r4,r5⟩:=QR hg hq hk hc
  exact⟨⟨_,g.d,g.e⟩,Or.inr (Or.inr (Or.inl ⟨Or.inl rfl,r2,r3⟩)),FK r4,rfl,nn r0,r1,r5⟩
 |RF J=>
  obtain⟨rfl,_⟩:=hI
  rcases hg with⟨q,_⟩|⟨q,_⟩|⟨_,hg,hq⟩|⟨q,_⟩<;>first|omega|skip
  obtain⟨r0,r1,r2,r3,r4,r5⟩:=cD hg hq hk hc
  exact⟨⟨_,g.d,g.e⟩,Or.inr (Or.inr (Or.inl ⟨Or.inr rfl,r2,r3⟩)),FK r4,rfl,nn r0,r1,r5⟩
 |RW J=>
  obtain⟨rfl,_⟩:=hI
  rcases hg with⟨q,_⟩|⟨q,_⟩|⟨q,_⟩|⟨_,hg⟩<;>first|omega|skip
  obtain⟨g',r0,r1,r2,r3,r4,r5⟩:=lQ hg hk hc
  exact⟨g',Or.inr (Or.inr (Or.inr ⟨rfl,r2⟩)),YO r3,r4,λj=>by rw[r0];simp,r1,r5⟩
theorem vE(h:JK b p g k J c):JK false p g k J c:=by
 cases J with
 |pile J=>
  have h:Dd b p g.own k J c:=h;exact⟨h.pc,h.c0,h.u1,h.un,h.u2,h.u3,h.u4,h.u5,h.o1,h.o2,h.o3,h.o4,λh1 h2=>⟨(h.o5 h1 h2).1,λe=>(by cases e)⟩⟩
 |Ti J=>
  have h:Em b p g.own k J c:=h;exact⟨h.pc,h.c0,h.u1,h.un,h.u2,h.u3,h.ut,h.u4,h.ux,h.u5,h.u6,h.u7,h.u8,h.o1,h.oh,h.o2,h.o3,h.on,h.o4,h.o5,h.o6,h.o7,λh1 h2=>⟨(h.o8 h1 h2).1,λe=>(by cases e)⟩⟩
 |lit J=>exact CS.low h
 |RF J=>
  have h:Ek b p g.own k J c:=h;refine⟨h.pc,h.dn,h.c0,h.c1,h.c2,h.bs,h.c3,h.nd,h.c4,λh1=>?_,h.sn,h.c6,h.we,h.c7,h.c8,h.wB,λh1=>?_,h.vZ,h.vY⟩
  ·obtain⟨W,q1,q2⟩:=h.c5 h1;exact⟨W,q1,q2.low⟩
  ·obtain⟨I,q1,q2,q3⟩:=h.wA h1;exact⟨I,q1,q2,q3.low⟩
 |RW J=>
  have h:BZ b p g k J c:=h;exact⟨h.pc,h.dn,h.c0,h.u1,h.fr,h.u2,h.cl,h.kc,h.u6,h.u7,h.u8,h.dy,h.u9,h.sw,h.rn,h.r2,h.r4,h.r5,h.f1,h.f2,h.f3,λh1=>⟨(h.f4 h1).1,λe=>(by cases e)⟩,h.rx⟩
theorem gS{o:Bl}(ho:Zy st o):JK b p g k (Yz.new st o) Yv:=by
 obtain⟨kd,key,val,Aj⟩:=o;simp only[Zy] at ho;have lit:CS b p g.own k (Xi.from_ (root 0) key ⟨kd,key,val,Aj⟩) Yv:=by
  refine⟨Or.inr ⟨Int.le_refl 0,by show(0:Int)<=7;decide⟩,⟨λh=>(by cases h),λh=>(by cases h)⟩,Or.inl rfl,λ_=>rfl,?_,?_,?_,?_,?_,?_,?_,?_,?_,λ_=>⟨by show(0:Int)<=6;decide,λ_=>by show(0:Int)<=2;decide⟩,?_,?_,?_,?_,?_,?_⟩;all_goals (intro _ h;first|(exfalso;revert h;show(0:Int)=_->False;omega)|(exfalso;revert h;show(2:Int)<=0->False;omega)|(exfalso;revert h;show(6:Int)<=0->False;omega)|(exfalso;revert h;show(0:Int)=1\/(0:Int)=6->False;omega))
 rcases ho with⟨rfl,rfl,rfl,_⟩|⟨rfl,rfl,rfl,_⟩|⟨rfl|rfl,_,_,rfl,_⟩|⟨rfl,_,_,_⟩
 ·refine⟨Or.inr ⟨Int.le_refl 0,by show(0:Int)<=5;decide⟩,λ_=>rfl,?_,?_,?_,?_,?_,?_,?_,?_,?_,?_,?_⟩;all_goals (intro _ h;first|(exfalso;revert h;show(0:Int)=_->False;omega)|(exfalso;revert h;show(2:Int)<=0->False;omega))
 ·refine⟨Or.inr ⟨Int.le_refl 0,by show(0:Int)<=8;decide⟩,λ_=>rfl,?_,?_,?_,?_,?_,?_,?_,?_,?_,?_,?_,?_,?_,?_,?_,?_,?_,?_,?_,?_,?_⟩;all_goals (intro _ h;first|(exfalso;revert h;show(0:Int)=_->False;omega)|(exfalso;revert h;show(2:Int)<=0->False;omega)|(exfalso;revert h;show(4:Int)<=0->False;omega)|(exfalso;revert h;show(5:Int)<=0->False;omega))
 ·exact lit
 ·refine⟨Or.inr ⟨Int.le_refl 0,by show(0:Int)<=15;decide⟩,⟨λh=>(by cases h),λh=>(by cases h)⟩,λ_=>rfl,?_,?_,?_,?_,?_,?_,?_,?_,?_,?_,?_,?_,?_,?_,?_,?_⟩;all_goals (intro h;first|(exfalso;revert h;show(0:Int)=_->False;omega)|(exfalso;revert h;show(3:Int)<=0->False;omega)|(exfalso;revert h;show(4:Int)<=0->False;omega)|(exfalso;revert h;show(0:Int)=1\/(0:Int)=9\/(0:Int)=12\/(0:Int)=14->False;omega)|(exfalso;revert h;show(0:Int)=6\/(0:Int)=9\/(0:Int)=10->False;omega)|(exfalso;revert h;show(0:Int)=7\/(0:Int)=8->False;omega))
 ·have h0:∀{q:Int},(Xc.new ⟨kd,key,val,Aj⟩).pc=q->(0:Int)=q:=λh=>h;have e0:(Xc.new ⟨kd,key,val,Aj⟩).pc=0:=rfl;show BZ b p g k (Xc.new ⟨kd,key,val,Aj⟩) Yv;generalize Xc.new ⟨kd,key,val,Aj⟩=J at*;refine⟨by omega,⟨λh=>(by omega),λh=>(by cases h)⟩,λ_=>rfl,?_,?_,?_,?_,?_,?_,?_,?_,?_,?_,?_,?_,?_,?_,?_,?_,?_,?_,?_,?_⟩<;>intros<;>omega
end
end Go.Proofs.YtaipogljokblkaaGreatDoor
