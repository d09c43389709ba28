/- Core: QP, EcB, QM, QJ, QL, DcW, QS, QT, QU. -/
import Derived.Test.YtaipogljokblkaaGreatDoorE48
import Derived.Test.YtaipogljokblkaaGreatDoorE01
import Derived.Test.YtaipogljokblkaaGreatDoorE38
import Derived.Test.YtaipogljokblkaaGreatDoorE08
import Derived.Test.YtaipogljokblkaaGreatDoorE47
import Derived.Deep.DeepMust
set_option linter.all false
set_option maxRecDepth 100000
set_option maxHeartbeats 8000000
namespace Go.Proofs.YtaipogljokblkaaGreatDoor
open Go Go.RowKit
set_option linter.unusedSimpArgs false
set_option linter.unusedVariables false
set_option linter.unusedSectionVars false
namespace Ai
theorem JE:∀(j:Nat) (P:Ai) (k:Nat),runT (j+1) P k=runT 1 (runT j P k) k
 |0,P,k=>rfl
 |j+1,P,k=>by
  cases hT:P.A8[k]? with
  |none=>
   have hi:P.idle k=true:=by unfold idle;rw[hT]
   rw[BL hi,BL hi,BL hi]
  |some T=>
   cases hi:Co T with
   |true=>
    have hi:P.idle k=true:=by unfold idle;rw[hT];exact hi
    rw[BL hi,BL hi,BL hi]
   |false=>
    rw[Ef hT hi,Ef hT hi];exact JE j _ k
theorem L6{P:Ai}{k j:Nat}(h:(runT j P k).idle k=true):∀d,runT (j+d) P k=runT j P k
 |0=>rfl
 |d+1=>by
  show runT (j+d+1) P k=_;rw[JE,L6 h d];exact BL h 1
theorem TA{P:Ai}{k:Nat}{T:MT}(hT:P.A8[k]?=some T)(h:Co T=false):runT 1 P k=(P.Cg k T).1:=Ef hT h 0
end Ai
theorem GI.up{st:Int}{n nt t t':Nat}{P:Ai}(h:GI st n nt t P)(ht:t<=t'):GI st n nt t' P:=
 ⟨h.s,h.z,h.h,Nat.le_trans h.b ht,λi T hi=>⟨(h.v i T hi).1.up ht,(h.v i T hi).2⟩⟩
theorem PW.up{w0 w:World}{gp gh:Nat}{st:Int}{n nt t t':Nat}{P:Ai}(h:PW w0 w gp gh st n nt t P)(ht:t<=t'):PW w0 w gp gh st n nt t' P:=⟨h.p,h.g.up ht,h.e,h.b,h.z⟩
theorem lO(hP:Me){w0 w:World}{gp gh:Nat}{st:Int}{n nt t:Nat}{P:Ai}(m:Nat)(h:PW w0 w gp gh st n nt t P)(hm:m<60000)(hid:∀k,k<nt->(Ai.B8 m P (k+1)).idle k=true)(ht:t+12*(m*nt)<=60000)(hn:n<=1024)(h6:nt<=6):
  Calls Tryz.prog 10 #[.pointer (some ⟨gp,0,none⟩),.int .i64 (nt:Int)] w λen w'=>en=.returned (.bool true)/\PW w0 w' gp gh st n nt (t+12*(m*nt)) (Ai.B8 m P nt):=by
 have HH:=Zh h
 have HD:=Zh hid
 clear h hid
 go_enter Tryz.func10,Tryz.ntmps10
 go_wp2_with fail
 go_loopw [5] (λi wr=>∃k:Nat,k<=nt/\i=.int .i64 k/\Hid (PW w0 wr gp gh st n nt (t+12*(m*k)) (Ai.B8 m P k))) (λi _=>nt-(intOf i).toNat)
 case atStart=>exact⟨0,Nat.zero_le _,rfl,Zh HH.out⟩
 case round=>
  obtain⟨k,hk,rfl,L⟩:=hrel
  by_cases hlt:k<nt
  ·have hlt':(k:Int)<(nt:Int):=Zo;go_wp2_with fail;go_loopw [6] (λi wq=>∃j:Nat,j<=m/\i=.int .i64 j/\Hid (PW w0 wq gp gh st n nt (t+12*(m*k)+12*j) (Ai.runT j (Ai.B8 m P k) k))) (λi _=>m-(intOf i).toNat);case atStart=>exact⟨0,Nat.zero_le _,rfl,Zh L.out⟩
   case round=>
    obtain⟨j,hj,rfl,M⟩:=hrel;have hj6:(j:Int)<60000:=Zo;have hmk:m*k+m<=m*nt:=by
     have:=Nat.mul_le_mul_left m (show k+1<=nt from hlt);rwa [Nat.mul_succ] at this
    obtain⟨T,hT⟩:=M.out.A8 hlt;have hidl:=M.out.idle hT;go_wp2_with fail;refine hidl.mono ?_;rintro e w1 ⟨rfl,h1⟩;cases hi:Ai.Co T with
    |true=>
     have hst:(Ai.runT j (Ai.B8 m P k) k).idle k=true:=by unfold Ai.idle;rw[hT];exact hi
     have e1:Ai.B8 m P (k+1)=Ai.runT j (Ai.B8 m P k) k:=by
      show Ai.runT m (Ai.B8 m P k) k=_;have:=Ai.L6 hst (m-j);rwa [show j+(m-j)=m from by omega] at this
     have hid2:=h1.idle hT;rw[hi] at hid2;have H1:=Zh h1;clear h1 hidl hT M L HH;go_wp2_with fail;refine hid2.mono ?_;rintro e w2 ⟨rfl,h2⟩;have H2:Hid (PW w0 w2 gp gh st n nt (t+12*(m*(k+1))) (Ai.B8 m P (k+1))):=Zh (by rw[e1,Nat.mul_succ];exact h2.up Zo);clear h2 hid2 H1 e1 hst;go_wp2_with fail;exact⟨⟨k+1,hlt,by go_num,H2⟩,by simp[intOf];omega⟩
    |false=>
     have hjm:j<m:=by
      rcases Nat.lt_or_ge j m with h|h
      ·exact h
      ·have e2:j=m:=Zo;subst e2;have:=HD.out k hlt;unfold Ai.idle at this;rw[show Ai.B8 j P (k+1)=Ai.runT j (Ai.B8 j P k) k from rfl,hT] at this;simp only at this;rw[hi] at this;cases this
     have hp:=h1.pick hP hT hi Zo hn;have e1:Ai.runT (j+1) (Ai.B8 m P k) k=((Ai.runT j (Ai.B8 m P k) k).Cg k T).1:=by rw[Ai.JE,Ai.TA hT hi]
     rw[←e1] at hp;clear h1 hidl hT e1;generalize((Ai.runT j (Ai.B8 m P k) k).Cg k T).2=B at hp;go_wp2_with fail;refine hp.mono ?_;rintro e w2 ⟨rfl,h2⟩;have hA:=(Below.refl w2.heap.size w2).alloc (Nat.le_refl _) (.cells Ym.zero.l.toArray 42);have HX:=Zh (Bk.at_ (w:=w2) (g:=w2.heap.size) (cs:=Ym.zero.l.toArray) (t:=42) rfl);have H2:=Zh h2;clear h2 hp;go_wp2_with (refine vM HX.out ?_;intro w3 hst;have H3:Hid (PW w0 w3 gp gh st n nt (t+12*(m*k)+12*(j+1)) (Ai.runT (j+1) (Ai.B8 m P k) k)):=Zh ((H2.out.below (hst.below hA (Nat.le_refl _))).up Zo);clear hst);exact⟨⟨j+1,hjm,by go_num,H3⟩,by simp[intOf];omega⟩
  ·have hke:k=nt:=Zo;subst hke;have hlt':¬(k:Int)<(k:Int):=Zo;go_wp2_with fail;go_ret;exact⟨rfl,L.out⟩
theorem dV(hP:Me){w0 w:World}{gp gh:Nat}{st:Int}{n nt t:Nat}{P:Ai}(m:Nat)(h:PW w0 w gp gh st n nt t P)(hm:m<60000)(hid:∀k,k<nt->(Ai.B8 m P (k+1)).idle k=true)(ht:t<=60000)(hn:n<=1024)(h6:nt<=6)(hG:∀k j,k<nt->j<=m->GI st n nt t (Ai.runT j (Ai.B8 m P k) k)):
  Calls Tryz.prog 10 #[.pointer (some ⟨gp,0,none⟩),.int .i64 (nt:Int)] w λen w'=>en=.returned (.bool true)/\PW w0 w' gp gh st n nt t (Ai.B8 m P nt):=by
 have HH:=Zh h
 have HD:=Zh hid
 clear h hid
 go_enter Tryz.func10,Tryz.ntmps10
 go_wp2_with fail
 go_loopw [5] (λi wr=>∃k:Nat,k<=nt/\i=.int .i64 k/\Hid (PW w0 wr gp gh st n nt t (Ai.B8 m P k))) (λi _=>nt-(intOf i).toNat)
 case atStart=>exact⟨0,Nat.zero_le _,rfl,Zh HH.out⟩
 case round=>
  obtain⟨k,hk,rfl,L⟩:=hrel
  by_cases hlt:k<nt
  ·have hlt':(k:Int)<(nt:Int):=Zo;go_wp2_with fail;go_loopw [6] (λi wq=>∃j:Nat,j<=m/\i=.int .i64 j/\Hid (PW w0 wq gp gh st n nt t (Ai.runT j (Ai.B8 m P k) k))) (λi _=>m-(intOf i).toNat);case atStart=>exact⟨0,Nat.zero_le _,rfl,Zh L.out⟩
   case round=>
    obtain⟨j,hj,rfl,M⟩:=hrel;have hj6:(j:Int)<60000:=Zo;obtain⟨T,hT⟩:=M.out.A8 hlt;have hidl:=M.out.idle hT;go_wp2_with fail;refine hidl.mono ?_;rintro e w1 ⟨rfl,h1⟩;cases hi:Ai.Co T with
    |true=>
     have hst:(Ai.runT j (Ai.B8 m P k) k).idle k=true:=by unfold Ai.idle;rw[hT];exact hi
     have e1:Ai.B8 m P (k+1)=Ai.runT j (Ai.B8 m P k) k:=by
      show Ai.runT m (Ai.B8 m P k) k=_;have:=Ai.L6 hst (m-j);rwa [show j+(m-j)=m from by omega] at this
     have hid2:=h1.idle hT;rw[hi] at hid2;have H1:=Zh h1;clear h1 hidl hT M L HH;go_wp2_with fail;refine hid2.mono ?_;rintro e w2 ⟨rfl,h2⟩;have H2:Hid (PW w0 w2 gp gh st n nt t (Ai.B8 m P (k+1))):=Zh (by rw[e1];exact h2);clear h2 hid2 H1 e1 hst;go_wp2_with fail;exact⟨⟨k+1,hlt,by go_num,H2⟩,by simp[intOf];omega⟩
    |false=>
     have hjm:j<m:=by
      rcases Nat.lt_or_ge j m with h|h
      ·exact h
      ·have e2:j=m:=Zo;subst e2;have:=HD.out k hlt;unfold Ai.idle at this;rw[show Ai.B8 j P (k+1)=Ai.runT j (Ai.B8 j P k) k from rfl,hT] at this;simp only at this;rw[hi] at this;cases this
     have hp:=h1.pick hP hT hi Zo hn;have hGn:=hG k (j+1) hlt hjm;have e1:Ai.runT (j+1) (Ai.B8 m P k) k=((Ai.runT j (Ai.B8 m P k) k).Cg k T).1:=by rw[Ai.JE,Ai.TA hT hi]
     rw[←e1] at hp;have hp:=hp.mono (λen w' (h:_/\_)=>(⟨h.1,⟨h.2.p,hGn,h.2.e,h.2.b,h.2.z⟩⟩:en=_/\PW w0 w' gp gh st n nt t (Ai.runT (j+1) (Ai.B8 m P k) k)));clear hGn;clear h1 hidl hT e1;generalize((Ai.runT j (Ai.B8 m P k) k).Cg k T).2=B at hp;go_wp2_with fail;refine hp.mono ?_;rintro e w2 ⟨rfl,h2⟩;have hA:=(Below.refl w2.heap.size w2).alloc (Nat.le_refl _) (.cells Ym.zero.l.toArray 42);have HX:=Zh (Bk.at_ (w:=w2) (g:=w2.heap.size) (cs:=Ym.zero.l.toArray) (t:=42) rfl);have H2:=Zh h2;clear h2 hp;go_wp2_with (refine vM HX.out ?_;intro w3 hst;have H3:Hid (PW w0 w3 gp gh st n nt t (Ai.runT (j+1) (Ai.B8 m P k) k)):=Zh (H2.out.below (hst.below hA (Nat.le_refl _)));clear hst);exact⟨⟨j+1,hjm,by go_num,H3⟩,by simp[intOf];omega⟩
  ·have hke:k=nt:=Zo;subst hke;have hlt':¬(k:Int)<(k:Int):=Zo;go_wp2_with fail;go_ret;exact⟨rfl,L.out⟩
end Go.Proofs.YtaipogljokblkaaGreatDoor
namespace Go.Proofs.YtaipogljokblkaaGreatDoor
open Go Go.RowKit
open Go.Proofs.YtaipogljokblkaaGreatDoor.Fn (Ed)
end Go.Proofs.YtaipogljokblkaaGreatDoor
namespace Go.Proofs.YtaipogljokblkaaGreatDoor.Fn
open Go Go.RowKit
theorem XG(s:ByteArray)(w:World)(hs:s.size<=140737488351232):
  Calls Tryz.prog 12 #[.string s] w (aE s w):=by
 have hq:∀k,JS s k<256:=IB s
 have q0:=hq 0
 have q1:=hq 1
 have q2:=hq 2
 have q3:=hq 3
 have q4:=hq 4
 have q5:=hq 5
 clear hq
 go_enter Tryz.func12,Tryz.ntmps12
 go_wp2_with fail
 have D:DW w _ s 0 #[.int .i64 0,.int .i64 0,.int .i64 0,.int .i64 0,.int .i64 0,.slice none 0 0,.slice none 0 0]:=⟨(((Bk.at_ rfl).alloc _).alloc _),by rw[dS];exact((Bk.at_ Zs).alloc _),Bk.at_ Zs,(((Below.refl _ _).alloc (Nat.le_refl _) _).alloc Zs _).alloc (by simp;omega) _⟩
 refine(E3 s 0 _ _ D.r).mono ?_
 rintro e w1 ⟨rfl,hn⟩
 have D0a:=D.next ⟨rfl,hn⟩
 clear D hn
 have f0:=D0a.x.cell 0
 have g0:=D0a.x.free 0
 simp at f0
 go_wp2_with fail
 have D1:=D0a.Eo 0 (.int .i64 (DJ s))
 clear D0a f0 g0
 refine(E3 s 1 _ _ D1.r).mono ?_
 rintro e w2 ⟨rfl,hn⟩
 have D1a:=D1.next ⟨rfl,hn⟩
 clear D1 hn
 have f0:=D1a.x.cell 1
 have g0:=D1a.x.free 1
 simp at f0
 go_wp2_with fail
 have D2:=D1a.Eo 1 (.int .i64 (ZV s))
 clear D1a f0 g0
 refine(E3 s 2 _ _ D2.r).mono ?_
 rintro e w3 ⟨rfl,hn⟩
 have D2a:=D2.next ⟨rfl,hn⟩
 clear D2 hn
 have f0:=D2a.x.cell 2
 have g0:=D2a.x.free 2
 simp at f0
 go_wp2_with fail
 have D3:=D2a.Eo 2 (.int .i64 (GG s))
 clear D2a f0 g0
 refine(E3 s 3 _ _ D3.r).mono ?_
 rintro e w4 ⟨rfl,hn⟩
 have D3a:=D3.next ⟨rfl,hn⟩
 clear D3 hn
 have f0:=D3a.x.cell 3
 have g0:=D3a.x.free 3
 simp at f0
 go_wp2_with fail
 have D4:=D3a.Eo 3 (.int .i64 (UE s))
 clear D3a f0 g0
 refine(E3 s 4 _ _ D4.r).mono ?_
 rintro e w5 ⟨rfl,hn⟩
 have D4a:=D4.next ⟨rfl,hn⟩
 clear D4 hn
 have f0:=D4a.x.cell 4
 have g0:=D4a.x.free 4
 simp at f0
 have f1:=D4a.x.cell 0
 simp at f1
 go_wp2_with fail
 have D5:=D4a.Eo 4 (.int .i64 (XH s))
 clear D4a f0 g0 f1
 refine(fL (DJ s) _ (by unfold DJ;omega) (by unfold DJ;omega)).mono ?_
 rintro e w6 ⟨rfl,rfl⟩
 have hkb:=D5.x.lt
 have D6:=D5.more ((Below.refl _ _).alloc (Nat.le_refl _) (.cells ((B6 (DJ s)).map (Value.int .i64)).toArray 3))
 have hK:Bk ((w5.setCell ⟨w.heap.size+2,4,none⟩ (.int .i64 (XH s))).alloc (.cells (RR s) 3)) w5.heap.size 3 (RR s):=Bk.at_ (by simp[World.setCell])
 simp[World.setCell] at hkb
 clear D5
 go_wp2_with fail
 refine(E3 s 5 _ _ D6.r).mono ?_
 rintro e w7 ⟨rfl,hn⟩
 have D7:=D6.next ⟨rfl,hn⟩
 have hK7:=hK.grown (t:=3) hn.2.1 (by simp;omega)
 clear D6 hK hn
 generalize w5.heap.size=kb at*
 have hsz7:=hK7.lt
 have L:L1 w w7 s kb 6 0 (.slice none 0 0):=⟨D7,hK7,⟨rfl,.inl ⟨rfl,rfl⟩⟩,hkb⟩
 clear D7 hK7 hsz7
 go_wp2_with fail
 go_loopw [49] (λi wr=>∃(k:Nat) (v:Value),k<=dN s/\i=.int .i64 k/\L1 w wr s kb (6+4*k) k v) (λi _=>dN s-(intOf i).toNat)
 case atStart=>exact⟨0,_,Nat.zero_le _,rfl,L⟩
 case round=>
  obtain⟨k,v,hk,rfl,L⟩:=hrel
  by_cases hlt:k<dN s
  ·have hlt':(k:Int)<(JS s 5:Int)%65:=by unfold dN at hlt;omega
   have QM:1<=GG s:=by unfold GG;omega
   have th2:GG s<=6:=by unfold GG;omega
   have b6:=IB s (6+4*k);have c2:=L.th;have th0:¬GG s=0:=Zo;go_wp2_with fail;go_region_held3 (λw'=>w'.cell? ⟨w.heap.size+1+1,2,none⟩=some (.int .i64 (GG s))) (first|go_keep|exact c2'|exact c2)
    ((go_at_call 28;refine(E3 s (6+4*k) _ _ L.d.r.drew).mono ?_;rintro e w8 ⟨rfl,hn⟩;have L8:=L.drew.next ⟨rfl,hn⟩;have c2':=L8.th))
   clear hn;have hl1:1<=(B6 (DJ s)).length:=by
    have hst:DJ s=1\/DJ s=2\/DJ s=3\/DJ s=4\/DJ s=5:=by unfold DJ;omega
    rcases hst with e|e|e|e|e<;>rw[e]<;>decide
   have hl3:(B6 (DJ s)).length<=3:=by
    have hst:DJ s=1\/DJ s=2\/DJ s=3\/DJ s=4\/DJ s=5:=by unfold DJ;omega
    rcases hst with e|e|e|e|e<;>rw[e]<;>decide
   go_wp2_with fail;refine(E3 s (6+4*k+1) _ _ L8.d.r).mono ?_;rintro e w9 ⟨rfl,hn⟩;have L9:=L8.next ⟨rfl,hn⟩;clear hn L8 c2' c2;have c3:=L9.kind (JS s (6+4*k+1));have b7:=IB s (6+4*k+1);have m7:JS s (6+4*k+1)%(B6 (DJ s)).length<(B6 (DJ s)).length:=Nat.mod_lt _ Zo;go_wp2_with fail;clear c3 m7;refine(E3 s (6+4*k+1+1) _ _ L9.d.r).mono ?_;rintro e w10 ⟨rfl,hn⟩;have L10:=L9.next ⟨rfl,hn⟩;clear hn L9;have b8:=IB s (6+4*k+1+1);go_wp2_with fail;refine(E3 s (6+4*k+1+1+1) _ _ L10.d.r).mono ?_;rintro e w11 ⟨rfl,hn⟩;have L11:=L10.next ⟨rfl,hn⟩;clear hn L10;have b9:=IB s (6+4*k+1+1+1);have e5:=L11.ops;have e0:=L11.st;obtain⟨i0,hi0,hz0,hz1,hz2⟩:=info_parts oE;have hkN:k<65:=by unfold dN at hlt;omega
   go_wp2_with fail;refine X8 (λw'=>w'.cell? ⟨w.heap.size+1+1,5,none⟩=some v/\w'.cell? ⟨w.heap.size+1+1,0,none⟩=some (.int .i64 (DJ s))) 15 Zk ⟨e5,e0⟩ (λhS=>?_);(refine Ba (i:=0) Zk Zo rfl Zk Zk Zk (λ_ _ _ _ h=>h) hS ?_;apply Exists.intro;apply And.intro;(refine Or.inl ⟨by rfl,?_⟩;intro w' hS';obtain⟨h1,h2⟩:=hS';go_simp;rfl);simp only[Act.put,List.setIfInBounds_toArray,List.set_cons_succ,List.set_cons_zero]);(refine Ba (i:=1) Zk Zo rfl Zk Zk Zk (λ_ _ _ _ h=>h) hS ?_;apply Exists.intro;apply And.intro;(refine Or.inl ⟨by rfl,?_⟩;intro w' hS';obtain⟨h1,h2⟩:=hS';go_simp;rfl);simp only[Act.put,List.setIfInBounds_toArray,List.set_cons_succ,List.set_cons_zero]);(refine Ba (i:=2) Zk Zo rfl Zk Zk Zk (λ_ _ _ _ h=>h) hS ?_;apply Exists.intro;apply And.intro;(refine Or.inl ⟨by rfl,?_⟩;intro w' hS';obtain⟨h1,h2⟩:=hS';go_simp;rfl);simp only[Act.put,List.setIfInBounds_toArray,List.set_cons_succ,List.set_cons_zero]);(refine Ba (i:=3) Zk Zo rfl Zk Zk Zk (λ_ _ _ _ h=>h) hS ?_;apply Exists.intro;apply And.intro;(refine Or.inl ⟨by rfl,?_⟩;intro w' hS';obtain⟨h1,h2⟩:=hS';go_simp;rfl);simp only[Act.put,List.setIfInBounds_toArray,List.set_cons_succ,List.set_cons_zero]);(refine Ba (i:=4) Zk Zo rfl Zk Zk Zk (λ_ _ _ _ h=>h) hS ?_;apply Exists.intro;apply And.intro;(refine Or.inl ⟨by rfl,?_⟩;intro w' hS';obtain⟨h1,h2⟩:=hS';go_simp;rfl);simp only[Act.put,List.setIfInBounds_toArray,List.set_cons_succ,List.set_cons_zero]);(refine Ba (i:=5) Zk Zo rfl Zk Zk Zk (λ_ _ _ _ h=>h) hS ?_;apply Exists.intro;apply And.intro;(refine Or.inl ⟨by rfl,?_⟩;intro w' hS';obtain⟨h1,h2⟩:=hS';go_simp;rfl);simp only[Act.put,List.setIfInBounds_toArray,List.set_cons_succ,List.set_cons_zero]);(refine Ba (i:=6) Zk Zo rfl Zk Zk Zk (λ_ _ _ _ h=>h) hS ?_;apply Exists.intro;apply And.intro;(refine Or.inl ⟨by rfl,?_⟩;intro w' hS';obtain⟨h1,h2⟩:=hS';go_simp;rfl);simp only[Act.put,List.setIfInBounds_toArray,List.set_cons_succ,List.set_cons_zero]);(refine Ba (i:=7) Zk Zo rfl Zk Zk Zk (λ_ _ _ _ h=>h) hS ?_;apply Exists.intro;apply And.intro;(refine Or.inl ⟨by rfl,?_⟩;intro w' hS';obtain⟨h1,h2⟩:=hS';go_simp;rfl);simp only[Act.put,List.setIfInBounds_toArray,List.set_cons_succ,List.set_cons_zero]);(refine Ba (i:=8) Zk Zo rfl Zk Zk Zk (λ_ _ _ _ h=>h) hS ?_;apply Exists.intro;apply And.intro;(refine Or.inl ⟨by rfl,?_⟩;intro w' hS';obtain⟨h1,h2⟩:=hS';go_simp;rfl);simp only[Act.put,List.setIfInBounds_toArray,List.set_cons_succ,List.set_cons_zero]);(refine Ba (i:=9) Zk Zo rfl Zk Zk Zk (λ_ _ _ _ h=>h) hS ?_;apply Exists.intro;apply And.intro;(refine Or.inl ⟨by rfl,?_⟩;intro w' hS';obtain⟨h1,h2⟩:=hS';go_simp;rfl);simp only[Act.put,List.setIfInBounds_toArray,List.set_cons_succ,List.set_cons_zero]);(refine Et (i:=10) rfl Zk (λK hK=>?_));go_wp2_with (go_at_call 30;refine(oP (DJ s) (Ks (DJ s) (JS s (6+4*k+1))) (JS s (6+4*k+1+1)) (JS s (6+4*k+1+1+1)) _ Zo Zo Zo Zo).mono ?_;rintro e w12 ⟨rfl,hb12⟩;have L12:=L11.drew.more hb12;have e5':=L12.ops;have e0':=L12.st;have hk12:=L12.kk.lt);refine hK.out _ _ (λ_=>⟨e5',e0'⟩) ?_;clear hK hS;have hS:=(⟨e5',e0'⟩:w12.cell? ⟨w.heap.size+1+1,5,none⟩=some v/\w12.cell? ⟨w.heap.size+1+1,0,none⟩=some (.int .i64 (DJ s)));(refine Ba (i:=11) Zk Zo rfl Zk Zk Zk (λ_ _ _ _ h=>h) hS ?_;apply Exists.intro;apply And.intro;(refine Or.inl ⟨by rfl,?_⟩;intro w' hS';obtain⟨h1,h2⟩:=hS';go_simp;rfl);simp only[Act.put,List.setIfInBounds_toArray,List.set_cons_succ,List.set_cons_zero]);(refine Et (i:=12) rfl Zk (λK hK=>?_));go_wp2;have hS12:∀o:Obj,(w12.alloc o).cell? ⟨w.heap.size+1+1,5,none⟩=some v/\(w12.alloc o).cell? ⟨w.heap.size+1+1,0,none⟩=some (.int .i64 (DJ s)):=λo=>⟨(World.cell?_alloc_lt w12 o _ (by have:=L12.kb;simp;omega)).trans e5',(World.cell?_alloc_lt w12 o _ (by have:=L12.kb;simp;omega)).trans e0'⟩;refine hK.out _ _ (λ_=>hS12 _) ?_;clear hK hS;(refine Et (i:=13) rfl Zk (λK hK=>?_));refine wpList_append_lies _ Zr _ _ _ Zr (kb+1) 91 i0 _ 5 40 Tryz.underlying44 hi0 hz0 hz1 hz2 rfl Zo v k (Dp (EB s k)) Zr (L12.own.alloc _) ⟨w12.heap.size,0,none⟩ 1 1 (Nq s (6+4*k)).cells Zr Zr (World.news_of_block (cs:=(Nq s (6+4*k)).cells.toArray) (t:=91) (fr:=(0,0)) (heap_alloc_new w12 _)) (by simp[Dj.cells,Value.oneCell']) Zo (by simp only[maxLen];omega) Zo (by simp;omega) (w12.heap.size+1) Zs ?_;intro gg cap w13 hown13 hg13 hat13 hlt13;obtain⟨e5a,e0a,fz⟩:=L12.Vl _ hg13;go_wp2;refine hK.out _ _ (λ_=>⟨e5a,e0a⟩) ?_;clear hK hS12;have hS:=(⟨e5a,e0a⟩:w13.cell? ⟨w.heap.size+1+1,5,none⟩=some v/\w13.cell? ⟨w.heap.size+1+1,0,none⟩=some (.int .i64 (DJ s)));(refine Ba (i:=14) Zk Zo rfl Zk Zk Zk (λ_ _ _ _ h=>h) hS ?_;apply Exists.intro;apply And.intro;(refine Or.inl ⟨by rfl,?_⟩;intro w' hS';obtain⟨h1,h2⟩:=hS';go_simp;rfl);simp only[Act.put,List.setIfInBounds_toArray,List.set_cons_succ,List.set_cons_zero]);(refine Et (i:=15) rfl Zk (λK hK=>?_));go_wp2;refine hK.out _ _ (λh=>absurd h Zo) ?_;clear hK hS;refine Ye Zk ?_ _;have Ln:=L12.push _ hown13 hg13 Zo;clear L12 L11 L;go_wp2;go_roundw
   case rel=>exact⟨k+1,_,by omega,by go_num,Ln⟩
   case measure=>simp[intOf];omega
  ·have hke:k=dN s:=Zo;subst hke;have M0:=L.two;have hge:¬((dN s:Nat):Int)<(JS s 5:Int)%65:=by unfold dN;omega
   clear L;go_wp2_with fail;clear hge;go_loopw [] (λwr=>∃(j:Nat) (A':Option Addr) (c':Nat),j<=dP s/\L2 w wr s kb (6+4*dN s+j) j v (.slice A' j c')) (λwr=>Qd wr (w.heap.size+1));case atStart=>exact⟨0,none,0,Nat.zero_le _,M0⟩
   case round=>
    obtain⟨j,A',c',hj,M⟩:=hrel;have m4:=M.left;have m5:=M.Mr;have m6:=M.th;have QM:1<=GG s:=by unfold GG;omega
    have th2:GG s<=6:=by unfold GG;omega
    have th0:¬GG s=0:=Zo;by_cases hlt:6+4*dN s+j<s.size
    ·have hne:(rest s (6+4*dN s+j)).toList.isEmpty=false:=IH (by rw[L7];omega);by_cases h4:j<4096
     ·have h4':(j:Int)<4096:=Zo;have b6:=IB s (6+4*dN s+j);go_wp2_with fail;refine X8 (λw'=>w'.cell? ⟨w.heap.size+1+1,6,none⟩=some (.slice A' j c')/\w'.cell? ⟨w.heap.size+1+1,2,none⟩=some (.int .i64 (GG s))) 11 Zk ⟨m5,m6⟩ (λhS=>?_);(refine Ba (i:=0) Zk Zo rfl Zk Zk Zk (λ_ _ _ _ h=>h) hS ?_;apply Exists.intro;apply And.intro;(refine Or.inl ⟨by rfl,?_⟩;intro w' hS';obtain⟨h1,h2⟩:=hS';go_simp;rfl);simp only[Act.put,List.setIfInBounds_toArray,List.set_cons_succ,List.set_cons_zero]);(refine Ba (i:=1) Zk Zo rfl Zk Zk Zk (λ_ _ _ _ h=>h) hS ?_;apply Exists.intro;apply And.intro;(refine Or.inl ⟨by rfl,?_⟩;intro w' hS';obtain⟨h1,h2⟩:=hS';go_simp;rfl);simp only[Act.put,List.setIfInBounds_toArray,List.set_cons_succ,List.set_cons_zero]);(refine Ba (i:=3) Zk Zo rfl Zk Zk Zk (λ_ _ _ _ h=>h) hS ?_;apply Exists.intro;apply And.intro;(refine Or.inl ⟨by rfl,?_⟩;intro w' hS';obtain⟨h1,h2⟩:=hS';go_simp;rfl);simp only[Act.put,List.setIfInBounds_toArray,List.set_cons_succ,List.set_cons_zero]);(refine Ba (i:=4) Zk Zo rfl Zk Zk Zk (λ_ _ _ _ h=>h) hS ?_;apply Exists.intro;apply And.intro;(refine Or.inl ⟨by rfl,?_⟩;intro w' hS';obtain⟨h1,h2⟩:=hS';go_simp;rfl);simp only[Act.put,List.setIfInBounds_toArray,List.set_cons_succ,List.set_cons_zero]);(refine Ba (i:=5) Zk Zo rfl Zk Zk Zk (λ_ _ _ _ h=>h) hS ?_;apply Exists.intro;apply And.intro;(refine Or.inl ⟨by rfl,?_⟩;intro w' hS';obtain⟨h1,h2⟩:=hS';go_simp;rfl);simp only[Act.put,List.setIfInBounds_toArray,List.set_cons_succ,List.set_cons_zero]);(refine Ba (i:=6) Zk Zo rfl Zk Zk Zk (λ_ _ _ _ h=>h) hS ?_;apply Exists.intro;apply And.intro;(refine Or.inl ⟨by rfl,?_⟩;intro w' hS';obtain⟨h1,h2⟩:=hS';go_simp;rfl);simp only[Act.put,List.setIfInBounds_toArray,List.set_cons_succ,List.set_cons_zero]);(refine Et (i:=2) rfl Zk (λK hK=>?_));go_wp2_with (go_at_call 28;refine(E3 s (6+4*dN s+j) _ _ M.d.r.drew).mono ?_;rintro e w8 ⟨rfl,hn⟩;have M8:=M.drew.next ⟨rfl,hn⟩;have m5':=M8.Mr;have m6':=M8.th);refine hK.out _ _ (λ_=>⟨m5',m6'⟩) ?_;clear hK hS hn;have hS:=(⟨m5',m6'⟩:w8.cell? ⟨w.heap.size+1+1,6,none⟩=some (.slice A' j c')/\w8.cell? ⟨w.heap.size+1+1,2,none⟩=some (.int .i64 (GG s)));(refine Ba (i:=7) Zk Zo rfl Zk Zk Zk (λ_ _ _ _ h=>h) hS ?_;apply Exists.intro;apply And.intro;(refine Or.inl ⟨by rfl,?_⟩;intro w' hS';obtain⟨h1,h2⟩:=hS';go_simp;rfl);simp only[Act.put,List.setIfInBounds_toArray,List.set_cons_succ,List.set_cons_zero]);(refine Et (i:=8) rfl Zk (λK hK=>?_));go_wp2;have hS8:∀o:Obj,(w8.alloc o).cell? ⟨w.heap.size+1+1,6,none⟩=some (.slice A' j c')/\(w8.alloc o).cell? ⟨w.heap.size+1+1,2,none⟩=some (.int .i64 (GG s)):=λo=>⟨(World.cell?_alloc_lt w8 o _ (by have:=M8.kb;have:=M8.kl;simp;omega)).trans m5',(World.cell?_alloc_lt w8 o _ (by have:=M8.kb;have:=M8.kl;simp;omega)).trans m6'⟩;refine hK.out _ _ (λ_=>hS8 _) ?_;clear hK hS;(refine Et (i:=9) rfl Zk (λK hK=>?_));obtain⟨i0,hi0,hz0,hz1,hz2⟩:=info_parts MU;have hk8:=M8.kl;refine wpList_append_lies _ Zr _ _ _ Zr (kb+1) 3 i0 _ 1 8 Tryz.underlying45 hi0 hz0 hz1 hz2 rfl Zo (.slice A' j c') j (Y5 (EA s j)) Zr (M8.Uf.alloc _) ⟨w8.heap.size,0,none⟩ 1 1 [.int .i64 (NF s (GG s) (dN s) j)] Zr Zr (World.news_of_block (cs:=#[.int .i64 (NF s (GG s) (dN s) j)]) (t:=3) (fr:=(0,0)) (heap_alloc_new w8 _)) (by simp[Value.oneCell']) Zo (by simp only[maxLen];omega) Zo (by simp;omega) (w8.heap.size+1) Zs ?_;intro gg cap w9 hown9 hg9 hat9 hlt9;obtain⟨e6a,e2a,fz⟩:=M8.Vl _ hg9;go_wp2;refine hK.out _ _ (λ_=>⟨e6a,e2a⟩) ?_;clear hK hS8;have hS:=(⟨e6a,e2a⟩:w9.cell? ⟨w.heap.size+1+1,6,none⟩=some (.slice A' j c')/\w9.cell? ⟨w.heap.size+1+1,2,none⟩=some (.int .i64 (GG s)));(refine Ba (i:=10) Zk Zo rfl Zk Zk Zk (λ_ _ _ _ h=>h) hS ?_;apply Exists.intro;apply And.intro;(refine Or.inl ⟨by rfl,?_⟩;intro w' hS';obtain⟨h1,h2⟩:=hS';go_simp;rfl);simp only[Act.put,List.setIfInBounds_toArray,List.set_cons_succ,List.set_cons_zero]);(refine Et (i:=11) rfl Zk (λK hK=>?_));go_wp2;refine hK.out _ _ (λh=>absurd h Zo) ?_;clear hK hS;refine Ye Zk ?_ _;have Mn:=M8.push _ hown9 hg9;have hl0:=M.Qd;clear M8 M;go_wp2;go_roundw
      case rel=>exact⟨j+1,_,_,by unfold dP;omega,Mn⟩
      case measure=>rw[Mn.Qd,hl0];omega
     ·obtain rfl:j=dP s:=by unfold dP at hj ⊢;omega
      have h4':¬((dP s:Nat):Int)<4096:=Zo;((obtain⟨A0,c0,rfl⟩:=PR M.own);have O:=M.d.o;have X:=M.d.x;have o0:=O.cell 0;have o1:=O.cell 1;have o2:=O.cell 2;have o3:=O.cell 3;have o4:=O.cell 4;have o5:=O.cell 5;have o6:=O.cell 6;have x0:=X.cell 0;have x1:=X.cell 1;have x3:=X.cell 3;have x4:=X.cell 4;have x5:=X.cell 5;simp[DG] at o0 o1 o2 o3 o4 o5 o6 x0 x1 x3 x4 x5;have fo:=O.free;go_wp2_with fail;refine bodyPost_ret (v:=.agg #[.int .i64 (DJ s),.int .i64 (ZV s),.int .i64 (GG s),.int .i64 (UE s),.int .i64 (XH s),.slice A0 (dN s) c0,.slice A' (dP s) c']) (by simp[results,Tryz.results12,go_sem,o0,o1,o2,o3,o4,o5,o6]) rfl (M.out _ _ _ _ _ _ _))
    ·have hne:(rest s (6+4*dN s+j)).toList.isEmpty=true:=by rw[It _ _ Zo,Go.ByteArray.toList_eq];rfl
     obtain rfl:j=dP s:=by unfold dP at hj ⊢;omega
     ((obtain⟨A0,c0,rfl⟩:=PR M.own);have O:=M.d.o;have X:=M.d.x;have o0:=O.cell 0;have o1:=O.cell 1;have o2:=O.cell 2;have o3:=O.cell 3;have o4:=O.cell 4;have o5:=O.cell 5;have o6:=O.cell 6;have x0:=X.cell 0;have x1:=X.cell 1;have x3:=X.cell 3;have x4:=X.cell 4;have x5:=X.cell 5;simp[DG] at o0 o1 o2 o3 o4 o5 o6 x0 x1 x3 x4 x5;have fo:=O.free;go_wp2_with fail;refine bodyPost_ret (v:=.agg #[.int .i64 (DJ s),.int .i64 (ZV s),.int .i64 (GG s),.int .i64 (UE s),.int .i64 (XH s),.slice A0 (dN s) c0,.slice A' (dP s) c']) (by simp[results,Tryz.results12,go_sem,o0,o1,o2,o3,o4,o5,o6]) rfl (M.out _ _ _ _ _ _ _))
end Go.Proofs.YtaipogljokblkaaGreatDoor.Fn
namespace Go.Proofs.YtaipogljokblkaaGreatDoor
open Go Go.RowKit
def LX(s:ByteArray):Ai:=(Ai.fresh (Fn.DJ s) (Fn.ZV s) (Fn.XH s) (Fn.GG s).toNat (Fn.UE s).toNat (Fn.GG s).toNat).fill (Fn.dec s).ops
def bare(s:ByteArray):Prop:=(Fn.DJ s=2\/Fn.DJ s=4)/\Fn.UE s=0
theorem Ow(s:ByteArray):(1<=Fn.DJ s/\Fn.DJ s<=5)/\(1<=Fn.ZV s/\Fn.ZV s<=5)/\(1<=Fn.GG s/\Fn.GG s<=6)/\(0<=Fn.UE s/\Fn.UE s<=255)/\(1<=Fn.XH s/\Fn.XH s<=64):=by
 have h3:=IB s 3;refine⟨Fn.oY s,?_,?_,?_,?_⟩
 ·unfold Fn.ZV;omega
 ·unfold Fn.GG;omega
 ·unfold Fn.UE;omega
 ·unfold Fn.XH;omega
theorem vF(s:ByteArray):(Fn.dec s).ops.length<=64:=by
 show(Fn.EB s (Fn.dN s)).length<=64;rw[Fn.Hl];unfold Fn.dN;omega
theorem hD(s:ByteArray)(hb:¬bare s):GI (Fn.DJ s) (Fn.UE s).toNat (Fn.GG s).toNat 0 (LX s):=by
 obtain⟨⟨a0,b0⟩,⟨a1,b1⟩,⟨a2,b2⟩,⟨a3,b3⟩,_⟩:=Ow s;refine GI.fill _ _ (oN (λh=>?_) a1 b1 Zo Zo) λx hx=>(Fn.ZU x hx).2.2;rcases Nat.eq_zero_or_pos (Fn.UE s).toNat with h0|h0
 ·exact absurd ⟨h,by omega⟩ hb
 ·exact h0
theorem Yo(s:ByteArray)(w:World)(he:AQ w)(h40:7<=w.heap.size)(A A':Option Go.Addr)(c c':Nat)(hl:Fn.Sl w w.heap.size 5 A (Fn.dec s).ops.length (Fn.Dp (Fn.dec s).ops))(hb:¬bare s):
  Calls Tryz.prog 13 #[(Fn.dec s).v A c A' c'] w λen w'=>∃gp gh,en=.returned (.pointer (some ⟨gp,0,none⟩))/\PW w w' gp gh (Fn.DJ s) (Fn.UE s).toNat (Fn.GG s).toNat 0 (LX s):=by
 obtain⟨⟨a0,b0⟩,⟨a1,b1⟩,⟨a2,b2⟩,⟨a3,b3⟩,⟨a4,b4⟩⟩:=Ow s
 have hg:=hD s hb
 obtain⟨n,hn⟩:∃n:Nat,Fn.GG s=n:=⟨_,(Int.toNat_of_nonneg Zo).symm⟩
 obtain⟨ns,hns⟩:∃ns:Nat,Fn.UE s=ns:=⟨_,(Int.toNat_of_nonneg a3).symm⟩
 have hs:Fn.DJ s=2\/Fn.DJ s=4->1<=ns:=λh=>by
  rcases Nat.eq_zero_or_pos ns with h0|h0
  ·exact absurd ⟨h,by omega⟩ hb
  ·exact h0
 have ho:∀t∈(Fn.dec s).ops,0<=t.Cj/\t.Cj<(n:Int)/\DR (Fn.DJ s) (oI t.op):=λt ht=>by rw[←hn];exact Fn.ZU t ht
 have hc:=gZ (Fn.DJ s) (Fn.ZV s) (Fn.XH s) n ns w he a0 b0 a1 b1 Zo Zo Zo a4 b4 hs (Fn.dec s).ops A A' c c' (Fn.dec s).Mr.length hl (vF s) ho
 have e1:(Fn.dec s).v A c A' c'=.agg #[.int .i64 (Fn.DJ s),.int .i64 (Fn.ZV s),.int .i64 (n:Int),.int .i64 (ns:Int),.int .i64 (Fn.XH s),.slice A (Fn.dec s).ops.length c,.slice A' (Fn.dec s).Mr.length c']:=by rw[←hn,←hns];rfl
 rw[e1]
 refine hc.mono ?_
 rintro e w1 ⟨gp,gh,tv,bv,ro,Fh,Ft,lab,rfl,hp,hbl,hlb⟩
 refine⟨gp,gh,rfl,⟨tv,bv,ro,Fh,Ft,lab,?_,hlb⟩,hg,he.below hbl,hbl,h40⟩
 have e2:LX s=(Ai.fresh (Fn.DJ s) (Fn.ZV s) (Fn.XH s) n ns n).fill (Fn.dec s).ops:=by
  unfold LX;rw[hn,hns,Int.toNat_natCast,Int.toNat_natCast]
 rw[e2]
 exact hp
end Go.Proofs.YtaipogljokblkaaGreatDoor
namespace Go.Proofs.YtaipogljokblkaaGreatDoor
open Go Go.RowKit
def K8:ByteArray:={data:=#[0,1,1,9,1,2,0,0,0,4,1,1]}
def Pu:Ai:=Ai.B8 8 (LX K8) 2
theorem aJ:¬bare K8:=λh=>by
 rcases h.1 with h|h
 ·exact absurd h Zd
 ·exact absurd h Zd
theorem aI:∀k,k<2->(Ai.B8 8 (LX K8) (k+1)).idle k=true
 |0,_=>by kernel_rfl
 |1,_=>by kernel_rfl
 |_+2,h=>by omega
theorem S9:Pu.Ao.length=12:=Zk
theorem JD:(rows Ym.l Pu.Ao)[1]?=some (.bool true)/\(rows Ym.l Pu.Ao)[117]?=some (.bool true)/\(rows Ym.l Pu.Ao)[118]?=some (.int .i64 1)/\(rows Ym.l Pu.Ao)[119]?=some (.int .i64 4):=
 ⟨by kernel_rfl,by kernel_rfl,by kernel_rfl,by kernel_rfl⟩
theorem rL:(Fn.GG K8).toNat=2:=Zk
theorem iO(A A':Option Addr)(c c':Nat):(Fn.dec K8).v A c A' c'=.agg #[.int .i64 1,.int .i64 2,.int .i64 2,.int .i64 9,.int .i64 2,.slice A 2 c,.slice A' 0 c']:=Zk
theorem aH(hP:Me)(w:World)(he:AQ w):Calls Tryz.prog 7 #[] w λen w'=>en=.returned (.bool true)/\Below w.heap.size w w':=by
 have hd:=Fn.XG K8 w Zd;have HE:=Zh he;have h40:=he.lt;clear he;go_enter Tryz.func7,Tryz.ntmps7;go_wp2_with fail;refine hd.mono ?_;rintro e w1 ⟨A,c,A',c',rfl,hl,hl2,hb⟩;rw[iO];have hA:=(Below.refl w1.heap.size w1).alloc (Nat.le_refl _) (.cells #[.int .i64 1,.int .i64 2,.int .i64 2,.int .i64 9,.int .i64 2,.slice A 2 c,.slice A' 0 c'] 47);have HE2:=Zh ((HE.out.below hb).below hA);have HB2:=Zh (hb.trans (hA.mono hb.size));have HX:=Zh (Bk.at_ (w:=w1) (g:=w1.heap.size) (cs:=#[.int .i64 1,.int .i64 2,.int .i64 2,.int .i64 9,.int .i64 2,.slice A 2 c,.slice A' 0 c']) (t:=47) rfl);have hbg:=Yo K8 _ HE2.out (Nat.le_trans h40 HB2.out.size) A A' c c' ((hl.below hA).more hA.size) aJ;rw[iO,rL] at hbg;clear hd hl hl2 hb hA HE;go_wp2_with fail;generalize(w1.alloc (.cells #[.int .i64 1,.int .i64 2,.int .i64 2,.int .i64 9,.int .i64 2,.slice A 2 c,.slice A' 0 c'] 47))=w2 at*;refine hbg.mono ?_;rintro e w3 ⟨gp,gh,rfl,hw⟩;have HX3:=Zh (HX.out.Ac hw.b);have hr:=lO hP 8 hw Zd aI Zd Zd Zd;have y2:=HX3.out.cell 2;simp at y2;clear hbg;have hr:Calls Tryz.prog 10 #[.pointer (some ⟨gp,0,none⟩),.int .i64 2] w3 λen w'=>en=.returned (.bool true)/\PW w2 w' gp gh (Fn.DJ K8) (Fn.UE K8).toNat 2 (0+12*(8*2)) Pu:=hr;have HW:=Zh hw;clear hw;go_wp2_with fail;refine hr.mono ?_;rintro e w4 ⟨rfl,h4⟩;obtain⟨tv,bv,ro,Fh,Ft,lab,hp,hlb⟩:=h4.p;have hbt:=QA hp (by rw[S9];decide);rw[S9] at hbt;have H4:=Zh h4.b;clear h4 hr hp hlb y2;go_wp2_with fail;refine hbt.mono ?_;rintro e w5 ⟨v,rfl,ho,hb5,hf⟩;obtain⟨g,off,cap,rfl,hcap⟩:=Ds ho Zd;have k1:=Cc ho 1 _ JD.1;have k2:=Cc ho 117 _ JD.2.1;have k3:=Cc ho 118 _ JD.2.2.1;have k4:=Cc ho 119 _ JD.2.2.2;have HX5:=Zh ((HX.out.Ac H4.out).Ac hb5);have y5:=HX5.out.cell 5;simp at y5;have HZ:=Zh (HB2.out.trans ((H4.out.trans (hb5.mono H4.out.size)).mono HB2.out.size));clear ho hb5 hf hcap hbt HX HX3 HX5 HE2;have k5:w5.cell? ⟨g,off+110+7,none⟩=some (.bool true):=k2;have k6:w5.cell? ⟨g,off+110+8,none⟩=some (.int .i64 1):=k3;have k7:w5.cell? ⟨g,off+110+9,none⟩=some (.int .i64 4):=k4;go_wp2_with fail;go_ret;exact⟨rfl,HZ.out⟩
end Go.Proofs.YtaipogljokblkaaGreatDoor
