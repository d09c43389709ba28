/- Core: QP, QM, QL, QS, QT, QU, BeO. -/
import Derived.Test.YtaipogljokblkaaGreatDoorW48
import Derived.Test.YtaipogljokblkaaGreatDoorW01
import Derived.Test.YtaipogljokblkaaGreatDoorW33
import Derived.Test.YtaipogljokblkaaGreatDoorW32
import Derived.Test.YtaipogljokblkaaGreatDoorW38
import Derived.Test.YtaipogljokblkaaGreatDoorW47
import Derived.Test.YtaipogljokblkaaGreatDoorW49
import Derived.Deep.CutRange
set_option linter.all false
set_option maxRecDepth 100000
set_option maxHeartbeats 8000000
namespace Go.Proofs.YtaipogljokblkaaGreatDoor
open Go Go.RowKit
set_option linter.unusedSimpArgs false
set_option linter.unusedVariables false
set_option linter.unusedSectionVars false
namespace Ar
theorem Mo:∀(j:Nat) (P:Ar) (k:Nat),runT (j+1) P k=runT 1 (runT j P k) k
 |0,P,k=>rfl
 |j+1,P,k=>by
  cases hT:P.AB[k]? with
  |none=>
   have hi:P.idle k=true:=by unfold idle;rw[hT]
   rw[Fg hi,Fg hi,Fg hi]
  |some T=>
   cases hi:DT T with
   |true=>
    have hi:P.idle k=true:=by unfold idle;rw[hT];exact hi
    rw[Fg hi,Fg hi,Fg hi]
   |false=>
    rw[Mp hT hi,Mp hT hi];exact Mo j _ k
theorem QC{P:Ar}{k j:Nat}(h:(runT j P k).idle k=true):∀d,runT (j+d) P k=runT j P k
 |0=>rfl
 |d+1=>by
  show runT (j+d+1) P k=_;rw[Mo,QC h d];exact Fg h 1
theorem mL{P:Ar}{k:Nat}{T:MT}(hT:P.AB[k]?=some T)(h:DT T=false):runT 1 P k=(P.EA k T).1:=Mp hT h 0
end Ar
theorem GI.up{st:Int}{n nt t t':Nat}{P:Ar}(h:GI st n nt t P)(ht:t<=t'):GI st n nt t' P:=
 ⟨h.s,h.z,h.h,Nat.le_trans h.b ht,λi T hi=>⟨(h.v i T hi).1.up ht,(h.v i T hi).2⟩⟩
theorem PW.up{w0 w:World}{gp gh:Nat}{st:Int}{n nt t t':Nat}{P:Ar}(h:PW w0 w gp gh st n nt t P)(ht:t<=t'):PW w0 w gp gh st n nt t' P:=⟨h.p,h.g.up ht,h.e,h.b,h.z⟩
theorem mU(hP:PP){w0 w:World}{gp gh:Nat}{st:Int}{n nt t:Nat}{P:Ar}(m:Nat)(h:PW w0 w gp gh st n nt t P)(hm:m<60000)(hid:∀k,k<nt->(Ar.ET m P (k+1)).idle k=true)(ht:t+12*(m*nt)<=60000)(hn:n<=1024)(h6:nt<=6):
  Calls Tryz.prog 10 #[.pointer (some ⟨gp,0,none⟩),.int .i64 (nt:Int)] w λen w'=>en=.returned (.bool true)/\PW w0 w' gp gh st n nt (t+12*(m*nt)) (Ar.ET m P nt):=by
 have HH:=Zh h
 have HD:=Zh hid
 clear h hid
 go_enter Tryz.func10,Tryz.ntmps10
 go_wp2_with fail
 go_loopw [5] (λi wr=>∃k:Nat,k<=nt/\i=.int .i64 k/\Hid (PW w0 wr gp gh st n nt (t+12*(m*k)) (Ar.ET m P k))) (λi _=>nt-(intOf i).toNat)
 case atStart=>exact⟨0,Nat.zero_le _,rfl,Zh HH.out⟩
 case round=>
  obtain⟨k,hk,rfl,L⟩:=hrel
  by_cases hlt:k<nt
  ·have hlt':(k:Int)<(nt:Int):=Zo;go_wp2_with fail;go_loopw [6] (λi wq=>∃j:Nat,j<=m/\i=.int .i64 j/\Hid (PW w0 wq gp gh st n nt (t+12*(m*k)+12*j) (Ar.runT j (Ar.ET m P k) k))) (λi _=>m-(intOf i).toNat);case atStart=>exact⟨0,Nat.zero_le _,rfl,Zh L.out⟩
   case round=>
    obtain⟨j,hj,rfl,M⟩:=hrel;have hj6:(j:Int)<60000:=Zo;have hmk:m*k+m<=m*nt:=by
     have:=Nat.mul_le_mul_left m (show k+1<=nt from hlt);rwa [Nat.mul_succ] at this
    obtain⟨T,hT⟩:=M.out.AB hlt;have hidl:=M.out.idle hT;go_wp2_with fail;refine hidl.mono ?_;rintro e w1 ⟨rfl,h1⟩;cases hi:Ar.DT T with
    |true=>
     have hst:(Ar.runT j (Ar.ET m P k) k).idle k=true:=by unfold Ar.idle;rw[hT];exact hi
     have e1:Ar.ET m P (k+1)=Ar.runT j (Ar.ET m P k) k:=by
      show Ar.runT m (Ar.ET m P k) k=_;have:=Ar.QC hst (m-j);rwa [show j+(m-j)=m from by omega] at this
     have hid2:=h1.idle hT;rw[hi] at hid2;have H1:=Zh h1;clear h1 hidl hT M L HH;go_wp2_with fail;refine hid2.mono ?_;rintro e w2 ⟨rfl,h2⟩;have H2:Hid (PW w0 w2 gp gh st n nt (t+12*(m*(k+1))) (Ar.ET m P (k+1))):=Zh (by rw[e1,Nat.mul_succ];exact h2.up Zo);clear h2 hid2 H1 e1 hst;go_wp2_with fail;exact⟨⟨k+1,hlt,by go_num,H2⟩,by simp[intOf];omega⟩
    |false=>
     have hjm:j<m:=by
      rcases Nat.lt_or_ge j m with h|h
      ·exact h
      ·have e2:j=m:=Zo;subst e2;have:=HD.out k hlt;unfold Ar.idle at this;rw[show Ar.ET j P (k+1)=Ar.runT j (Ar.ET j P k) k from rfl,hT] at this;simp only at this;rw[hi] at this;cases this
     have hp:=h1.pick hP hT hi Zo hn;have e1:Ar.runT (j+1) (Ar.ET m P k) k=((Ar.runT j (Ar.ET m P k) k).EA k T).1:=by rw[Ar.Mo,Ar.mL hT hi]
     rw[←e1] at hp;clear h1 hidl hT e1;generalize((Ar.runT j (Ar.ET m P k) k).EA k T).2=B at hp;go_wp2_with fail;refine hp.mono ?_;rintro e w2 ⟨rfl,h2⟩;have hA:=(Below.refl w2.heap.size w2).alloc (Nat.le_refl _) (.cells Yp.zero.l.toArray 42);have HX:=Zh (Bk.at_ (w:=w2) (g:=w2.heap.size) (cs:=Yp.zero.l.toArray) (t:=42) rfl);have H2:=Zh h2;clear h2 hp;go_wp2_with (refine vM HX.out ?_;intro w3 hst;have H3:Hid (PW w0 w3 gp gh st n nt (t+12*(m*k)+12*(j+1)) (Ar.runT (j+1) (Ar.ET m P k) k)):=Zh ((H2.out.below (hst.below hA (Nat.le_refl _))).up Zo);clear hst);exact⟨⟨j+1,hjm,by go_num,H3⟩,by simp[intOf];omega⟩
  ·have hke:k=nt:=Zo;subst hke;have hlt':¬(k:Int)<(k:Int):=Zo;go_wp2_with fail;go_ret;exact⟨rfl,L.out⟩
end Go.Proofs.YtaipogljokblkaaGreatDoor
namespace Go.Proofs.YtaipogljokblkaaGreatDoor
open Go Go.RowKit
theorem Zl(st eng most:Int)(n:Nat)(w:World)(he:AO w)(a0:1<=st)(b0:st<=5)(a1:1<=eng)(b1:eng<=5)(a2:1<=n)(b2:n<=6)(a4:1<=most)(b4:most<=64)(hs:st=2\/st=4)(A A':Option Go.Addr)(c c' on pn:Nat):
  Calls Tryz.prog 13 #[.agg #[.int .i64 st,.int .i64 eng,.int .i64 (n:Int),.int .i64 0,.int .i64 most,.slice A on c,.slice A' pn c']] w λen w'=>en=.returned (.pointer none)/\Below w.heap.size w w':=by
 have hal:=(Below.refl w.heap.size w).alloc (Nat.le_refl _) (.cells #[.int .i64 st,.int .i64 eng,.int .i64 (n:Int),.int .i64 0,.int .i64 most,.slice A on c,.slice A' pn c'] 47)
 have HX:=Zh (Bk.at_ (w:=w) (cs:=#[.int .i64 st,.int .i64 eng,.int .i64 (n:Int),.int .i64 0,.int .i64 most,.slice A on c,.slice A' pn c']) (t:=47) rfl)
 have HE:=Zh (he.below hal)
 have HC:=Zh hal
 clear he hal
 go_enter Tryz.func13,Tryz.ntmps13
 have y0:=HX.out.cell 0;have y1:=HX.out.cell 1;have y2:=HX.out.cell 2;have y3:=HX.out.cell 3;have y4:=HX.out.cell 4
 simp at y0 y1 y2 y3 y4
 go_wp2_with fail
 refine(UH st eng most n _ HE.out a0 b0 a1 b1 a2 b2 a4 b4 hs).mono ?_
 rintro e w1 ⟨⟨Ty,q,rfl⟩,hb⟩
 have HZ:=Zh (HC.out.trans (hb.mono HC.out.size))
 clear HX HE HC hb y0 y1 y2 y3 y4
 go_wp2_with fail
 go_ret
 exact⟨rfl,HZ.out⟩
def MG(s:ByteArray):Ar:=(Ar.fresh (Fn.Ct s) (Fn.YU s) (Fn.ME s) (Fn.Ev s).toNat (Fn.KQ s).toNat (Fn.Ev s).toNat).fill (Fn.dec s).ops
def bare(s:ByteArray):Prop:=(Fn.Ct s=2\/Fn.Ct s=4)/\Fn.KQ s=0
theorem DD(s:ByteArray):(1<=Fn.Ct s/\Fn.Ct s<=5)/\(1<=Fn.YU s/\Fn.YU s<=5)/\(1<=Fn.Ev s/\Fn.Ev s<=6)/\(0<=Fn.KQ s/\Fn.KQ s<=255)/\(1<=Fn.ME s/\Fn.ME s<=64):=by
 have h3:=IL s 3;refine⟨Fn.qM s,?_,?_,?_,?_⟩
 ·unfold Fn.YU;omega
 ·unfold Fn.Ev;omega
 ·unfold Fn.KQ;omega
 ·unfold Fn.ME;omega
theorem bE(s:ByteArray):(Fn.dec s).ops.length<=64:=by
 show(Fn.EL s (Fn.dN s)).length<=64;rw[Fn.Hp];unfold Fn.dN;omega
theorem iU(s:ByteArray)(hb:¬bare s):GI (Fn.Ct s) (Fn.KQ s).toNat (Fn.Ev s).toNat 0 (MG s):=by
 obtain⟨⟨a0,b0⟩,⟨a1,b1⟩,⟨a2,b2⟩,⟨a3,b3⟩,_⟩:=DD s;refine GI.fill _ _ (OS (λh=>?_) a1 b1 Zo Zo) λx hx=>(Fn.LH x hx).2.2;rcases Nat.eq_zero_or_pos (Fn.KQ s).toNat with h0|h0
 ·exact absurd ⟨h,by omega⟩ hb
 ·exact h0
theorem Zn(s:ByteArray)(w:World)(he:AO w)(h40:7<=w.heap.size)(A A':Option Go.Addr)(c c':Nat)(hl:Fn.Sl w w.heap.size 5 A (Fn.dec s).ops.length (Fn.Dk (Fn.dec s).ops))(hb:¬bare s):
  Calls Tryz.prog 13 #[(Fn.dec s).v A c A' c'] w λen w'=>∃gp gh,en=.returned (.pointer (some ⟨gp,0,none⟩))/\PW w w' gp gh (Fn.Ct s) (Fn.KQ s).toNat (Fn.Ev s).toNat 0 (MG s):=by
 obtain⟨⟨a0,b0⟩,⟨a1,b1⟩,⟨a2,b2⟩,⟨a3,b3⟩,⟨a4,b4⟩⟩:=DD s
 have hg:=iU s hb
 obtain⟨n,hn⟩:∃n:Nat,Fn.Ev s=n:=⟨_,(Int.toNat_of_nonneg Zo).symm⟩
 obtain⟨ns,hns⟩:∃ns:Nat,Fn.KQ s=ns:=⟨_,(Int.toNat_of_nonneg a3).symm⟩
 have hs:Fn.Ct s=2\/Fn.Ct s=4->1<=ns:=λh=>by
  rcases Nat.eq_zero_or_pos ns with h0|h0
  ·exact absurd ⟨h,by omega⟩ hb
  ·exact h0
 have ho:∀t∈(Fn.dec s).ops,0<=t.Bt/\t.Bt<(n:Int)/\GM (Fn.Ct s) (YH t.op):=λt ht=>by rw[←hn];exact Fn.LH t ht
 have hc:=Rx (Fn.Ct s) (Fn.YU s) (Fn.ME s) n ns w he a0 b0 a1 b1 Zo Zo Zo a4 b4 hs (Fn.dec s).ops A A' c c' (Fn.dec s).E9.length hl (bE s) ho
 have e1:(Fn.dec s).v A c A' c'=.agg #[.int .i64 (Fn.Ct s),.int .i64 (Fn.YU s),.int .i64 (n:Int),.int .i64 (ns:Int),.int .i64 (Fn.ME s),.slice A (Fn.dec s).ops.length c,.slice A' (Fn.dec s).E9.length c']:=by rw[←hn,←hns];rfl
 rw[e1]
 refine hc.mono ?_
 rintro e w1 ⟨gp,gh,tv,bv,ro,Fh,Ft,lab,rfl,hp,hbl,hlb⟩
 refine⟨gp,gh,rfl,⟨tv,bv,ro,Fh,Ft,lab,?_,hlb⟩,hg,he.below hbl,hbl,h40⟩
 have e2:MG s=(Ar.fresh (Fn.Ct s) (Fn.YU s) (Fn.ME s) n ns n).fill (Fn.dec s).ops:=by
  unfold MG;rw[hn,hns,Int.toNat_natCast,Int.toNat_natCast]
 rw[e2]
 exact hp
end Go.Proofs.YtaipogljokblkaaGreatDoor
namespace Go.Proofs.YtaipogljokblkaaGreatDoor
open Go Go.RowKit
def KV:ByteArray:={data:=#[0,1,1,9,1,2,0,0,0,4,1,1]}
def Qz:Ar:=Ar.ET 8 (MG KV) 2
theorem bT:¬bare KV:=λh=>by
 rcases h.1 with h|h
 ·exact absurd h Zd
 ·exact absurd h Zd
theorem bS:∀k,k<2->(Ar.ET 8 (MG KV) (k+1)).idle k=true
 |0,_=>by kernel_rfl
 |1,_=>by kernel_rfl
 |_+2,h=>by omega
theorem Ts:Qz.A4.length=12:=Zk
theorem JR:(rows Yp.l Qz.A4)[1]?=some (.bool true)/\(rows Yp.l Qz.A4)[117]?=some (.bool true)/\(rows Yp.l Qz.A4)[118]?=some (.int .i64 1)/\(rows Yp.l Qz.A4)[119]?=some (.int .i64 4):=
 ⟨by kernel_rfl,by kernel_rfl,by kernel_rfl,by kernel_rfl⟩
theorem sA:(Fn.Ev KV).toNat=2:=Zk
theorem jQ(A A':Option Addr)(c c':Nat):(Fn.dec KV).v A c A' c'=.agg #[.int .i64 1,.int .i64 2,.int .i64 2,.int .i64 9,.int .i64 2,.slice A 2 c,.slice A' 0 c']:=Zk
theorem bR(hP:PP)(w:World)(he:AO w):Calls Tryz.prog 7 #[] w λen w'=>en=.returned (.bool true)/\Below w.heap.size w w':=by
 have hd:=Fn.Pf KV w Zd;have HE:=Zh he;have h40:=he.lt;clear he;go_enter Tryz.func7,Tryz.ntmps7;go_wp2_with fail;refine hd.mono ?_;rintro e w1 ⟨A,c,A',c',rfl,hl,hl2,hb⟩;rw[jQ];have hA:=(Below.refl w1.heap.size w1).alloc (Nat.le_refl _) (.cells #[.int .i64 1,.int .i64 2,.int .i64 2,.int .i64 9,.int .i64 2,.slice A 2 c,.slice A' 0 c'] 47);have HE2:=Zh ((HE.out.below hb).below hA);have BN:=Zh (hb.trans (hA.mono hb.size));have HX:=Zh (Bk.at_ (w:=w1) (g:=w1.heap.size) (cs:=#[.int .i64 1,.int .i64 2,.int .i64 2,.int .i64 9,.int .i64 2,.slice A 2 c,.slice A' 0 c']) (t:=47) rfl);have hbg:=Zn KV _ HE2.out (Nat.le_trans h40 BN.out.size) A A' c c' ((hl.below hA).more hA.size) bT;rw[jQ,sA] at hbg;clear hd hl hl2 hb hA HE;go_wp2_with fail;generalize(w1.alloc (.cells #[.int .i64 1,.int .i64 2,.int .i64 2,.int .i64 9,.int .i64 2,.slice A 2 c,.slice A' 0 c'] 47))=w2 at*;refine hbg.mono ?_;rintro e w3 ⟨gp,gh,rfl,hw⟩;have HX3:=Zh (HX.out.Ad hw.b);have hr:=mU hP 8 hw Zd bS Zd Zd Zd;have y2:=HX3.out.cell 2;simp at y2;clear hbg;have hr:Calls Tryz.prog 10 #[.pointer (some ⟨gp,0,none⟩),.int .i64 2] w3 λen w'=>en=.returned (.bool true)/\PW w2 w' gp gh (Fn.Ct KV) (Fn.KQ KV).toNat 2 (0+12*(8*2)) Qz:=hr;have HW:=Zh hw;clear hw;go_wp2_with fail;refine hr.mono ?_;rintro e w4 ⟨rfl,h4⟩;obtain⟨tv,bv,ro,Fh,Ft,lab,hp,hlb⟩:=h4.p;have hbt:=iY hp (by rw[Ts];decide);rw[Ts] at hbt;have H4:=Zh h4.b;clear h4 hr hp hlb y2;go_wp2_with fail;refine hbt.mono ?_;rintro e w5 ⟨v,rfl,ho,hb5,hf⟩;obtain⟨g,off,cap,rfl,hcap⟩:=EC ho Zd;have k1:=BW ho 1 _ JR.1;have k2:=BW ho 117 _ JR.2.1;have k3:=BW ho 118 _ JR.2.2.1;have k4:=BW ho 119 _ JR.2.2.2;have HX5:=Zh ((HX.out.Ad H4.out).Ad hb5);have y5:=HX5.out.cell 5;simp at y5;have HZ:=Zh (BN.out.trans ((H4.out.trans (hb5.mono H4.out.size)).mono BN.out.size));clear ho hb5 hf hcap hbt HX HX3 HX5 HE2;have k5:w5.cell? ⟨g,off+110+7,none⟩=some (.bool true):=k2;have k6:w5.cell? ⟨g,off+110+8,none⟩=some (.int .i64 1):=k3;have k7:w5.cell? ⟨g,off+110+9,none⟩=some (.int .i64 4):=k4;go_wp2_with fail;go_ret;exact⟨rfl,HZ.out⟩
def KK(s:ByteArray)(en:Int):Ar:=(Ar.fresh (Fn.Ct s) en (Fn.ME s) (Fn.Ev s).toNat (Fn.KQ s).toNat (Fn.Ev s).toNat).fill (Fn.dec s).ops
def Zf(s:ByteArray)(en:Int)(A:Option Addr)(c:Nat)(A':Option Addr)(c':Nat):Value:=
 .agg #[.int .i64 (Fn.Ct s),.int .i64 en,.int .i64 (Fn.Ev s),.int .i64 (Fn.KQ s),.int .i64 (Fn.ME s),.slice A (Fn.dec s).ops.length c,.slice A' (Fn.dec s).E9.length c']
theorem Ug{s:ByteArray}(hb:¬bare s):Fn.Ct s=2\/Fn.Ct s=4->1<=(Fn.KQ s).toNat:=λh=>by
 have:=(DD s).2.2.2.1;rcases Nat.eq_zero_or_pos (Fn.KQ s).toNat with h0|h0
 ·exact absurd ⟨h,by omega⟩ hb
 ·exact h0
theorem Zm(s:ByteArray)(en:Int)(a1:1<=en)(b1:en<=5)(w:World)(he:AO w)(h40:7<=w.heap.size)(A A':Option Go.Addr)(c c':Nat)(hl:Fn.Sl w w.heap.size 5 A (Fn.dec s).ops.length (Fn.Dk (Fn.dec s).ops))(hb:¬bare s):
  Calls Tryz.prog 13 #[Zf s en A c A' c'] w λen' w'=>∃gp gh,en'=.returned (.pointer (some ⟨gp,0,none⟩))/\PW w w' gp gh (Fn.Ct s) (Fn.KQ s).toNat (Fn.Ev s).toNat 0 (KK s en):=by
 obtain⟨⟨a0,b0⟩,_,⟨a2,b2⟩,⟨a3,b3⟩,⟨a4,b4⟩⟩:=DD s
 have hs:=Ug hb
 have hg:GI (Fn.Ct s) (Fn.KQ s).toNat (Fn.Ev s).toNat 0 (KK s en):=GI.fill _ _ (OS hs a1 b1 Zo Zo) λx hx=>(Fn.LH x hx).2.2
 obtain⟨n,hn⟩:∃n:Nat,Fn.Ev s=n:=⟨_,(Int.toNat_of_nonneg Zo).symm⟩
 obtain⟨ns,hns⟩:∃ns:Nat,Fn.KQ s=ns:=⟨_,(Int.toNat_of_nonneg a3).symm⟩
 rw[hns,Int.toNat_natCast] at hs
 have ho:∀t∈(Fn.dec s).ops,0<=t.Bt/\t.Bt<(n:Int)/\GM (Fn.Ct s) (YH t.op):=λt ht=>by rw[←hn];exact Fn.LH t ht
 have hc:=Rx (Fn.Ct s) en (Fn.ME s) n ns w he a0 b0 a1 b1 Zo Zo Zo a4 b4 hs (Fn.dec s).ops A A' c c' (Fn.dec s).E9.length hl (bE s) ho
 have e1:Zf s en A c A' c'=.agg #[.int .i64 (Fn.Ct s),.int .i64 en,.int .i64 (n:Int),.int .i64 (ns:Int),.int .i64 (Fn.ME s),.slice A (Fn.dec s).ops.length c,.slice A' (Fn.dec s).E9.length c']:=by unfold Zf;rw[hn,hns]
 rw[e1]
 refine hc.mono ?_
 rintro e w1 ⟨gp,gh,tv,bv,ro,Fh,Ft,lab,rfl,hp,hbl,hlb⟩
 refine⟨gp,gh,rfl,⟨tv,bv,ro,Fh,Ft,lab,?_,hlb⟩,hg,he.below hbl,hbl,h40⟩
 have e2:KK s en=(Ar.fresh (Fn.Ct s) en (Fn.ME s) n ns n).fill (Fn.dec s).ops:=by
  unfold KK;rw[hn,hns,Int.toNat_natCast,Int.toNat_natCast]
 rw[e2]
 exact hp
theorem V3(s:ByteArray)(en:Int)(a1:1<=en)(b1:en<=5)(w:World)(he:AO w)(A A':Option Go.Addr)(c c':Nat)(hb:bare s):
  Calls Tryz.prog 13 #[Zf s en A c A' c'] w λen' w'=>en'=.returned (.pointer none)/\Below w.heap.size w w':=by
 obtain⟨⟨a0,b0⟩,_,⟨a2,b2⟩,⟨a3,b3⟩,⟨a4,b4⟩⟩:=DD s
 obtain⟨n,hn⟩:∃n:Nat,Fn.Ev s=n:=⟨_,(Int.toNat_of_nonneg Zo).symm⟩
 have e1:Zf s en A c A' c'=.agg #[.int .i64 (Fn.Ct s),.int .i64 en,.int .i64 (n:Int),.int .i64 0,.int .i64 (Fn.ME s),.slice A (Fn.dec s).ops.length c,.slice A' (Fn.dec s).E9.length c']:=by unfold Zf;rw[hn,hb.2]
 rw[e1]
 exact Zl (Fn.Ct s) en (Fn.ME s) n w he a0 b0 a1 b1 Zo Zo a4 b4 hb.1 A A' c c' _ _
theorem iV(s:ByteArray)(hb:¬bare s):∃g,PI (Fn.Ct s) (Fn.ME s) (((Fn.Ev s).toNat:Nat):Int) (Fn.KQ s).toNat (Fn.Ev s).toNat 0 (KK s 2) g:=by
 obtain⟨⟨a0,b0⟩,_,⟨a2,b2⟩,⟨a3,b3⟩,⟨a4,b4⟩⟩:=DD s;obtain⟨g,h⟩:=pY (st:=Fn.Ct s) (mo:=Fn.ME s) (n:=(Fn.KQ s).toNat) (nt:=(Fn.Ev s).toNat) a0 b0 (Ug hb) a4 Zo Zo;exact⟨g,h.fill _ _ λx hx=>(Fn.LH x hx).2.2⟩
structure CB(w0 wr:World)(gp gh:Nat)(st mo:Int)(n nt t:Nat)(P:Ar):Prop where
 w:PW w0 wr gp gh st n nt t P
 g:∃g,PI st mo (nt:Int) n nt t P g
section
variable{w0 wr w':World}{gp gh:Nat}{st mo:Int}{n nt t k:Nat}{P:Ar}
theorem CB.any(hP:PP)(h:CB w0 wr gp gh st mo n nt t P)(hk:k<nt)(ht:t<=60000)(hn:n<=1024):Calls Tryz.prog 17 #[.pointer (some ⟨gp,0,none⟩),.int .i64 (k:Int)] wr λen w'=>(∃v,en=.returned v)/\∃P',CB w0 w' gp gh st mo n nt (t+12) P':=by
 obtain⟨T,hT⟩:=h.w.AB hk;obtain⟨g,hg⟩:=h.g;cases hi:Ar.DT T with
 |true=>
  refine(h.w.nQ hT hi).mono ?_;rintro e w1 ⟨⟨Ty,q,rfl⟩,h1⟩;exact⟨⟨_,rfl⟩,P,h1.up Zo,g,hg.up Zo⟩
 |false=>
  refine(h.w.pick hP hT hi ht hn).mono ?_;rintro e w1 ⟨rfl,h1⟩;exact⟨⟨_,rfl⟩,_,h1,hg.pick hT hi ht hn⟩
theorem CB.notes(h:CB w0 wr gp gh st mo n nt t P)(hk:k<nt)(hm:mo<=64)(hnt:nt<=6):∃m:Nat,(m:Int)<=mo+(nt:Int)*9/\Calls Tryz.prog 18 #[.pointer (some ⟨gp,0,none⟩),.int .i64 (k:Int)] wr (Zw wr m):=by
 obtain⟨T,hT⟩:=h.w.AB hk;obtain⟨g,hg⟩:=h.g;have hf:=hg.Md hT;obtain⟨tv,bv,ro,Fh,Ft,lab,hp,_⟩:=h.w.p;exact⟨_,hf,XF hp hT Zo⟩
theorem CB.below(h:CB w0 wr gp gh st mo n nt t P)(hb:Below wr.heap.size wr w'):CB w0 w' gp gh st mo n nt t P:=⟨h.w.below hb,h.g⟩
end
theorem coreBound_any(hP:PP)(s:ByteArray)(w:World)(he:AO w):Calls Tryz.prog 5 #[.string s] w λen w'=>en=.returned (.bool true)/\Below w.heap.size w w':=by
 have hw0:=bR hP w he;have HE:=Zh he;have h40:=he.lt;clear he;go_enter Tryz.func5,Tryz.ntmps5;by_cases hbig:(3000:Int)<(s.size:Int)
 ·go_wp2_with fail;refine hw0.mono ?_;rintro e w1 ⟨rfl,hb⟩;go_wp2_with fail;go_ret;exact⟨rfl,hb⟩
 ·go_wp2_with fail;refine hw0.mono ?_;rintro e w1 ⟨rfl,hb1⟩;have hd:=Fn.Pf s w1 Zo;clear hw0;go_wp2_with fail;refine hd.mono ?_;rintro e w2 ⟨A,c,A',c',rfl,hl,hl2,hb2⟩;clear hd;obtain⟨st,hst⟩:∃z,Fn.Ct s=z:=⟨_,rfl⟩;obtain⟨en,hen⟩:∃z,Fn.YU s=z:=⟨_,rfl⟩;obtain⟨th,hth⟩:∃z,Fn.Ev s=z:=⟨_,rfl⟩;obtain⟨sl,hsl⟩:∃z,Fn.KQ s=z:=⟨_,rfl⟩;obtain⟨no,hno⟩:∃z,Fn.ME s=z:=⟨_,rfl⟩;obtain⟨on,hon⟩:∃z,(Fn.dec s).ops.length=z:=⟨_,rfl⟩;obtain⟨pn,hpn⟩:∃z,(Fn.dec s).E9.length=z:=⟨_,rfl⟩;have ev:(Fn.dec s).v A c A' c'=.agg #[.int .i64 st,.int .i64 en,.int .i64 th,.int .i64 sl,.int .i64 no,.slice A on c,.slice A' pn c']:=by rw[←hst,←hen,←hth,←hsl,←hno,←hon,←hpn];rfl
  have ev2:Zf s 2 A c A' c'=.agg #[.int .i64 st,.int .i64 2,.int .i64 th,.int .i64 sl,.int .i64 no,.slice A on c,.slice A' pn c']:=by rw[←hst,←hth,←hsl,←hno,←hon,←hpn];rfl
  rw[ev];have hA:=(Below.refl w2.heap.size w2).alloc (Nat.le_refl _) (.cells #[.int .i64 st,.int .i64 2,.int .i64 th,.int .i64 sl,.int .i64 no,.slice A on c,.slice A' pn c'] 47);have HX:=Zh (Bk.at_ (w:=w2) (g:=w2.heap.size) (cs:=#[.int .i64 st,.int .i64 2,.int .i64 th,.int .i64 sl,.int .i64 no,.slice A on c,.slice A' pn c']) (t:=47) rfl);have HE3:=Zh (((HE.out.below hb1).below hb2).below hA);have HB3:=Zh ((hb1.trans (hb2.mono hb1.size)).trans (hA.mono (Nat.le_trans hb1.size hb2.size)));have HL:=Zh ((hl.below hA).more hA.size);have HL2:=Zh ((hl2.below hA).more hA.size);clear hl hl2 hb1 hb2 hA HE;by_cases hbr:bare s
  ·have hbg:=V3 s 2 Zd Zd _ HE3.out A A' c c' hbr;rw[ev2] at hbg;go_wp2_with fail;refine hbg.mono ?_;rintro e w4 ⟨rfl,hb4⟩;have HZ:=Zh (HB3.out.trans (hb4.mono HB3.out.size));clear hb4 hbg;go_wp2_with fail;go_ret;exact⟨rfl,HZ.out⟩
  ·have hbg:=Zm s 2 Zd Zd _ HE3.out (Nat.le_trans h40 HB3.out.size) A A' c c' HL.out hbr;rw[ev2] at hbg;have HEV:=Zh (And.intro hst (And.intro hth (And.intro hsl (And.intro hno hpn))));clear ev ev2 hst hen hth hsl hno hon hpn;go_wp2_with fail;have hxl:w2.heap.size<(w2.alloc (.cells #[.int .i64 st,.int .i64 2,.int .i64 th,.int .i64 sl,.int .i64 no,.slice A on c,.slice A' pn c'] 47)).heap.size:=HX.out.lt;generalize(w2.alloc (.cells #[.int .i64 st,.int .i64 2,.int .i64 th,.int .i64 sl,.int .i64 no,.slice A on c,.slice A' pn c'] 47))=w3 at*;generalize w2.heap.size=xb at*;refine hbg.mono ?_;rintro e w4 ⟨gp,gh,rfl,hw⟩;have HC0:Hid (CB w3 w4 gp gh (Fn.Ct s) (Fn.ME s) (Fn.KQ s).toNat (Fn.Ev s).toNat 0 (KK s 2)):=Zh ⟨hw,iV s hbr⟩;clear hw hbg;have hbd:=DD s;have HI0:Hid (∀j,j<pn->∃k:Nat,(Fn.dec s).E9[j]?=some (k:Int)/\k<(Fn.Ev s).toNat):=Zh λj hj=>by
    have h6:=(DD s).2.2.1;have hj':j<(Fn.dec s).E9.length:=by rw[HEV.out.2.2.2.2];exact hj
    obtain⟨z,hz⟩:∃z,(Fn.dec s).E9[j]=z:=⟨_,rfl⟩;have hm:z∈(Fn.dec s).E9:=hz▸List.getElem_mem hj';have hm:z∈Fn.Da s (Fn.dP s):=hm;unfold Fn.Da at hm;obtain⟨i,_,rfl⟩:=List.mem_map.1 hm;unfold Fn.Mx at hz;have h0:=Int.emod_nonneg (Jd s (6+4*Fn.dN s+i):Int) (show Fn.Ev s≠0 by omega);have h1:=Int.emod_lt_of_pos (Jd s (6+4*Fn.dN s+i):Int) (show 0<Fn.Ev s by omega);obtain⟨k,hk⟩:=Int.eq_ofNat_of_zero_le h0;refine⟨k,?_,by omega⟩;rw[List.getElem?_eq_getElem hj',hz,hk]
   have hpn:pn<=3000:=by
    rw[←HEV.out.2.2.2.2];show(Fn.Da s (Fn.dP s)).length<=3000;rw[Fn.Gc];unfold Fn.dP;omega
   have hsz:(Fn.KQ s).toNat<=1024:=Zo;have hno:Fn.ME s=no/\no<=64:=⟨HEV.out.2.2.2.1,by have:=HEV.out.2.2.2.1;omega⟩;obtain⟨nt,hnt⟩:∃nt:Nat,(Fn.Ev s).toNat=nt:=⟨_,rfl⟩;have hth:th=(nt:Int)/\nt<=6:=by have:=HEV.out.2.1;omega
   rw[hno.1] at HC0;rw[hnt] at HC0 HI0;obtain⟨hth,hn6⟩:=hth;subst hth;have hn64:=hno.2;clear HEV HL HE3 hno hnt hbd;generalize KK s 2=P0 at*;generalize Fn.Ct s=sst at*;generalize(Fn.KQ s).toNat=sn at*;go_wp2_with fail;go_loopw [5] (λi wr=>∃(j:Nat) (P:Ar),j<=pn/\i=.int .i64 j/\Hid (CB w3 wr gp gh sst no sn nt (12*j) P)) (λi _=>pn-(intOf i).toNat);case atStart=>exact⟨0,P0,Nat.zero_le _,rfl,HC0⟩
   case round=>
    obtain⟨j,P,hj,rfl,C⟩:=hrel;have HXr:=Zh (HX.out.Ad C.out.w.b);have y6:=HXr.out.cell 6;simp at y6;by_cases hlj:j<pn
    ·have hlj':(j:Int)<(pn:Int):=Zo;obtain⟨k,hk,hkn⟩:=HI0.out j hlj;have hk0:0<(Fn.dec s).E9.length:=by
      rcases Nat.eq_zero_or_pos (Fn.dec s).E9.length with h|h
      ·rw[List.eq_nil_of_length_eq_zero h] at hk;cases hk
      ·exact h
     obtain⟨pb,po,hAe,hpb,hcell⟩:=(HL2.out.below C.out.w.b).2 hk0;rw[hAe] at y6;have hc:=hcell j (.int .i64 (k:Int)) (by unfold Fn.AA;rw[List.getElem?_map,hk];rfl);have hp:=C.out.any hP hkn Zo hsz;clear hcell hAe hk hk0;go_wp2_with fail;refine hp.mono ?_;rintro e W1 ⟨⟨v,rfl⟩,P',C1⟩;have HC1:=Zh C1;clear C C1 hp y6 hc HXr;go_wp2_with fail;go_loopw [6] (λi wq=>∃m:Nat,m<=nt/\i=.int .i64 m/\Hid (CB w3 wq gp gh sst no sn nt (12*j+12) P')) (λi _=>nt-(intOf i).toNat);case atStart=>exact⟨0,Nat.zero_le _,rfl,HC1⟩
     case round=>
      obtain⟨m,hm,rfl,C⟩:=hrel;have HXr:=Zh (HX.out.Ad C.out.w.b);have y2:=HXr.out.cell 2;simp at y2;by_cases hlt:m<nt
      ·have hlt':(m:Int)<(nt:Int):=Zo;go_upto_region 17 with(fail);have HCd:=Zh (C.out.below (Below.refl wr.heap.size wr).drew);have HXd:=Zh (HXr.out.Ad (Below.refl wr.heap.size wr).drew);obtain⟨q,hq,hN⟩:=HCd.out.notes hlt hn64 hn6;clear C HXr y2;have hw1:IntKind.i64.wrap ((nt:Int)*9)=(nt:Int)*9:=Iy Zo Zo;have hw2:IntKind.i64.wrap (no+(nt:Int)*9)=no+(nt:Int)*9:=Iy Zo Zo;have hle:¬(no+(nt:Int)*9<(q:Int)):=Zo;refine Yb (λX=>Bk X xb 47 #[.int .i64 st,.int .i64 2,.int .i64 (nt:Int),.int .i64 sl,.int .i64 no,.slice A on c,.slice A' pn c']) 13 Zk HXd.out (λhS=>?_);generalize wr.drew=W3 at*;((try simp only[ZL]);refine vT (fuel:=3) hS [0,1,4,5,6,7,8,9,10,11] ?_;simp only[Xv,Xp,List.toList_toArray];(repeat (first|go_big_quiet_skip|(go_big_quiet_want;first|(go_big_quiet_op;go_big_quiet_on)|(apply Exists.intro;refine⟨λw' hS'=>?_,?_⟩;(· ((have y2:=hS'.cell 2;have y4:=hS'.cell 4;simp at y2 y4);go_simp;first|done|rfl|exact⟨rfl,rfl⟩));go_big_quiet_on;simp only[ZL]))));refine wpQuiet_nil ?_;(try dsimp only));(refine Xh 2 Zk (λK hK=>?_);simp only[Xp,List.toList_toArray]);go_wp2_with fail;refine hN.mono ?_;rintro e W4 ⟨qA,qc,rfl,hb4⟩;have HC4:=Zh (HCd.out.below hb4);have HX4:=Zh (HXd.out.Ad hb4);clear HCd HXd hN hb4 hS;go_wp2_with fail;refine hK.out _ _ (λ_=>HX4.out) ?_;clear hK;have hS:=HX4.out;((try simp only[ZL]);refine vT (fuel:=0) hS [3,12] ?_;simp only[Xv,Xp,List.toList_toArray];(repeat (first|go_big_quiet_skip|(go_big_quiet_want;first|(go_big_quiet_op;go_big_quiet_on)|(apply Exists.intro;refine⟨λw' hS'=>?_,?_⟩;(· (skip;go_simp;first|done|rfl|exact⟨rfl,rfl⟩));go_big_quiet_on;simp only[ZL]))));refine wpQuiet_nil ?_;(try dsimp only));refine Yg Zk ?_ _;go_wp2_with fail;exact⟨⟨m+1,hlt,by go_num,HC4⟩,by simp[intOf];omega⟩
      ·have hme:m=nt:=Zo;subst hme;have hlt':¬(m:Int)<(m:Int):=Zo;have HCn:Hid (CB w3 wr gp gh sst no sn m (12*(j+1)) P'):=C;clear C;go_wp2_with fail;exact⟨⟨j+1,P',hlj,by go_num,HCn⟩,by simp[intOf];omega⟩
    ·have hje:j=pn:=Zo;subst hje;have hlj':¬(j:Int)<(j:Int):=Zo;go_wp2_with fail;go_ret;exact⟨rfl,HB3.out.trans (C.out.w.b.mono HB3.out.size)⟩
end Go.Proofs.YtaipogljokblkaaGreatDoor
