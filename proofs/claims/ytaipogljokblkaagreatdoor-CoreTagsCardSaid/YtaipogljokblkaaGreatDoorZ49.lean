/- Core: QJ, QL, QS, QT, QU, QV. -/
import Derived.Test.YtaipogljokblkaaGreatDoorZ40
import Derived.Test.YtaipogljokblkaaGreatDoorZ09
import Derived.Test.YtaipogljokblkaaGreatDoorZ48
import Derived.Test.YtaipogljokblkaaGreatDoorZ47
set_option linter.all false
set_option maxRecDepth 100000
set_option maxHeartbeats 8000000
namespace Go.Proofs.YtaipogljokblkaaGreatDoor
open Go Go.RowKit
set_option linter.unusedSimpArgs false
set_option linter.unusedVariables false
set_option linter.unusedSectionVars false
open Go.Proofs.YtaipogljokblkaaGreatDoor.Fn (woeAt_any)
theorem act_none {p:Pl} (h:p.free = []):p.act Pl.alloc0 = ((p.act Pl.alloc0).1,⟨.zero,false⟩):=by
 refine Prod.ext rfl ?_
 show (Pl.alloc _ _).2 = _
 unfold Pl.alloc
 simp [h]
 rfl
theorem cortLayF_mem {wb:World} {gh:Nat} {p:Pl} {w:World} {F:Nat→Prop} (h:PH wb gh p w F) (ok:PlOk p) (hf:p.free = []) :
  Calls Tryz.prog 45 #[.pointer (some ⟨gh,0,none⟩)] w fun en w'=>(∃ Ty q,en = .returned (.iface Ty (.pointer (some q))))∧ChgP F w w'∧∃ F':Nat→Prop,PH wb gh (p.act Pl.alloc0).1 w' F'∧∀ b,F' b→F b∨w.heap.size≤b:=by
 have hq:=ph_do1 h ok Pl.alloc0 rfl (act_none hf)
 simp only [Xi.l,Xf.l,Xf.zero] at hq
 have hq:Calls Tryz.prog 42 #[.pointer (some ⟨gh,0,none⟩),.agg #[.int .i64 4,.int .i64 0,.int .i64 0,.int .i64 0,.int .i64 0,.int .i64 0,.int .i64 0,.int .i64 0,.bool false,.int .i64 0,.int .i64 0,.int .i64 0,.int .i64 0,.bool false]] w fun en w'=>en = .returned (.tuple #[.agg #[.int .i64 0,.int .i64 0,.int .i64 0,.int .i64 0,.bool false,.bool false],.nilIface])∧ChgP F w w'∧∃ F':Nat→Prop,PH wb gh (p.act Pl.alloc0).1 w' F'∧∀ b,F' b→F b∨w.heap.size≤b:=hq
 go_enter Tryz.func45,Tryz.ntmps45
 go_wp2_with fail
 refine hq.mono ?_
 rintro e w1 ⟨rfl,c1,F1,P1,a1⟩
 have HP1:=Lib.hid P1
 have HC1:=Lib.hid (And.intro c1 a1)
 obtain ⟨⟨hE,_⟩,_⟩:=P1
 have X1:Bk (w1.alloc (.cells #[.int .i64 0,.int .i64 0,.int .i64 0,.int .i64 0,.bool false,.bool false] 108)) w1.heap.size 108 #[.int .i64 0,.int .i64 0,.int .i64 0,.int .i64 0,.bool false,.bool false]:=Bk.at_ rfl
 have hB2:=(Below.refl w1.heap.size w1).alloc (Nat.le_refl _) (.cells #[.int .i64 0,.int .i64 0,.int .i64 0,.int .i64 0,.bool false,.bool false] 108)
 have HE:=Lib.hid (hE.below hB2)
 have hlt:=hE.lt
 clear hq h hE c1 a1
 go_wp2_with (first | (refine vM X1 ?_;intro w2 hst;have r5:=hst.bk.cell 5;simp at r5;have HE2:=Lib.hid (HE.out.low (fun x hx=>hst.grown.block x (by simp;omega) (fun e=>by injection e with e;omega)) (Nat.le_trans HE.out.lt hst.grown.size));have HB2:=Lib.hid (hst.below hB2 (Nat.le_refl _));clear hst;obtain ⟨Ty,q,hfull⟩:=HE2.out.full) | (go_at_call 31;refine (woeAt_any _ _ _ _).mono ?_;rintro e w' ⟨rfl,rfl⟩))
 go_ret
 exact ⟨⟨_,_,rfl⟩,chgP_seq HC1.out.1 (chgP_below (F:=fun _=>False) (HB2.out.alloc HB2.out.size _)) (fun _ h=>h.elim),F1,HP1.out.keep fun b hb=>(HB2.out.alloc HB2.out.size _).block b (HP1.out.lt b hb),HC1.out.2⟩
theorem vaultLayF_mem {wb:World} {gh:Nat} {p:Pl} {w:World} {F:Nat→Prop} (h:PH wb gh p w F) (ok:PlOk p) (hf:p.free = []) :
  Calls Tryz.prog 46 #[.pointer (some ⟨gh,0,none⟩)] w fun en w'=>(∃ Ty q,en = .returned (.iface Ty (.pointer (some q))))∧ChgP F w w'∧∃ F':Nat→Prop,PH wb gh (p.act Pl.alloc0).1 w' F'∧∀ b,F' b→F b∨w.heap.size≤b:=by
 have hq:=ph_do1 h ok Pl.alloc0 rfl (act_none hf)
 simp only [Xi.l,Xf.l,Xf.zero] at hq
 have hq:Calls Tryz.prog 42 #[.pointer (some ⟨gh,0,none⟩),.agg #[.int .i64 4,.int .i64 0,.int .i64 0,.int .i64 0,.int .i64 0,.int .i64 0,.int .i64 0,.int .i64 0,.bool false,.int .i64 0,.int .i64 0,.int .i64 0,.int .i64 0,.bool false]] w fun en w'=>en = .returned (.tuple #[.agg #[.int .i64 0,.int .i64 0,.int .i64 0,.int .i64 0,.bool false,.bool false],.nilIface])∧ChgP F w w'∧∃ F':Nat→Prop,PH wb gh (p.act Pl.alloc0).1 w' F'∧∀ b,F' b→F b∨w.heap.size≤b:=hq
 go_enter Tryz.func46,Tryz.ntmps46
 go_wp2_with fail
 refine hq.mono ?_
 rintro e w1 ⟨rfl,c1,F1,P1,a1⟩
 have HP1:=Lib.hid P1
 have HC1:=Lib.hid (And.intro c1 a1)
 obtain ⟨⟨hE,_⟩,_⟩:=P1
 have X1:Bk (w1.alloc (.cells #[.int .i64 0,.int .i64 0,.int .i64 0,.int .i64 0,.bool false,.bool false] 108)) w1.heap.size 108 #[.int .i64 0,.int .i64 0,.int .i64 0,.int .i64 0,.bool false,.bool false]:=Bk.at_ rfl
 have hB2:=(Below.refl w1.heap.size w1).alloc (Nat.le_refl _) (.cells #[.int .i64 0,.int .i64 0,.int .i64 0,.int .i64 0,.bool false,.bool false] 108)
 have HE:=Lib.hid (hE.below hB2)
 have hlt:=hE.lt
 clear hq h hE c1 a1
 go_wp2_with (first | (refine vM X1 ?_;intro w2 hst;have r5:=hst.bk.cell 5;simp at r5;have HE2:=Lib.hid (HE.out.low (fun x hx=>hst.grown.block x (by simp;omega) (fun e=>by injection e with e;omega)) (Nat.le_trans HE.out.lt hst.grown.size));have HB2:=Lib.hid (hst.below hB2 (Nat.le_refl _));clear hst;obtain ⟨Ty,q,hfull⟩:=HE2.out.full) | (go_at_call 31;refine (woeAt_any _ _ _ _).mono ?_;rintro e w' ⟨rfl,rfl⟩))
 go_ret
 exact ⟨⟨_,_,rfl⟩,chgP_seq HC1.out.1 (chgP_below (F:=fun _=>False) (HB2.out.alloc HB2.out.size _)) (fun _ h=>h.elim),F1,HP1.out.keep fun b hb=>(HB2.out.alloc HB2.out.size _).block b (HP1.out.lt b hb),HC1.out.2⟩
theorem parLayF_any (st:Int) (w:World) (he:ErrOk w) (hs:st = 2∨st = 4):Calls Tryz.prog 22 #[.int .i64 st,.int .i64 0] w fun en w'=>(∃ Ty q,en = .returned (.tuple #[.pointer none,.iface Ty (.pointer (some q))]))∧Below w.heap.size w w':=by
 have h:0≤1024:=by decide
 have hz:=he.lt
 go_enter Tryz.func22,Tryz.ntmps22
 go_wp2_with fail
 refine (bcells_any _).mono ?_
 rintro e w1 ⟨rfl,hc⟩
 have HB:=Lib.hid hc.below
 have HE:=Lib.hid (he.below hc.below)
 clear hc he
 go_wp2_with fail
 refine (plotNew_any 85 0 (by decide) h _).mono ?_
 rintro e w2 ⟨gh,Fh,rfl,hp,hF,hb⟩
 replace HE:=Lib.hid (HE.out.below hb)
 have hz1:w.heap.size≤w1.heap.size:=HB.out.size
 replace HB:=Lib.hid (HB.out.trans (hb.mono HB.out.size))
 have HP:=Lib.hid (PH.start (wb:=w) HE.out (fun b hx=>HB.out.block b (by omega)) hp fun b hb=>by have:=hF b hb;omega)
 have HF:=Lib.hid (fun b (hx:b∈Fh)=>Nat.le_trans hz1 (hF b hx))
 clear hb hp HE hF hz1
 go_wp2_with fail
 refine (bera_any _).mono ?_
 rintro e w3 ⟨rfl,hc⟩
 replace HB:=Lib.hid (HB.out.trans (hc.below.mono HB.out.size))
 replace HP:=Lib.hid (HP.out.keep fun b hx=>hc.below.block b (HP.out.lt b hx))
 clear hc
 go_wp2_with fail
 refine (gnum1_any _).mono ?_
 rintro e w4 ⟨rfl,hc⟩
 replace HB:=Lib.hid (HB.out.trans (hc.below.mono HB.out.size))
 replace HP:=Lib.hid (HP.out.keep fun b hx=>hc.below.block b (HP.out.lt b hx))
 clear hc
 go_wp2_with fail
 refine (store_c 24 0 0 1 HP.out (fresh_ok 0 h) (by decide) (by show (24:Int) < ((85:Nat):Int);decide)).mono ?_
 rintro e w5 ⟨rfl,c5,F5,P5,a5⟩
 have hz4:w.heap.size≤w4.heap.size:=HB.out.size
 have HC:Hid (ChgP (fun b=>b < 7) w w5):=Lib.hid (chgP_seq (chgP_below HB.out) c5 fun b hx=>hx.elim (fun h=>Or.inr (HF.out b h)) Or.inl)
 replace HF:Hid (∀ b,F5 b→b < 7∨w.heap.size≤b):=Lib.hid fun b hx=>(a5 b hx).elim (fun h=>h.elim (fun h=>Or.inr (HF.out b h)) Or.inl) fun h=>Or.inr (by omega)
 replace HP:Hid (PH w gh (Pl.begun 0) w5 F5):=Lib.hid P5
 have hz5:w.heap.size≤w5.heap.size:=HC.out.size
 have X5:Bk (w5.alloc (.cells #[.int .i64 0,.int .i64 0,.int .i64 0,.int .i64 0,.bool false,.bool false] 108)) w5.heap.size 108 #[.int .i64 0,.int .i64 0,.int .i64 0,.int .i64 0,.bool false,.bool false]:=Bk.at_ rfl
 have hB5:=(Below.refl w5.heap.size w5).alloc (Nat.le_refl _) (.cells #[.int .i64 0,.int .i64 0,.int .i64 0,.int .i64 0,.bool false,.bool false] 108)
 clear c5 P5 a5 HB hz4
 rcases hs with s2 | s4
 ·subst s2
  go_wp2_with (refine vM X5 ?_;intro w6 hst;have HL6:=Lib.hid (And.intro hst.grown hst.size);clear hst)
  have HP6:Hid (PH w gh (Pl.begun 0) w6 F5):=Lib.hid (HP.out.keep fun b hb=>(HL6.out.1.block b (by have:=HP.out.lt b hb;have:=hB5.size;omega) (fun e=>by cases e;have:=HP.out.lt _ hb;omega)).trans (hB5.block b (HP.out.lt b hb)))
  have HC6:Hid (ChgP (fun b=>b < 7) w w6):=Lib.hid (chgP_seq (chgP_seq HC.out (chgP_below (F:=fun _=>False) hB5) (fun _ h=>h.elim)) (F1:=fun b=>b = w5.heap.size) ⟨HL6.out.1.os,HL6.out.1.tape,HL6.out.1.output,HL6.out.1.size,fun b hb hf=>HL6.out.1.block b hb (fun e=>hf (by cases e;rfl))⟩ (fun b e=>by rw [e];exact Or.inr hz5))
  refine (cortLayF_mem HP6.out (begun_ok 0 h) rfl).mono ?_
  rintro e w7 ⟨⟨Ty,q,rfl⟩,c7,F7,P7,a7⟩
  have HP7:=Lib.hid P7
  have HC7:Hid (ChgP (fun b=>b < 7) w w7):=Lib.hid (chgP_seq HC6.out c7 HF.out)
  have HF7:Hid (∀ b,F7 b→b < 7∨w.heap.size≤b):=Lib.hid fun b hx=>(a7 b hx).elim (HF.out b) fun h=>Or.inr (by have:=HC6.out.size;omega)
  clear P7 c7 a7 HP6 HC6 HF HP HC
  go_wp2_with fail
  go_ret2
  obtain ⟨Fh',p1,p2,p3⟩:=lay_fin HP7.out HC7.out HF7.out
  exact ⟨⟨Ty,q,rfl⟩,p3⟩
 ·subst s4
  go_wp2_with (refine vM X5 ?_;intro w6 hst;have HL6:=Lib.hid (And.intro hst.grown hst.size);clear hst)
  have HP6:Hid (PH w gh (Pl.begun 0) w6 F5):=Lib.hid (HP.out.keep fun b hb=>(HL6.out.1.block b (by have:=HP.out.lt b hb;have:=hB5.size;omega) (fun e=>by cases e;have:=HP.out.lt _ hb;omega)).trans (hB5.block b (HP.out.lt b hb)))
  have HC6:Hid (ChgP (fun b=>b < 7) w w6):=Lib.hid (chgP_seq (chgP_seq HC.out (chgP_below (F:=fun _=>False) hB5) (fun _ h=>h.elim)) (F1:=fun b=>b = w5.heap.size) ⟨HL6.out.1.os,HL6.out.1.tape,HL6.out.1.output,HL6.out.1.size,fun b hb hf=>HL6.out.1.block b hb (fun e=>hf (by cases e;rfl))⟩ (fun b e=>by rw [e];exact Or.inr hz5))
  refine (vaultLayF_mem HP6.out (begun_ok 0 h) rfl).mono ?_
  rintro e w7 ⟨⟨Ty,q,rfl⟩,c7,F7,P7,a7⟩
  have HP7:=Lib.hid P7
  have HC7:Hid (ChgP (fun b=>b < 7) w w7):=Lib.hid (chgP_seq HC6.out c7 HF.out)
  have HF7:Hid (∀ b,F7 b→b < 7∨w.heap.size≤b):=Lib.hid fun b hx=>(a7 b hx).elim (HF.out b) fun h=>Or.inr (by have:=HC6.out.size;omega)
  clear P7 c7 a7 HP6 HC6 HF HP HC
  go_wp2_with fail
  go_ret2
  obtain ⟨Fh',p1,p2,p3⟩:=lay_fin HP7.out HC7.out HF7.out
  exact ⟨⟨Ty,q,rfl⟩,p3⟩
theorem parNewF_any (st eng most:Int) (n:Nat) (w:World) (he:ErrOk w) (a0:1≤st) (b0:st≤5) (a1:1≤eng) (b1:eng≤5) (a2:1≤n) (b2:n≤6) (a4:1≤most) (b4:most≤64) (hs:st = 2∨st = 4) :
  Calls Tryz.prog 8 #[.agg #[.int .i64 st,.int .i64 eng,.int .i64 (n:Int),.int .i64 0,.int .i64 most]] w fun en w'=>(∃ Ty q,en = .returned (.tuple #[.pointer none,.iface Ty (.pointer (some q))]))∧Below w.heap.size w w':=by
 have HX:=Lib.hid (Bk.at_ (w:=w) (cs:=#[.int .i64 st,.int .i64 eng,.int .i64 (n:Int),.int .i64 0,.int .i64 most]) (t:=32) rfl)
 have HC:=Lib.hid ((Below.refl w.heap.size w).alloc (Nat.le_refl _) (.cells #[.int .i64 st,.int .i64 eng,.int .i64 (n:Int),.int .i64 0,.int .i64 most] 32))
 have HE:=Lib.hid (he.below HC.out)
 have HE0:=Lib.hid he.lt
 clear he
 go_enter Tryz.func8,Tryz.ntmps8
 go_wp2_with fail
 refine (pgood_any st eng n 0 most _ a0 b0 a1 b1 (by omega) (by omega) (by omega) (by omega) a4 b4).mono ?_
 rintro e w1 ⟨rfl,hc⟩
 have HX1:=Lib.hid (HX.out.belowAll hc.below)
 have HE1:=Lib.hid (HE.out.below hc.below)
 have HC1:=Lib.hid (HC.out.trans (hc.below.mono HC.out.size))
 clear HX HE HC hc
 have y0:=HX1.out.cell 0;have y3:=HX1.out.cell 3
 simp at y0 y3
 go_wp2_with fail
 refine (parLayF_any st _ HE1.out hs).mono ?_
 rintro e w2 ⟨⟨Ty,q,rfl⟩,hb⟩
 have HZ:=Lib.hid (HC1.out.trans (hb.mono HC1.out.size))
 clear HX1 HE1 HC1 hb
 go_wp2_with fail
 go_ret2
 exact ⟨⟨Ty,q,rfl⟩,HZ.out⟩
theorem begunF_any (st eng most:Int) (n:Nat) (w:World) (he:ErrOk w) (a0:1≤st) (b0:st≤5) (a1:1≤eng) (b1:eng≤5) (a2:1≤n) (b2:n≤6) (a4:1≤most) (b4:most≤64) (hs:st = 2∨st = 4) (A A':Option Go.Addr) (c c' on pn:Nat) :
  Calls Tryz.prog 13 #[.agg #[.int .i64 st,.int .i64 eng,.int .i64 (n:Int),.int .i64 0,.int .i64 most,.slice A on c,.slice A' pn c']] w fun en w'=>en = .returned (.pointer none)∧Below w.heap.size w w':=by
 have hal:=(Below.refl w.heap.size w).alloc (Nat.le_refl _) (.cells #[.int .i64 st,.int .i64 eng,.int .i64 (n:Int),.int .i64 0,.int .i64 most,.slice A on c,.slice A' pn c'] 47)
 have HX:=Lib.hid (Bk.at_ (w:=w) (cs:=#[.int .i64 st,.int .i64 eng,.int .i64 (n:Int),.int .i64 0,.int .i64 most,.slice A on c,.slice A' pn c']) (t:=47) rfl)
 have HE:=Lib.hid (he.below hal)
 have HC:=Lib.hid hal
 clear he hal
 go_enter Tryz.func13,Tryz.ntmps13
 have y0:=HX.out.cell 0;have y1:=HX.out.cell 1;have y2:=HX.out.cell 2;have y3:=HX.out.cell 3;have y4:=HX.out.cell 4
 simp at y0 y1 y2 y3 y4
 go_wp2_with fail
 refine (parNewF_any st eng most n _ HE.out a0 b0 a1 b1 a2 b2 a4 b4 hs).mono ?_
 rintro e w1 ⟨⟨Ty,q,rfl⟩,hb⟩
 have HZ:=Lib.hid (HC.out.trans (hb.mono HC.out.size))
 clear HX HE HC hb y0 y1 y2 y3 y4
 go_wp2_with fail
 go_ret
 exact ⟨rfl,HZ.out⟩
def begunP (s:ByteArray):MPa:=(MPa.fresh (Fn.dSt s) (Fn.dEn s) (Fn.dNo s) (Fn.dTh s).toNat (Fn.dSl s).toNat (Fn.dTh s).toNat).fill (Fn.dec s).ops
def bare (s:ByteArray):Prop:=(Fn.dSt s = 2∨Fn.dSt s = 4)∧Fn.dSl s = 0
theorem dec_bounds (s:ByteArray):(1≤Fn.dSt s∧Fn.dSt s≤5)∧(1≤Fn.dEn s∧Fn.dEn s≤5)∧(1≤Fn.dTh s∧Fn.dTh s≤6)∧(0≤Fn.dSl s∧Fn.dSl s≤255)∧(1≤Fn.dNo s∧Fn.dNo s≤64):=by
 have h3:=bat_lt s 3
 refine ⟨Fn.dec_st s,?_,?_,?_,?_⟩
 ·unfold Fn.dEn;omega
 ·unfold Fn.dTh;omega
 ·unfold Fn.dSl;omega
 ·unfold Fn.dNo;omega
theorem dec_few (s:ByteArray):(Fn.dec s).ops.length≤64:=by
 show (Fn.decOps s (Fn.dN s)).length≤64
 rw [Fn.decOps_length]
 unfold Fn.dN
 omega
theorem begunP_gi (s:ByteArray) (hb:¬ bare s):GI (Fn.dSt s) (Fn.dSl s).toNat (Fn.dTh s).toNat 0 (begunP s):=by
 obtain ⟨⟨a0,b0⟩,⟨a1,b1⟩,⟨a2,b2⟩,⟨a3,b3⟩,_⟩:=dec_bounds s
 refine GI.fill _ _ (fresh_gi (fun h=>?_) a1 b1 (by omega) (by omega)) fun x hx=>(Fn.dec_ops x hx).2.2
 rcases Nat.eq_zero_or_pos (Fn.dSl s).toNat with h0 | h0
 ·exact absurd ⟨h,by omega⟩ hb
 ·exact h0
theorem begunD_any (s:ByteArray) (w:World) (he:ErrOk w) (h40:7≤w.heap.size) (A A':Option Go.Addr) (c c':Nat) (hl:Fn.Sl w w.heap.size 5 A (Fn.dec s).ops.length (Fn.tcells (Fn.dec s).ops)) (hb:¬ bare s) :
  Calls Tryz.prog 13 #[(Fn.dec s).v A c A' c'] w fun en w'=>∃ gp gh,en = .returned (.pointer (some ⟨gp,0,none⟩))∧PW w w' gp gh (Fn.dSt s) (Fn.dSl s).toNat (Fn.dTh s).toNat 0 (begunP s):=by
 obtain ⟨⟨a0,b0⟩,⟨a1,b1⟩,⟨a2,b2⟩,⟨a3,b3⟩,⟨a4,b4⟩⟩:=dec_bounds s
 have hg:=begunP_gi s hb
 obtain ⟨n,hn⟩:∃ n:Nat,Fn.dTh s = n:=⟨_,(Int.toNat_of_nonneg (by omega)).symm⟩
 obtain ⟨ns,hns⟩:∃ ns:Nat,Fn.dSl s = ns:=⟨_,(Int.toNat_of_nonneg a3).symm⟩
 have hs:Fn.dSt s = 2∨Fn.dSt s = 4→1≤ns:=fun h=>by
  rcases Nat.eq_zero_or_pos ns with h0 | h0
  ·exact absurd ⟨h,by omega⟩ hb
  ·exact h0
 have ho:∀ t∈(Fn.dec s).ops,0≤t.thread∧t.thread < (n:Int)∧OpFit (Fn.dSt s) (gop t.op):=fun t ht=>by rw [← hn];exact Fn.dec_ops t ht
 have hc:=begun_any (Fn.dSt s) (Fn.dEn s) (Fn.dNo s) n ns w he a0 b0 a1 b1 (by omega) (by omega) (by omega) a4 b4 hs (Fn.dec s).ops A A' c c' (Fn.dec s).picks.length hl (dec_few s) ho
 have e1:(Fn.dec s).v A c A' c' = .agg #[.int .i64 (Fn.dSt s),.int .i64 (Fn.dEn s),.int .i64 (n:Int),.int .i64 (ns:Int),.int .i64 (Fn.dNo s),.slice A (Fn.dec s).ops.length c,.slice A' (Fn.dec s).picks.length c']:=by rw [← hn,← hns];rfl
 rw [e1]
 refine hc.mono ?_
 rintro e w1 ⟨gp,gh,tv,bv,ro,Fh,Ft,lab,rfl,hp,hbl,hlb⟩
 refine ⟨gp,gh,rfl,⟨tv,bv,ro,Fh,Ft,lab,?_,hlb⟩,hg,he.below hbl,hbl,h40⟩
 have e2:begunP s = (MPa.fresh (Fn.dSt s) (Fn.dEn s) (Fn.dNo s) n ns n).fill (Fn.dec s).ops:=by
  unfold begunP
  rw [hn,hns,Int.toNat_natCast,Int.toNat_natCast]
 rw [e2]
 exact hp
theorem begunN_any (s:ByteArray) (w:World) (he:ErrOk w) (A A':Option Go.Addr) (c c':Nat) (hb:bare s) :
  Calls Tryz.prog 13 #[(Fn.dec s).v A c A' c'] w fun en w'=>en = .returned (.pointer none)∧Below w.heap.size w w':=by
 obtain ⟨⟨a0,b0⟩,⟨a1,b1⟩,⟨a2,b2⟩,⟨a3,b3⟩,⟨a4,b4⟩⟩:=dec_bounds s
 obtain ⟨n,hn⟩:∃ n:Nat,Fn.dTh s = n:=⟨_,(Int.toNat_of_nonneg (by omega)).symm⟩
 have e1:(Fn.dec s).v A c A' c' = .agg #[.int .i64 (Fn.dSt s),.int .i64 (Fn.dEn s),.int .i64 (n:Int),.int .i64 0,.int .i64 (Fn.dNo s),.slice A (Fn.dec s).ops.length c,.slice A' (Fn.dec s).picks.length c']:=by rw [← hn,← hb.2];rfl
 rw [e1]
 exact begunF_any (Fn.dSt s) (Fn.dEn s) (Fn.dNo s) n w he a0 b0 a1 b1 (by omega) (by omega) a4 b4 hb.1 A A' c c' _ _
section
variable {w0 w:World} {gp gh:Nat} {st:Int} {n nt t k:Nat} {P:MPa}
theorem PW.heap (h:PW w0 w gp gh st n nt t P):Calls Tryz.prog 15 #[.pointer (some ⟨gp,0,none⟩)] w fun en w'=>en = .returned (.pointer (some ⟨gh,0,none⟩))∧w = w':=by
 obtain ⟨tv,bv,ro,Fh,Ft,lab,hp,_⟩:=h.p
 exact heap_any hp
theorem PW.peek (h:PW w0 w gp gh st n nt t P) (a:Yj):Calls Tryz.prog 16 #[.pointer (some ⟨gh,0,none⟩),.agg a.l.toArray] w (RetPk (P.heap.peek a) w):=by
 obtain ⟨tv,bv,ro,Fh,Ft,lab,hp,_⟩:=h.p
 obtain ⟨bb,sb,fr,fv,hb,_⟩:=hp.hp
 exact peek_any hb h.e a
end
theorem peek_root {st:Int} {n:Nat} {p:Pl} (h:HI st n p) {r:Nat} (hr:r < 24):p.peek ⟨0,0,(r:Int)⟩ = (p.board r,true):=by
 have h1:decide ((0:Int)≤(r:Int)) = true:=decide_eq_true (by omega)
 have h2:decide ((r:Int) < ((85:Nat):Int)) = true:=decide_eq_true (by omega)
 unfold Pl.peek Pl.has Pl.live Pl.get
 rw [h.nb]
 simp only [h1,h2]
 rfl
def TI (j:Nat) (p:Pl):Prop:=∀ r:Nat,r < 24→0≤(p.board r).tg∧(p.board r).tg≤j
theorem TI.step {j:Nat} {p p':Pl} (h:TI j p) (hj:j≤100000) (ht:Tags p p'):TI (j+1) p'∧∀ r:Nat,r < 24→p'.board r = p.board r∨(p'.board r).tg = (p.board r).tg+1:=by
 have key:∀ r:Nat,r < 24→p'.board r = p.board r∨(p'.board r).tg = (p.board r).tg+1:=fun r hr=>by
  have h1:=h r hr
  rcases ht r (by omega) (by omega) with e | e
  ·exact Or.inl e
  ·right
   rw [e]
   exact wr_in (by omega) (by omega)
 refine ⟨fun r hr=>?_,key⟩
 have h1:=h r hr
 rcases key r hr with e | e
 ·rw [e];omega
 ·rw [e];omega
theorem fill_heap:∀ (l:List Fn.PTask) (P:MPa),(P.fill l).heap = P.heap
 | [],_=>rfl
 | x :: l,P=>by
  show ((P.put x).fill l).heap = P.heap
  rw [fill_heap l]
  unfold MPa.put
  split <;> rfl
theorem begunP_ti (s:ByteArray) (hb:¬ bare s):TI 0 (begunP s).heap:=fun r hr=>by
 have e:(begunP s).heap = Pl.laid (Fn.dSt s) (Fn.dSl s).toNat:=fill_heap _ _
 obtain ⟨h,_⟩:=laid_hb (Fn.dSt s) (Fn.dSl s).toNat (fun h=>by
  rcases Nat.eq_zero_or_pos (Fn.dSl s).toNat with h0 | h0
  ·exact absurd ⟨h,by have:=(dec_bounds s).2.2.2.1.1;omega⟩ hb
  ·exact h0)
 rw [e,(h.bd r).2]
 exact ⟨Int.le_refl _,Int.le_refl _⟩
def wasF (f g:Nat→Xf) (m:Nat):Nat→Xf:=fun r=>bif decide (r < m) then g r else f r
def wasR (f:Nat→Xf):Array Value:=(rows Xf.l ((List.range 24).map f)).toArray
theorem wasF_zero (f g:Nat→Xf):wasF f g 0 = f:=by funext r;unfold wasF;rw [decide_eq_false (by omega)];rfl
theorem wasR_all (f g:Nat→Xf):wasR (wasF f g 24) = wasR g:=by
 unfold wasR
 rw [List.map_congr_left (g:=g) fun r hr=>?_]
 unfold wasF
 rw [decide_eq_true (List.mem_range.1 hr)]
 rfl
theorem wasF_at (f g:Nat→Xf) (m:Nat):wasF f g m m = f m:=by unfold wasF;rw [decide_eq_false (by omega)];rfl
theorem wasR_set (f g:Nat→Xf) {m:Nat} (hm:m < 24):(wasR (wasF f g (m+1))).toList = (wasR (wasF f g m)).toList.take (m*5)++(g m).l.toArray.toList++(wasR (wasF f g m)).toList.drop (m*5+5):=by
 have h:=rows_set (f:=Xf.l) wlen (wasF f g m) (wasF f g (m+1)) 24 m hm (fun j hj=>by
  unfold wasF
  rcases Nat.lt_or_ge j m with h | h
  ·rw [decide_eq_true h,decide_eq_true (by omega)]
  ·rw [decide_eq_false (by omega),decide_eq_false (by omega)])
 have e:wasF f g (m+1) m = g m:=by unfold wasF;rw [decide_eq_true (by omega)];rfl
 rw [e] at h
 exact h
theorem wasR_size (f:Nat→Xf):(wasR f).size = 120:=by
 show (rows Xf.l ((List.range 24).map f)).length = 120
 rw [Yt wlen]
 simp
theorem wasR_get (f:Nat→Xf) {m:Nat} (hm:m < 24) (j:Nat) (u:Value) (h:(f m).l[j]? = some u):(wasR f)[m*5+j]? = some u:=by
 have:=rows_get wlen ((List.range 24).map f) m (by simpa using hm) j u (by simpa using h)
 unfold wasR
 rw [List.getElem?_toArray]
 exact this
section
variable {Pg:Program} {ops:Array Oper} {rest:List Oper} {op:Oper} {a:Act} {w:World} {Q:Exit→Act→World→Prop}
theorem wpList_build_z (hgd:op.guard = none) (ty:TypeId) (ho:op.op = .build ty #[]) (cells:Array Value) (hb:Pg.built ty [] = some cells) (h:wpList Pg ops Q rest (a.put op.dst (.agg cells)) w):wpList Pg ops Q (op :: rest) a w :=
 wpList_plain hgd fun K hK=>by
  unfold Oper.wp execOp
  simp only [ho,Array.map_empty,Sem.run_bind,run_build w ty #[] cells hb,Result.andThen_ok]
  exact hK _ _ h
theorem wpList_alloc_z (hgd:op.guard = none) (ty:TypeId) (ho:op.op = .alloc ty) (inf:TypeInfo) (z:Value) (cells:Array Value) (hi:Pg.info? ty = some inf) (hz:inf.zero = some z) (hc:z.cells = cells)
  (h:wpList Pg ops Q rest (a.put op.dst (.pointer (some ⟨w.heap.size,0,none⟩))) (w.alloc (.cells cells ty))):wpList Pg ops Q (op :: rest) a w :=
 wpList_plain hgd fun K hK=>by
  have hr:(Instr.alloc ty true (.tuple #[])).run Pg w = .ok (.pointer (some ⟨w.heap.size,0,none⟩)) (w.alloc (.cells z.cells ty)):=by
   simp [Instr.alloc,zeroValue,typeInfo,hi,hz,newVar,newRow,newObj,Sem.run]
  rw [hc] at hr
  unfold Oper.wp execOp
  simp only [ho,Sem.run_bind,hr,Result.andThen_ok]
  exact hK _ _ h
end
def wakeS:ByteArray:={ data:=#[0,1,1,9,1,2,0,0,0,4,1,1] }
def wakeP:MPa:=MPa.restT 8 (begunP wakeS) 2
theorem wake_bare:¬ bare wakeS:=fun h=>by
 rcases h.1 with h | h
 ·exact absurd h (by decide)
 ·exact absurd h (by decide)
theorem wake_idle:∀ k,k < 2→(MPa.restT 8 (begunP wakeS) (k+1)).idle k = true
 | 0,_=>by kernel_rfl
 | 1,_=>by kernel_rfl
 | _+2,h=>by omega
theorem wake_len:wakeP.beats.length = 12:=by kernel_rfl
theorem wake_rows:(rows Yh.l wakeP.beats)[1]? = some (.bool true)∧(rows Yh.l wakeP.beats)[117]? = some (.bool true)∧(rows Yh.l wakeP.beats)[118]? = some (.int .i64 1)∧(rows Yh.l wakeP.beats)[119]? = some (.int .i64 4) :=
 ⟨by kernel_rfl,by kernel_rfl,by kernel_rfl,by kernel_rfl⟩
theorem wake_nt:(Fn.dTh wakeS).toNat = 2:=by kernel_rfl
theorem wake_v (A A':Option Addr) (c c':Nat):(Fn.dec wakeS).v A c A' c' = .agg #[.int .i64 1,.int .i64 2,.int .i64 2,.int .i64 9,.int .i64 2,.slice A 2 c,.slice A' 0 c']:=by kernel_rfl
theorem wakes_any (hP:PickOk) (w:World) (he:ErrOk w):Calls Tryz.prog 7 #[] w fun en w'=>en = .returned (.bool true)∧Below w.heap.size w w':=by
 have hd:=Fn.decode_any wakeS w (by decide)
 have HE:=Lib.hid he
 have h40:=he.lt
 clear he
 go_enter Tryz.func7,Tryz.ntmps7
 go_wp2_with fail
 refine hd.mono ?_
 rintro e w1 ⟨A,c,A',c',rfl,hl,hl2,hb⟩
 rw [wake_v]
 have hA:=(Below.refl w1.heap.size w1).alloc (Nat.le_refl _) (.cells #[.int .i64 1,.int .i64 2,.int .i64 2,.int .i64 9,.int .i64 2,.slice A 2 c,.slice A' 0 c'] 47)
 have HE2:=Lib.hid ((HE.out.below hb).below hA)
 have HB2:=Lib.hid (hb.trans (hA.mono hb.size))
 have HX:=Lib.hid (Bk.at_ (w:=w1) (g:=w1.heap.size) (cs:=#[.int .i64 1,.int .i64 2,.int .i64 2,.int .i64 9,.int .i64 2,.slice A 2 c,.slice A' 0 c']) (t:=47) rfl)
 have hbg:=begunD_any wakeS _ HE2.out (Nat.le_trans h40 HB2.out.size) A A' c c' ((hl.below hA).more hA.size) wake_bare
 rw [wake_v,wake_nt] at hbg
 clear hd hl hl2 hb hA HE
 go_wp2_with fail
 generalize (w1.alloc (.cells #[.int .i64 1,.int .i64 2,.int .i64 2,.int .i64 9,.int .i64 2,.slice A 2 c,.slice A' 0 c'] 47)) = w2 at *
 refine hbg.mono ?_
 rintro e w3 ⟨gp,gh,rfl,hw⟩
 have HX3:=Lib.hid (HX.out.belowAll hw.b)
 have hr:=rest_any hP 8 hw (by decide) wake_idle (by decide) (by decide) (by decide)
 have y2:=HX3.out.cell 2
 simp at y2
 clear hbg
 have hr:Calls Tryz.prog 10 #[.pointer (some ⟨gp,0,none⟩),.int .i64 2] w3 fun en w'=>en = .returned (.bool true)∧PW w2 w' gp gh (Fn.dSt wakeS) (Fn.dSl wakeS).toNat 2 (0+12*(8*2)) wakeP:=hr
 have HW:=Lib.hid hw
 clear hw
 go_wp2_with fail
 refine hr.mono ?_
 rintro e w4 ⟨rfl,h4⟩
 obtain ⟨tv,bv,ro,Fh,Ft,lab,hp,hlb⟩:=h4.p
 have hbt:=beats_any hp (by rw [wake_len];decide)
 rw [wake_len] at hbt
 have H4:=Lib.hid h4.b
 clear h4 hr hp hlb y2
 go_wp2_with fail
 refine hbt.mono ?_
 rintro e w5 ⟨v,rfl,ho,hb5,hf⟩
 obtain ⟨g,off,cap,rfl,hcap⟩:=own_form ho (by decide)
 have k1:=own_cells ho 1 _ wake_rows.1
 have k2:=own_cells ho 117 _ wake_rows.2.1
 have k3:=own_cells ho 118 _ wake_rows.2.2.1
 have k4:=own_cells ho 119 _ wake_rows.2.2.2
 have HX5:=Lib.hid ((HX.out.belowAll H4.out).belowAll hb5)
 have y5:=HX5.out.cell 5
 simp at y5
 have HZ:=Lib.hid (HB2.out.trans ((H4.out.trans (hb5.mono H4.out.size)).mono HB2.out.size))
 clear ho hb5 hf hcap hbt HX HX3 HX5 HE2
 have k5:w5.cell? ⟨g,off+110+7,none⟩ = some (.bool true):=k2
 have k6:w5.cell? ⟨g,off+110+8,none⟩ = some (.int .i64 1):=k3
 have k7:w5.cell? ⟨g,off+110+9,none⟩ = some (.int .i64 4):=k4
 go_wp2_with fail
 go_ret
 exact ⟨rfl,HZ.out⟩
structure CT (w w0 wr:World) (gp gh:Nat) (st:Int) (n nt t:Nat) (P:MPa) (xb ub:Nat) (x:Array Value) (F:Nat→Xf):Prop where
 p:∃ tv bv ro Fh Ft lab,PaB wr gp gh P tv bv ro Fh Ft lab∧∀ b,lab b < 1000→w0.heap.size≤b∧b≠ub
 g:GI st n nt t P
 e:ErrOk wr
 b:Below w0.heap.size w0 wr
 u:Bk wr ub 52 (wasR F)
 xx:Bk wr xb 47 x
 bw:Below w.heap.size w w0
 z:7≤w.heap.size
 xl:xb < w0.heap.size
 ul:w0.heap.size≤ub
section
variable {w w0 wr w':World} {gp gh:Nat} {st:Int} {n nt t k:Nat} {P P':MPa} {xb ub:Nat} {x:Array Value} {F G:Nat→Xf}
theorem CT.pw (h:CT w w0 wr gp gh st n nt t P xb ub x F):PW w0 wr gp gh st n nt t P:=by
 obtain ⟨tv,bv,ro,Fh,Ft,lab,hp,hl⟩:=h.p
 exact ⟨⟨tv,bv,ro,Fh,Ft,lab,hp,fun b hb=>(hl b hb).1⟩,h.g,h.e,h.b,Nat.le_trans h.z h.bw.size⟩
theorem CT.out (h:CT w w0 wr gp gh st n nt t P xb ub x F):Below w.heap.size w wr:=h.bw.trans (h.b.mono h.bw.size)
theorem CT.conv (h:CT w w0 wr gp gh st n nt t P xb ub x F) (e:wasR F = wasR G):CT w w0 wr gp gh st n nt t P xb ub x G:=⟨h.p,h.g,h.e,h.b,e ▸ h.u,h.xx,h.bw,h.z,h.xl,h.ul⟩
theorem CT.up {t':Nat} (h:CT w w0 wr gp gh st n nt t P xb ub x F) (ht:t≤t'):CT w w0 wr gp gh st n nt t' P xb ub x F:=⟨h.p,h.g.up ht,h.e,h.b,h.u,h.xx,h.bw,h.z,h.xl,h.ul⟩
theorem CT.below (h:CT w w0 wr gp gh st n nt t P xb ub x F) (hb:Below wr.heap.size wr w'):CT w w0 w' gp gh st n nt t P xb ub x F:=by
 obtain ⟨tv,bv,ro,Fh,Ft,lab,hp,hl⟩:=h.p
 exact ⟨⟨tv,bv,ro,Fh,Ft,lab,hp.below hb,hl⟩,h.g,h.e.below hb,h.b.trans (hb.mono h.b.size),h.u.belowAll hb,h.xx.belowAll hb,h.bw,h.z,h.xl,h.ul⟩
theorem CT.store (h:CT w w0 wr gp gh st n nt t P xb ub x F) (hst:Stored wr ub 52 (wasR G) w'):CT w w0 w' gp gh st n nt t P xb ub x G:=by
 obtain ⟨tv,bv,ro,Fh,Ft,lab,hp,hl⟩:=h.p
 have hul:=h.ul
 have hxl:=h.xl
 have hz:=h.z
 have hbw:=h.bw.size
 have hg:=hst.grown
 have far:∀ b,b < wr.heap.size→b≠ub→w'.heap[b]? = wr.heap[b]?:=fun b hb hn=>hg.block b hb fun e=>hn (by cases e;rfl)
 exact ⟨⟨tv,bv,ro,Fh,Ft,lab,hp.same2 fun b hb hlt=>far b hlt (hl b hb).2,hl⟩,h.g,h.e.low (fun b hb=>far b (by have:=h.e.lt;omega) (by omega)) (by rw [hst.size];exact h.e.lt),
  ⟨hg.os.trans h.b.os,hg.tape.trans h.b.tape,hg.output.trans h.b.output,Nat.le_trans h.b.size hg.size,fun b hb=>(far b (by have:=h.b.size;omega) (by omega)).trans (h.b.block b hb)⟩,hst.bk,h.xx.same (far xb h.xx.lt (by omega)),h.bw,hz,hxl,hul⟩
theorem CT.next {lab:Nat→Nat} (h:CT w w0 wr gp gh st n nt t P xb ub x F) (hl:∀ b,lab b < 1000→w0.heap.size≤b∧b≠ub) (hr:PaR wr gp gh P' lab w') {t':Nat} (hg:GI st n nt t' P'):CT w w0 w' gp gh st n nt t' P' xb ub x F:=by
 obtain ⟨tv,bv,ro,Fh,Ft,lab',hp,hc,hl'⟩:=hr
 have hul:=h.ul
 have hxl:=h.xl
 have hz:=h.z
 have hbw:=h.bw.size
 have hbs:=h.b.size
 have hu:=h.u.lt
 have hx:=h.xx.lt
 have far:∀ b,b < wr.heap.size→¬ (w0.heap.size≤b∧b≠ub)→w'.heap[b]? = wr.heap[b]?:=fun b hb hn=>hc.far b hb fun h2=>hn (hl b h2)
 refine ⟨⟨tv,bv,ro,Fh,Ft,lab',hp,fun b hb=>(hl' b hb).elim (hl b) fun h'=>⟨by omega,by omega⟩⟩,hg,h.e.low (fun b hb=>far b (by omega) (by omega)) (by have:=hc.size;have:=h.e.lt;omega),
  ⟨hc.os.trans h.b.os,hc.tape.trans h.b.tape,hc.output.trans h.b.output,Nat.le_trans h.b.size hc.size,fun b hb=>(far b (by omega) (by omega)).trans (h.b.block b hb)⟩,h.u.same (far ub hu (by omega)),h.xx.same (far xb hx (by omega)),h.bw,hz,hxl,hul⟩
theorem CT.any (hP:PickOk) (h:CT w w0 wr gp gh st n nt t P xb ub x F) (hk:k < nt) (ht:t≤60000) (hn:n≤1024):Calls Tryz.prog 17 #[.pointer (some ⟨gp,0,none⟩),.int .i64 (k:Int)] wr fun en w'=>(∃ v,en = .returned v)∧∃ P',CT w w0 w' gp gh st n nt (t+12) P' xb ub x F∧Tags P.heap P'.heap:=by
 obtain ⟨T,hT⟩:=h.pw.ths hk
 obtain ⟨tv,bv,ro,Fh,Ft,lab,hp,hl⟩:=h.p
 cases hi:MPa.idleT T with
 | true =>
  refine (pickIdle_any hp h.e hT hi).mono ?_
  rintro e w1 ⟨⟨Ty,q,rfl⟩,hr⟩
  exact ⟨⟨_,rfl⟩,P,(h.next hl hr h.g).up (by omega),Tags.refl _⟩
 | false =>
  obtain ⟨g1,g2,g3,g4⟩:=pick_ok h.g hT hi ht hn
  have hv:=h.g.v k T hT
  have hb:=h.g.b
  refine (hP hp h.e hT hi g1 g2 hv.2.2.1 hv.2.2.2 (by omega)).mono ?_
  rintro e w1 ⟨rfl,hr⟩
  exact ⟨⟨_,rfl⟩,_,h.next hl hr g3,g4⟩
theorem ct_start {w1:World} (h:PW w0 w1 gp gh st n nt t P) (hx:Bk w1 xb 47 x) (hb:Below w1.heap.size w1 wr) (hu:Bk wr ub 52 (wasR F)) (hul:w1.heap.size≤ub) (hbw:Below w.heap.size w w0) (hz:7≤w.heap.size) (hxl:xb < w0.heap.size):CT w w0 wr gp gh st n nt t P xb ub x F:=by
 obtain ⟨tv,bv,ro,Fh,Ft,lab,hp,hl⟩:=h.p
 have hs:=h.b.size
 refine ⟨⟨tv,bv,ro,Fh,Ft,_,hp.cut.below hb,fun b hb'=>?_⟩,h.g,h.e.below hb,h.b.trans (hb.mono h.b.size),hu,hx.belowAll hb,hbw,hz,hxl,by omega⟩
 have hb':(if b < w1.heap.size then lab b else 1000) < 1000:=hb'
 split at hb'
 ·exact ⟨hl b hb',by omega⟩
 ·omega
end
end Go.Proofs.YtaipogljokblkaaGreatDoor
