/- Core: QX. -/
import Derived.Test.YtaipogljokblkaaGreatDoorZ49
import Derived.Test.YtaipogljokblkaaGreatDoorZ01
import Derived.Deep.CutRange
set_option linter.all false
set_option maxRecDepth 100000
set_option maxHeartbeats 8000000
namespace Go.Proofs.YtaipogljokblkaaGreatDoor
open Go Go.RowKit
set_option linter.unusedSimpArgs false
set_option linter.unusedVariables false
set_option linter.unusedSectionVars false
theorem infoWas:(Tryz.prog.info? 52).map (fun i=>i.zero) = some (some (.agg (wasR fun _=>.zero))):=by kernel_rfl
def bdF (P:MPa):Nat→Xf:=fun r=>P.heap.board r
section
variable {w w0 wr w':World} {gp gh:Nat} {st:Int} {n nt t k:Nat} {P P':MPa} {xb ub:Nat} {x:Array Value} {F G:Nat→Xf}
theorem CT.root (h:CT w w0 wr gp gh st n nt t P xb ub x F) {m:Nat} (hm:m < 24):Calls Tryz.prog 14 #[.int .i64 (m:Int)] wr fun en w'=>en = .returned (.tuple #[.agg #[.int .i64 0,.int .i64 0,.int .i64 (m:Int)],.nilIface])∧CT w w0 w' gp gh st n nt t P xb ub x F:=by
 refine (broot_any m hm wr).mono ?_
 rintro e w1 ⟨he,hb⟩
 exact ⟨he,h.below hb⟩
theorem CT.heap (h:CT w w0 wr gp gh st n nt t P xb ub x F):Calls Tryz.prog 15 #[.pointer (some ⟨gp,0,none⟩)] wr fun en w'=>en = .returned (.pointer (some ⟨gh,0,none⟩))∧wr = w':=h.pw.heap
theorem CT.peek (h:CT w w0 wr gp gh st n nt t P xb ub x F) {m:Nat} (hm:m < 24) {X:Xf} (hX:bdF P m = X):Calls Tryz.prog 16 #[.pointer (some ⟨gh,0,none⟩),.agg #[.int .i64 0,.int .i64 0,.int .i64 (m:Int)]] wr fun en w'=>en = .returned (.tuple #[.agg #[.int .i64 X.sl,.int .i64 X.gn,.int .i64 X.tg,.int .i64 X.nm,.bool X.mark],.bool true])∧Below wr.heap.size wr w':=by
 refine (h.pw.peek ⟨0,0,(m:Int)⟩).mono ?_
 rintro e w1 ⟨he,hb⟩
 rw [peek_root h.g.h hm] at he
 subst hX
 exact ⟨he,hb⟩
end
theorem coreTags_any (hP:PickOk) (s:ByteArray) (w:World) (he:ErrOk w):Calls Tryz.prog 4 #[.string s] w fun en w'=>en = .returned (.bool true)∧Below w.heap.size w w':=by
 have hw0:=wakes_any hP w he
 have HE:=Lib.hid he
 have h40:=he.lt
 clear he
 go_enter Tryz.func4,Tryz.ntmps4
 by_cases hbig:(3000:Int) < (s.size:Int)
 ·go_wp2_with fail
  refine hw0.mono ?_
  rintro e w1 ⟨rfl,hb⟩
  go_wp2_with fail
  go_ret
  exact ⟨rfl,hb⟩
 ·go_wp2_with fail
  refine hw0.mono ?_
  rintro e w1 ⟨rfl,hb1⟩
  have hd:=Fn.decode_any s w1 (by omega)
  clear hw0
  go_wp2_with fail
  refine hd.mono ?_
  rintro e w2 ⟨A,c,A',c',rfl,hl,hl2,hb2⟩
  clear hd
  obtain ⟨st,hst⟩:∃ z,Fn.dSt s = z:=⟨_,rfl⟩
  obtain ⟨en,hen⟩:∃ z,Fn.dEn s = z:=⟨_,rfl⟩
  obtain ⟨th,hth⟩:∃ z,Fn.dTh s = z:=⟨_,rfl⟩
  obtain ⟨sl,hsl⟩:∃ z,Fn.dSl s = z:=⟨_,rfl⟩
  obtain ⟨no,hno⟩:∃ z,Fn.dNo s = z:=⟨_,rfl⟩
  obtain ⟨on,hon⟩:∃ z,(Fn.dec s).ops.length = z:=⟨_,rfl⟩
  obtain ⟨pn,hpn⟩:∃ z,(Fn.dec s).picks.length = z:=⟨_,rfl⟩
  have ev:(Fn.dec s).v A c A' c' = .agg #[.int .i64 st,.int .i64 en,.int .i64 th,.int .i64 sl,.int .i64 no,.slice A on c,.slice A' pn c']:=by rw [← hst,← hen,← hth,← hsl,← hno,← hon,← hpn];rfl
  rw [ev]
  have hA:=(Below.refl w2.heap.size w2).alloc (Nat.le_refl _) (.cells #[.int .i64 st,.int .i64 en,.int .i64 th,.int .i64 sl,.int .i64 no,.slice A on c,.slice A' pn c'] 47)
  have HX:=Lib.hid (Bk.at_ (w:=w2) (g:=w2.heap.size) (cs:=#[.int .i64 st,.int .i64 en,.int .i64 th,.int .i64 sl,.int .i64 no,.slice A on c,.slice A' pn c']) (t:=47) rfl)
  have HE3:=Lib.hid (((HE.out.below hb1).below hb2).below hA)
  have HB3:=Lib.hid ((hb1.trans (hb2.mono hb1.size)).trans (hA.mono (Nat.le_trans hb1.size hb2.size)))
  have HL:=Lib.hid ((hl.below hA).more hA.size)
  have HL2:=Lib.hid ((hl2.below hA).more hA.size)
  clear hl hl2 hb1 hb2 hA HE
  by_cases hbr:bare s
  ·have hbg:=begunN_any s _ HE3.out A A' c c' hbr
   rw [ev] at hbg
   go_wp2_with fail
   refine hbg.mono ?_
   rintro e w4 ⟨rfl,hb4⟩
   have HZ:=Lib.hid (HB3.out.trans (hb4.mono HB3.out.size))
   clear hb4 hbg
   go_wp2_with fail
   go_ret
   exact ⟨rfl,HZ.out⟩
  ·have hbg:=begunD_any s _ HE3.out (Nat.le_trans h40 HB3.out.size) A A' c c' HL.out hbr
   rw [ev] at hbg
   have HEV:=Lib.hid (And.intro hst (And.intro hth (And.intro hsl hpn)))
   clear ev hst hen hth hsl hno hon hpn
   go_wp2_with fail
   have hxl:w2.heap.size < (w2.alloc (.cells #[.int .i64 st,.int .i64 en,.int .i64 th,.int .i64 sl,.int .i64 no,.slice A on c,.slice A' pn c'] 47)).heap.size:=HX.out.lt
   generalize (w2.alloc (.cells #[.int .i64 st,.int .i64 en,.int .i64 th,.int .i64 sl,.int .i64 no,.slice A on c,.slice A' pn c'] 47)) = w3 at *
   generalize w2.heap.size = xb at *
   refine hbg.mono ?_
   rintro e w4 ⟨gp,gh,rfl,hw⟩
   have HW:=Lib.hid hw
   have HX4:=Lib.hid (HX.out.belowAll hw.b)
   clear hw hbg HX
   go_upto_region 9 with (fail)
   obtain ⟨inf,hi,hz⟩:=Option.map_eq_some_iff.1 infoWas
   have hA5:=(Below.refl w4.heap.size w4).alloc (Nat.le_refl _) (.cells (wasR fun _=>.zero) 52)
   have HA5:=Lib.hid (Bk.at_ (w:=w4) (g:=w4.heap.size) (cs:=wasR fun _=>.zero) (t:=52) rfl)
   go_wp2_with (first | (refine wpList_build_z (by rfl) _ (by rfl) (wasR fun _=>.zero) (by kernel_rfl) ?_) | (refine wpList_alloc_z (by rfl) _ (by rfl) inf _ (wasR fun _=>.zero) hi hz (by rfl) ?_) | (refine wpList_store_bk (by rfl) _ _ _ (by rfl) w4.heap.size (wasR fun _=>.zero) (by rfl) (by rfl) _ (wasR fun _=>.zero) HA5.out (by rfl) (by kernel_rfl) (by kernel_rfl) ?_;intro w5 hst;have HC5:=Lib.hid (ct_start HW.out HX4.out (hst.below hA5 (Nat.le_refl _)) hst.bk (Nat.le_refl _) HB3.out h40 hxl);clear hst))
   have HTI:=Lib.hid (begunP_ti s hbr)
   have HI0:Hid (∀ j,j < pn→∃ k:Nat,(Fn.dec s).picks[j]? = some (k:Int)∧k < (Fn.dTh s).toNat):=Lib.hid fun j hj=>by
    have h6:=(dec_bounds s).2.2.1
    have hj':j < (Fn.dec s).picks.length:=by rw [HEV.out.2.2.2];exact hj
    obtain ⟨z,hz⟩:∃ z,(Fn.dec s).picks[j] = z:=⟨_,rfl⟩
    have hm:z∈(Fn.dec s).picks:=hz ▸ List.getElem_mem hj'
    have hm:z∈Fn.decPicks s (Fn.dP s):=hm
    unfold Fn.decPicks at hm
    obtain ⟨i,_,rfl⟩:=List.mem_map.1 hm
    unfold Fn.pickAt at hz
    have h0:=Int.emod_nonneg (bat s (6+4*Fn.dN s+i):Int) (show Fn.dTh s≠0 by omega)
    have h1:=Int.emod_lt_of_pos (bat s (6+4*Fn.dN s+i):Int) (show 0 < Fn.dTh s by omega)
    obtain ⟨k,hk⟩:=Int.eq_ofNat_of_zero_le h0
    refine ⟨k,?_,by omega⟩
    rw [List.getElem?_eq_getElem hj',hz,hk]
   have hpn:pn≤3000:=by
    rw [← HEV.out.2.2.2]
    show (Fn.decPicks s (Fn.dP s)).length≤3000
    rw [Fn.decPicks_length]
    unfold Fn.dP
    omega
   have hsz:(Fn.dSl s).toNat≤1024:=by have:=(dec_bounds s).2.2.2.1;omega
   clear HW HX4 HA5 hA5 hi hz HEV HL HE3 hxl
   generalize w4.heap.size = ub at *
   generalize begunP s = P0 at *
   generalize Fn.dSt s = sst at *
   generalize (Fn.dSl s).toNat = sn at *
   generalize (Fn.dTh s).toNat = nt at *
   generalize hxr:(#[.int .i64 st,.int .i64 en,.int .i64 th,.int .i64 sl,.int .i64 no,.slice A on c,.slice A' pn c']:Array Value) = xr at HC5
   have HXR:=Lib.hid hxr
   clear hxr
   go_loopw [6] (fun i wr=>∃ m:Nat,m≤24∧i = .int .i64 m∧Hid (CT w w3 wr gp gh sst sn nt 0 P0 xb ub xr (wasF (fun _=>.zero) (bdF P0) m))) (fun i _=>24 - (intOf i).toNat)
   case atStart=>exact ⟨0,by decide,rfl,Lib.hid (HC5.out.conv (by rw [wasF_zero]))⟩
   case round =>
    obtain ⟨m,hm,rfl,C⟩:=hrel
    by_cases hlt:m < 24
    ·have hlt':(m:Int) < 24:=by omega
     go_wp2_with fail
     refine (C.out.root hlt).mono ?_
     rintro e W1 ⟨rfl,C1⟩
     have hA:=(Below.refl W1.heap.size W1).alloc (Nat.le_refl _) (.cells #[.int .i64 0,.int .i64 0,.int .i64 (m:Int)] 54)
     have HX:=Lib.hid (Bk.at_ (w:=W1) (g:=W1.heap.size) (cs:=#[.int .i64 0,.int .i64 0,.int .i64 (m:Int)]) (t:=54) rfl)
     have HC:=Lib.hid (C1.below hA)
     have hub:ub < W1.heap.size:=C1.u.lt
     clear C1 hA C
     go_upto_region 14 with (fail)
     generalize (W1.alloc (.cells #[.int .i64 0,.int .i64 0,.int .i64 (m:Int)] 54)) = W2 at *
     generalize W1.heap.size = ab at *
     have HCd:=Lib.hid (HC.out.below (Below.refl W2.heap.size W2).drew)
     have HXd:=Lib.hid (HX.out.belowAll (Below.refl W2.heap.size W2).drew)
     clear HC HX
     refine X2 (fun X=>Bk X ab 54 #[.int .i64 0,.int .i64 0,.int .i64 (m:Int)]) 10 (by kernel_rfl) HXd.out (fun hS=>?_)
     generalize W2.drew = W3 at *
     obtain ⟨X,hX⟩:∃ X,bdF P0 m = X:=⟨_,rfl⟩
     have hH:=HCd.out.heap
     have hPk:=HCd.out.peek hlt hX
     ((try simp only [Act.put,List.setIfInBounds_toArray,List.set_cons_succ,List.set_cons_zero]);refine vT (fuel:=7) hS [0,1,3] ?_;simp only [Xu,Xj,List.toList_toArray];(repeat (first | go_big_quiet_skip | (go_big_quiet_want;first | (go_big_quiet_op;go_big_quiet_on) | (apply Exists.intro;refine ⟨fun w' hS'=>?_,?_⟩;(· ((have y0:=hS'.cell 0;have y1:=hS'.cell 1;have y2:=hS'.cell 2;simp at y0 y1 y2);go_simp;first | done | rfl | exact ⟨rfl,rfl⟩));go_big_quiet_on;simp only [Act.put,List.setIfInBounds_toArray,List.set_cons_succ,List.set_cons_zero]))));refine wpQuiet_nil ?_;(try dsimp only))
     (refine Xh 2 (by kernel_rfl) (fun K hK=>?_);simp only [Xj,List.toList_toArray])
     go_wp2_with fail
     refine hH.mono ?_
     rintro e W4 ⟨rfl,rfl⟩
     go_wp2_with fail
     refine hK.out _ _ (fun _=>HXd.out) ?_
     clear hK hH
     (refine Xh 4 (by kernel_rfl) (fun K hK=>?_);simp only [Xj,List.toList_toArray])
     go_wp2_with fail
     refine hPk.mono ?_
     rintro e W4 ⟨rfl,hb4⟩
     have HC4:=Lib.hid (HCd.out.below hb4)
     have HX4:=Lib.hid (HXd.out.belowAll hb4)
     clear HCd HXd hPk hb4
     go_wp2_with fail
     refine hK.out _ _ (fun _=>HX4.out) ?_
     clear hK hS
     have hS:=HX4.out
     ((try simp only [Act.put,List.setIfInBounds_toArray,List.set_cons_succ,List.set_cons_zero]);refine vT (fuel:=1) hS [5,6,7,8] ?_;simp only [Xu,Xj,List.toList_toArray];(repeat (first | go_big_quiet_skip | (go_big_quiet_want;first | (go_big_quiet_op;go_big_quiet_on) | (apply Exists.intro;refine ⟨fun w' hS'=>?_,?_⟩;(· (skip;go_simp;first | done | rfl | exact ⟨rfl,rfl⟩));go_big_quiet_on;simp only [Act.put,List.setIfInBounds_toArray,List.set_cons_succ,List.set_cons_zero]))));refine wpQuiet_nil ?_;(try dsimp only))
     have hcs:=wasR_set (fun _=>.zero) (bdF P0) hlt
     rw [hX] at hcs
     have HCS:=Lib.hid hcs
     clear hcs
     (refine Xh 9 (by kernel_rfl) (fun K hK=>?_);simp only [Xj,List.toList_toArray])
     go_wp2_with (refine Ym (by rfl) _ _ _ (by rfl) ub (m*5) _ (by rfl) (by rfl) _ _ (wasR (wasF (fun _=>.zero) (bdF P0) (m+1))) HC4.out.u (by rw [wasR_size];show m*5+5≤120;omega) (by kernel_rfl) (by rfl) (by exact HCS.out) ?_;intro W5 hst;have HC6:=Lib.hid (HC4.out.store hst);have HX6:=Lib.hid (hst.far HX4.out (by omega));clear hst)
     refine hK.out _ _ (fun _=>HX6.out) ?_
     clear hK hS
     refine X9 (by kernel_rfl) ?_ _
     go_wp2_with fail
     exact ⟨⟨m+1,hlt,by go_num,HC6⟩,by simp [intOf];omega⟩
    ·have hme:m = 24:=by omega
     subst hme
     rw [show ((24:Nat):Int) = 24 from rfl]
     have HCz:=Lib.hid (C.out.conv (wasR_all _ (bdF P0)))
     clear C HC5
     go_wp2_with fail
     go_loopw [9] (fun i wr2=>∃ (j:Nat) (P:MPa),j≤pn∧i = .int .i64 j∧Hid (CT w w3 wr2 gp gh sst sn nt (12*j) P xb ub xr (bdF P))∧Hid (TI j P.heap)) (fun i _=>pn - (intOf i).toNat)
     case atStart=>exact ⟨0,P0,Nat.zero_le _,rfl,HCz,HTI⟩
     case round =>
      obtain ⟨j,P,hj,rfl,C,hT⟩:=hrel
      have y6:=C.out.xx.cell 6
      rw [← HXR.out] at y6
      simp at y6
      by_cases hlj:j < pn
      ·have hlj':(j:Int) < (pn:Int):=by omega
       obtain ⟨k,hk,hkn⟩:=HI0.out j hlj
       have hk0:0 < (Fn.dec s).picks.length:=by
        rcases Nat.eq_zero_or_pos (Fn.dec s).picks.length with h | h
        ·rw [List.eq_nil_of_length_eq_zero h] at hk;cases hk
        ·exact h
       obtain ⟨pb,po,hAe,hpb,hcell⟩:=(HL2.out.below C.out.b).2 hk0
       rw [hAe] at y6
       have hc:=hcell j (.int .i64 (k:Int)) (by unfold Fn.icells;rw [List.getElem?_map,hk];rfl)
       have hp:=C.out.any hP hkn (by omega) hsz
       clear hcell hAe hk hk0
       go_wp2_with fail
       refine hp.mono ?_
       rintro e W1 ⟨⟨v,rfl⟩,P',C1,tg⟩
       obtain ⟨hT',key⟩:=hT.out.step (by omega) tg
       have HC1:=Lib.hid (C1.conv (show wasR (bdF P) = wasR (wasF (bdF P) (bdF P') 0) by rw [wasF_zero]))
       have HT':=Lib.hid hT'
       have HKY:=Lib.hid key
       clear C C1 tg hT hT' key hp y6 hc
       go_wp2_with fail
       go_loopw [10] (fun i wq=>∃ m:Nat,m≤24∧i = .int .i64 m∧Hid (CT w w3 wq gp gh sst sn nt (12*j+12) P' xb ub xr (wasF (bdF P) (bdF P') m))) (fun i _=>24 - (intOf i).toNat)
       case atStart=>exact ⟨0,by decide,rfl,HC1⟩
       case round =>
        obtain ⟨m,hm,rfl,C⟩:=hrel
        by_cases hlt:m < 24
        ·have hlt':(m:Int) < 24:=by omega
         go_wp2_with fail
         refine (C.out.root hlt).mono ?_
         rintro e W1 ⟨rfl,C1⟩
         have hA:=(Below.refl W1.heap.size W1).alloc (Nat.le_refl _) (.cells #[.int .i64 0,.int .i64 0,.int .i64 (m:Int)] 54)
         have HX:=Lib.hid (Bk.at_ (w:=W1) (g:=W1.heap.size) (cs:=#[.int .i64 0,.int .i64 0,.int .i64 (m:Int)]) (t:=54) rfl)
         have HC:=Lib.hid (C1.below hA)
         have hub:ub < W1.heap.size:=C1.u.lt
         clear C1 hA C
         go_upto_region 23 with (fail)
         generalize (W1.alloc (.cells #[.int .i64 0,.int .i64 0,.int .i64 (m:Int)] 54)) = W2 at *
         generalize W1.heap.size = ab at *
         obtain ⟨X,hX⟩:∃ X,bdF P' m = X:=⟨_,rfl⟩
         go_cut [13,14] from 59 to 95 (fun s13 s14 wx=>s14 = .bool true∧∃ vb,s13 = .pointer (some ⟨vb,0,none⟩)∧Bk wx vb 51 #[.int .i64 X.sl,.int .i64 X.gn,.int .i64 X.tg,.int .i64 X.nm,.bool X.mark]∧CT w w3 wx gp gh sst sn nt (12*j+12) P' xb ub xr (wasF (bdF P) (bdF P') m))
         case first =>
          have HCd:=Lib.hid (HC.out.below (Below.refl W2.heap.size W2).drew)
          have HXd:=Lib.hid (HX.out.belowAll (Below.refl W2.heap.size W2).drew)
          clear HC HX
          refine X2 (fun Z=>Bk Z ab 54 #[.int .i64 0,.int .i64 0,.int .i64 (m:Int)]) 10 (by kernel_rfl) HXd.out (fun hS=>?_)
          generalize W2.drew = W3 at *
          have hA:=(Below.refl W3.heap.size W3).alloc (Nat.le_refl _) (.cells #[.int .i64 0,.int .i64 0,.int .i64 0,.int .i64 0,.bool false] 51)
          have HXa:=Lib.hid (HXd.out.belowAll hA)
          have HCa:=Lib.hid (HCd.out.below hA)
          have HZa:=Lib.hid (Bk.at_ (w:=W3) (g:=W3.heap.size) (cs:=#[.int .i64 0,.int .i64 0,.int .i64 0,.int .i64 0,.bool false]) (t:=51) rfl)
          have habl:ab < W3.heap.size:=HXd.out.lt
          have HA:=Lib.hid hA
          clear hA
          ((try simp only [Act.put,List.setIfInBounds_toArray,List.set_cons_succ,List.set_cons_zero]);refine vT (fuel:=8) hS [0,2] ?_;simp only [Xu,Xj,List.toList_toArray];(repeat (first | go_big_quiet_skip | (go_big_quiet_want;first | (go_big_quiet_op;go_big_quiet_on) | (apply Exists.intro;refine ⟨fun w' hS'=>?_,?_⟩;(· ((have y0:=hS'.cell 0;have y1:=hS'.cell 1;have y2:=hS'.cell 2;simp at y0 y1 y2);go_simp;first | done | rfl | exact ⟨rfl,rfl⟩));go_big_quiet_on;simp only [Act.put,List.setIfInBounds_toArray,List.set_cons_succ,List.set_cons_zero]))));refine wpQuiet_nil ?_;(try dsimp only))
          refine wpT_two (i:=1) (j:=7) rfl rfl (by kernel_rfl) (fun K hK=>?_) (fun K hK=>?_)
          focus (
           have hH:=HCd.out.heap
           go_wp2_with fail
           refine hH.mono ?_
           rintro e W4 ⟨rfl,rfl⟩
           go_wp2_with fail
           refine hK.out _ _ ⟨fun _=>HXd.out,?_⟩
           clear hK hH
           refine wpT_two (i:=3) (j:=7) rfl rfl (by kernel_rfl) (fun K hK=>?_) (fun K hK=>?_)
           focus (
            have hPk:=HCd.out.peek hlt hX
            go_wp2_with fail
            refine hPk.mono ?_
            rintro e W4 ⟨rfl,hb4⟩
            have HC4:=Lib.hid (HCd.out.below hb4)
            have HX4:=Lib.hid (HXd.out.belowAll hb4)
            have hab4:ab < W4.heap.size:=HX4.out.lt
            have hA4:=(Below.refl W4.heap.size W4).alloc (Nat.le_refl _) (.cells #[.int .i64 0,.int .i64 0,.int .i64 0,.int .i64 0,.bool false] 51)
            have HX5:=Lib.hid (HX4.out.belowAll hA4)
            have HZ5:=Lib.hid (Bk.at_ (w:=W4) (g:=W4.heap.size) (cs:=#[.int .i64 0,.int .i64 0,.int .i64 0,.int .i64 0,.bool false]) (t:=51) rfl)
            have HA4:=Lib.hid hA4
            clear HCd HXd hPk hb4 HXa HCa HZa HA hA4
            go_wp2_with fail
            refine hK.out _ _ ⟨fun _=>HX4.out,?_⟩
            clear hK hS
            have hS:=HX4.out
            ((try simp only [Act.put,List.setIfInBounds_toArray,List.set_cons_succ,List.set_cons_zero]);refine vT (fuel:=3) hS [4,5,6] ?_;simp only [Xu,Xj,List.toList_toArray];(repeat (first | go_big_quiet_skip | (go_big_quiet_want;first | (go_big_quiet_op;go_big_quiet_on) | (apply Exists.intro;refine ⟨fun w' hS'=>?_,?_⟩;(· (skip;go_simp;first | done | rfl | exact ⟨rfl,rfl⟩));go_big_quiet_on;simp only [Act.put,List.setIfInBounds_toArray,List.set_cons_succ,List.set_cons_zero]))));refine wpQuiet_nil ?_;(try dsimp only))
            (refine Xh 7 (by kernel_rfl) (fun K hK=>?_);simp only [Xj,List.toList_toArray])
            go_wp2_with fail
            refine hK.out _ _ (fun _=>HX5.out) ?_
            clear hK hS
            (refine Xh 8 (by kernel_rfl) (fun K hK=>?_);simp only [Xj,List.toList_toArray])
            go_wp2_with (refine vM HZ5.out ?_;intro W6 hst;have HV6:=Lib.hid hst.bk;have HX6:=Lib.hid (hst.far HX5.out (by omega));have HC6:=Lib.hid (HC4.out.below (hst.below HA4.out (Nat.le_refl _)));clear hst)
            refine hK.out _ _ (fun _=>HX6.out) ?_
            clear hK
            have hS:=HX6.out
            ((try simp only [Act.put,List.setIfInBounds_toArray,List.set_cons_succ,List.set_cons_zero]);refine vT (fuel:=0) hS [9] ?_;simp only [Xu,Xj,List.toList_toArray];(repeat (first | go_big_quiet_skip | (go_big_quiet_want;first | (go_big_quiet_op;go_big_quiet_on) | (apply Exists.intro;refine ⟨fun w' hS'=>?_,?_⟩;(· (skip;go_simp;first | done | rfl | exact ⟨rfl,rfl⟩));go_big_quiet_on;simp only [Act.put,List.setIfInBounds_toArray,List.set_cons_succ,List.set_cons_zero]))));refine wpQuiet_nil ?_;(try dsimp only))
            refine X9 (by kernel_rfl) ?_ _
            go_wp2_with fail
            go_meet
            case rel=>exact ⟨rfl,_,rfl,HV6.out,HC6.out⟩)
           focus (
            have hPk:=HCa.out.peek hlt hX
            go_wp2_with fail
            refine hK.out _ _ ⟨fun _=>HXa.out,?_⟩
            clear hK hS
            (refine Xh 3 (by kernel_rfl) (fun K hK=>?_);simp only [Xj,List.toList_toArray])
            go_wp2_with fail
            refine hPk.mono ?_
            rintro e W4 ⟨rfl,hb4⟩
            have HX4:=Lib.hid (HXa.out.belowAll hb4)
            have HZ4:=Lib.hid (HZa.out.belowAll hb4)
            have HB4:=Lib.hid (HA.out.trans (hb4.mono HA.out.size))
            clear HXd hPk hb4 HXa HCa HZa HA
            go_wp2_with fail
            refine hK.out _ _ (fun _=>HX4.out) ?_
            clear hK
            have hS:=HX4.out
            ((try simp only [Act.put,List.setIfInBounds_toArray,List.set_cons_succ,List.set_cons_zero]);refine vT (fuel:=2) hS [4,5,6] ?_;simp only [Xu,Xj,List.toList_toArray];(repeat (first | go_big_quiet_skip | (go_big_quiet_want;first | (go_big_quiet_op;go_big_quiet_on) | (apply Exists.intro;refine ⟨fun w' hS'=>?_,?_⟩;(· (skip;go_simp;first | done | rfl | exact ⟨rfl,rfl⟩));go_big_quiet_on;simp only [Act.put,List.setIfInBounds_toArray,List.set_cons_succ,List.set_cons_zero]))));refine wpQuiet_nil ?_;(try dsimp only))
            (refine Xh 8 (by kernel_rfl) (fun K hK=>?_);simp only [Xj,List.toList_toArray])
            go_wp2_with (refine vM HZ4.out ?_;intro W6 hst;have HV6:=Lib.hid hst.bk;have HX6:=Lib.hid (hst.far HX4.out (by omega));have HC6:=Lib.hid (HCd.out.below (hst.below HB4.out (Nat.le_refl _)));clear hst)
            refine hK.out _ _ (fun _=>HX6.out) ?_
            clear hK hS
            have hS:=HX6.out
            ((try simp only [Act.put,List.setIfInBounds_toArray,List.set_cons_succ,List.set_cons_zero]);refine vT (fuel:=0) hS [9] ?_;simp only [Xu,Xj,List.toList_toArray];(repeat (first | go_big_quiet_skip | (go_big_quiet_want;first | (go_big_quiet_op;go_big_quiet_on) | (apply Exists.intro;refine ⟨fun w' hS'=>?_,?_⟩;(· (skip;go_simp;first | done | rfl | exact ⟨rfl,rfl⟩));go_big_quiet_on;simp only [Act.put,List.setIfInBounds_toArray,List.set_cons_succ,List.set_cons_zero]))));refine wpQuiet_nil ?_;(try dsimp only))
            refine X9 (by kernel_rfl) ?_ _
            go_wp2_with fail
            go_meet
            case rel=>exact ⟨rfl,_,rfl,HV6.out,HC6.out⟩))
          focus (
           have hH:=HCa.out.heap
           have hPk:=HCa.out.peek hlt hX
           go_wp2_with fail
           refine hK.out _ _ ⟨fun _=>HXa.out,?_⟩
           clear hK hS
           (refine Xh 1 (by kernel_rfl) (fun K hK=>?_);simp only [Xj,List.toList_toArray])
           go_wp2_with fail
           refine hH.mono ?_
           rintro e W4 ⟨rfl,rfl⟩
           go_wp2_with fail
           refine hK.out _ _ (fun _=>HXa.out) ?_
           clear hK hH
           (refine Xh 3 (by kernel_rfl) (fun K hK=>?_);simp only [Xj,List.toList_toArray])
           go_wp2_with fail
           refine hPk.mono ?_
           rintro e W4 ⟨rfl,hb4⟩
           have HX4:=Lib.hid (HXa.out.belowAll hb4)
           have HZ4:=Lib.hid (HZa.out.belowAll hb4)
           have HB4:=Lib.hid (HA.out.trans (hb4.mono HA.out.size))
           clear HXd hPk hb4 HXa HCa HZa HA
           go_wp2_with fail
           refine hK.out _ _ (fun _=>HX4.out) ?_
           clear hK
           have hS:=HX4.out
           ((try simp only [Act.put,List.setIfInBounds_toArray,List.set_cons_succ,List.set_cons_zero]);refine vT (fuel:=2) hS [4,5,6] ?_;simp only [Xu,Xj,List.toList_toArray];(repeat (first | go_big_quiet_skip | (go_big_quiet_want;first | (go_big_quiet_op;go_big_quiet_on) | (apply Exists.intro;refine ⟨fun w' hS'=>?_,?_⟩;(· (skip;go_simp;first | done | rfl | exact ⟨rfl,rfl⟩));go_big_quiet_on;simp only [Act.put,List.setIfInBounds_toArray,List.set_cons_succ,List.set_cons_zero]))));refine wpQuiet_nil ?_;(try dsimp only))
           (refine Xh 8 (by kernel_rfl) (fun K hK=>?_);simp only [Xj,List.toList_toArray])
           go_wp2_with (refine vM HZ4.out ?_;intro W6 hst;have HV6:=Lib.hid hst.bk;have HX6:=Lib.hid (hst.far HX4.out (by omega));have HC6:=Lib.hid (HCd.out.below (hst.below HB4.out (Nat.le_refl _)));clear hst)
           refine hK.out _ _ (fun _=>HX6.out) ?_
           clear hK hS
           have hS:=HX6.out
           ((try simp only [Act.put,List.setIfInBounds_toArray,List.set_cons_succ,List.set_cons_zero]);refine vT (fuel:=0) hS [9] ?_;simp only [Xu,Xj,List.toList_toArray];(repeat (first | go_big_quiet_skip | (go_big_quiet_want;first | (go_big_quiet_op;go_big_quiet_on) | (apply Exists.intro;refine ⟨fun w' hS'=>?_,?_⟩;(· (skip;go_simp;first | done | rfl | exact ⟨rfl,rfl⟩));go_big_quiet_on;simp only [Act.put,List.setIfInBounds_toArray,List.set_cons_succ,List.set_cons_zero]))));refine wpQuiet_nil ?_;(try dsimp only))
           refine X9 (by kernel_rfl) ?_ _
           go_wp2_with fail
           go_meet
           case rel=>exact ⟨rfl,_,rfl,HV6.out,HC6.out⟩)
         case rest =>
          obtain ⟨rfl,vb,rfl,hvb,hC⟩:=hcut
          go_upto_region 24 with (fail)
          obtain ⟨Y,hY⟩:∃ Y,bdF P m = Y:=⟨_,rfl⟩
          have hky:X = Y∨X.tg = Y.tg+1:=by rw [← hX,← hY];exact HKY.out m hlt
          have HC4:=Lib.hid (hC.below (Below.refl wc.heap.size wc).drew)
          have HV4:=Lib.hid (hvb.belowAll (Below.refl wc.heap.size wc).drew)
          have hw:∀ (i:Nat) (u:Value),Y.l[i]? = some u→wc.drew.cell? ⟨ub,m*5+i,none⟩ = some u:=fun i u hu=>by
           rw [HC4.out.u.cell]
           exact wasR_get _ hlt i u (by rw [wasF_at,hY];exact hu)
          have c0:=hw 0 _ rfl;have c1:=hw 1 _ rfl;have c2:=hw 2 _ rfl;have c3:=hw 3 _ rfl;have c4:=hw 4 _ rfl
          have hcs:=wasR_set (bdF P) (bdF P') hlt
          rw [hX] at hcs
          have HCS:=Lib.hid hcs
          clear hw hcs hC hvb hX hY
          refine X2 (fun Z=>Bk Z vb 51 #[.int .i64 X.sl,.int .i64 X.gn,.int .i64 X.tg,.int .i64 X.nm,.bool X.mark]∧Z.cell? ⟨ub,m*5,none⟩ = some (.int .i64 Y.sl)∧Z.cell? ⟨ub,m*5+1,none⟩ = some (.int .i64 Y.gn)∧Z.cell? ⟨ub,m*5+2,none⟩ = some (.int .i64 Y.tg)∧Z.cell? ⟨ub,m*5+3,none⟩ = some (.int .i64 Y.nm)∧Z.cell? ⟨ub,m*5+4,none⟩ = some (.bool Y.mark)) 18 (by kernel_rfl) ⟨HV4.out,c0,c1,c2,c3,c4⟩ (fun hS=>?_)
          clear c0 c1 c2 c3 c4
          generalize wc.drew = W4 at *
          have z0:=HV4.out.cell 0;have z1:=HV4.out.cell 1;have z2:=HV4.out.cell 2;have z3:=HV4.out.cell 3;have z4:=HV4.out.cell 4
          simp at z0 z1 z2 z3 z4
          rcases hky with rfl | hky
          focus (
           ((try simp only [Act.put,List.setIfInBounds_toArray,List.set_cons_succ,List.set_cons_zero]);refine vT (fuel:=0) hS [0,1,2,3,4,5,6,7,8,9,10,11,12,13,14,15,16,17] ?_;simp only [Xu,Xj,List.toList_toArray];(repeat (first | go_big_quiet_skip | (go_big_quiet_want;first | (go_big_quiet_op;go_big_quiet_on) | (apply Exists.intro;refine ⟨fun w' hS'=>?_,?_⟩;(· ((obtain ⟨hv,d0,d1,d2,d3,d4⟩:=hS';have y0:=hv.cell 0;have y1:=hv.cell 1;have y2:=hv.cell 2;have y3:=hv.cell 3;have y4:=hv.cell 4;simp at y0 y1 y2 y3 y4);go_simp;first | done | rfl | exact ⟨rfl,rfl⟩));go_big_quiet_on;simp only [Act.put,List.setIfInBounds_toArray,List.set_cons_succ,List.set_cons_zero]))));refine wpQuiet_nil ?_;(try dsimp only))
           refine X9 (by kernel_rfl) ?_ _)
          rotate_left 1
          focus (
           have hne:¬ X.tg = Y.tg:=(by omega)
           have hle:¬ X.tg≤Y.tg:=(by omega)
           clear hky
           ((try simp only [Act.put,List.setIfInBounds_toArray,List.set_cons_succ,List.set_cons_zero]);refine vT (fuel:=0) hS [0,1,2,3,4,5,6,7,8,9,10,11,12,13,14,15,16,17] ?_;simp only [Xu,Xj,List.toList_toArray];(repeat (first | go_big_quiet_skip | (go_big_quiet_want;first | (go_big_quiet_op;go_big_quiet_on) | (apply Exists.intro;refine ⟨fun w' hS'=>?_,?_⟩;(· ((obtain ⟨hv,d0,d1,d2,d3,d4⟩:=hS';have y0:=hv.cell 0;have y1:=hv.cell 1;have y2:=hv.cell 2;have y3:=hv.cell 3;have y4:=hv.cell 4;simp at y0 y1 y2 y3 y4);go_simp;first | done | rfl | exact ⟨rfl,rfl⟩));go_big_quiet_on;simp only [Act.put,List.setIfInBounds_toArray,List.set_cons_succ,List.set_cons_zero]))));refine wpQuiet_nil ?_;(try dsimp only))
           refine X9 (by kernel_rfl) ?_ _)
          all_goals (
           clear hS
           go_wp2_with (refine Ym (by rfl) _ _ _ (by rfl) ub (m*5) _ (by rfl) (by rfl) _ _ (wasR (wasF (bdF P) (bdF P') (m+1))) HC4.out.u (by rw [wasR_size];show m*5+5≤120;omega) (by kernel_rfl) (by rfl) (by exact HCS.out) ?_;intro W5 hst;have HC6:=Lib.hid (HC4.out.store hst);clear hst)
           exact ⟨⟨m+1,hlt,by go_num,HC6⟩,by simp [intOf];omega⟩)
        ·have hme:m = 24:=by omega
         subst hme
         have HCn:Hid (CT w w3 wr gp gh sst sn nt (12*(j+1)) P' xb ub xr (bdF P')):=Lib.hid ((C.out.conv (wasR_all _ (bdF P'))).up (by omega))
         clear C
         go_wp2_with fail
         exact ⟨⟨j+1,P',hlj,by go_num,HCn,HT'⟩,by simp [intOf];omega⟩
      ·have hje:j = pn:=by omega
       subst hje
       have hlj':¬ (j:Int) < (j:Int):=by omega
       go_wp2_with fail
       go_ret
       exact ⟨rfl,C.out.out⟩
end Go.Proofs.YtaipogljokblkaaGreatDoor
