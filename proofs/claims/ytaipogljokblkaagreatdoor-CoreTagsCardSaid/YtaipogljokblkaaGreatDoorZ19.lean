/- Core: RG, RH, RI, CRk, RJ. -/
import Derived.Test.YtaipogljokblkaaGreatDoorZ18
import Derived.Deep.Cut
import Derived.Test.YtaipogljokblkaaGreatDoorZ17
import Derived.Test.YtaipogljokblkaaGreatDoorZ08
import Derived.Test.YtaipogljokblkaaGreatDoorZ09
set_option linter.all false
set_option maxRecDepth 100000
set_option maxHeartbeats 8000000
namespace Go.Proofs.YtaipogljokblkaaGreatDoor
open Go Go.RowKit
set_option linter.unusedSimpArgs false
set_option linter.unusedVariables false
set_option linter.unusedSectionVars false
theorem set45 (R:Xa) (u:GSl):R.l.toArray.setIfInBounds 45 u.v = ({ R with doomed:=u }:Xa).l.toArray:=by kernel_rfl
theorem RB.doom {w:World} {g:Nat} {R:Xa} {ns ds ds':List Xp} {ss:List Xf} (h:RB w g R ns ds ss) {u:GSl} (ho:Own w 201 7 u.v ds'.length (rows Xp.l ds'))
  (gu:u.v.ownBlock≠some g) (nu:∀ b,R.notes.v.ownBlock = some b→u.v.ownBlock≠some b) (su:∀ b,u.v.ownBlock = some b→R.seen.v.ownBlock≠some b) :
  RB (w.setCell ⟨g,45,none⟩ u.v) g { R with doomed:=u } ns ds' ss∧Chg [g] w (w.setCell ⟨g,45,none⟩ u.v):=by
 have hg2:=Xq w g 45 u.v
 exact ⟨⟨by rw [← set45];exact h.bk.set_ 45 u.v,h.on.grown hg2 (Or.inr h.gn),ho.grown hg2 (Or.inr gu),h.os.grown hg2 (Or.inr h.gs),h.gn,gu,h.gs,nu,h.ns,su⟩,
  Chg.of_grown (b:=0) hg2 fun b e=>by injection e with e;simp [e]⟩
theorem sift_end {w w1 w2 w3:World} {g:Nat} {R:Xa} {ns ds ds':List Xp} {ss:List Xf} {u:GSl} {e:Ending} (h:RB w g R ns ds ss) (hb:Below w.heap.size w w1) (hf:∀ b,u.v.ownBlock = some b→w.heap.size≤b) (hc:Chg [g] w1 w2)
  (hr:RetR w2 g (Yc g { R with doomed:=u }) (.tuple #[]) (MR.reap ⟨{ R with doomed:=u },ns,ds',ss⟩) e w3) (he:MR.sift ⟨R,ns,ds,ss⟩ = MR.reap ⟨R,ns,ds',ss⟩):RetR w g (Yc g R) (.tuple #[]) (MR.sift ⟨R,ns,ds,ss⟩) e w3:=by
 rw [he]
 have h1:RetR w2 g (Yc g { R with doomed:=u }) (.tuple #[]) (MR.reap ⟨R,ns,ds',ss⟩) e w3:=by
  cases ds' with
  | nil=>exact hr
  | cons d r=>exact hr
 refine RetR.after ((Chg.of_below hb).trans (chg_g hc (Xk.2 (Or.inl rfl)))) (fun x hx=>?_) h1
 rcases Xk.1 hx with h2 | h2 | h2 | h2
 ·exact Or.inl (Xk.2 (Or.inl h2))
 ·exact Or.inl (Xk.2 (Or.inr (Or.inl h2)))
 ·exact Or.inr (hf x h2)
 ·exact Or.inl (Xk.2 (Or.inr (Or.inr (Or.inr h2))))
theorem sift2_any (w:World) (g:Nat) (R:Xa) (ns ds:List Xp) (ss:List Xf) (h:RB w g R ns ds ss) (ht:Thr R) (hl:ns.length≤100000) (hk:ss.length≤1000) (he:R.engine = 2) :
  Calls Tryz.prog 97 #[.pointer (some ⟨g,0,none⟩)] w (RetR w g (Yc g R) (.tuple #[]) (MR.sift ⟨R,ns,ds,ss⟩)):=by
 obtain ⟨_,c44,_,c46,c98⟩:=rcells h.bk
 obtain ⟨sa,sc,es,_⟩:=Yq h.os
 obtain ⟨na,nc,en,_⟩:=Yq h.on
 have hsS:Sl w w.heap.size 5 sa ss.length (rows Xf.l ss):=Sl.of_own2 (es ▸ h.os)
 have hsN:Sl w w.heap.size 7 na ns.length (rows Xp.l ns):=Sl.of_own2 (en ▸ h.on)
 have HH:=Lib.hid h
 have hgl:=h.bk.lt
 have HM:Hid (MR.sift ⟨R,ns,ds,ss⟩ = MR.reap ⟨R,ns,ns.filter fun n=>!slotKept ss n,ss⟩):=Lib.hid (by unfold MR.sift MR.stays;simp only [he];rfl)
 have HL:(ns.filter fun n=>!slotKept ss n).length≤100000:=Nat.le_trans (List.length_filter_le _ _) hl
 have HLH:=Lib.hid HL
 rw [he] at c46
 rw [en] at c98
 rw [es] at c44
 have HS:=Lib.hid (And.intro hsS hsN)
 have HES:=Lib.hid (And.intro es en)
 clear h es en HL hsS hsN
 go_enter Tryz.func97,Tryz.ntmps97
 go_upto_region 2 with (fail)
 refine X2 (fun w'=>w'.cell? ⟨g,98,none⟩ = some (.slice na ns.length nc)∧w'.cell? ⟨g,44,none⟩ = some (.slice sa ss.length sc)) 18 (by kernel_rfl) ⟨c98,c44⟩ (fun hS=>?_)
 have hd0:Below w.heap.size w w.drew:=(Below.refl _ _).drew
 have H1:=Lib.hid (slots_any ns na nc ss sa sc w.drew (HS.out.2.up hd0) hl (HS.out.1.up hd0) (by omega))
 clear c98 c44 c46 HS
 ((try simp only [Act.put,List.setIfInBounds_toArray,List.set_cons_succ,List.set_cons_zero]);refine vT (fuel:=8) hS [0,1,2,3,4,5,6,7,8,9] ?_;simp only [Xu,Xj,List.toList_toArray];(repeat (first | go_big_quiet_skip | (go_big_quiet_want;first | (go_big_quiet_op;go_big_quiet_on) | (apply Exists.intro;refine ⟨fun w' hS'=>?_,?_⟩;(· (obtain ⟨c98,c44⟩:=hS';go_simp;first | done | rfl | exact ⟨rfl,rfl⟩));go_big_quiet_on;simp only [Act.put,List.setIfInBounds_toArray,List.set_cons_succ,List.set_cons_zero]))));refine wpQuiet_nil ?_;(try dsimp only))
 (refine Xh 10 (by kernel_rfl) (fun K hK=>?_);simp only [Xj,List.toList_toArray])
 go_wp2_with fail
 refine H1.out.mono ?_
 rintro e w3 ⟨v,u,rfl,o1,o2,hb,f1,f2,f3⟩
 (generalize (ns.filter fun n=>!slotKept ss n) = fs at *;obtain ⟨va,vc,rfl,_⟩:=Yq o1;have hb:Below w.heap.size w w3:=hd0.trans hb;have RBW:=HH.out.chg (F:=[]) (Chg.of_below hb) (fun _ _=>List.not_mem_nil);have HD:=Lib.hid (RBW.doom (u:=⟨va,fs.length,vc⟩) o1 (fun e=>by have:=f1 g e;have h2:w.heap.size≤g:=this;omega) (fun b h1 h2=>by have h3:w.heap.size≤b:=f1 b h2;have:=HH.out.on.lt h1;omega) (fun b h1 h2=>by have h3:w.heap.size≤b:=f1 b h1;have:=HH.out.os.lt h2;omega));have HF:Hid (∀ b,(GSl.v ⟨va,fs.length,vc⟩).ownBlock = some b→w.heap.size≤b):=Lib.hid f1;have HB:=Lib.hid hb;have c45:=RBW.bk.cell 45;have f45:=RBW.bk.free 45;rw [show R.l.toArray[45]? = some R.doomed.v from by kernel_rfl] at c45;have c98:=rcell RBW.bk 98 _ (show _ = some R.notes.v by kernel_rfl);have c44:=rcell RBW.bk 44 _ (show _ = some R.seen.v by kernel_rfl);have c41:=rcell RBW.bk 41 _ (show _ = some (.int .i64 R.clock.nm) by kernel_rfl);rw [HES.out.2] at c98;rw [HES.out.1] at c44)
 clear o1 o2 f1 f2 f3 hb RBW H1
 go_wp2_with fail
 refine hK.out _ _ (fun _=>⟨c98,c44⟩) ?_
 clear hK hS
 have hS:=And.intro c98 c44
 ((try simp only [Act.put,List.setIfInBounds_toArray,List.set_cons_succ,List.set_cons_zero]);refine vT (fuel:=1) hS [11,12,13,14,15,16] ?_;simp only [Xu,Xj,List.toList_toArray];(repeat (first | go_big_quiet_skip | (go_big_quiet_want;first | (go_big_quiet_op;go_big_quiet_on) | (apply Exists.intro;refine ⟨fun w' hS'=>?_,?_⟩;(· (skip;go_simp;first | done | rfl | exact ⟨rfl,rfl⟩));go_big_quiet_on;simp only [Act.put,List.setIfInBounds_toArray,List.set_cons_succ,List.set_cons_zero]))));refine wpQuiet_nil ?_;(try dsimp only))
 (refine Xh 17 (by kernel_rfl) (fun K hK=>?_);simp only [Xj,List.toList_toArray])
 go_wp2_with fail
 refine hK.out _ _ (fun _=>⟨rcell HD.out.1.bk 98 _ (by rw [← HES.out.2];kernel_rfl),rcell HD.out.1.bk 44 _ (by rw [← HES.out.1];kernel_rfl)⟩) ?_
 clear hK hS c98 c44 c41 c45 f45
 refine X9 (by kernel_rfl) ?_ _
 (go_wp2_with fail;(refine (reap_any _ g _ ns fs ss HD.out.1 ht HLH.out).mono ?_;intro e w5 hr;have HR:=Lib.hid (sift_end HH.out HB.out HF.out HD.out.2 hr HM.out);have he0:=Lib.hid hr.1;obtain rfl:=hr.1;clear hr;go_wp2_with fail;go_end0;exact HR.out))
theorem sift4_any (w:World) (g:Nat) (R:Xa) (ns ds:List Xp) (ss:List Xf) (h:RB w g R ns ds ss) (ht:Thr R) (hl:ns.length≤100000) (hk:ss.length≤1000) (he:R.engine = 4) :
  Calls Tryz.prog 97 #[.pointer (some ⟨g,0,none⟩)] w (RetR w g (Yc g R) (.tuple #[]) (MR.sift ⟨R,ns,ds,ss⟩)):=by
 (obtain ⟨c41,c44,_,c46,c98⟩:=rcells h.bk;obtain ⟨sa,sc,es,_⟩:=Yq h.os;obtain ⟨na,nc,en,_⟩:=Yq h.on;have hsS:Sl w w.heap.size 5 sa ss.length (rows Xf.l ss):=Sl.of_own2 (es ▸ h.os);have hsN:Sl w w.heap.size 7 na ns.length (rows Xp.l ns):=Sl.of_own2 (en ▸ h.on);have HH:=Lib.hid h;have hgl:=h.bk.lt;have HM:Hid (MR.sift ⟨R,ns,ds,ss⟩ = MR.reap ⟨R,ns,ns.filter fun n=>!epochKept R.clock.nm n,ss⟩):=Lib.hid (by unfold MR.sift MR.stays;simp only [he];rfl);have HLH:Hid ((ns.filter fun n=>!epochKept R.clock.nm n).length≤100000):=Lib.hid (Nat.le_trans (List.length_filter_le _ _) hl);rw [he] at c46;rw [en] at c98;rw [es] at c44;have HS:=Lib.hid (And.intro hsS hsN);have HES:=Lib.hid (And.intro es en);clear h es en hsS hsN)
 go_enter Tryz.func97,Tryz.ntmps97
 go_upto_region 14 with (fail)
 refine X2 (fun w'=>w'.cell? ⟨g,98,none⟩ = some (.slice na ns.length nc)∧w'.cell? ⟨g,41,none⟩ = some (.int .i64 R.clock.nm)) 19 (by kernel_rfl) ⟨c98,c41⟩ (fun hS=>?_)
 have hd0:Below w.heap.size w w.drew:=(Below.refl _ _).drew
 have H1:=Lib.hid (epochs_any ns na nc R.clock.nm w.drew (HS.out.2.up hd0) hl)
 clear c98 c44 c46 c41 HS
 ((try simp only [Act.put,List.setIfInBounds_toArray,List.set_cons_succ,List.set_cons_zero]);refine vT (fuel:=8) hS [0,1,2,3,4,5,6,7,8,9,10] ?_;simp only [Xu,Xj,List.toList_toArray];(repeat (first | go_big_quiet_skip | (go_big_quiet_want;first | (go_big_quiet_op;go_big_quiet_on) | (apply Exists.intro;refine ⟨fun w' hS'=>?_,?_⟩;(· (obtain ⟨c98,c41⟩:=hS';go_simp;first | done | rfl | exact ⟨rfl,rfl⟩));go_big_quiet_on;simp only [Act.put,List.setIfInBounds_toArray,List.set_cons_succ,List.set_cons_zero]))));refine wpQuiet_nil ?_;(try dsimp only))
 (refine Xh 11 (by kernel_rfl) (fun K hK=>?_);simp only [Xj,List.toList_toArray])
 go_wp2_with fail
 refine H1.out.mono ?_
 rintro e w3 ⟨v,u,rfl,o1,o2,hb,f1,f2,f3⟩
 (generalize (ns.filter fun n=>!epochKept R.clock.nm n) = fs at *;obtain ⟨va,vc,rfl,_⟩:=Yq o1;have hb:Below w.heap.size w w3:=hd0.trans hb;have RBW:=HH.out.chg (F:=[]) (Chg.of_below hb) (fun _ _=>List.not_mem_nil);have HD:=Lib.hid (RBW.doom (u:=⟨va,fs.length,vc⟩) o1 (fun e=>by have:=f1 g e;have h2:w.heap.size≤g:=this;omega) (fun b h1 h2=>by have h3:w.heap.size≤b:=f1 b h2;have:=HH.out.on.lt h1;omega) (fun b h1 h2=>by have h3:w.heap.size≤b:=f1 b h1;have:=HH.out.os.lt h2;omega));have HF:Hid (∀ b,(GSl.v ⟨va,fs.length,vc⟩).ownBlock = some b→w.heap.size≤b):=Lib.hid f1;have HB:=Lib.hid hb;have c45:=RBW.bk.cell 45;have f45:=RBW.bk.free 45;rw [show R.l.toArray[45]? = some R.doomed.v from by kernel_rfl] at c45;have c98:=rcell RBW.bk 98 _ (show _ = some R.notes.v by kernel_rfl);have c44:=rcell RBW.bk 44 _ (show _ = some R.seen.v by kernel_rfl);have c41:=rcell RBW.bk 41 _ (show _ = some (.int .i64 R.clock.nm) by kernel_rfl);rw [HES.out.2] at c98;rw [HES.out.1] at c44)
 clear o1 o2 f1 f2 f3 hb RBW H1
 go_wp2_with fail
 refine hK.out _ _ (fun _=>⟨c98,c41⟩) ?_
 clear hK hS
 have hS:=And.intro c98 c41
 ((try simp only [Act.put,List.setIfInBounds_toArray,List.set_cons_succ,List.set_cons_zero]);refine vT (fuel:=1) hS [12,13,14,15,16,17] ?_;simp only [Xu,Xj,List.toList_toArray];(repeat (first | go_big_quiet_skip | (go_big_quiet_want;first | (go_big_quiet_op;go_big_quiet_on) | (apply Exists.intro;refine ⟨fun w' hS'=>?_,?_⟩;(· (skip;go_simp;first | done | rfl | exact ⟨rfl,rfl⟩));go_big_quiet_on;simp only [Act.put,List.setIfInBounds_toArray,List.set_cons_succ,List.set_cons_zero]))));refine wpQuiet_nil ?_;(try dsimp only))
 (refine Xh 18 (by kernel_rfl) (fun K hK=>?_);simp only [Xj,List.toList_toArray])
 go_wp2_with fail
 refine hK.out _ _ (fun _=>⟨rcell HD.out.1.bk 98 _ (by rw [← HES.out.2];kernel_rfl),rcell HD.out.1.bk 41 _ (by kernel_rfl)⟩) ?_
 clear hK hS c98 c44 c41 c45 f45
 refine X9 (by kernel_rfl) ?_ _
 (go_wp2_with fail;(refine (reap_any _ g _ ns fs ss HD.out.1 ht HLH.out).mono ?_;intro e w5 hr;have HR:=Lib.hid (sift_end HH.out HB.out HF.out HD.out.2 hr HM.out);have he0:=Lib.hid hr.1;obtain rfl:=hr.1;clear hr;go_wp2_with fail;go_end0;exact HR.out))
theorem sift5_any (w:World) (g:Nat) (R:Xa) (ns ds:List Xp) (ss:List Xf) (h:RB w g R ns ds ss) (ht:Thr R) (hl:ns.length≤100000) (hk:ss.length≤1000) (he:R.engine = 5) :
  Calls Tryz.prog 97 #[.pointer (some ⟨g,0,none⟩)] w (RetR w g (Yc g R) (.tuple #[]) (MR.sift ⟨R,ns,ds,ss⟩)):=by
 (obtain ⟨c41,c44,_,c46,c98⟩:=rcells h.bk;obtain ⟨sa,sc,es,_⟩:=Yq h.os;obtain ⟨na,nc,en,_⟩:=Yq h.on;have hsS:Sl w w.heap.size 5 sa ss.length (rows Xf.l ss):=Sl.of_own2 (es ▸ h.os);have hsN:Sl w w.heap.size 7 na ns.length (rows Xp.l ns):=Sl.of_own2 (en ▸ h.on);have HH:=Lib.hid h;have hgl:=h.bk.lt;have HM:Hid (MR.sift ⟨R,ns,ds,ss⟩ = MR.reap ⟨R,ns,ns.filter fun n=>!spansKept (ss.map hear) n,ss⟩):=Lib.hid (by unfold MR.sift MR.stays;simp only [he];rfl);have HLH:Hid ((ns.filter fun n=>!spansKept (ss.map hear) n).length≤100000):=Lib.hid (Nat.le_trans (List.length_filter_le _ _) hl);rw [he] at c46;rw [en] at c98;rw [es] at c44;have HS:=Lib.hid (And.intro hsS hsN);have HES:=Lib.hid (And.intro es en);clear h es en hsS hsN)
 go_enter Tryz.func97,Tryz.ntmps97
 go_upto_region 12 with (fail)
 refine X2 (fun w'=>w'.cell? ⟨g,98,none⟩ = some (.slice na ns.length nc)) 15 (by kernel_rfl) c98 (fun hS=>?_)
 have hd0:Below w.heap.size w w.drew:=(Below.refl _ _).drew
 have H0:=Lib.hid (spansOf_any w.drew g R ns ds ss (HH.out.chg (F:=[]) (Chg.of_below hd0) (fun _ _=>List.not_mem_nil)) hk)
 have hmz:(ss.map hear).length≤100000:=by simp;omega
 have HMZ:=Lib.hid hmz
 generalize ss.map hear = sp at *
 clear c98 c44 c46 c41 hmz
 ((try simp only [Act.put,List.setIfInBounds_toArray,List.set_cons_succ,List.set_cons_zero]);refine vT (fuel:=9) hS [0,1,2,3,4,5] ?_;simp only [Xu,Xj,List.toList_toArray];(repeat (first | go_big_quiet_skip | (go_big_quiet_want;first | (go_big_quiet_op;go_big_quiet_on) | (apply Exists.intro;refine ⟨fun w' hS'=>?_,?_⟩;(· (have c98:=hS';go_simp;first | done | rfl | exact ⟨rfl,rfl⟩));go_big_quiet_on;simp only [Act.put,List.setIfInBounds_toArray,List.set_cons_succ,List.set_cons_zero]))));refine wpQuiet_nil ?_;(try dsimp only))
 (refine Xh 6 (by kernel_rfl) (fun K hK=>?_);simp only [Xj,List.toList_toArray])
 go_wp2_with fail
 refine H0.out.mono ?_
 rintro e w2 ⟨v,rfl,os,hb0,fs0⟩
 obtain ⟨pa,pc,rfl,_⟩:=Yq os
 have hd0:Below w.heap.size w w2:=hd0.trans hb0
 have hsp:Sl w2 w2.heap.size 3 pa sp.length (rows GSpan.l sp):=Sl.of_own2 os
 have H1:=Lib.hid (spans_any ns na nc sp pa pc w2 (HS.out.2.up hd0) hl hsp HMZ.out)
 have hS2:w2.cell? ⟨g,98,none⟩ = some (.slice na ns.length nc):=(rcell ((HH.out.chg (F:=[]) (Chg.of_below hd0) (fun _ _=>List.not_mem_nil)).bk) 98 _ (by rw [← HES.out.2];kernel_rfl))
 clear os hb0 fs0 hsp H0 HS
 go_wp2_with fail
 refine hK.out _ _ (fun _=>hS2) ?_
 clear hK hS
 have hS:=hS2
 (refine Xh 7 (by kernel_rfl) (fun K hK=>?_);simp only [Xj,List.toList_toArray])
 go_wp2_with fail
 refine H1.out.mono ?_
 rintro e w3 ⟨v,u,rfl,o1,o2,hb,f1,f2,f3⟩
 have hzz:=hd0.size
 have f1:∀ b,v.ownBlock = some b→w.heap.size≤b:=fun b h=>Nat.le_trans hzz (f1 b h)
 have hb:Below w.heap.size w2 w3:=hb.mono hzz
 (generalize (ns.filter fun n=>!spansKept sp n) = fs at *;obtain ⟨va,vc,rfl,_⟩:=Yq o1;have hb:Below w.heap.size w w3:=hd0.trans hb;have RBW:=HH.out.chg (F:=[]) (Chg.of_below hb) (fun _ _=>List.not_mem_nil);have HD:=Lib.hid (RBW.doom (u:=⟨va,fs.length,vc⟩) o1 (fun e=>by have:=f1 g e;have h2:w.heap.size≤g:=this;omega) (fun b h1 h2=>by have h3:w.heap.size≤b:=f1 b h2;have:=HH.out.on.lt h1;omega) (fun b h1 h2=>by have h3:w.heap.size≤b:=f1 b h1;have:=HH.out.os.lt h2;omega));have HF:Hid (∀ b,(GSl.v ⟨va,fs.length,vc⟩).ownBlock = some b→w.heap.size≤b):=Lib.hid f1;have HB:=Lib.hid hb;have c45:=RBW.bk.cell 45;have f45:=RBW.bk.free 45;rw [show R.l.toArray[45]? = some R.doomed.v from by kernel_rfl] at c45;have c98:=rcell RBW.bk 98 _ (show _ = some R.notes.v by kernel_rfl);have c44:=rcell RBW.bk 44 _ (show _ = some R.seen.v by kernel_rfl);have c41:=rcell RBW.bk 41 _ (show _ = some (.int .i64 R.clock.nm) by kernel_rfl);rw [HES.out.2] at c98;rw [HES.out.1] at c44)
 clear o1 o2 f1 f2 f3 hb RBW H1
 go_wp2_with fail
 refine hK.out _ _ (fun _=>c98) ?_
 clear hK hS
 have hS:=c98
 ((try simp only [Act.put,List.setIfInBounds_toArray,List.set_cons_succ,List.set_cons_zero]);refine vT (fuel:=1) hS [8,9,10,11,12,13] ?_;simp only [Xu,Xj,List.toList_toArray];(repeat (first | go_big_quiet_skip | (go_big_quiet_want;first | (go_big_quiet_op;go_big_quiet_on) | (apply Exists.intro;refine ⟨fun w' hS'=>?_,?_⟩;(· (skip;go_simp;first | done | rfl | exact ⟨rfl,rfl⟩));go_big_quiet_on;simp only [Act.put,List.setIfInBounds_toArray,List.set_cons_succ,List.set_cons_zero]))));refine wpQuiet_nil ?_;(try dsimp only))
 (refine Xh 14 (by kernel_rfl) (fun K hK=>?_);simp only [Xj,List.toList_toArray])
 go_wp2_with fail
 refine hK.out _ _ (fun _=>rcell HD.out.1.bk 98 _ (by rw [← HES.out.2];kernel_rfl)) ?_
 clear hK hS c98 c44 c41 c45 f45
 refine X9 (by kernel_rfl) ?_ _
 (go_wp2_with fail;(refine (reap_any _ g _ ns fs ss HD.out.1 ht HLH.out).mono ?_;intro e w5 hr;have HR:=Lib.hid (sift_end HH.out HB.out HF.out HD.out.2 hr HM.out);have he0:=Lib.hid hr.1;obtain rfl:=hr.1;clear hr;go_wp2_with fail;go_end0;exact HR.out))
theorem rows_int (l:List Int):rows (fun n=>[Value.int .i64 n]) l = icells l:=by
 induction l with
 | nil=>rfl
 | cons a l ih=>rw [rows_cons,ih];rfl
theorem own_eras_append (w:World) (v:Value) (l:List Int) (h:Own w 3 1 v l.length (icells l)) (hl:l.length≤100000) (x:Int) (b:Nat) (hb:Bk w b 3 #[.int .i64 x]) (t:TypeId) :
  ∃ v' w',(Builtin.append_ #[45,45] t #[v,.slice (some ⟨b,0,none⟩) 1 1]).run Tryz.prog w = .ok v' w' ∧
   Own w' 3 1 v' (l++[x]).length (icells (l++[x]))∧w.grownBy w' v.ownBlock∧Fresh w v v':=by
 have h1:=own_rows_append (f:=fun n:Int=>[Value.int .i64 n]) (sz:=1) (E:=3) (fun _=>rfl) (fun x u hu=>by rw [List.mem_singleton.1 hu];rfl) Tryz.underlying45 infoInt rfl (by decide) (by decide) w v l (by rw [rows_int];exact h) hl x b hb t
 rw [rows_int] at h1
 exact h1
theorem sift3_any (w:World) (g:Nat) (R:Xa) (ns ds:List Xp) (ss:List Xf) (h:RB w g R ns ds ss) (ht:Thr R) (hl:ns.length≤100000) (hk:ss.length≤1000) (he:R.engine = 3) :
  Calls Tryz.prog 97 #[.pointer (some ⟨g,0,none⟩)] w (RetR w g (Yc g R) (.tuple #[]) (MR.sift ⟨R,ns,ds,ss⟩)):=by
 (obtain ⟨c41,c44,_,c46,c98⟩:=rcells h.bk;obtain ⟨sa,sc,es,_⟩:=Yq h.os;obtain ⟨na,nc,en,_⟩:=Yq h.on;have hsS:Sl w w.heap.size 5 sa ss.length (rows Xf.l ss):=Sl.of_own2 (es ▸ h.os);have hsN:Sl w w.heap.size 7 na ns.length (rows Xp.l ns):=Sl.of_own2 (en ▸ h.on);have HH:=Lib.hid h;have hgl:=h.bk.lt;have HM:Hid (MR.sift ⟨R,ns,ds,ss⟩ = MR.reap ⟨R,ns,ns.filter fun n=>!erasKept (ss.map (·.nm)) n,ss⟩):=Lib.hid (by unfold MR.sift MR.stays;simp only [he];rfl);have HLH:Hid ((ns.filter fun n=>!erasKept (ss.map (·.nm)) n).length≤100000):=Lib.hid (Nat.le_trans (List.length_filter_le _ _) hl);rw [he] at c46;rw [en] at c98;rw [es] at c44;have HS:=Lib.hid (And.intro hsS hsN);have HES:=Lib.hid (And.intro es en);clear h es en hsS hsN)
 go_enter Tryz.func97,Tryz.ntmps97
 go_wp2_with fail
 go_loopw [2,36] (fun v i wr=>∃ k:Nat,k≤ss.length∧i = .int .i64 k∧Below w.heap.size w wr ∧
   Own wr 3 1 v ((ss.take k).map (·.nm)).length (icells ((ss.take k).map (·.nm)))∧(∀ b,v.ownBlock = some b→w.heap.size≤b)) (fun _ i _=>ss.length - (intOf i).toNat)
 case atStart=>exact ⟨0,Nat.zero_le _,rfl,Below.refl _ _,Own.nil,by simp [Value.ownBlock]⟩
 case round =>
  obtain ⟨k,hkl,rfl,hB,ho,h3⟩:=hrel
  have hz:=hB.size
  by_cases hlt:k < ss.length
  ·obtain ⟨b,off,rfl,hbb,hr⟩:=(HS.out.1.below hB).row wlen k hlt
   obtain ⟨q0,q1,q2,q3,q4⟩:=range5 hr
   have X1:Bk (wr.alloc (.cells #[.int .i64 0,.int .i64 0,.int .i64 0,.int .i64 0,.bool false] 51)) wr.heap.size 51 #[.int .i64 0,.int .i64 0,.int .i64 0,.int .i64 0,.bool false]:=Bk.at_ rfl
   have hB2:=hB.alloc hB.size (.cells #[.int .i64 0,.int .i64 0,.int .i64 0,.int .i64 0,.bool false] 51)
   have o3:=ho.alloc (.cells #[.int .i64 0,.int .i64 0,.int .i64 0,.int .i64 0,.bool false] 51)
   have lt3:∀ b,u2.ownBlock = some b→b < wr.heap.size:=fun b hb=>ho.lt hb
   clear ho hr
   go_wp2_with (first | (at_builtin;refine Ya (by rfl) _ _ _ _ _ _ _ (by rfl) (by rfl) (by rfl) HR.out ?_) | (refine vM X1 ?_;intro w2 hst;have r0:=hst.bk.cell 0;have r3:=hst.bk.cell 3;simp at r0 r3;have hB3:=hst.below hB2 hz;have o33:=(o3.grown hst.grown (by cases h0:u2.ownBlock with | none=>exact Or.inl rfl | some b=>exact Or.inr (fun e=>by have:=lt3 b h0;cases e;omega)));obtain ⟨v',w5,hrun,ho,hg,hfr⟩:=own_eras_append (w2.alloc (.cells #[.int .i64 ss[k].nm] 3)) u2 ((ss.take k).map (·.nm)) (o33.alloc _) (by simp;omega) ss[k].nm w2.heap.size (Bk.at_ rfl) 45;rw [← map_take (f:=fun x:Xf=>x.nm) hlt] at ho;have HR:=Lib.hid hrun;have HO:=Lib.hid (And.intro ho (And.intro hg hfr));clear ho hg hfr hrun))
   obtain ⟨ho,hg,hfr⟩:=HO.out
   have z2:=hst.size
   simp at z2
   have hB4:=(hB3.alloc hB3.size (.cells #[.int .i64 ss[k].nm] 3))
   have hB5:Below w.heap.size w w5:=hB4.grown hg hB4.size (fun b e=>h3 b e)
   go_roundw
   case rel=>exact ⟨k+1,by omega,by go_num,hB5,ho,fun b hb=>(hfr b hb).elim (h3 b) (fun h=>by simp at h;omega)⟩
   case measure=>simp [intOf];omega
  ·have hke:k = ss.length:=by omega
   subst hke
   rw [List.take_length] at ho
   obtain ⟨ea,ec,rfl,_⟩:=Yq ho
   have hse:Sl wr wr.heap.size 1 ea (ss.map (·.nm)).length (icells (ss.map (·.nm))):=Sl.of_own2 ho
   have hmz:(ss.map (·.nm)).length≤100000:=by simp;omega
   have HMZ:=Lib.hid hmz
   have cB:=(rcell ((HH.out.chg (F:=[]) (Chg.of_below hB) (fun _ _=>List.not_mem_nil)).bk) 98 _ (show _ = some R.notes.v by kernel_rfl))
   rw [HES.out.2] at cB
   have H1:=Lib.hid (eras_any ns na nc (ss.map (·.nm)) ea ec wr (HS.out.2.up hB) hl hse hmz)
   have hd0:=hB
   clear ho hse hmz HS
   generalize ss.map (·.nm) = sp at *
   have F1:Hid (g < wr.heap.size):=Lib.hid (by omega)
   go_wp2_with (refine H1.out.mono ?_;rintro e w3 ⟨v,u,rfl,o1,o2,hb,f1,f2,f3⟩;have f1:∀ b,v.ownBlock = some b→w.heap.size≤b:=(fun b h=>Nat.le_trans hz (f1 b h));have hb:Below w.heap.size wr w3:=(hb.mono hz);(generalize (ns.filter fun n=>!erasKept sp n) = fs at *;obtain ⟨va,vc,rfl,_⟩:=Yq o1;have hb:Below w.heap.size w w3:=hd0.trans hb;have RBW:=HH.out.chg (F:=[]) (Chg.of_below hb) (fun _ _=>List.not_mem_nil);have HD:=Lib.hid (RBW.doom (u:=⟨va,fs.length,vc⟩) o1 (fun e=>by have:=f1 g e;have h2:w.heap.size≤g:=this;omega) (fun b h1 h2=>by have h3:w.heap.size≤b:=f1 b h2;have:=HH.out.on.lt h1;omega) (fun b h1 h2=>by have h3:w.heap.size≤b:=f1 b h1;have:=HH.out.os.lt h2;omega));have HF:Hid (∀ b,(GSl.v ⟨va,fs.length,vc⟩).ownBlock = some b→w.heap.size≤b):=Lib.hid f1;have HB:=Lib.hid hb;have c45:=RBW.bk.cell 45;have f45:=RBW.bk.free 45;rw [show R.l.toArray[45]? = some R.doomed.v from by kernel_rfl] at c45;have c98:=rcell RBW.bk 98 _ (show _ = some R.notes.v by kernel_rfl);have c44:=rcell RBW.bk 44 _ (show _ = some R.seen.v by kernel_rfl);have c41:=rcell RBW.bk 41 _ (show _ = some (.int .i64 R.clock.nm) by kernel_rfl);rw [HES.out.2] at c98;rw [HES.out.1] at c44);clear o1 o2 f1 f2 f3 hb RBW H1)
   (refine (reap_any _ g _ ns fs ss HD.out.1 ht HLH.out).mono ?_;intro e w5 hr;have HR:=Lib.hid (sift_end HH.out HB.out HF.out HD.out.2 hr HM.out);have he0:=Lib.hid hr.1;obtain rfl:=hr.1;clear hr;go_wp2_with fail;go_end0;exact HR.out)
def rlook_env (R:Xa) (n:Int):Env:=mkV [R.ii,[n]] [R.bb] [R.seen.v,R.doomed.v,R.notes.v] (Yk rfl)
def rlook_st:St:=⟨[],[(1,171,(ct [vs 0 8,[.bool (.var 0)],vs 8 4,[.bool (.var 1)],vs 12 13,[.bool (.var 2)],vs 25 4,[.bool (.var 3)],vs 29 4,[.bool (.var 4)],vs 33 4,[.bool (.var 5),.int (.var 37),.raw 0,.raw 1],vs 38 8,[.bool (.var 6)],vs 46 4,[.bool (.var 7)],vs 50 4,[.bool (.var 8)],vs 54 4,[.bool (.var 9)],vs 58 4,[.bool (.var 10)],vs 62 4,[.bool (.var 11)],vs 66 4,[.bool (.var 12)],vs 70 4,[.bool (.var 13)],vs 74 4,[.bool (.var 14),.bool (.var 15),.int (.var 78),.int (.var 79),.raw 2],vs 80 5,[.bool (.var 16),.bool (.var 17)]]))],[(.le (.lit 0) (.var 85),true),(.lt (.var 85) (.lit 0),false),(.le (.lit 0) (.quo (.var 85) 9),true),(.lt (.quo (.var 85) 9) (.lit 6),true),(.lt (.rem (.var 85) 9) (.lit 0),false),(.le (.lit 9) (.rem (.var 85) 9),false)],10,0⟩
def rlook_args:List SV:=[.c (.ptr 1 0),.c (.int (.var 85))]
theorem rlook_any (R:Xa) (n:Int) (g1:Nat) (w:World) (h1:Bk w g1 171 (R.l).toArray) (hn0:0≤n) (hq0:0≤IntKind.i64.wrap (Int.tdiv n 9)) (hq1:IntKind.i64.wrap (Int.tdiv n 9) < 6) (hr0:0≤Int.tmod n 9) (hr1:Int.tmod n 9 < 9) (ht:R.threads≤6):Calls Tryz.prog 96 #[.pointer (some ⟨g1,0,none⟩),.int .i64 n] w fun en w'=>en = .returned (.bool (Xa.look R n).2)∧Bk w' g1 171 ((Xa.look R n).1.l).toArray∧Chg [g1] w w':=by
 refine p1 (rlook_env R n) [] 120 rlook_st rlook_args (Xa.look R n) (fun r=>(.bool r.2,(r.1.l).toArray)) Xd (asC (decide_eq_true hn0) (asC (decide_eq_false (Int.not_lt.mpr hn0)) (asC (decide_eq_true hq0) (asC (decide_eq_true hq1) (asC (decide_eq_false (Int.not_lt.mpr hr0)) (asC (decide_eq_false (Int.not_le.mpr hr1)) asN)))))) h1 ?_
 have e6:¬ R.threads≤n→n < 6:=by omega
 refine po_eq (show _ = (bif R.keeping then (bif decide (wr (R.threads*9)≤n) then (R,false) else (Xa.load { R with index:=n } 13 ⟨0,0,wr (wr (25+wr (wr (Int.tdiv n 9)*9))+Int.tmod n 9)⟩,true)) else bif decide (R.threads≤n) then (R,false) else bif !decide (n < 6) then (R,false) else (Xa.load { R with index:=n } 13 ⟨0,0,wr (79+n)⟩,true)) by
  unfold Xa.look
  by_cases h:R.threads≤n
  ·simp only [decide_eq_true h,cond_true]
  ·simp only [decide_eq_false h,decide_eq_true (e6 h),cond_false,Bool.not_true]) ?_
 exact vS9
def rlookE_env (R:Xa) (n:Int):Env:=mkV [R.ii,[n]] [R.bb] [R.seen.v,R.doomed.v,R.notes.v] (Yk rfl)
def rlookE_st:St:=⟨[],[(1,171,(ct [vs 0 8,[.bool (.var 0)],vs 8 4,[.bool (.var 1)],vs 12 13,[.bool (.var 2)],vs 25 4,[.bool (.var 3)],vs 29 4,[.bool (.var 4)],vs 33 4,[.bool (.var 5),.int (.var 37),.raw 0,.raw 1],vs 38 8,[.bool (.var 6)],vs 46 4,[.bool (.var 7)],vs 50 4,[.bool (.var 8)],vs 54 4,[.bool (.var 9)],vs 58 4,[.bool (.var 10)],vs 62 4,[.bool (.var 11)],vs 66 4,[.bool (.var 12)],vs 70 4,[.bool (.var 13)],vs 74 4,[.bool (.var 14),.bool (.var 15),.int (.var 78),.int (.var 79),.raw 2],vs 80 5,[.bool (.var 16),.bool (.var 17)]]))],[(.le (.mul (.var 40) (.lit 9)) (.var 85),true),(.le (.var 40) (.var 85),true)],10,0⟩
def rlookE_args:List SV:=[.c (.ptr 1 0),.c (.int (.var 85))]
theorem rlookE_any (R:Xa) (n:Int) (g1:Nat) (w:World) (h1:Bk w g1 171 (R.l).toArray) (hn0:IntKind.i64.wrap (R.threads*9)≤n) (hn1:R.threads≤n):Calls Tryz.prog 96 #[.pointer (some ⟨g1,0,none⟩),.int .i64 n] w fun en w'=>en = .returned (.bool ((R,false)).2)∧Bk w' g1 171 (((R,false)).1.l).toArray∧Chg [g1] w w':=by
 refine p1 (rlookE_env R n) [] 120 rlookE_st rlookE_args ((R,false)) (fun r=>(.bool r.2,(r.1.l).toArray)) Xd (asC (decide_eq_true hn0) (asC (decide_eq_true hn1) asN)) h1 ?_
 exact vS9
theorem sift_any (w:World) (g:Nat) (R:Xa) (ns ds:List Xp) (ss:List Xf) (h:RB w g R ns ds ss) (ht:Thr R) (hl:ns.length≤100000) (hk:ss.length≤1000) (he:R.engine = 2∨R.engine = 3∨R.engine = 4∨R.engine = 5) :
  Calls Tryz.prog 97 #[.pointer (some ⟨g,0,none⟩)] w (RetR w g (Yc g R) (.tuple #[]) (MR.sift ⟨R,ns,ds,ss⟩)):=by
 rcases he with he | he | he | he
 ·exact sift2_any w g R ns ds ss h ht hl hk he
 ·exact sift3_any w g R ns ds ss h ht hl hk he
 ·exact sift4_any w g R ns ds ss h ht hl hk he
 ·exact sift5_any w g R ns ds ss h ht hl hk he
theorem tookScan15_any (w:World) (g:Nat) (R:Xa) (ns ds:List Xp) (ss:List Xf) (x:Xi) (h:RB w g R ns ds ss) (ht:Thr R) (hl:ns.length≤100000) (hk:ss.length≤1000) (he:R.engine = 2∨R.engine = 3∨R.engine = 4∨R.engine = 5) (hs:R.step = 15) :
  Calls Tryz.prog 81 #[.pointer (some ⟨g,0,none⟩),.agg x.l.toArray] w (RetR w g (Yc g R) (.tuple #[]) (MR.took ⟨R,ns,ds,ss⟩ x)):=by
 (have c18:=cell18 h.bk;rw [hs] at c18;obtain ⟨⟨x0,x1,x2,x3,x4⟩,x5⟩:=x;show Calls Tryz.prog 81 #[.pointer (some ⟨g,0,none⟩),.agg #[.int .i64 x0,.int .i64 x1,.int .i64 x2,.int .i64 x3,.bool x4,.bool x5]] w _;have HH:=Lib.hid (h.chg (w':=(w.alloc (.cells #[.int .i64 x0,.int .i64 x1,.int .i64 x2,.int .i64 x3,.bool x4,.bool x5] 108))) (F:=[]) (Chg.of_below ((Below.refl _ _).alloc (Nat.le_refl _) _)) (fun _ _=>List.not_mem_nil));have HC:Hid (Chg [] w (w.alloc (.cells #[.int .i64 x0,.int .i64 x1,.int .i64 x2,.int .i64 x3,.bool x4,.bool x5] 108))):=Lib.hid (Chg.of_below ((Below.refl _ _).alloc (Nat.le_refl _) _));have X0:Bk (w.alloc (.cells #[.int .i64 x0,.int .i64 x1,.int .i64 x2,.int .i64 x3,.bool x4,.bool x5] 108)) w.heap.size 108 #[.int .i64 x0,.int .i64 x1,.int .i64 x2,.int .i64 x3,.bool x4,.bool x5]:=Bk.at_ rfl;have hgl:=h.bk.lt;have H0:=Lib.hid h;clear h)
 have HM:Hid (MR.took ⟨R,ns,ds,ss⟩ ⟨⟨x0,x1,x2,x3,x4⟩,x5⟩ = MR.sift ⟨{ R with clock:=⟨x0,x1,x2,x3,x4⟩ },ns,ds,ss⟩):=Lib.hid (by unfold MR.took;simp only [hs];rfl)
 go_enter Tryz.func81,Tryz.ntmps81
 go_wp2_with (refine Ym (by rfl) _ _ _ (by rfl) g 38 _ (by rfl) (by rfl) _ _ ({ R with clock:=⟨x0,x1,x2,x3,x4⟩ }:Xa).l.toArray HH.out.bk (Nat.le_of_ble_eq_true (by kernel_rfl)) (by kernel_rfl) (by rfl) (by kernel_rfl) ?_;intro w2 hst)
 have hc2:Chg [g] (w.alloc (.cells #[.int .i64 x0,.int .i64 x1,.int .i64 x2,.int .i64 x3,.bool x4,.bool x5] 108)) w2:=Chg.of_grown (b:=0) hst.grown (fun b e=>by injection e with e;simp [e])
 refine (sift_any w2 g { R with clock:=⟨x0,x1,x2,x3,x4⟩ } ns ds ss (HH.out.upd hst.bk hc2 rfl (Or.inl ⟨rfl,rfl⟩) (Or.inl ⟨rfl,rfl⟩)) ht hl hk he).mono ?_
 intro e w5 hr
 have HR:Hid (RetR w g (Yc g R) (.tuple #[]) (MR.took ⟨R,ns,ds,ss⟩ ⟨⟨x0,x1,x2,x3,x4⟩,x5⟩) e w5):=Lib.hid (by
  rw [HM.out]
  exact RetR.after ((HC.out.mono (fun x hx=>by cases hx)).trans (chg_g hc2 (Xk.2 (Or.inl rfl)))) (fun x hx=>Or.inl hx) hr)
 obtain rfl:=hr.1
 clear hr hc2 hst HH HC H0
 go_wp2_with fail
 go_end0
 exact HR.out
end Go.Proofs.YtaipogljokblkaaGreatDoor
