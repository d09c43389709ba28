/- Core: VT. -/
import Derived.Test.YtaipogljokblkaaGreatDoorZ37
import Derived.Test.YtaipogljokblkaaGreatDoorZ15
import Derived.Test.YtaipogljokblkaaGreatDoorZ17
set_option linter.all false
set_option maxRecDepth 100000
set_option maxHeartbeats 8000000
namespace Go.Proofs.YtaipogljokblkaaGreatDoor
open Go Go.RowKit
set_option linter.unusedSimpArgs false
set_option linter.unusedVariables false
set_option linter.unusedSectionVars false
theorem ph_do1 {wb:World} {gh:Nat} {p p':Pl} {w:World} {F:Nat→Prop} {x:Xi} (h:PH wb gh p w F) (ok:PlOk p) (a:GAcc) (hv:p.valid a = true) (he:p.act a = (p',x)) :
  Calls Tryz.prog 42 #[.pointer (some ⟨gh,0,none⟩),.agg a.l.toArray] w fun en w'=>en = .returned (.tuple #[.agg x.l.toArray,.nilIface])∧ChgP F w w'∧∃ F':Nat→Prop,PH wb gh p' w' F'∧∀ b,F' b→F b∨w.heap.size≤b:=by
 refine (ph_do h ok a hv he ⟨fun _ w F=>PH wb gh p' w F,fun _ _ _ _ h hs=>h.keep hs⟩ 0 fun w F h=>h).mono fun en w' hq=>?_
 obtain ⟨p1,O⟩:=hq
 obtain ⟨F',q1,q2,q3⟩:=O.fin
 exact ⟨p1,⟨O.os,O.tape,O.output,O.size,fun b hb hf=>O.frm b hb (by simp) hf⟩,F',q1,q2⟩
theorem alloc_c {wb:World} {gh:Nat} {p p':Pl} {w:World} {F:Nat→Prop} {x:Xf} (h:PH wb gh p w F) (ok:PlOk p) (he:p.act Pl.alloc0 = (p',⟨x,true⟩)) :
  Calls Tryz.prog 42 #[.pointer (some ⟨gh,0,none⟩),.agg #[.int .i64 4,.int .i64 0,.int .i64 0,.int .i64 0,.int .i64 0,.int .i64 0,.int .i64 0,.int .i64 0,.bool false,.int .i64 0,.int .i64 0,.int .i64 0,.int .i64 0,.bool false]] w fun en w'=>en = .returned (.tuple #[.agg #[.int .i64 x.sl,.int .i64 x.gn,.int .i64 x.tg,.int .i64 x.nm,.bool x.mark,.bool true],.nilIface])∧ChgP F w w'∧∃ F':Nat→Prop,PH wb gh p' w' F'∧∀ b,F' b→F b∨w.heap.size≤b :=
 ph_do1 h ok Pl.alloc0 rfl he
theorem store_c {wb:World} {gh:Nat} {p:Pl} {w:World} {F:Nat→Prop} (fd sl gn nm:Int) (h:PH wb gh p w F) (ok:PlOk p) (h0:0≤fd) (h1:fd < (p.nb:Int)) :
  Calls Tryz.prog 42 #[.pointer (some ⟨gh,0,none⟩),.agg #[.int .i64 2,.int .i64 0,.int .i64 0,.int .i64 fd,.int .i64 0,.int .i64 0,.int .i64 0,.int .i64 0,.bool false,.int .i64 sl,.int .i64 gn,.int .i64 0,.int .i64 nm,.bool false]] w fun en w'=>en = .returned (.tuple #[.agg #[.int .i64 0,.int .i64 0,.int .i64 0,.int .i64 0,.bool false,.bool true],.nilIface])∧ChgP F w w'∧∃ F':Nat→Prop,PH wb gh (p.stored fd ⟨sl,gn,0,nm,false⟩) w' F'∧∀ b,F' b→F b∨w.heap.size≤b :=
 ph_do1 h ok (Pl.store fd ⟨sl,gn,0,nm,false⟩) (Pl.valid_store _ _ _ h0 h1) (Pl.act_store _ _ _)
theorem chgP_seq {F F1:Nat→Prop} {w w1 w2:World} (h:ChgP F w w1) (h1:ChgP F1 w1 w2) (hs:∀ b,F1 b→F b∨w.heap.size≤b):ChgP F w w2 :=
 ⟨h1.os.trans h.os,h1.tape.trans h.tape,h1.output.trans h.output,Nat.le_trans h.size h1.size,fun b hb hf=>(h1.far b (Nat.lt_of_lt_of_le hb h.size) fun hx=>(hs b hx).elim hf fun h=>by omega).trans (h.far b hb hf)⟩
theorem chgP_below {F:Nat→Prop} {w w1:World} (h:Below w.heap.size w w1):ChgP F w w1:=⟨h.os,h.tape,h.output,h.size,fun b hb _=>h.block b hb⟩
def layK (p1:Pl) (x:Xf) (k:Nat):Pl:=match k with
 | 0=>p1
 | 1=>p1.stored 0 (wref x)
 | _=>(p1.stored 0 (wref x)).stored 1 (wref x)
theorem ref_c (x:Xf) (w:World):Calls Tryz.prog 67 #[.agg #[.int .i64 x.sl,.int .i64 x.gn,.int .i64 x.tg,.int .i64 x.nm,.bool x.mark]] w fun en w'=>en = .returned (.agg #[.int .i64 x.sl,.int .i64 x.gn,.int .i64 0,.int .i64 0,.bool false])∧Chg [] w w':=ref_any x w
structure LY (wb w:World) (F:Nat→Prop) (gh:Nat) (x:Xf) (bx:Nat) (q:Pl) (F':Nat→Prop) (W:World):Prop where
 h:PH wb gh q W F'
 b:Bk W bx 108 #[.int .i64 x.sl,.int .i64 x.gn,.int .i64 x.tg,.int .i64 x.nm,.bool x.mark,.bool true]
 n:¬ F' bx
 a:∀ b,F' b→F b∨w.heap.size≤b
 c:ChgP F w W
 x:w.heap.size≤bx
structure BX (w:World) (bx:Nat) (F':Nat→Prop) (g:Nat) (W:World):Prop where
 b:Bk W g 108 #[.int .i64 0,.int .i64 0,.int .i64 0,.int .i64 0,.bool false,.bool false]
 n:¬ F' g
 ne:g≠bx
 x:w.heap.size≤g
section
variable {wb w W W':World} {F F' F2:Nat→Prop} {gh bx g:Nat} {x:Xf} {q q':Pl}
theorem LY.below (h:LY wb w F gh x bx q F' W) (hb:Below W.heap.size W W'):LY wb w F gh x bx q F' W' :=
 ⟨h.h.keep fun b hx=>hb.block b (h.h.lt b hx),h.b.belowAll hb,h.n,h.a,chgP_seq h.c (chgP_below (F:=fun _=>False) hb) (fun _ h=>h.elim),h.x⟩
theorem BX.below (h:BX w bx F' g W) (hb:Below W.heap.size W W'):BX w bx F' g W':=⟨h.b.belowAll hb,h.n,h.ne,h.x⟩
theorem LY.do_ (h:LY wb w F gh x bx q F' W) (c:ChgP F' W W') (p:PH wb gh q' W' F2) (a:∀ b,F2 b→F' b∨W.heap.size≤b):LY wb w F gh x bx q' F2 W':=by
 have hz:=h.c.size
 refine ⟨p,h.b.same (c.far bx h.b.lt h.n),fun hx=>(a bx hx).elim h.n fun hx=>by have:=h.b.lt;omega,fun b hb=>(a b hb).elim (h.a b) fun hx=>Or.inr (by omega),chgP_seq h.c c h.a,h.x⟩
theorem BX.do_ (h:BX w bx F' g W) (c:ChgP F' W W') (a:∀ b,F2 b→F' b∨W.heap.size≤b):BX w bx F2 g W' :=
 ⟨h.b.same (c.far g h.b.lt h.n),fun hx=>(a g hx).elim h.n fun hx=>by have:=h.b.lt;omega,h.ne,h.x⟩
theorem BX.new (h:LY wb w F gh x bx q F' W):BX w bx F' W.heap.size (W.alloc (.cells #[.int .i64 0,.int .i64 0,.int .i64 0,.int .i64 0,.bool false,.bool false] 108)) :=
 ⟨Bk.at_ rfl,fun hx=>by have:=h.h.lt _ hx;omega,by have:=h.b.lt;omega,h.c.size⟩
theorem LY.stored {t:TypeId} {cs:Array Value} (h:LY wb w F gh x bx q F' W) (hx:BX w bx F' g W) (hst:Stored W g t cs W'):LY wb w F gh x bx q F' W' :=
 ⟨h.h.keep fun b hb=>hst.grown.block b (h.h.lt b hb) (fun e=>by cases e;exact hx.n hb),h.b.grown hst.grown (fun e=>by cases e;exact hx.ne rfl),h.n,h.a,
  ⟨hst.grown.os.trans h.c.os,hst.grown.tape.trans h.c.tape,hst.grown.output.trans h.c.output,Nat.le_trans h.c.size hst.grown.size,fun b hb hf=>(hst.grown.block b (Nat.lt_of_lt_of_le hb h.c.size) (fun e=>by cases e;have:=hx.x;omega)).trans (h.c.far b hb hf)⟩,h.x⟩
end
theorem cortLay_mem {wb:World} {gh:Nat} {p:Pl} {w:World} {F:Nat→Prop} (h:PH wb gh p w F) (ok:PlOk p) (hnb:24≤p.nb) {l:List Int} {n:Int} (hf:p.free = l++[n]) :
  Calls Tryz.prog 45 #[.pointer (some ⟨gh,0,none⟩)] w (EPost0 ⟨fun _ w F=>PH wb gh p.layCort w F,fun _ _ _ _ h hs=>h.keep hs⟩ 0 F .nilIface w):=by
 obtain ⟨ok1,nb1,e1⟩:=ok.alloc hf
 have e0:p.act Pl.alloc0 = ((p.act Pl.alloc0).1,⟨(p.act Pl.alloc0).2.word,true⟩):=Prod.ext rfl e1
 have el:p.layCort = ((p.act Pl.alloc0).1.stored 0 (wref (p.act Pl.alloc0).2.word)).stored 1 (wref (p.act Pl.alloc0).2.word):=rfl
 rw [el]
 clear el e1
 generalize (p.act Pl.alloc0).1 = p1 at *
 generalize (p.act Pl.alloc0).2.word = x at *
 have hq:=alloc_c h ok e0
 have hL:=h.lt
 go_enter Tryz.func45,Tryz.ntmps45
 go_wp2_with fail
 refine hq.mono ?_
 rintro e w1 ⟨rfl,c1,F1,P1,a1⟩
 have hL1:=P1.lt
 have HP1:=Lib.hid P1
 have HC1:=Lib.hid c1
 have X1:Bk (w1.alloc (.cells #[.int .i64 0,.int .i64 0,.int .i64 0,.int .i64 0,.bool false,.bool false] 108)) w1.heap.size 108 #[.int .i64 0,.int .i64 0,.int .i64 0,.int .i64 0,.bool false,.bool false]:=Bk.at_ rfl
 have hB2:=(Below.refl w1.heap.size w1).alloc (Nat.le_refl _) (.cells #[.int .i64 0,.int .i64 0,.int .i64 0,.int .i64 0,.bool false,.bool false] 108)
 clear P1 c1 hq h
 go_wp2_with (refine vM X1 ?_;intro w2 hst;have r0:=hst.bk.cell 0;have r1:=hst.bk.cell 1;have r2:=hst.bk.cell 2;have r3:=hst.bk.cell 3;have r4:=hst.bk.cell 4;have r5:=hst.bk.cell 5;simp at r0 r1 r2 r3 r4 r5)
 have HL0:Hid (LY wb w F gh x w1.heap.size (layK p1 x 0) F1 w2):=Lib.hid ⟨HP1.out.keep fun b hb=>(hst.grown.block b (by have:=hL1 b hb;have:=hB2.size;omega) (fun e=>by cases e;have:=hL1 _ hb;omega)).trans (hB2.block b (hL1 b hb)),hst.bk,fun h=>by have:=hL1 _ h;omega,a1,chgP_seq (chgP_seq HC1.out (chgP_below (F:=fun _=>False) hB2) (fun _ h=>h.elim)) (F1:=fun b=>b = w1.heap.size) ⟨hst.grown.os,hst.grown.tape,hst.grown.output,hst.grown.size,fun b hb hf=>hst.grown.block b hb (fun e=>hf (by cases e;rfl))⟩ (fun b e=>by rw [e];exact Or.inr HC1.out.size),HC1.out.size⟩
 clear HP1 HC1 X1 hB2 hst r0 r1 r2 r3 r4 r5 hL1 a1
 generalize w1.heap.size = bx at *
 go_loopw [27] (fun i wr=>∃ (k:Nat) (F':Nat→Prop),((k = 0∧i = .int .i64 0)∨(k = 1∧i = .int .i64 1)∨(k = 2∧i = .int .i64 2))∧LY wb w F gh x bx (layK p1 x k) F' wr) (fun i _=>2 - (intOf i).toNat)
 case atStart=>exact ⟨0,_,Or.inl ⟨rfl,rfl⟩,HL0.out⟩
 case round =>
  obtain ⟨k,F2,hk,hl⟩:=hrel
  have HL:=Lib.hid hl
  clear hl HL0
  have hix0:∀ w,(Instr.index 162 (.agg #[.int .i64 0,.int .i64 1]) (.int .i64 0)).run Tryz.prog w = .ok (.int .i64 0) w:=fun w=>by kernel_rfl
  have hix1:∀ w,(Instr.index 162 (.agg #[.int .i64 0,.int .i64 1]) (.int .i64 1)).run Tryz.prog w = .ok (.int .i64 1) w:=fun w=>by kernel_rfl
  rcases hk with ⟨rfl,rfl⟩ | ⟨rfl,rfl⟩ | ⟨rfl,rfl⟩
  ·go_upto_region 11 with (fail)
   refine X2 (fun w'=>Bk w' bx 108 #[.int .i64 x.sl,.int .i64 x.gn,.int .i64 x.tg,.int .i64 x.nm,.bool x.mark,.bool true]) 14 (by kernel_rfl) HL.out.b.drew (fun hS=>?_)
   replace HL:=Lib.hid (HL.out.below (Below.refl _ _).drew)
   generalize World.drew _ = w0 at *
   ((try simp only [Act.put,List.setIfInBounds_toArray,List.set_cons_succ,List.set_cons_zero]);refine vT (fuel:=10) hS [0,1,3,4] ?_;simp only [Xu,Xj,List.toList_toArray];(repeat (first | go_big_quiet_skip | (go_big_quiet_want;first | (go_big_quiet_op;go_big_quiet_on) | (apply Exists.intro;refine ⟨fun w' hS'=>?_,?_⟩;(· ((have q0:=hS'.cell 0;have q1:=hS'.cell 1;have q2:=hS'.cell 2;have q3:=hS'.cell 3;have q4:=hS'.cell 4;simp at q0 q1 q2 q3 q4);go_simp;first | done | rfl | exact ⟨rfl,rfl⟩));go_big_quiet_on;simp only [Act.put,List.setIfInBounds_toArray,List.set_cons_succ,List.set_cons_zero]))));refine wpQuiet_nil ?_;(try dsimp only))
   refine wpT_two (i:=2) (j:=11) rfl rfl (by kernel_rfl) (fun K hK=>?_) (fun K hK=>?_)
   ·go_wp2_with fail
    refine (croot0_any _).mono ?_
    rintro e w3 ⟨rfl,hc⟩
    replace HL:=Lib.hid (HL.out.below hc.below)
    clear hc hS
    go_wp2_with fail
    refine hK.out _ _ ⟨fun _=>HL.out.b,?_⟩
    clear hK
    have hS:=HL.out.b
    refine wpT_two (i:=5) (j:=11) rfl rfl (by kernel_rfl) (fun K hK=>?_) (fun K hK=>?_)
    ·go_wp2_with fail
     refine (ref_c x _).mono ?_
     rintro e w3 ⟨rfl,hc⟩
     replace HL:=Lib.hid (HL.out.below hc.below)
     clear hc hS
     go_wp2_with fail
     refine hK.out _ _ ⟨fun _=>HL.out.b,?_⟩
     clear hK
     have hS:=HL.out.b
     ((try simp only [Act.put,List.setIfInBounds_toArray,List.set_cons_succ,List.set_cons_zero]);refine vT (fuel:=7) hS [6] ?_;simp only [Xu,Xj,List.toList_toArray];(repeat (first | go_big_quiet_skip | (go_big_quiet_want;first | (go_big_quiet_op;go_big_quiet_on) | (apply Exists.intro;refine ⟨fun w' hS'=>?_,?_⟩;(· (skip;go_simp;first | done | rfl | exact ⟨rfl,rfl⟩));go_big_quiet_on;simp only [Act.put,List.setIfInBounds_toArray,List.set_cons_succ,List.set_cons_zero]))));refine wpQuiet_nil ?_;(try dsimp only))
     refine wpT_two (i:=7) (j:=11) rfl rfl (by kernel_rfl) (fun K hK=>?_) (fun K hK=>?_)
     ·go_wp2_with fail
      refine (store_c 0 x.sl x.gn 0 HL.out.h ok1 (by decide) (by show (0:Int) < ((p1.nb:Nat):Int);omega)).mono ?_
      rintro e w4 ⟨rfl,c4,F4,P4,a4⟩
      replace HL:=Lib.hid (HL.out.do_ c4 P4 a4)
      clear c4 P4 a4 hS
      go_wp2_with fail
      refine hK.out _ _ ⟨fun _=>HL.out.b,?_⟩
      clear hK
      have hS:=HL.out.b
      ((try simp only [Act.put,List.setIfInBounds_toArray,List.set_cons_succ,List.set_cons_zero]);refine vT (fuel:=3) hS [8,9,10] ?_;simp only [Xu,Xj,List.toList_toArray];(repeat (first | go_big_quiet_skip | (go_big_quiet_want;first | (go_big_quiet_op;go_big_quiet_on) | (apply Exists.intro;refine ⟨fun w' hS'=>?_,?_⟩;(· (skip;go_simp;first | done | rfl | exact ⟨rfl,rfl⟩));go_big_quiet_on;simp only [Act.put,List.setIfInBounds_toArray,List.set_cons_succ,List.set_cons_zero]))));refine wpQuiet_nil ?_;(try dsimp only))
      (refine Xh 11 (by kernel_rfl) (fun K hK=>?_);simp only [Xj,List.toList_toArray])
      go_wp2_with fail
      have HX:=Lib.hid (BX.new HL.out)
      replace HL:=Lib.hid (HL.out.below ((Below.refl _ _).alloc (Nat.le_refl _) (.cells #[.int .i64 0,.int .i64 0,.int .i64 0,.int .i64 0,.bool false,.bool false] 108)))
      clear hS
      refine hK.out _ _ (fun _=>HL.out.b) ?_
      clear hK
      have hS:=HL.out.b
      (refine Xh 12 (by kernel_rfl) (fun K hK=>?_);simp only [Xj,List.toList_toArray])
      go_wp2_with (refine vM HX.out.b ?_;intro w5 hst)
      replace HL:=Lib.hid (HL.out.stored HX.out hst)
      clear HX hst hS
      refine hK.out _ _ (fun _=>HL.out.b) ?_
      clear hK
      have hS:=HL.out.b
      ((try simp only [Act.put,List.setIfInBounds_toArray,List.set_cons_succ,List.set_cons_zero]);refine vT (fuel:=0) hS [13] ?_;simp only [Xu,Xj,List.toList_toArray];(repeat (first | go_big_quiet_skip | (go_big_quiet_want;first | (go_big_quiet_op;go_big_quiet_on) | (apply Exists.intro;refine ⟨fun w' hS'=>?_,?_⟩;(· (skip;go_simp;first | done | rfl | exact ⟨rfl,rfl⟩));go_big_quiet_on;simp only [Act.put,List.setIfInBounds_toArray,List.set_cons_succ,List.set_cons_zero]))));refine wpQuiet_nil ?_;(try dsimp only))
      refine X9 (by kernel_rfl) ?_ _
      have r0:=HL.out.b.cell 0
      clear hS
      go_wp2_with fail
      exact ⟨⟨1,F4,Or.inr (Or.inl ⟨rfl,rfl⟩),HL.out⟩,by decide⟩
     ·go_wp2_with fail
      have HX:=Lib.hid (BX.new HL.out)
      replace HL:=Lib.hid (HL.out.below ((Below.refl _ _).alloc (Nat.le_refl _) (.cells #[.int .i64 0,.int .i64 0,.int .i64 0,.int .i64 0,.bool false,.bool false] 108)))
      clear hS
      refine hK.out _ _ ⟨fun _=>HL.out.b,?_⟩
      clear hK
      have hS:=HL.out.b
      (refine Xh 7 (by kernel_rfl) (fun K hK=>?_);simp only [Xj,List.toList_toArray])
      go_wp2_with fail
      refine (store_c 0 x.sl x.gn 0 HL.out.h ok1 (by decide) (by show (0:Int) < ((p1.nb:Nat):Int);omega)).mono ?_
      rintro e w4 ⟨rfl,c4,F4,P4,a4⟩
      replace HX:=Lib.hid (HX.out.do_ c4 a4)
      replace HL:=Lib.hid (HL.out.do_ c4 P4 a4)
      clear c4 P4 a4 hS
      go_wp2_with fail
      refine hK.out _ _ (fun _=>HL.out.b) ?_
      clear hK
      have hS:=HL.out.b
      ((try simp only [Act.put,List.setIfInBounds_toArray,List.set_cons_succ,List.set_cons_zero]);refine vT (fuel:=2) hS [8,9,10] ?_;simp only [Xu,Xj,List.toList_toArray];(repeat (first | go_big_quiet_skip | (go_big_quiet_want;first | (go_big_quiet_op;go_big_quiet_on) | (apply Exists.intro;refine ⟨fun w' hS'=>?_,?_⟩;(· (skip;go_simp;first | done | rfl | exact ⟨rfl,rfl⟩));go_big_quiet_on;simp only [Act.put,List.setIfInBounds_toArray,List.set_cons_succ,List.set_cons_zero]))));refine wpQuiet_nil ?_;(try dsimp only))
      (refine Xh 12 (by kernel_rfl) (fun K hK=>?_);simp only [Xj,List.toList_toArray])
      go_wp2_with (refine vM HX.out.b ?_;intro w5 hst)
      replace HL:=Lib.hid (HL.out.stored HX.out hst)
      clear HX hst hS
      refine hK.out _ _ (fun _=>HL.out.b) ?_
      clear hK
      have hS:=HL.out.b
      ((try simp only [Act.put,List.setIfInBounds_toArray,List.set_cons_succ,List.set_cons_zero]);refine vT (fuel:=0) hS [13] ?_;simp only [Xu,Xj,List.toList_toArray];(repeat (first | go_big_quiet_skip | (go_big_quiet_want;first | (go_big_quiet_op;go_big_quiet_on) | (apply Exists.intro;refine ⟨fun w' hS'=>?_,?_⟩;(· (skip;go_simp;first | done | rfl | exact ⟨rfl,rfl⟩));go_big_quiet_on;simp only [Act.put,List.setIfInBounds_toArray,List.set_cons_succ,List.set_cons_zero]))));refine wpQuiet_nil ?_;(try dsimp only))
      refine X9 (by kernel_rfl) ?_ _
      have r0:=HL.out.b.cell 0
      clear hS
      go_wp2_with fail
      exact ⟨⟨1,F4,Or.inr (Or.inl ⟨rfl,rfl⟩),HL.out⟩,by decide⟩
    ·go_wp2_with fail
     have HX:=Lib.hid (BX.new HL.out)
     replace HL:=Lib.hid (HL.out.below ((Below.refl _ _).alloc (Nat.le_refl _) (.cells #[.int .i64 0,.int .i64 0,.int .i64 0,.int .i64 0,.bool false,.bool false] 108)))
     clear hS
     refine hK.out _ _ ⟨fun _=>HL.out.b,?_⟩
     clear hK
     have hS:=HL.out.b
     (refine Xh 5 (by kernel_rfl) (fun K hK=>?_);simp only [Xj,List.toList_toArray])
     go_wp2_with fail
     refine (ref_c x _).mono ?_
     rintro e w3 ⟨rfl,hc⟩
     replace HX:=Lib.hid (HX.out.below hc.below)
     replace HL:=Lib.hid (HL.out.below hc.below)
     clear hc hS
     go_wp2_with fail
     refine hK.out _ _ (fun _=>HL.out.b) ?_
     clear hK
     have hS:=HL.out.b
     ((try simp only [Act.put,List.setIfInBounds_toArray,List.set_cons_succ,List.set_cons_zero]);refine vT (fuel:=6) hS [6] ?_;simp only [Xu,Xj,List.toList_toArray];(repeat (first | go_big_quiet_skip | (go_big_quiet_want;first | (go_big_quiet_op;go_big_quiet_on) | (apply Exists.intro;refine ⟨fun w' hS'=>?_,?_⟩;(· (skip;go_simp;first | done | rfl | exact ⟨rfl,rfl⟩));go_big_quiet_on;simp only [Act.put,List.setIfInBounds_toArray,List.set_cons_succ,List.set_cons_zero]))));refine wpQuiet_nil ?_;(try dsimp only))
     (refine Xh 7 (by kernel_rfl) (fun K hK=>?_);simp only [Xj,List.toList_toArray])
     go_wp2_with fail
     refine (store_c 0 x.sl x.gn 0 HL.out.h ok1 (by decide) (by show (0:Int) < ((p1.nb:Nat):Int);omega)).mono ?_
     rintro e w4 ⟨rfl,c4,F4,P4,a4⟩
     replace HX:=Lib.hid (HX.out.do_ c4 a4)
     replace HL:=Lib.hid (HL.out.do_ c4 P4 a4)
     clear c4 P4 a4 hS
     go_wp2_with fail
     refine hK.out _ _ (fun _=>HL.out.b) ?_
     clear hK
     have hS:=HL.out.b
     ((try simp only [Act.put,List.setIfInBounds_toArray,List.set_cons_succ,List.set_cons_zero]);refine vT (fuel:=2) hS [8,9,10] ?_;simp only [Xu,Xj,List.toList_toArray];(repeat (first | go_big_quiet_skip | (go_big_quiet_want;first | (go_big_quiet_op;go_big_quiet_on) | (apply Exists.intro;refine ⟨fun w' hS'=>?_,?_⟩;(· (skip;go_simp;first | done | rfl | exact ⟨rfl,rfl⟩));go_big_quiet_on;simp only [Act.put,List.setIfInBounds_toArray,List.set_cons_succ,List.set_cons_zero]))));refine wpQuiet_nil ?_;(try dsimp only))
     (refine Xh 12 (by kernel_rfl) (fun K hK=>?_);simp only [Xj,List.toList_toArray])
     go_wp2_with (refine vM HX.out.b ?_;intro w5 hst)
     replace HL:=Lib.hid (HL.out.stored HX.out hst)
     clear HX hst hS
     refine hK.out _ _ (fun _=>HL.out.b) ?_
     clear hK
     have hS:=HL.out.b
     ((try simp only [Act.put,List.setIfInBounds_toArray,List.set_cons_succ,List.set_cons_zero]);refine vT (fuel:=0) hS [13] ?_;simp only [Xu,Xj,List.toList_toArray];(repeat (first | go_big_quiet_skip | (go_big_quiet_want;first | (go_big_quiet_op;go_big_quiet_on) | (apply Exists.intro;refine ⟨fun w' hS'=>?_,?_⟩;(· (skip;go_simp;first | done | rfl | exact ⟨rfl,rfl⟩));go_big_quiet_on;simp only [Act.put,List.setIfInBounds_toArray,List.set_cons_succ,List.set_cons_zero]))));refine wpQuiet_nil ?_;(try dsimp only))
     refine X9 (by kernel_rfl) ?_ _
     have r0:=HL.out.b.cell 0
     clear hS
     go_wp2_with fail
     exact ⟨⟨1,F4,Or.inr (Or.inl ⟨rfl,rfl⟩),HL.out⟩,by decide⟩
   ·go_wp2_with fail
    have HX:=Lib.hid (BX.new HL.out)
    replace HL:=Lib.hid (HL.out.below ((Below.refl _ _).alloc (Nat.le_refl _) (.cells #[.int .i64 0,.int .i64 0,.int .i64 0,.int .i64 0,.bool false,.bool false] 108)))
    clear hS
    refine hK.out _ _ ⟨fun _=>HL.out.b,?_⟩
    clear hK
    have hS:=HL.out.b
    (refine Xh 2 (by kernel_rfl) (fun K hK=>?_);simp only [Xj,List.toList_toArray])
    go_wp2_with fail
    refine (croot0_any _).mono ?_
    rintro e w3 ⟨rfl,hc⟩
    replace HX:=Lib.hid (HX.out.below hc.below)
    replace HL:=Lib.hid (HL.out.below hc.below)
    clear hc hS
    go_wp2_with fail
    refine hK.out _ _ (fun _=>HL.out.b) ?_
    clear hK
    have hS:=HL.out.b
    (refine Xh 5 (by kernel_rfl) (fun K hK=>?_);simp only [Xj,List.toList_toArray])
    go_wp2_with fail
    refine (ref_c x _).mono ?_
    rintro e w3 ⟨rfl,hc⟩
    replace HX:=Lib.hid (HX.out.below hc.below)
    replace HL:=Lib.hid (HL.out.below hc.below)
    clear hc hS
    go_wp2_with fail
    refine hK.out _ _ (fun _=>HL.out.b) ?_
    clear hK
    have hS:=HL.out.b
    ((try simp only [Act.put,List.setIfInBounds_toArray,List.set_cons_succ,List.set_cons_zero]);refine vT (fuel:=6) hS [6] ?_;simp only [Xu,Xj,List.toList_toArray];(repeat (first | go_big_quiet_skip | (go_big_quiet_want;first | (go_big_quiet_op;go_big_quiet_on) | (apply Exists.intro;refine ⟨fun w' hS'=>?_,?_⟩;(· (skip;go_simp;first | done | rfl | exact ⟨rfl,rfl⟩));go_big_quiet_on;simp only [Act.put,List.setIfInBounds_toArray,List.set_cons_succ,List.set_cons_zero]))));refine wpQuiet_nil ?_;(try dsimp only))
    (refine Xh 7 (by kernel_rfl) (fun K hK=>?_);simp only [Xj,List.toList_toArray])
    go_wp2_with fail
    refine (store_c 0 x.sl x.gn 0 HL.out.h ok1 (by decide) (by show (0:Int) < ((p1.nb:Nat):Int);omega)).mono ?_
    rintro e w4 ⟨rfl,c4,F4,P4,a4⟩
    replace HX:=Lib.hid (HX.out.do_ c4 a4)
    replace HL:=Lib.hid (HL.out.do_ c4 P4 a4)
    clear c4 P4 a4 hS
    go_wp2_with fail
    refine hK.out _ _ (fun _=>HL.out.b) ?_
    clear hK
    have hS:=HL.out.b
    ((try simp only [Act.put,List.setIfInBounds_toArray,List.set_cons_succ,List.set_cons_zero]);refine vT (fuel:=2) hS [8,9,10] ?_;simp only [Xu,Xj,List.toList_toArray];(repeat (first | go_big_quiet_skip | (go_big_quiet_want;first | (go_big_quiet_op;go_big_quiet_on) | (apply Exists.intro;refine ⟨fun w' hS'=>?_,?_⟩;(· (skip;go_simp;first | done | rfl | exact ⟨rfl,rfl⟩));go_big_quiet_on;simp only [Act.put,List.setIfInBounds_toArray,List.set_cons_succ,List.set_cons_zero]))));refine wpQuiet_nil ?_;(try dsimp only))
    (refine Xh 12 (by kernel_rfl) (fun K hK=>?_);simp only [Xj,List.toList_toArray])
    go_wp2_with (refine vM HX.out.b ?_;intro w5 hst)
    replace HL:=Lib.hid (HL.out.stored HX.out hst)
    clear HX hst hS
    refine hK.out _ _ (fun _=>HL.out.b) ?_
    clear hK
    have hS:=HL.out.b
    ((try simp only [Act.put,List.setIfInBounds_toArray,List.set_cons_succ,List.set_cons_zero]);refine vT (fuel:=0) hS [13] ?_;simp only [Xu,Xj,List.toList_toArray];(repeat (first | go_big_quiet_skip | (go_big_quiet_want;first | (go_big_quiet_op;go_big_quiet_on) | (apply Exists.intro;refine ⟨fun w' hS'=>?_,?_⟩;(· (skip;go_simp;first | done | rfl | exact ⟨rfl,rfl⟩));go_big_quiet_on;simp only [Act.put,List.setIfInBounds_toArray,List.set_cons_succ,List.set_cons_zero]))));refine wpQuiet_nil ?_;(try dsimp only))
    refine X9 (by kernel_rfl) ?_ _
    have r0:=HL.out.b.cell 0
    clear hS
    go_wp2_with fail
    exact ⟨⟨1,F4,Or.inr (Or.inl ⟨rfl,rfl⟩),HL.out⟩,by decide⟩
  ·go_upto_region 11 with (fail)
   refine X2 (fun w'=>Bk w' bx 108 #[.int .i64 x.sl,.int .i64 x.gn,.int .i64 x.tg,.int .i64 x.nm,.bool x.mark,.bool true]) 14 (by kernel_rfl) HL.out.b.drew (fun hS=>?_)
   replace HL:=Lib.hid (HL.out.below (Below.refl _ _).drew)
   generalize World.drew _ = w0 at *
   ((try simp only [Act.put,List.setIfInBounds_toArray,List.set_cons_succ,List.set_cons_zero]);refine vT (fuel:=10) hS [0,1,3,4] ?_;simp only [Xu,Xj,List.toList_toArray];(repeat (first | go_big_quiet_skip | (go_big_quiet_want;first | (go_big_quiet_op;go_big_quiet_on) | (apply Exists.intro;refine ⟨fun w' hS'=>?_,?_⟩;(· ((have q0:=hS'.cell 0;have q1:=hS'.cell 1;have q2:=hS'.cell 2;have q3:=hS'.cell 3;have q4:=hS'.cell 4;simp at q0 q1 q2 q3 q4);go_simp;first | done | rfl | exact ⟨rfl,rfl⟩));go_big_quiet_on;simp only [Act.put,List.setIfInBounds_toArray,List.set_cons_succ,List.set_cons_zero]))));refine wpQuiet_nil ?_;(try dsimp only))
   refine wpT_two (i:=2) (j:=11) rfl rfl (by kernel_rfl) (fun K hK=>?_) (fun K hK=>?_)
   ·go_wp2_with fail
    refine (croot1_any _).mono ?_
    rintro e w3 ⟨rfl,hc⟩
    replace HL:=Lib.hid (HL.out.below hc.below)
    clear hc hS
    go_wp2_with fail
    refine hK.out _ _ ⟨fun _=>HL.out.b,?_⟩
    clear hK
    have hS:=HL.out.b
    refine wpT_two (i:=5) (j:=11) rfl rfl (by kernel_rfl) (fun K hK=>?_) (fun K hK=>?_)
    ·go_wp2_with fail
     refine (ref_c x _).mono ?_
     rintro e w3 ⟨rfl,hc⟩
     replace HL:=Lib.hid (HL.out.below hc.below)
     clear hc hS
     go_wp2_with fail
     refine hK.out _ _ ⟨fun _=>HL.out.b,?_⟩
     clear hK
     have hS:=HL.out.b
     ((try simp only [Act.put,List.setIfInBounds_toArray,List.set_cons_succ,List.set_cons_zero]);refine vT (fuel:=7) hS [6] ?_;simp only [Xu,Xj,List.toList_toArray];(repeat (first | go_big_quiet_skip | (go_big_quiet_want;first | (go_big_quiet_op;go_big_quiet_on) | (apply Exists.intro;refine ⟨fun w' hS'=>?_,?_⟩;(· (skip;go_simp;first | done | rfl | exact ⟨rfl,rfl⟩));go_big_quiet_on;simp only [Act.put,List.setIfInBounds_toArray,List.set_cons_succ,List.set_cons_zero]))));refine wpQuiet_nil ?_;(try dsimp only))
     refine wpT_two (i:=7) (j:=11) rfl rfl (by kernel_rfl) (fun K hK=>?_) (fun K hK=>?_)
     ·go_wp2_with fail
      refine (store_c 1 x.sl x.gn 0 HL.out.h (ok1.stored _ _) (by decide) (by show (1:Int) < ((p1.nb:Nat):Int);omega)).mono ?_
      rintro e w4 ⟨rfl,c4,F4,P4,a4⟩
      replace HL:=Lib.hid (HL.out.do_ c4 P4 a4)
      clear c4 P4 a4 hS
      go_wp2_with fail
      refine hK.out _ _ ⟨fun _=>HL.out.b,?_⟩
      clear hK
      have hS:=HL.out.b
      ((try simp only [Act.put,List.setIfInBounds_toArray,List.set_cons_succ,List.set_cons_zero]);refine vT (fuel:=3) hS [8,9,10] ?_;simp only [Xu,Xj,List.toList_toArray];(repeat (first | go_big_quiet_skip | (go_big_quiet_want;first | (go_big_quiet_op;go_big_quiet_on) | (apply Exists.intro;refine ⟨fun w' hS'=>?_,?_⟩;(· (skip;go_simp;first | done | rfl | exact ⟨rfl,rfl⟩));go_big_quiet_on;simp only [Act.put,List.setIfInBounds_toArray,List.set_cons_succ,List.set_cons_zero]))));refine wpQuiet_nil ?_;(try dsimp only))
      (refine Xh 11 (by kernel_rfl) (fun K hK=>?_);simp only [Xj,List.toList_toArray])
      go_wp2_with fail
      have HX:=Lib.hid (BX.new HL.out)
      replace HL:=Lib.hid (HL.out.below ((Below.refl _ _).alloc (Nat.le_refl _) (.cells #[.int .i64 0,.int .i64 0,.int .i64 0,.int .i64 0,.bool false,.bool false] 108)))
      clear hS
      refine hK.out _ _ (fun _=>HL.out.b) ?_
      clear hK
      have hS:=HL.out.b
      (refine Xh 12 (by kernel_rfl) (fun K hK=>?_);simp only [Xj,List.toList_toArray])
      go_wp2_with (refine vM HX.out.b ?_;intro w5 hst)
      replace HL:=Lib.hid (HL.out.stored HX.out hst)
      clear HX hst hS
      refine hK.out _ _ (fun _=>HL.out.b) ?_
      clear hK
      have hS:=HL.out.b
      ((try simp only [Act.put,List.setIfInBounds_toArray,List.set_cons_succ,List.set_cons_zero]);refine vT (fuel:=0) hS [13] ?_;simp only [Xu,Xj,List.toList_toArray];(repeat (first | go_big_quiet_skip | (go_big_quiet_want;first | (go_big_quiet_op;go_big_quiet_on) | (apply Exists.intro;refine ⟨fun w' hS'=>?_,?_⟩;(· (skip;go_simp;first | done | rfl | exact ⟨rfl,rfl⟩));go_big_quiet_on;simp only [Act.put,List.setIfInBounds_toArray,List.set_cons_succ,List.set_cons_zero]))));refine wpQuiet_nil ?_;(try dsimp only))
      refine X9 (by kernel_rfl) ?_ _
      have r0:=HL.out.b.cell 0
      clear hS
      go_wp2_with fail
      exact ⟨⟨2,F4,Or.inr (Or.inr ⟨rfl,rfl⟩),HL.out⟩,by decide⟩
     ·go_wp2_with fail
      have HX:=Lib.hid (BX.new HL.out)
      replace HL:=Lib.hid (HL.out.below ((Below.refl _ _).alloc (Nat.le_refl _) (.cells #[.int .i64 0,.int .i64 0,.int .i64 0,.int .i64 0,.bool false,.bool false] 108)))
      clear hS
      refine hK.out _ _ ⟨fun _=>HL.out.b,?_⟩
      clear hK
      have hS:=HL.out.b
      (refine Xh 7 (by kernel_rfl) (fun K hK=>?_);simp only [Xj,List.toList_toArray])
      go_wp2_with fail
      refine (store_c 1 x.sl x.gn 0 HL.out.h (ok1.stored _ _) (by decide) (by show (1:Int) < ((p1.nb:Nat):Int);omega)).mono ?_
      rintro e w4 ⟨rfl,c4,F4,P4,a4⟩
      replace HX:=Lib.hid (HX.out.do_ c4 a4)
      replace HL:=Lib.hid (HL.out.do_ c4 P4 a4)
      clear c4 P4 a4 hS
      go_wp2_with fail
      refine hK.out _ _ (fun _=>HL.out.b) ?_
      clear hK
      have hS:=HL.out.b
      ((try simp only [Act.put,List.setIfInBounds_toArray,List.set_cons_succ,List.set_cons_zero]);refine vT (fuel:=2) hS [8,9,10] ?_;simp only [Xu,Xj,List.toList_toArray];(repeat (first | go_big_quiet_skip | (go_big_quiet_want;first | (go_big_quiet_op;go_big_quiet_on) | (apply Exists.intro;refine ⟨fun w' hS'=>?_,?_⟩;(· (skip;go_simp;first | done | rfl | exact ⟨rfl,rfl⟩));go_big_quiet_on;simp only [Act.put,List.setIfInBounds_toArray,List.set_cons_succ,List.set_cons_zero]))));refine wpQuiet_nil ?_;(try dsimp only))
      (refine Xh 12 (by kernel_rfl) (fun K hK=>?_);simp only [Xj,List.toList_toArray])
      go_wp2_with (refine vM HX.out.b ?_;intro w5 hst)
      replace HL:=Lib.hid (HL.out.stored HX.out hst)
      clear HX hst hS
      refine hK.out _ _ (fun _=>HL.out.b) ?_
      clear hK
      have hS:=HL.out.b
      ((try simp only [Act.put,List.setIfInBounds_toArray,List.set_cons_succ,List.set_cons_zero]);refine vT (fuel:=0) hS [13] ?_;simp only [Xu,Xj,List.toList_toArray];(repeat (first | go_big_quiet_skip | (go_big_quiet_want;first | (go_big_quiet_op;go_big_quiet_on) | (apply Exists.intro;refine ⟨fun w' hS'=>?_,?_⟩;(· (skip;go_simp;first | done | rfl | exact ⟨rfl,rfl⟩));go_big_quiet_on;simp only [Act.put,List.setIfInBounds_toArray,List.set_cons_succ,List.set_cons_zero]))));refine wpQuiet_nil ?_;(try dsimp only))
      refine X9 (by kernel_rfl) ?_ _
      have r0:=HL.out.b.cell 0
      clear hS
      go_wp2_with fail
      exact ⟨⟨2,F4,Or.inr (Or.inr ⟨rfl,rfl⟩),HL.out⟩,by decide⟩
    ·go_wp2_with fail
     have HX:=Lib.hid (BX.new HL.out)
     replace HL:=Lib.hid (HL.out.below ((Below.refl _ _).alloc (Nat.le_refl _) (.cells #[.int .i64 0,.int .i64 0,.int .i64 0,.int .i64 0,.bool false,.bool false] 108)))
     clear hS
     refine hK.out _ _ ⟨fun _=>HL.out.b,?_⟩
     clear hK
     have hS:=HL.out.b
     (refine Xh 5 (by kernel_rfl) (fun K hK=>?_);simp only [Xj,List.toList_toArray])
     go_wp2_with fail
     refine (ref_c x _).mono ?_
     rintro e w3 ⟨rfl,hc⟩
     replace HX:=Lib.hid (HX.out.below hc.below)
     replace HL:=Lib.hid (HL.out.below hc.below)
     clear hc hS
     go_wp2_with fail
     refine hK.out _ _ (fun _=>HL.out.b) ?_
     clear hK
     have hS:=HL.out.b
     ((try simp only [Act.put,List.setIfInBounds_toArray,List.set_cons_succ,List.set_cons_zero]);refine vT (fuel:=6) hS [6] ?_;simp only [Xu,Xj,List.toList_toArray];(repeat (first | go_big_quiet_skip | (go_big_quiet_want;first | (go_big_quiet_op;go_big_quiet_on) | (apply Exists.intro;refine ⟨fun w' hS'=>?_,?_⟩;(· (skip;go_simp;first | done | rfl | exact ⟨rfl,rfl⟩));go_big_quiet_on;simp only [Act.put,List.setIfInBounds_toArray,List.set_cons_succ,List.set_cons_zero]))));refine wpQuiet_nil ?_;(try dsimp only))
     (refine Xh 7 (by kernel_rfl) (fun K hK=>?_);simp only [Xj,List.toList_toArray])
     go_wp2_with fail
     refine (store_c 1 x.sl x.gn 0 HL.out.h (ok1.stored _ _) (by decide) (by show (1:Int) < ((p1.nb:Nat):Int);omega)).mono ?_
     rintro e w4 ⟨rfl,c4,F4,P4,a4⟩
     replace HX:=Lib.hid (HX.out.do_ c4 a4)
     replace HL:=Lib.hid (HL.out.do_ c4 P4 a4)
     clear c4 P4 a4 hS
     go_wp2_with fail
     refine hK.out _ _ (fun _=>HL.out.b) ?_
     clear hK
     have hS:=HL.out.b
     ((try simp only [Act.put,List.setIfInBounds_toArray,List.set_cons_succ,List.set_cons_zero]);refine vT (fuel:=2) hS [8,9,10] ?_;simp only [Xu,Xj,List.toList_toArray];(repeat (first | go_big_quiet_skip | (go_big_quiet_want;first | (go_big_quiet_op;go_big_quiet_on) | (apply Exists.intro;refine ⟨fun w' hS'=>?_,?_⟩;(· (skip;go_simp;first | done | rfl | exact ⟨rfl,rfl⟩));go_big_quiet_on;simp only [Act.put,List.setIfInBounds_toArray,List.set_cons_succ,List.set_cons_zero]))));refine wpQuiet_nil ?_;(try dsimp only))
     (refine Xh 12 (by kernel_rfl) (fun K hK=>?_);simp only [Xj,List.toList_toArray])
     go_wp2_with (refine vM HX.out.b ?_;intro w5 hst)
     replace HL:=Lib.hid (HL.out.stored HX.out hst)
     clear HX hst hS
     refine hK.out _ _ (fun _=>HL.out.b) ?_
     clear hK
     have hS:=HL.out.b
     ((try simp only [Act.put,List.setIfInBounds_toArray,List.set_cons_succ,List.set_cons_zero]);refine vT (fuel:=0) hS [13] ?_;simp only [Xu,Xj,List.toList_toArray];(repeat (first | go_big_quiet_skip | (go_big_quiet_want;first | (go_big_quiet_op;go_big_quiet_on) | (apply Exists.intro;refine ⟨fun w' hS'=>?_,?_⟩;(· (skip;go_simp;first | done | rfl | exact ⟨rfl,rfl⟩));go_big_quiet_on;simp only [Act.put,List.setIfInBounds_toArray,List.set_cons_succ,List.set_cons_zero]))));refine wpQuiet_nil ?_;(try dsimp only))
     refine X9 (by kernel_rfl) ?_ _
     have r0:=HL.out.b.cell 0
     clear hS
     go_wp2_with fail
     exact ⟨⟨2,F4,Or.inr (Or.inr ⟨rfl,rfl⟩),HL.out⟩,by decide⟩
   ·go_wp2_with fail
    have HX:=Lib.hid (BX.new HL.out)
    replace HL:=Lib.hid (HL.out.below ((Below.refl _ _).alloc (Nat.le_refl _) (.cells #[.int .i64 0,.int .i64 0,.int .i64 0,.int .i64 0,.bool false,.bool false] 108)))
    clear hS
    refine hK.out _ _ ⟨fun _=>HL.out.b,?_⟩
    clear hK
    have hS:=HL.out.b
    (refine Xh 2 (by kernel_rfl) (fun K hK=>?_);simp only [Xj,List.toList_toArray])
    go_wp2_with fail
    refine (croot1_any _).mono ?_
    rintro e w3 ⟨rfl,hc⟩
    replace HX:=Lib.hid (HX.out.below hc.below)
    replace HL:=Lib.hid (HL.out.below hc.below)
    clear hc hS
    go_wp2_with fail
    refine hK.out _ _ (fun _=>HL.out.b) ?_
    clear hK
    have hS:=HL.out.b
    (refine Xh 5 (by kernel_rfl) (fun K hK=>?_);simp only [Xj,List.toList_toArray])
    go_wp2_with fail
    refine (ref_c x _).mono ?_
    rintro e w3 ⟨rfl,hc⟩
    replace HX:=Lib.hid (HX.out.below hc.below)
    replace HL:=Lib.hid (HL.out.below hc.below)
    clear hc hS
    go_wp2_with fail
    refine hK.out _ _ (fun _=>HL.out.b) ?_
    clear hK
    have hS:=HL.out.b
    ((try simp only [Act.put,List.setIfInBounds_toArray,List.set_cons_succ,List.set_cons_zero]);refine vT (fuel:=6) hS [6] ?_;simp only [Xu,Xj,List.toList_toArray];(repeat (first | go_big_quiet_skip | (go_big_quiet_want;first | (go_big_quiet_op;go_big_quiet_on) | (apply Exists.intro;refine ⟨fun w' hS'=>?_,?_⟩;(· (skip;go_simp;first | done | rfl | exact ⟨rfl,rfl⟩));go_big_quiet_on;simp only [Act.put,List.setIfInBounds_toArray,List.set_cons_succ,List.set_cons_zero]))));refine wpQuiet_nil ?_;(try dsimp only))
    (refine Xh 7 (by kernel_rfl) (fun K hK=>?_);simp only [Xj,List.toList_toArray])
    go_wp2_with fail
    refine (store_c 1 x.sl x.gn 0 HL.out.h (ok1.stored _ _) (by decide) (by show (1:Int) < ((p1.nb:Nat):Int);omega)).mono ?_
    rintro e w4 ⟨rfl,c4,F4,P4,a4⟩
    replace HX:=Lib.hid (HX.out.do_ c4 a4)
    replace HL:=Lib.hid (HL.out.do_ c4 P4 a4)
    clear c4 P4 a4 hS
    go_wp2_with fail
    refine hK.out _ _ (fun _=>HL.out.b) ?_
    clear hK
    have hS:=HL.out.b
    ((try simp only [Act.put,List.setIfInBounds_toArray,List.set_cons_succ,List.set_cons_zero]);refine vT (fuel:=2) hS [8,9,10] ?_;simp only [Xu,Xj,List.toList_toArray];(repeat (first | go_big_quiet_skip | (go_big_quiet_want;first | (go_big_quiet_op;go_big_quiet_on) | (apply Exists.intro;refine ⟨fun w' hS'=>?_,?_⟩;(· (skip;go_simp;first | done | rfl | exact ⟨rfl,rfl⟩));go_big_quiet_on;simp only [Act.put,List.setIfInBounds_toArray,List.set_cons_succ,List.set_cons_zero]))));refine wpQuiet_nil ?_;(try dsimp only))
    (refine Xh 12 (by kernel_rfl) (fun K hK=>?_);simp only [Xj,List.toList_toArray])
    go_wp2_with (refine vM HX.out.b ?_;intro w5 hst)
    replace HL:=Lib.hid (HL.out.stored HX.out hst)
    clear HX hst hS
    refine hK.out _ _ (fun _=>HL.out.b) ?_
    clear hK
    have hS:=HL.out.b
    ((try simp only [Act.put,List.setIfInBounds_toArray,List.set_cons_succ,List.set_cons_zero]);refine vT (fuel:=0) hS [13] ?_;simp only [Xu,Xj,List.toList_toArray];(repeat (first | go_big_quiet_skip | (go_big_quiet_want;first | (go_big_quiet_op;go_big_quiet_on) | (apply Exists.intro;refine ⟨fun w' hS'=>?_,?_⟩;(· (skip;go_simp;first | done | rfl | exact ⟨rfl,rfl⟩));go_big_quiet_on;simp only [Act.put,List.setIfInBounds_toArray,List.set_cons_succ,List.set_cons_zero]))));refine wpQuiet_nil ?_;(try dsimp only))
    refine X9 (by kernel_rfl) ?_ _
    have r0:=HL.out.b.cell 0
    clear hS
    go_wp2_with fail
    exact ⟨⟨2,F4,Or.inr (Or.inr ⟨rfl,rfl⟩),HL.out⟩,by decide⟩
  ·go_wp2_with fail
   first
   | (go_ret2;exact ⟨rfl,HL.out.c,_,HL.out.h,HL.out.h.lt,HL.out.a⟩)
   | (go_ret;exact ⟨rfl,HL.out.c,_,HL.out.h,HL.out.h.lt,HL.out.a⟩)
   | (refine bodyPost_ret (v:=.nilIface) (results_none rfl _ _ _) rfl ?_;exact ⟨rfl,HL.out.c,_,HL.out.h,HL.out.h.lt,HL.out.a⟩)
end Go.Proofs.YtaipogljokblkaaGreatDoor
