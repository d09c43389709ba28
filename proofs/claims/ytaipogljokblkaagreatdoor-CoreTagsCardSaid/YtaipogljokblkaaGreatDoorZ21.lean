/- Core: RL, RM, RN. -/
import Derived.Test.YtaipogljokblkaaGreatDoorZ20
import Derived.Test.YtaipogljokblkaaGreatDoorZ18
set_option linter.all false
set_option maxRecDepth 100000
set_option maxHeartbeats 8000000
namespace Go.Proofs.YtaipogljokblkaaGreatDoor
open Go Go.RowKit
set_option linter.unusedSimpArgs false
set_option linter.unusedVariables false
set_option linter.unusedSectionVars false
theorem set44 (R:Xa) (u:GSl):R.l.toArray.setIfInBounds 44 u.v = ({ R with seen:=u }:Xa).l.toArray:=by kernel_rfl
theorem own_words_append (w:World) (v:Value) (l:List Xf) (h:Own w 51 5 v l.length (rows Xf.l l)) (hl:l.length≤100000) (x:Xf) (b:Nat) (hb:Bk w b 51 x.l.toArray) (t:TypeId) :
  ∃ v' w',(Builtin.append_ #[103,103] t #[v,.slice (some ⟨b,0,none⟩) 1 1]).run Tryz.prog w = .ok v' w' ∧
   Own w' 51 5 v' (l++[x]).length (rows Xf.l (l++[x]))∧w.grownBy w' v.ownBlock∧Fresh w v v' :=
 own_rows_append wlen wone Tryz.underlying103 infoWordB rfl (by decide) (by decide) w v l h hl x b hb t
theorem RB.sees {w w2:World} {g:Nat} {R:Xa} {ns ds:List Xp} {ss ss':List Xf} (h:RB w g R ns ds ss) {u:GSl} (ho:Own w2 51 5 u.v ss'.length (rows Xf.l ss'))
  (hg:w.grownBy w2 R.seen.v.ownBlock) (hf:Fresh w R.seen.v u.v):RB (w2.setCell ⟨g,44,none⟩ u.v) g { R with seen:=u } ns ds ss'∧Chg (Yc g R) w (w2.setCell ⟨g,44,none⟩ u.v):=by
 have hlt:=h.bk.lt
 have b2:Bk w2 g 171 R.l.toArray:=h.bk.grown hg (fun e=>h.gs e.symm)
 have gu:u.v.ownBlock≠some g:=fun e=>(hf g e).elim h.gs (fun h'=>by omega)
 have on:=h.on.grown hg (by cases h0:R.notes.v.ownBlock with | none=>exact Or.inl rfl | some b=>exact Or.inr (fun e=>h.ns b h0 e.symm))
 have od:=h.od.grown hg (by cases h0:R.doomed.v.ownBlock with | none=>exact Or.inl rfl | some b=>exact Or.inr (fun e=>h.ds b h0 e.symm))
 have hg2:=Xq w2 g 44 u.v
 refine ⟨⟨by rw [← set44];exact b2.set_ 44 u.v,on.grown hg2 (Or.inr h.gn),od.grown hg2 (Or.inr h.gd),ho.grown hg2 (Or.inr gu),h.gn,h.gd,gu,h.nd,fun b hb e=>(hf b e).elim (h.ns b hb) (fun h'=>by have:=h.on.lt hb;omega),fun b hb e=>(hf b e).elim (h.ds b hb) (fun h'=>by have:=h.od.lt hb;omega)⟩,?_⟩
 refine (Chg.of_grown (b:=0) hg fun b e=>Xk.2 (Or.inr (Or.inr (Or.inr e)))).trans ?_
 exact Chg.of_grown (b:=0) hg2 fun b e=>Xk.2 (Or.inl (by injection e with e;exact e.symm))
theorem rcells3 {w:World} {g:Nat} {R:Xa} (h:Bk w g 171 R.l.toArray):w.cell? ⟨g,43,none⟩ = some (.int .i64 R.index)∧w.cell? ⟨g,46,none⟩ = some (.int .i64 R.engine)∧w.cell? ⟨g,41,none⟩ = some (.int .i64 R.clock.nm) :=
 ⟨rcell h 43 _ (by kernel_rfl),rcell h 46 _ (by kernel_rfl),rcell h 41 _ (by kernel_rfl)⟩
theorem look_any (R:Xa) (n:Int) (g:Nat) (w:World) (h:Bk w g 171 R.l.toArray) (ht:Thr R) (h0:0≤n) (h1:n < 1000):Calls Tryz.prog 96 #[.pointer (some ⟨g,0,none⟩),.int .i64 n] w fun e w' =>
  e = .returned (.bool (R.look n).2)∧Bk w' g 171 (R.look n).1.l.toArray∧Chg [g] w w':=by
 obtain ⟨t1,t2⟩:=ht
 have hd:Int.tdiv n 9 = n / 9:=Int.tdiv_eq_ediv_of_nonneg h0
 have hm:Int.tmod n 9 = n % 9:=Int.tmod_eq_emod_of_nonneg h0
 have hw:IntKind.i64.wrap (n / 9) = n / 9:=wr_in (by omega) (by omega)
 by_cases h54:n < 54
 ·exact rlook_any R n g w h h0 (by rw [hd,hw];omega) (by rw [hd,hw];omega) (by rw [hm];omega) (by rw [hm];omega) t2
 ·have hz:wr (R.threads*9) = R.threads*9:=wr_in (by omega) (by omega)
  have e:R.look n = (R,false):=by
   unfold Xa.look
   cases R.keeping with
   | true=>rw [hz,show decide (R.threads*9≤n) = true from decide_eq_true (by omega)];rfl
   | false=>rw [show decide (R.threads≤n) = true from decide_eq_true (by omega)];rfl
  rw [e]
  exact rlookE_any R n g w h (by show wr (R.threads*9)≤n;rw [hz];omega) (by omega)
theorem look_no {R:Xa} {n:Int} (h:(R.look n).2 = false):(R.look n).1 = R:=by
 unfold Xa.look at *
 cases hk:R.keeping <;> rw [hk] at h <;> simp only [cond_true,cond_false] at *
 ·cases hd:decide (R.threads≤n) <;> rw [hd] at h
  ·cases h
  ·rfl
 ·cases hd:decide (wr (R.threads*9)≤n) <;> rw [hd] at h
  ·cases h
  ·rfl
theorem reap_hset {w w':World} {g:Nat} {F:List Nat} {v:Value} {R:Xa} {a b c:GSl} {ns ds:List Xp} {ss:List Xf} {e:Ending} (h:RetR w g F v (MR.reap ⟨Yw R a b c,ns,ds,ss⟩) e w'):RetR w g F v (MR.reap ⟨R,ns,ds,ss⟩) e w':=by
 cases ds with
 | nil=>exact h
 | cons d r=>exact h
theorem sift_hset {w w':World} {g:Nat} {F:List Nat} {v:Value} {R:Xa} {a b c:GSl} {ns ds:List Xp} {ss:List Xf} {e:Ending} (h:RetR w g F v (MR.sift ⟨Yw R a b c,ns,ds,ss⟩) e w'):RetR w g F v (MR.sift ⟨R,ns,ds,ss⟩) e w':=reap_hset h
theorem took_13 (R:Xa) (ns ds:List Xp) (ss:List Xf) (x:Xi) (hs:R.step = 13):MR.took ⟨R,ns,ds,ss⟩ x = MR.tookLoad13 ⟨R,ns,ds,ss⟩ x:=by
 unfold MR.took
 simp only [hs]
 rfl
theorem tookScan13_any (w:World) (g:Nat) (R:Xa) (ns ds:List Xp) (ss:List Xf) (x:Xi) (h:RB w g R ns ds ss) (ht:Thr R) (hl:ns.length≤100000) (hk:ss.length≤900) (hs:R.step = 13)
  (he:R.engine = 2∨R.engine = 3∨R.engine = 4∨R.engine = 5) (hi0:0≤R.index) (hi1:R.index < 100) :
  Calls Tryz.prog 81 #[.pointer (some ⟨g,0,none⟩),.agg x.l.toArray] w (RetR w g (Yc g R) (.tuple #[]) (MR.took ⟨R,ns,ds,ss⟩ x)):=by
 rw [took_13 _ _ _ _ _ hs]
 (have c18:=cell18 h.bk;rw [hs] at c18;obtain ⟨⟨x0,x1,x2,x3,x4⟩,x5⟩:=x;show Calls Tryz.prog 81 #[.pointer (some ⟨g,0,none⟩),.agg #[.int .i64 x0,.int .i64 x1,.int .i64 x2,.int .i64 x3,.bool x4,.bool x5]] w _;have HH:=Lib.hid (h.chg (w':=(w.alloc (.cells #[.int .i64 x0,.int .i64 x1,.int .i64 x2,.int .i64 x3,.bool x4,.bool x5] 108))) (F:=[]) (Chg.of_below ((Below.refl _ _).alloc (Nat.le_refl _) _)) (fun _ _=>List.not_mem_nil));have HC:Hid (Chg [] w (w.alloc (.cells #[.int .i64 x0,.int .i64 x1,.int .i64 x2,.int .i64 x3,.bool x4,.bool x5] 108))):=Lib.hid (Chg.of_below ((Below.refl _ _).alloc (Nat.le_refl _) _));have X0:Bk (w.alloc (.cells #[.int .i64 x0,.int .i64 x1,.int .i64 x2,.int .i64 x3,.bool x4,.bool x5] 108)) w.heap.size 108 #[.int .i64 x0,.int .i64 x1,.int .i64 x2,.int .i64 x3,.bool x4,.bool x5]:=Bk.at_ rfl;have hgl:=h.bk.lt;have H0:=Lib.hid h;clear h)
 go_enter Tryz.func81,Tryz.ntmps81
 go_upto_region 9 with (fail)
 have X1:=X0.drew
 have H1:=Lib.hid (HH.out.chg (F:=[]) (w':=(w.alloc (.cells #[.int .i64 x0,.int .i64 x1,.int .i64 x2,.int .i64 x3,.bool x4,.bool x5] 108)).drew) (Chg.of_below (Below.refl _ _).drew) (fun _ _=>List.not_mem_nil))
 have C1:Hid (Chg [] w (w.alloc (.cells #[.int .i64 x0,.int .i64 x1,.int .i64 x2,.int .i64 x3,.bool x4,.bool x5] 108)).drew):=Lib.hid (HC.out.trans (Chg.of_below (Below.refl _ _).drew))
 have c44:=(rcells H1.out.bk).2.1
 have hgx:g≠w.heap.size:=by omega
 have bx:R.seen.v.ownBlock≠some w.heap.size:=fun e=>by have:=H0.out.os.lt e;omega
 clear HH HC X0 H0 c18
 refine X2 (fun w'=>w'.cell? ⟨g,44,none⟩ = some R.seen.v∧w'.cell? ⟨w.heap.size,0,none⟩ = some (.int .i64 x0)∧w'.cell? ⟨w.heap.size,1,none⟩ = some (.int .i64 x1)∧w'.cell? ⟨w.heap.size,2,none⟩ = some (.int .i64 x2)∧w'.cell? ⟨w.heap.size,3,none⟩ = some (.int .i64 x3)∧w'.cell? ⟨w.heap.size,4,none⟩ = some (.bool x4)) 10 (by kernel_rfl) ⟨c44,X1.cell 0,X1.cell 1,X1.cell 2,X1.cell 3,X1.cell 4⟩ (fun hS=>?_)
 clear c44
 have hxs:w.heap.size < (w.alloc (.cells #[.int .i64 x0,.int .i64 x1,.int .i64 x2,.int .i64 x3,.bool x4,.bool x5] 108)).drew.heap.size:=by simp
 generalize (w.alloc (.cells #[.int .i64 x0,.int .i64 x1,.int .i64 x2,.int .i64 x3,.bool x4,.bool x5] 108)).drew = w0 at *
 ((try simp only [Act.put,List.setIfInBounds_toArray,List.set_cons_succ,List.set_cons_zero]);refine vT (fuel:=6) hS [0,1,2,3,4,5,6,7] ?_;simp only [Xu,Xj,List.toList_toArray];(repeat (first | go_big_quiet_skip | (go_big_quiet_want;first | (go_big_quiet_op;go_big_quiet_on) | (apply Exists.intro;refine ⟨fun w' hS'=>?_,?_⟩;(· (obtain ⟨c44,q0,q1,q2,q3,q4⟩:=hS';go_simp;first | done | rfl | exact ⟨rfl,rfl⟩));go_big_quiet_on;simp only [Act.put,List.setIfInBounds_toArray,List.set_cons_succ,List.set_cons_zero]))));refine wpQuiet_nil ?_;(try dsimp only))
 (refine Xh 8 (by kernel_rfl) (fun K hK=>?_);simp only [Xj,List.toList_toArray])
 have c44:=hS.1
 go_wp2_with fail
 have HN:=Lib.hid (H1.out.chg (w':=w0.alloc (.cells #[.int .i64 x0,.int .i64 x1,.int .i64 x2,.int .i64 x3,.bool x4] 51)) (F:=[]) (Chg.of_below ((Below.refl _ _).alloc (Nat.le_refl _) _)) (fun _ _=>List.not_mem_nil))
 have CN:=Lib.hid (C1.out.trans (Chg.of_below (F:=[]) ((Below.refl _ _).alloc (Nat.le_refl _) (.cells #[.int .i64 x0,.int .i64 x1,.int .i64 x2,.int .i64 x3,.bool x4] 51))))
 have XN:=X1.alloc (.cells #[.int .i64 x0,.int .i64 x1,.int .i64 x2,.int .i64 x3,.bool x4] 51)
 obtain ⟨v',w5,hrun,ho,hg,hfr⟩:=own_words_append _ R.seen.v ss HN.out.os (by omega) ⟨x0,x1,x2,x3,x4⟩ w0.heap.size (Bk.at_ rfl) 103
 obtain ⟨va,vc,rfl,_⟩:=Yq ho
 have HS:=Lib.hid (HN.out.sees (u:=⟨va,(ss++[(⟨x0,x1,x2,x3,x4⟩:Xf)]).length,vc⟩) ho hg hfr)
 have HR:=Lib.hid hrun
 have HF:=Lib.hid hfr
 have b2:Bk w5 g 171 R.l.toArray:=HN.out.bk.grown hg (fun e=>HN.out.gs e.symm)
 have X5:=XN.grown hg (fun e=>bx e.symm)
 have c44:=(rcells b2).2.1
 have f44:=b2.free 44
 have hS1:_∧_∧_∧_∧_∧_:=⟨(rcells HN.out.bk).2.1,XN.cell 0,XN.cell 1,XN.cell 2,XN.cell 3,XN.cell 4⟩
 refine hK.out _ _ (fun _=>hS1) ?_
 clear hK hS hS1 ho hg hfr hrun X1 H1
 generalize (ss++[(⟨x0,x1,x2,x3,x4⟩:Xf)]).length = sl at *
 (refine Xh 9 (by kernel_rfl) (fun K hK=>?_);simp only [Xj,List.toList_toArray])
 go_wp2_with (at_builtin;refine Ya (by rfl) _ _ _ _ _ _ _ (by rfl) (by rfl) (by rfl) HR.out ?_)
 refine hK.out _ _ (fun _=>⟨c44,X5.cell 0,X5.cell 1,X5.cell 2,X5.cell 3,X5.cell 4⟩) ?_
 clear hK HR
 ((refine Xh 10 (by kernel_rfl) (fun K hK=>?_);simp only [Xj,List.toList_toArray]);go_wp2_with fail;refine hK.out _ _ (fun h=>absurd h (by omega)) ?_;clear hK)
 ((refine Xh 11 (by kernel_rfl) (fun K hK=>?_);simp only [Xj,List.toList_toArray]);go_wp2_with fail;refine hK.out _ _ (fun h=>absurd h (by omega)) ?_;clear hK)
 ((refine Xh 12 (by kernel_rfl) (fun K hK=>?_);simp only [Xj,List.toList_toArray]);go_wp2_with fail;refine hK.out _ _ (fun h=>absurd h (by omega)) ?_;clear hK)
 (refine Xh 13 (by kernel_rfl) (fun K hK=>?_);simp only [Xj,List.toList_toArray])
 go_wp2_with fail
 refine hK.out _ _ (fun h=>absurd h (by omega)) ?_
 clear hK
 refine X9 (by kernel_rfl) ?_ _
 clear c44 f44 b2 X5
 obtain ⟨R1,hR1⟩:∃ R1,R1 = Yw R R.notes R.doomed ⟨va,sl,vc⟩:=⟨_,rfl⟩
 have H6:RB (w5.setCell ⟨g,44,none⟩ (.slice va sl vc)) g R1 ns ds (ss++[⟨x0,x1,x2,x3,x4⟩]):=by rw [hR1];exact HS.out.1
 have C6:Chg (Yc g R) w (w5.setCell ⟨g,44,none⟩ (.slice va sl vc)):=(CN.out.mono (fun x hx=>by cases hx)).trans HS.out.2
 have HFF:Hid (∀ x∈Yc g R1,x∈Yc g R∨w.heap.size≤x):=by
  refine Lib.hid (fun x hx=>?_)
  rw [hR1] at hx
  have hz:=CN.out.size
  rcases Xk.1 hx with h1 | h1 | h1 | h1
  ·exact Or.inl (Xk.2 (Or.inl h1))
  ·exact Or.inl (Xk.2 (Or.inr (Or.inl h1)))
  ·exact Or.inl (Xk.2 (Or.inr (Or.inr (Or.inl h1))))
  ·rcases HF.out x h1 with h2 | h2
   ·exact Or.inl (Xk.2 (Or.inr (Or.inr (Or.inr h2))))
   ·right;omega
 have HE:Hid (R1 = Yw R R.notes R.doomed ⟨va,sl,vc⟩):=Lib.hid hR1
 have ix:R1.index = R.index:=by rw [hR1];rfl
 have ex:R1.engine = R.engine:=by rw [hR1];rfl
 have ht1:Thr R1:=by rw [hR1];exact ht
 have ck:R1.clock = R.clock:=by rw [hR1];rfl
 have CK:=Lib.hid ck;have EX:=Lib.hid ex;have IX:=Lib.hid ix
 clear hR1 HS HF HN CN XN C1 ck ex
 generalize w5.setCell ⟨g,44,none⟩ (.slice va sl vc) = w6 at *
 have c43:=(rcells3 H6.bk).1
 rw [ix] at c43
 have L1:=Lib.hid (look_any R1 (R.index+1) g w6 H6.bk ht1 (by omega) (by omega))
 have H6:=Lib.hid H6;have C6:=Lib.hid C6
 clear ix bx
 go_wp2_with fail
 refine L1.out.mono ?_
 rintro e w7 ⟨rfl,hb7,hc7⟩
 have HB7:=Lib.hid hb7;have HC7:=Lib.hid hc7
 clear hb7 hc7 L1 c43
 have hls:R1.look (R.index+1) = (Yw (R.look (R.index+1)).1 R.notes R.doomed ⟨va,sl,vc⟩,(R.look (R.index+1)).2):=by rw [HE.out,look_hset]
 have HLS:=Lib.hid hls
 rw [show (R1.look (R.index+1)).2 = (R.look (R.index+1)).2 from by rw [hls]]
 clear hls
 cases hlk:(R.look (R.index+1)).2 with
 | true =>
  go_wp2_with fail
  go_end0
  have hb7:=HB7.out
  rw [HLS.out] at hb7
  have e1:MR.tookLoad13 ⟨R,ns,ds,ss⟩ ⟨⟨x0,x1,x2,x3,x4⟩,x5⟩ = ⟨(R.look (R.index+1)).1,ns,ds,ss++[⟨x0,x1,x2,x3,x4⟩]⟩:=by
   unfold MR.tookLoad13
   simp only [hlk]
   rfl
  rw [e1]
  refine ⟨rfl,R.notes,R.doomed,⟨va,sl,vc⟩,H6.out.upd hb7 HC7.out (by rw [HE.out];rfl) (Or.inl ⟨by rw [HE.out];rfl,rfl⟩) (Or.inl ⟨by rw [HE.out];rfl,rfl⟩),C6.out.trans (chg_g HC7.out (Xk.2 (Or.inl rfl))),fun x hx=>HFF.out x ?_⟩
  rw [HE.out]
  exact Xk.2 (Xk.1 hx)
 | false =>
  have e7:(R1.look (R.index+1)).1 = R1:=by rw [HLS.out,look_no hlk,HE.out]
  have H7:=Lib.hid (H6.out.same (e7 ▸ HB7.out) HC7.out)
  have C7:Hid (Chg (Yc g R) w w7):=Lib.hid (C6.out.trans (chg_g HC7.out (Xk.2 (Or.inl rfl))))
  have c46:=(rcells3 H7.out.bk).2.1
  rw [EX.out] at c46
  have HLK:=Lib.hid hlk
  clear e7 hlk HB7 HC7 HLS H6 C6 c44
  by_cases h4:R.engine = 4
  ·have em:MR.tookLoad13 ⟨R,ns,ds,ss⟩ ⟨⟨x0,x1,x2,x3,x4⟩,x5⟩ = bif spansMay R.clock.nm ((ss++[(⟨x0,x1,x2,x3,x4⟩:Xf)]).map hear) then ⟨R.advance 14,ns,ds,ss++[⟨x0,x1,x2,x3,x4⟩]⟩ else ⟨R.load 15 (root 24),ns,ds,ss++[⟨x0,x1,x2,x3,x4⟩]⟩:=by
    unfold MR.tookLoad13
    simp only [HLK.out,h4]
    rfl
   rw [h4] at c46
   have EM:=Lib.hid em;have H4:=Lib.hid h4
   clear em h4 he
   go_wp2_with fail
   have c41:=(rcells3 H7.out.bk).2.2
   rw [CK.out] at c41
   refine X2 (fun w'=>w'.cell? ⟨g,41,none⟩ = some (.int .i64 R.clock.nm)) 9 (by kernel_rfl) c41 (fun hS=>?_)
   have H8:=Lib.hid (H7.out.chg (w':=w7.drew) (F:=[]) (Chg.of_below (Below.refl _ _).drew) (fun _ _=>List.not_mem_nil))
   have C8:Hid (Chg (Yc g R) w w7.drew):=Lib.hid (C7.out.trans (Chg.of_below (Below.refl _ _).drew))
   clear c41 c46 H7 C7
   generalize w7.drew = w8 at *
   have HSP:=Lib.hid (spansOf_any w8 g R1 ns ds _ H8.out (by simp;omega))
   have hml:((ss++[(⟨x0,x1,x2,x3,x4⟩:Xf)]).map hear).length≤100000:=by simp;omega
   have HML:=Lib.hid hml
   clear hml
   generalize (ss++[(⟨x0,x1,x2,x3,x4⟩:Xf)]).map hear = sp at *
   ((try simp only [Act.put,List.setIfInBounds_toArray,List.set_cons_succ,List.set_cons_zero]);refine vT (fuel:=2) hS [0,1,2,3,4,5,6] ?_;simp only [Xu,Xj,List.toList_toArray];(repeat (first | go_big_quiet_skip | (go_big_quiet_want;first | (go_big_quiet_op;go_big_quiet_on) | (apply Exists.intro;refine ⟨fun w' hS'=>?_,?_⟩;(· (have c41:=hS';go_simp;first | done | rfl | exact ⟨rfl,rfl⟩));go_big_quiet_on;simp only [Act.put,List.setIfInBounds_toArray,List.set_cons_succ,List.set_cons_zero]))));refine wpQuiet_nil ?_;(try dsimp only))
   (refine Xh 7 (by kernel_rfl) (fun K hK=>?_);simp only [Xj,List.toList_toArray])
   go_wp2_with fail
   refine HSP.out.mono ?_
   rintro e w9 ⟨v,rfl,os,hb9,fs0⟩
   obtain ⟨pa,pc,rfl,_⟩:=Yq os
   have hsp:Sl w9 w9.heap.size 3 pa sp.length (rows GSpan.l sp):=Sl.of_own2 os
   have HMY:=Lib.hid (may_any R.clock.nm pa pc sp w9 hsp HML.out)
   have H9:=Lib.hid (H8.out.chg (F:=[]) (Chg.of_below hb9) (fun _ _=>List.not_mem_nil))
   have C9:Hid (Chg (Yc g R) w w9):=Lib.hid (C8.out.trans (Chg.of_below hb9))
   have c41:=(rcells3 H9.out.bk).2.2
   rw [CK.out] at c41
   clear os hb9 fs0 hsp HSP H8 C8
   go_wp2_with fail
   refine hK.out _ _ (fun _=>c41) ?_
   clear hK hS
   (refine Xh 8 (by kernel_rfl) (fun K hK=>?_);simp only [Xj,List.toList_toArray])
   go_wp2_with fail
   refine HMY.out.mono ?_
   rintro e wa ⟨rfl,hba⟩
   have HA:=Lib.hid (H9.out.chg (F:=[]) (Chg.of_below hba) (fun _ _=>List.not_mem_nil))
   have CA:Hid (Chg (Yc g R) w wa):=Lib.hid (C9.out.trans (Chg.of_below hba))
   have c41:=(rcells3 HA.out.bk).2.2
   rw [CK.out] at c41
   clear hba HMY H9 C9
   go_wp2_with fail
   refine hK.out _ _ (fun _=>c41) ?_
   clear hK c41
   refine X9 (by kernel_rfl) ?_ _
   cases hmy:spansMay R.clock.nm sp with
   | true =>
    go_wp2_with fail
    refine (radv_any R1 14 g wa HA.out.bk).mono ?_
    rintro e wb ⟨rfl,hbb,hcb⟩
    have HB:=Lib.hid hbb;have HC:=Lib.hid hcb
    clear hbb hcb
    go_wp2_with fail
    go_end0
    have h1:=retR_wrap (v:=.tuple #[]) (w1:=wa) (R:=R) (a:=R.notes) (b:=R.doomed) (c:=⟨va,sl,vc⟩) ht (Xk.2 (Or.inl rfl)) CA.out (HE.out ▸ HA.out) (HE.out ▸ HFF.out) (hdr_advance (st:=14) rfl) (HE.out ▸ HB.out) HC.out
    rw [EM.out,hmy]
    exact h1
   | false =>
    go_wp2_with fail
    refine (era_any wa).mono ?_
    rintro e wb ⟨rfl,hcb⟩
    have HB:=Lib.hid (HA.out.chg hcb (fun _ _=>List.not_mem_nil))
    have CB:Hid (Chg (Yc g R) w wb):=Lib.hid (CA.out.trans (hcb.mono (fun x hx=>by cases hx)))
    clear hcb
    go_wp2_with fail
    refine (rload_any R1 15 (root 24) g wb HB.out.bk).mono ?_
    rintro e wc ⟨rfl,hbb,hcb⟩
    have HB2:=Lib.hid hbb;have HC:=Lib.hid hcb
    clear hbb hcb
    go_wp2_with fail
    go_end0
    have h1:=retR_wrap (v:=.tuple #[]) (w1:=wb) (R:=R) (a:=R.notes) (b:=R.doomed) (c:=⟨va,sl,vc⟩) ht (Xk.2 (Or.inl rfl)) CB.out (HE.out ▸ HB.out) (HE.out ▸ HFF.out) (hdr_load (st:=15) rfl (root 24)) (HE.out ▸ HB2.out) HC.out
    rw [EM.out,hmy]
    exact h1
  ·have em:MR.tookLoad13 ⟨R,ns,ds,ss⟩ ⟨⟨x0,x1,x2,x3,x4⟩,x5⟩ = MR.sift ⟨R,ns,ds,ss++[⟨x0,x1,x2,x3,x4⟩]⟩:=by
    unfold MR.tookLoad13
    simp only [HLK.out]
    rw [show (R.engine==4) = false from by simp [h4]]
    rfl
   have EM:=Lib.hid em
   have h4':(R.engine==4) = false:=by simp [h4]
   have HSI:=Lib.hid (sift_any w7 g R1 ns ds (ss++[⟨x0,x1,x2,x3,x4⟩]) H7.out ht1 hl (by simp;omega) (by rw [EX.out];exact he))
   have H4:=Lib.hid h4
   have HE2:=Lib.hid he
   clear em h4 he
   go_wp2_with fail
   refine HSI.out.mono ?_
   intro e w9 hr
   have hr2:RetR w g (Yc g R) (.tuple #[]) (MR.sift ⟨R,ns,ds,ss++[⟨x0,x1,x2,x3,x4⟩]⟩) e w9:=by
    refine RetR.after C7.out HFF.out (sift_hset (R:=R) (a:=R.notes) (b:=R.doomed) (c:=⟨va,sl,vc⟩) ?_)
    rw [← HE.out]
    exact hr
   rw [← EM.out] at hr2
   obtain rfl:=hr2.1
   have HR:=Lib.hid hr2
   clear hr hr2
   go_wp2_with fail
   go_end0
   exact HR.out
theorem putH_hset (R:Xa) (a b c:GSl) (n:Int) (u:Xf):(Yw R a b c).putH n u = Yw (R.putH n u) a b c:=by
 unfold Xa.putH
 cases n==0 with
 | true=>rfl
 | false =>
 cases n==1 with
 | true=>rfl
 | false =>
 cases n==2 with
 | true=>rfl
 | false =>
 cases n==3 with
 | true=>rfl
 | false =>
 cases n==4 with
 | true=>rfl
 | false =>
 cases n==5 with
 | true=>rfl
 | false =>
 cases n==6 with
 | true=>rfl
 | false =>
 cases n==7 with
 | true=>rfl
 | false=>rfl
theorem hdr_post {st:Int} (h:(st==0) = false) (n:Int) (u:Xf):Hdr fun R=>R.post st n u:=fun R a b c ht=>by
 have e:(R.post st n u).step = st:=rfl
 simp only [e,h,cond_false]
 unfold Xa.post
 rw [putH_hset]
 rfl
theorem hdr_announce {st:Int} (h:(st==0) = false) (s:GSpan):Hdr fun R=>R.announce st s:=fun R a b c ht=>by
 have e:(R.announce st s).step = st:=rfl
 simp only [e,h,cond_false]
 rfl
theorem hdr_leaveK:∀ l,Hdr fun R=>R.leaveK l
 | []=>hdr_done
 | n :: r=>fun R a b c ht=>by
  show (bif wz ((Yw R a b c).getH n) then (Yw R a b c).leaveK r else Xa.post { (Yw R a b c) with index:=n } 4 n .zero) = Yw (bif wz (R.getH n) then R.leaveK r else Xa.post { R with index:=n } 4 n .zero) a (bif (bif wz (R.getH n) then R.leaveK r else Xa.post { R with index:=n } 4 n .zero).step==0 then nilSl else b) (bif (bif wz (R.getH n) then R.leaveK r else Xa.post { R with index:=n } 4 n .zero).step==0 then nilSl else c)
  rw [show (Yw R a b c).getH n = R.getH n from rfl]
  cases wz (R.getH n) with
  | true=>exact hdr_leaveK r R a b c ht
  | false=>exact hdr_post (st:=4) rfl n .zero { R with index:=n } a b c ht
theorem Yp (l:List Int):Hdr fun R=>R.leave l :=
 hdr_bif (p:=fun R=>R.spanning && !(!R.span.is && (R.span.low==0 && R.span.high==0))) (fun _ _ _ _=>rfl) (hdr_announce (st:=2) rfl .zero) (hdr_bif (p:=Xa.keeping) (fun _ _ _ _=>rfl) (hdr_leaveK l) hdr_done)
theorem hdr_tookLoad (x:Xi):Hdr fun R=>R.tookLoad x:=fun R a b c ht=>by
 show (bif R.dating then Xa.load { (Yw R a b c) with word:=x.word } 6 (root 24) else bif R.engine==2 && (!(x.word.sl==0) && !weqr (R.getH R.call.i) x.word) then Xa.post { (Yw R a b c) with word:=x.word } 7 R.call.i (wref x.word) else Xa.finish { (Yw R a b c) with word:=x.word } ⟨x.word,true⟩) =
  Yw (bif R.dating then Xa.load { R with word:=x.word } 6 (root 24) else bif R.engine==2 && (!(x.word.sl==0) && !weqr (R.getH R.call.i) x.word) then Xa.post { R with word:=x.word } 7 R.call.i (wref x.word) else Xa.finish { R with word:=x.word } ⟨x.word,true⟩) a (bif (bif R.dating then Xa.load { R with word:=x.word } 6 (root 24) else bif R.engine==2 && (!(x.word.sl==0) && !weqr (R.getH R.call.i) x.word) then Xa.post { R with word:=x.word } 7 R.call.i (wref x.word) else Xa.finish { R with word:=x.word } ⟨x.word,true⟩).step==0 then nilSl else b) (bif (bif R.dating then Xa.load { R with word:=x.word } 6 (root 24) else bif R.engine==2 && (!(x.word.sl==0) && !weqr (R.getH R.call.i) x.word) then Xa.post { R with word:=x.word } 7 R.call.i (wref x.word) else Xa.finish { R with word:=x.word } ⟨x.word,true⟩).step==0 then nilSl else c)
 cases R.dating with
 | true=>rfl
 | false =>
  cases R.engine==2 && (!(x.word.sl==0) && !weqr (R.getH R.call.i) x.word) with
  | true=>exact hdr_post (st:=7) rfl R.call.i (wref x.word) { R with word:=x.word } a b c ht
  | false=>rfl
theorem hdr_tookClock (x:Xi):Hdr fun R=>R.tookClock x:=fun R a b c ht=>by
 unfold Xa.tookClock
 simp only [show ∀ i n,(Yw R a b c).covers i n = R.covers i n from fun _ _=>rfl,show (Yw R a b c).call = R.call from rfl,show (Yw R a b c).engine = R.engine from rfl,show (Yw R a b c).word = R.word from rfl,show (Yw R a b c).span = R.span from rfl]
 cases R.covers R.call.i x.word.nm with
 | true=>rfl
 | false =>
  cases R.engine==3 with
  | true=>exact hdr_post (st:=7) rfl R.call.i (wnum x.word.nm) R a b c ht
  | false=>rfl
theorem hdr_loadW (x:Xi):Hdr fun R=>Xa.load { R with word:=x.word } 10 (root 24):=fun R a b c ht=>rfl
theorem hdr_loadC:Hdr fun R=>R.load 5 R.call.adr:=fun R a b c ht=>rfl
theorem hdr_lookC (x:Xi):Hdr fun R=>(Xa.look { R with clock:=x.word } 0).1:=fun R a b c ht=>by
 have h:=look_hset { R with clock:=x.word } a b c 0
 show ((Yw { R with clock:=x.word } a b c).look 0).1 = _
 rw [h]
 have e:(Xa.look { R with clock:=x.word } 0).1.step = 13:=by
  obtain ⟨h1,h2⟩:=ht
  unfold Xa.look
  show (bif R.keeping then _ else _:Xa × Bool).1.step = 13
  cases R.keeping with
  | true =>
   show (bif decide (wr (R.threads*9)≤0) then _ else _:Xa × Bool).1.step = 13
   rw [show decide (wr (R.threads*9)≤0) = false from decide_eq_false (by rw [wr_in (by omega) (by omega)];omega)]
   rfl
  | false =>
   show (bif decide (R.threads≤0) then _ else _:Xa × Bool).1.step = 13
   rw [show decide (R.threads≤0) = false from decide_eq_false (by omega)]
   rfl
 simp only [e]
 rfl
theorem took10_any (w:World) (g:Nat) (R:Xa) (ns ds:List Xp) (ss:List Xf) (x:Xi) (h:RB w g R ns ds ss) (ht:Thr R) (hl:ns.length≤100000) (hs:R.step = 10) :
  Calls Tryz.prog 58 #[.pointer (some ⟨g,0,none⟩),.agg x.l.toArray] w (RetR w g (Yc g R) .nilIface (MR.took ⟨R,ns,ds,ss⟩ x)):=by
 (have c18:=cell18 h.bk;rw [hs] at c18;obtain ⟨⟨x0,x1,x2,x3,x4⟩,x5⟩:=x;show Calls Tryz.prog 58 #[.pointer (some ⟨g,0,none⟩),.agg #[.int .i64 x0,.int .i64 x1,.int .i64 x2,.int .i64 x3,.bool x4,.bool x5]] w _;have HH:=Lib.hid (h.chg (w':=(w.alloc (.cells #[.int .i64 x0,.int .i64 x1,.int .i64 x2,.int .i64 x3,.bool x4,.bool x5] 108))) (F:=[]) (Chg.of_below ((Below.refl _ _).alloc (Nat.le_refl _) _)) (fun _ _=>List.not_mem_nil));have HC:Hid (Chg [] w (w.alloc (.cells #[.int .i64 x0,.int .i64 x1,.int .i64 x2,.int .i64 x3,.bool x4,.bool x5] 108))):=Lib.hid (Chg.of_below ((Below.refl _ _).alloc (Nat.le_refl _) _));have hgl:=h.bk.lt;have HQ:=Lib.hid (tookRetire10_any (w.alloc (.cells #[.int .i64 x0,.int .i64 x1,.int .i64 x2,.int .i64 x3,.bool x4,.bool x5] 108)) g R ns ds ss ⟨⟨x0,x1,x2,x3,x4⟩,x5⟩ HH.out hl hs ht);clear h;go_enter Tryz.func58,Tryz.ntmps58;go_wp2_with fail;refine HQ.out.mono ?_;intro e w5 hr;obtain ⟨rfl,a,b,c,hb,hc,hf⟩:=hr;have HR:Hid (RetR w g (Yc g R) .nilIface _ (.returned .nilIface) w5):=Lib.hid (RetR.after (HC.out.mono (fun x hx=>by cases hx)) (fun x hx=>Or.inl hx) ⟨rfl,a,b,c,hb,hc,hf⟩);clear hb hc hf HQ HC HH;go_wp2_with fail;go_ret;exact HR.out)
theorem took13_any (w:World) (g:Nat) (R:Xa) (ns ds:List Xp) (ss:List Xf) (x:Xi) (h:RB w g R ns ds ss) (ht:Thr R) (hl:ns.length≤100000) (hk:ss.length≤900) (hs:R.step = 13)
  (he:R.engine = 2∨R.engine = 3∨R.engine = 4∨R.engine = 5) (hi0:0≤R.index) (hi1:R.index < 100) :
  Calls Tryz.prog 58 #[.pointer (some ⟨g,0,none⟩),.agg x.l.toArray] w (RetR w g (Yc g R) .nilIface (MR.took ⟨R,ns,ds,ss⟩ x)):=by
 (have c18:=cell18 h.bk;rw [hs] at c18;obtain ⟨⟨x0,x1,x2,x3,x4⟩,x5⟩:=x;show Calls Tryz.prog 58 #[.pointer (some ⟨g,0,none⟩),.agg #[.int .i64 x0,.int .i64 x1,.int .i64 x2,.int .i64 x3,.bool x4,.bool x5]] w _;have HH:=Lib.hid (h.chg (w':=(w.alloc (.cells #[.int .i64 x0,.int .i64 x1,.int .i64 x2,.int .i64 x3,.bool x4,.bool x5] 108))) (F:=[]) (Chg.of_below ((Below.refl _ _).alloc (Nat.le_refl _) _)) (fun _ _=>List.not_mem_nil));have HC:Hid (Chg [] w (w.alloc (.cells #[.int .i64 x0,.int .i64 x1,.int .i64 x2,.int .i64 x3,.bool x4,.bool x5] 108))):=Lib.hid (Chg.of_below ((Below.refl _ _).alloc (Nat.le_refl _) _));have hgl:=h.bk.lt;have HQ:=Lib.hid (tookScan13_any (w.alloc (.cells #[.int .i64 x0,.int .i64 x1,.int .i64 x2,.int .i64 x3,.bool x4,.bool x5] 108)) g R ns ds ss ⟨⟨x0,x1,x2,x3,x4⟩,x5⟩ HH.out ht hl hk hs he hi0 hi1);clear h;go_enter Tryz.func58,Tryz.ntmps58;go_wp2_with fail;refine HQ.out.mono ?_;intro e w5 hr;obtain ⟨rfl,a,b,c,hb,hc,hf⟩:=hr;have HR:Hid (RetR w g (Yc g R) .nilIface _ (.returned .nilIface) w5):=Lib.hid (RetR.after (HC.out.mono (fun x hx=>by cases hx)) (fun x hx=>Or.inl hx) ⟨rfl,a,b,c,hb,hc,hf⟩);clear hb hc hf HQ HC HH;go_wp2_with fail;go_ret;exact HR.out)
theorem took15_any (w:World) (g:Nat) (R:Xa) (ns ds:List Xp) (ss:List Xf) (x:Xi) (h:RB w g R ns ds ss) (ht:Thr R) (hl:ns.length≤100000) (hk:ss.length≤1000) (he:R.engine = 2∨R.engine = 3∨R.engine = 4∨R.engine = 5) (hs:R.step = 15) :
  Calls Tryz.prog 58 #[.pointer (some ⟨g,0,none⟩),.agg x.l.toArray] w (RetR w g (Yc g R) .nilIface (MR.took ⟨R,ns,ds,ss⟩ x)):=by
 (have c18:=cell18 h.bk;rw [hs] at c18;obtain ⟨⟨x0,x1,x2,x3,x4⟩,x5⟩:=x;show Calls Tryz.prog 58 #[.pointer (some ⟨g,0,none⟩),.agg #[.int .i64 x0,.int .i64 x1,.int .i64 x2,.int .i64 x3,.bool x4,.bool x5]] w _;have HH:=Lib.hid (h.chg (w':=(w.alloc (.cells #[.int .i64 x0,.int .i64 x1,.int .i64 x2,.int .i64 x3,.bool x4,.bool x5] 108))) (F:=[]) (Chg.of_below ((Below.refl _ _).alloc (Nat.le_refl _) _)) (fun _ _=>List.not_mem_nil));have HC:Hid (Chg [] w (w.alloc (.cells #[.int .i64 x0,.int .i64 x1,.int .i64 x2,.int .i64 x3,.bool x4,.bool x5] 108))):=Lib.hid (Chg.of_below ((Below.refl _ _).alloc (Nat.le_refl _) _));have hgl:=h.bk.lt;have HQ:=Lib.hid (tookScan15_any (w.alloc (.cells #[.int .i64 x0,.int .i64 x1,.int .i64 x2,.int .i64 x3,.bool x4,.bool x5] 108)) g R ns ds ss ⟨⟨x0,x1,x2,x3,x4⟩,x5⟩ HH.out ht hl hk he hs);clear h;go_enter Tryz.func58,Tryz.ntmps58;go_wp2_with fail;refine HQ.out.mono ?_;intro e w5 hr;obtain ⟨rfl,a,b,c,hb,hc,hf⟩:=hr;have HR:Hid (RetR w g (Yc g R) .nilIface _ (.returned .nilIface) w5):=Lib.hid (RetR.after (HC.out.mono (fun x hx=>by cases hx)) (fun x hx=>Or.inl hx) ⟨rfl,a,b,c,hb,hc,hf⟩);clear hb hc hf HQ HC HH;go_wp2_with fail;go_ret;exact HR.out)
theorem took16_any (w:World) (g:Nat) (R:Xa) (ns r:List Xp) (d:Xp) (ss:List Xf) (x:Xi) (h:RB w g R ns (d :: r) ss) (ht:Thr R) (hl:ns.length≤100000) (hl2:r.length≤90000) (hd:d∈ns) (hs:R.step = 16) :
  Calls Tryz.prog 58 #[.pointer (some ⟨g,0,none⟩),.agg x.l.toArray] w (RetR w g (Yc g R) .nilIface (MR.took ⟨R,ns,d :: r,ss⟩ x)):=by
 (have c18:=cell18 h.bk;rw [hs] at c18;obtain ⟨⟨x0,x1,x2,x3,x4⟩,x5⟩:=x;show Calls Tryz.prog 58 #[.pointer (some ⟨g,0,none⟩),.agg #[.int .i64 x0,.int .i64 x1,.int .i64 x2,.int .i64 x3,.bool x4,.bool x5]] w _;have HH:=Lib.hid (h.chg (w':=(w.alloc (.cells #[.int .i64 x0,.int .i64 x1,.int .i64 x2,.int .i64 x3,.bool x4,.bool x5] 108))) (F:=[]) (Chg.of_below ((Below.refl _ _).alloc (Nat.le_refl _) _)) (fun _ _=>List.not_mem_nil));have HC:Hid (Chg [] w (w.alloc (.cells #[.int .i64 x0,.int .i64 x1,.int .i64 x2,.int .i64 x3,.bool x4,.bool x5] 108))):=Lib.hid (Chg.of_below ((Below.refl _ _).alloc (Nat.le_refl _) _));have hgl:=h.bk.lt;have HQ:=Lib.hid (tookScan16_any (w.alloc (.cells #[.int .i64 x0,.int .i64 x1,.int .i64 x2,.int .i64 x3,.bool x4,.bool x5] 108)) g R ns r d ss ⟨⟨x0,x1,x2,x3,x4⟩,x5⟩ HH.out ht hl hl2 hd hs);clear h;go_enter Tryz.func58,Tryz.ntmps58;go_wp2_with fail;refine HQ.out.mono ?_;intro e w5 hr;obtain ⟨rfl,a,b,c,hb,hc,hf⟩:=hr;have HR:Hid (RetR w g (Yc g R) .nilIface _ (.returned .nilIface) w5):=Lib.hid (RetR.after (HC.out.mono (fun x hx=>by cases hx)) (fun x hx=>Or.inl hx) ⟨rfl,a,b,c,hb,hc,hf⟩);clear hb hc hf HQ HC HH;go_wp2_with fail;go_ret;exact HR.out)
end Go.Proofs.YtaipogljokblkaaGreatDoor
