/- Core: RC, RD, RE, RF, PE, PF, PG. -/
import Derived.Test.YtaipogljokblkaaGreatDoorZ17
import Derived.Test.YtaipogljokblkaaGreatDoorZ01
import Derived.Test.YtaipogljokblkaaGreatDoorZ13
import Derived.Test.YtaipogljokblkaaGreatDoorZ16
import Derived.Test.YtaipogljokblkaaGreatDoorZ09
set_option linter.all false
set_option maxRecDepth 100000
set_option maxHeartbeats 8000000
namespace Go.Proofs.YtaipogljokblkaaGreatDoor
open Go Go.RowKit
set_option linter.unusedSimpArgs false
set_option linter.unusedVariables false
set_option linter.unusedSectionVars false
theorem rcell {w:World} {g:Nat} {R:Xa} (h:Bk w g 171 R.l.toArray) (i:Nat) (u:Value) (e:R.l.toArray[i]? = some u):w.cell? ⟨g,i,none⟩ = some u:=(h.cell i).trans e
theorem rnote {w:World} {g:Nat} {R:Xa} (h:Bk w g 171 R.l.toArray):w.cell? ⟨g,98,none⟩ = some R.notes.v∧w.cell? ⟨g,4,none⟩ = some (.int .i64 R.call.old.sl)∧w.cell? ⟨g,5,none⟩ = some (.int .i64 R.call.old.gn) ∧
  w.cell? ⟨g,6,none⟩ = some (.int .i64 R.call.old.tg)∧w.cell? ⟨g,7,none⟩ = some (.int .i64 R.call.old.nm)∧w.cell? ⟨g,8,none⟩ = some (.bool R.call.old.mark) :=
 ⟨rcell h 98 _ (by kernel_rfl),rcell h 4 _ (by kernel_rfl),rcell h 5 _ (by kernel_rfl),rcell h 6 _ (by kernel_rfl),rcell h 7 _ (by kernel_rfl),rcell h 8 _ (by kernel_rfl)⟩
def RetNote (w:World) (g:Nat) (R:Xa) (ns ds:List Xp) (ss:List Xf) (e:Ending) (w':World):Prop :=
 e = .returned (.tuple #[])∧∃ hn:GSl,RB w' g { R with notes:=hn } ns ds ss∧Chg (Yc g R) w w'∧(∀ b,hn.v.ownBlock = some b→R.notes.v.ownBlock = some b∨w.heap.size≤b)
theorem set98 (R:Xa) (u:GSl):R.l.toArray.setIfInBounds 98 u.v = ({ R with notes:=u }:Xa).l.toArray:=by kernel_rfl
theorem RB.notes {w w2:World} {g:Nat} {R:Xa} {ns ns' ds:List Xp} {ss:List Xf} (h:RB w g R ns ds ss) {u:GSl} (ho:Own w2 201 7 u.v ns'.length (rows Xp.l ns'))
  (hg:w.grownBy w2 R.notes.v.ownBlock) (hf:Fresh w R.notes.v u.v):RB (w2.setCell ⟨g,98,none⟩ u.v) g { R with notes:=u } ns' ds ss∧Chg (Yc g R) w (w2.setCell ⟨g,98,none⟩ u.v):=by
 have hlt:=h.bk.lt
 have b2:Bk w2 g 171 R.l.toArray:=h.bk.grown hg (fun e=>h.gn e.symm)
 have gu:u.v.ownBlock≠some g:=fun e=>(hf g e).elim h.gn (fun h'=>by omega)
 have od:=h.od.grown hg (by cases h0:R.doomed.v.ownBlock with | none=>exact Or.inl rfl | some b=>exact Or.inr (fun e=>h.nd b e.symm h0))
 have os:=h.os.grown hg (by cases h0:R.seen.v.ownBlock with | none=>exact Or.inl rfl | some b=>exact Or.inr (fun e=>h.ns b e.symm h0))
 have far:∀ {v:Value},v.ownBlock≠some g→v.ownBlock = none∨v.ownBlock≠some g:=fun hv=>Or.inr hv
 have hg2:=Xq w2 g 98 u.v
 refine ⟨⟨by rw [← set98];exact b2.set_ 98 u.v,ho.grown hg2 (far gu),od.grown hg2 (far h.gd),os.grown hg2 (far h.gs),gu,h.gd,h.gs,fun b hb=>(hf b hb).elim (h.nd b) (fun h' e=>by have:=h.od.lt e;omega),fun b hb=>(hf b hb).elim (h.ns b) (fun h' e=>by have:=h.os.lt e;omega),h.ds⟩,?_⟩
 refine (Chg.of_grown (b:=0) hg fun b e=>Xk.2 (Or.inr (Or.inl e))).trans ?_
 exact Chg.of_grown (b:=0) hg2 fun b e=>Xk.2 (Or.inl (by injection e with e;exact e.symm))
theorem wref_l (x:Xf):(wref x).l.toArray = #[.int .i64 x.sl,.int .i64 x.gn,.int .i64 0,.int .i64 0,.bool false]:=rfl
theorem note_any (w:World) (g:Nat) (R:Xa) (ns ds:List Xp) (ss:List Xf) (h:RB w g R ns ds ss) (hl:ns.length≤100000) (birth death:Int) :
  Calls Tryz.prog 93 #[.pointer (some ⟨g,0,none⟩),.int .i64 birth,.int .i64 death] w (RetNote w g R (ns++[⟨wref R.call.old,birth,death⟩]) ds ss):=by
 have HH:=Lib.hid h
 have HB:=Lib.hid h.bk
 have hgl:=h.bk.lt
 clear h
 go_enter Tryz.func93,Tryz.ntmps93
 refine X2 (fun w'=>Bk w' g 171 R.l.toArray) 17 (by kernel_rfl) HB.out.drew (fun hS=>?_)
 have HD:Hid (RB w.drew g R ns ds ss):=Lib.hid (HH.out.chg (F:=[]) (Chg.of_below (Below.refl _ _).drew) (fun _ _=>List.not_mem_nil))
 have HC:Hid (Chg [] w w.drew):=Lib.hid (Chg.of_below (Below.refl _ _).drew)
 clear HH HB
 generalize w.drew = w0 at *
 ((try simp only [Act.put,List.setIfInBounds_toArray,List.set_cons_succ,List.set_cons_zero]);refine vT (fuel:=7) hS [0,1,2,3,4,5,6,7,8,9,10,12,13] ?_;simp only [Xu,Xj,List.toList_toArray];(repeat (first | go_big_quiet_skip | (go_big_quiet_want;first | (go_big_quiet_op;go_big_quiet_on) | (apply Exists.intro;refine ⟨fun w' hS'=>?_,?_⟩;(· (obtain ⟨c98,c4,c5,c6,c7,c8⟩:=rnote hS';go_simp;first | done | rfl | exact ⟨rfl,rfl⟩));go_big_quiet_on;simp only [Act.put,List.setIfInBounds_toArray,List.set_cons_succ,List.set_cons_zero]))));refine wpQuiet_nil ?_;(try dsimp only))
 (refine Xh 11 (by kernel_rfl) (fun K hK=>?_);simp only [Xj,List.toList_toArray])
 go_wp2_with fail
 refine (ref_any R.call.old _).mono ?_
 rintro e w1 ⟨rfl,hc⟩
 have HD1:=Lib.hid (HD.out.chg hc (fun _ _=>List.not_mem_nil))
 have HC1:=Lib.hid (HC.out.trans hc)
 clear HD HC hc hS
 rw [wref_l]
 go_wp2_with fail
 refine hK.out _ _ (fun _=>HD1.out.bk) ?_
 clear hK
 have hS:=HD1.out.bk
 ((try simp only [Act.put,List.setIfInBounds_toArray,List.set_cons_succ,List.set_cons_zero]);refine vT (fuel:=5) hS [14] ?_;simp only [Xu,Xj,List.toList_toArray];(repeat (first | go_big_quiet_skip | (go_big_quiet_want;first | (go_big_quiet_op;go_big_quiet_on) | (apply Exists.intro;refine ⟨fun w' hS'=>?_,?_⟩;(· (skip;go_simp;first | done | rfl | exact ⟨rfl,rfl⟩));go_big_quiet_on;simp only [Act.put,List.setIfInBounds_toArray,List.set_cons_succ,List.set_cons_zero]))));refine wpQuiet_nil ?_;(try dsimp only))
 (refine Xh 15 (by kernel_rfl) (fun K hK=>?_);simp only [Xj,List.toList_toArray])
 go_wp2_with fail
 have HN:Hid (RB (w1.alloc (.cells #[.int .i64 R.call.old.sl,.int .i64 R.call.old.gn,.int .i64 0,.int .i64 0,.bool false,.int .i64 birth,.int .i64 death] 201)) g R ns ds ss):=Lib.hid (HD1.out.chg (F:=[]) (Chg.of_below ((Below.refl _ _).alloc (Nat.le_refl _) _)) (fun _ _=>List.not_mem_nil))
 have HCN:Hid (Chg [] w (w1.alloc (.cells #[.int .i64 R.call.old.sl,.int .i64 R.call.old.gn,.int .i64 0,.int .i64 0,.bool false,.int .i64 birth,.int .i64 death] 201))):=Lib.hid (HC1.out.trans (Chg.of_below ((Below.refl _ _).alloc (Nat.le_refl _) _)))
 obtain ⟨v',w5,hrun,ho,hg,hfr⟩:=own_notes_append _ R.notes.v ns HN.out.on hl ⟨wref R.call.old,birth,death⟩ w1.heap.size (Bk.at_ rfl) 64
 obtain ⟨a',c',rfl,_,_⟩:=Yq ho
 have HO:=Lib.hid (And.intro (HN.out.notes (u:=⟨a',(ns++[(⟨wref R.call.old,birth,death⟩:Xp)]).length,c'⟩) ho hg hfr) (And.intro hfr (HN.out.bk.grown hg (fun e=>HN.out.gn e.symm))))
 have HR:=Lib.hid hrun
 refine hK.out _ _ (fun _=>HN.out.bk) ?_
 clear hK hS ho hg hfr hrun HD1 HC1
 generalize (ns++[(⟨wref R.call.old,birth,death⟩:Xp)]).length = m at *
 (refine Xh 16 (by kernel_rfl) (fun K hK=>?_);simp only [Xj,List.toList_toArray])
 go_wp2_with (at_builtin;refine Ya (by rfl) _ _ _ _ _ _ _ (by rfl) (by rfl) (by rfl) HR.out ?_)
 refine hK.out _ _ (fun _=>HO.out.2.2) ?_
 clear hK HR
 have hS:=HO.out.2.2
 have c98:=hS.cell 98
 have f98:=hS.free 98
 rw [show R.l.toArray[98]? = some R.notes.v from by kernel_rfl] at c98
 ((refine Xh 17 (by kernel_rfl) (fun K hK=>?_);simp only [Xj,List.toList_toArray]);go_wp2_with fail;refine hK.out _ _ (fun h=>absurd h (by omega)) ?_;clear hK)
 ((refine Xh 18 (by kernel_rfl) (fun K hK=>?_);simp only [Xj,List.toList_toArray]);go_wp2_with fail;refine hK.out _ _ (fun h=>absurd h (by omega)) ?_;clear hK)
 (refine Xh 19 (by kernel_rfl) (fun K hK=>?_);simp only [Xj,List.toList_toArray])
 go_wp2_with fail
 refine hK.out _ _ (fun h=>absurd h (by omega)) ?_
 clear hK
 refine X9 (by kernel_rfl) ?_ _
 go_wp2_with fail
 go_end0
 refine ⟨rfl,_,HO.out.1.1,(HCN.out.mono (fun x hx=>by cases hx)).trans HO.out.1.2,fun b hb=>(HO.out.2.1 b hb).imp id (fun h=>?_)⟩
 have:=HCN.out.size
 omega
def Yw (R:Xa) (a b c:GSl):Xa:={ R with notes:=a,doomed:=b,seen:=c }
def Thr (R:Xa):Prop:=1≤R.threads∧R.threads≤6
def Hdr (f:Xa→Xa):Prop:=∀ R a b c,Thr R→f (Yw R a b c) = Yw (f R) a (bif (f R).step==0 then nilSl else b) (bif (f R).step==0 then nilSl else c)
def RetR (w:World) (g:Nat) (F:List Nat) (v:Value) (M:MR) (e:Ending) (w':World):Prop :=
 e = .returned v∧∃ a b c:GSl,RB w' g (Yw M.R a b c) M.ns M.ds M.ss∧Chg F w w'∧(∀ x∈Yc g (Yw M.R a b c),x∈F∨w.heap.size≤x)
theorem RB.same {w w':World} {g:Nat} {R:Xa} {ns ds:List Xp} {ss:List Xf} (h:RB w g R ns ds ss) (hb:Bk w' g 171 R.l.toArray) (hc:Chg [g] w w'):RB w' g R ns ds ss:=h.upd hb hc rfl (Or.inl ⟨rfl,rfl⟩) (Or.inl ⟨rfl,rfl⟩)
section
variable {w w1 w':World} {g:Nat} {F:List Nat} {R:Xa} {a b c:GSl} {ns ds:List Xp} {ss:List Xf} {v:Value}
theorem chg_g (h:Chg [g] w w') (hg:g∈F):Chg F w w':=h.mono fun x hx=>Or.inl (by rw [List.mem_singleton.1 hx];exact hg)
theorem retR_wrap (ht:Thr R) (hg:g∈F) (hc1:Chg F w w1) (h:RB w1 g (Yw R a b c) ns ds ss) (hF:∀ x∈Yc g (Yw R a b c),x∈F∨w.heap.size≤x) {f:Xa→Xa} (hf:Hdr f) (hb:Bk w' g 171 (f (Yw R a b c)).l.toArray) (hc:Chg [g] w1 w') :
  RetR w g F v (MR.wrap ⟨R,ns,ds,ss⟩ (f R)) (.returned v) w':=by
 rw [hf R a b c ht] at hb
 unfold MR.wrap
 cases hz:((f R).step==0) with
 | true =>
  rw [hz] at hb
  refine ⟨rfl,a,nilSl,nilSl,h.upd hb hc rfl (Or.inr ⟨rfl,rfl⟩) (Or.inr ⟨rfl,rfl⟩),hc1.trans (chg_g hc hg),fun x hx=>hF x ?_⟩
  rcases Xk.1 hx with h1 | h1 | h1 | h1
  ·exact Xk.2 (Or.inl h1)
  ·exact Xk.2 (Or.inr (Or.inl h1))
  ·cases h1
  ·cases h1
 | false =>
  rw [hz] at hb
  exact ⟨rfl,a,b,c,h.upd hb hc rfl (Or.inl ⟨rfl,rfl⟩) (Or.inl ⟨rfl,rfl⟩),hc1.trans (chg_g hc hg),fun x hx=>hF x (Xk.2 (Xk.1 hx))⟩
end
theorem hdr_finish (x:Xi):Hdr fun R=>R.finish x:=fun R a b c ht=>rfl
theorem hdr_done:Hdr Xa.done:=fun R a b c ht=>rfl
theorem hdr_ask {st:Int} (h:(st==0) = false) (a:GAcc):Hdr fun R=>R.ask st a:=fun R x y z ht=>by
 have e:(R.ask st a).step = st:=rfl
 simp only [e,h,cond_false]
 rfl
theorem hdr_load {st:Int} (h:(st==0) = false) (a:Yj):Hdr fun R=>R.load st a:=hdr_ask h _
theorem hdr_advance {st:Int} (h:(st==0) = false):Hdr fun R=>R.advance st:=fun R x y z ht=>by
 have e:(R.advance st).step = st:=rfl
 simp only [e,h,cond_false]
 rfl
theorem hdr_bif {f h:Xa→Xa} {p:Xa→Bool} (hp:∀ R a b c,p (Yw R a b c) = p R) (hf:Hdr f) (hh:Hdr h):Hdr fun R=>bif p R then f R else h R:=fun R a b c ht=>by
 simp only [hp]
 cases p R with
 | true=>exact hf R a b c ht
 | false=>exact hh R a b c ht
theorem look_hset (R:Xa) (a b c:GSl) (n:Int):(Yw R a b c).look n = (Yw (R.look n).1 a b c,(R.look n).2):=by
 unfold Xa.look
 show (bif R.keeping then _ else _) = _
 cases R.keeping with
 | true =>
  show (bif decide (wr (R.threads*9)≤n) then _ else _) = _
  cases decide (wr (R.threads*9)≤n) with
  | true=>rfl
  | false=>rfl
 | false =>
  show (bif decide (R.threads≤n) then _ else _) = _
  cases decide (R.threads≤n) with
  | true=>rfl
  | false=>rfl
theorem wr_in {n:Int} (h0:-9223372036854775808≤n) (h1:n < 9223372036854775808):wr n = n:=IntWalk.i64_in _ ⟨h0,by omega⟩
theorem hdr_scan:Hdr Xa.scan:=fun R a b c ht=>by
 obtain ⟨h1,h2⟩:=ht
 unfold Xa.scan
 show (bif R.engine==1 then _ else _) = _
 cases R.engine==1 with
 | true=>rfl
 | false =>
  show (bif R.engine==4 then _ else _) = _
  cases R.engine==4 with
  | true=>rfl
  | false =>
   show ((Yw R a b c).look 0).1 = _
   rw [look_hset]
   show Yw (R.look 0).1 a b c = Yw (R.look 0).1 a (bif (R.look 0).1.step==0 then nilSl else b) (bif (R.look 0).1.step==0 then nilSl else c)
   have e:(R.look 0).1.step = 13:=by
    unfold Xa.look
    cases R.keeping with
    | true =>
     rw [show decide (wr (R.threads*9)≤0) = false from decide_eq_false (by rw [wr_in (by omega) (by omega)];omega)]
     rfl
    | false =>
     rw [show decide (R.threads≤0) = false from decide_eq_false (by omega)]
     rfl
   rw [e]
   rfl
theorem own_n {w:World} {E:TypeId} {sz:Nat} {s:GSl} {n:Nat} {xs:List Value} (h:Own w E sz s.v n xs):s.n = n:=by
 obtain ⟨a,c,e,_⟩:=Yq h
 unfold GSl.v at e
 injection e
theorem took_10 (R:Xa) (ns ds:List Xp) (ss:List Xf) (x:Xi) (hs:R.step = 10):MR.took ⟨R,ns,ds,ss⟩ x = bif R.dating then MR.wrap ⟨{ R with clock:=x.word },ns++[⟨wref R.call.old,R.word.nm,x.word.nm⟩],ds,ss⟩ (Xa.advance { R with clock:=x.word } 11) else MR.noted ⟨{ R with clock:=x.word },ns++[⟨wref R.call.old,R.word.nm,x.word.nm⟩],ds,ss⟩:=by
 unfold MR.took
 simp only [hs]
 rfl
theorem cell18 {w:World} {g:Nat} {R:Xa} (h:Bk w g 171 R.l.toArray):w.cell? ⟨g,18,none⟩ = some (.int .i64 R.step):=rcell h 18 _ (by kernel_rfl)
theorem tookRetire10_any (w:World) (g:Nat) (R:Xa) (ns ds:List Xp) (ss:List Xf) (x:Xi) (h:RB w g R ns ds ss) (hl:ns.length≤100000) (hs:R.step = 10) (ht:Thr R) :
  Calls Tryz.prog 80 #[.pointer (some ⟨g,0,none⟩),.agg x.l.toArray] w (RetR w g (Yc g R) (.tuple #[]) (MR.took ⟨R,ns,ds,ss⟩ x)):=by
 have c18:=cell18 h.bk
 rw [hs] at c18
 obtain ⟨⟨x0,x1,x2,x3,x4⟩,x5⟩:=x
 show Calls Tryz.prog 80 #[.pointer (some ⟨g,0,none⟩),.agg #[.int .i64 x0,.int .i64 x1,.int .i64 x2,.int .i64 x3,.bool x4,.bool x5]] w _
 have HH:Hid (RB (w.alloc (.cells #[.int .i64 x0,.int .i64 x1,.int .i64 x2,.int .i64 x3,.bool x4,.bool x5] 108)) g R ns ds ss):=Lib.hid (h.chg (F:=[]) (Chg.of_below ((Below.refl _ _).alloc (Nat.le_refl _) _)) (fun _ _=>List.not_mem_nil))
 have HC:Hid (Chg [] w (w.alloc (.cells #[.int .i64 x0,.int .i64 x1,.int .i64 x2,.int .i64 x3,.bool x4,.bool x5] 108))):=Lib.hid (Chg.of_below ((Below.refl _ _).alloc (Nat.le_refl _) _))
 have X0:Bk (w.alloc (.cells #[.int .i64 x0,.int .i64 x1,.int .i64 x2,.int .i64 x3,.bool x4,.bool x5] 108)) w.heap.size 108 #[.int .i64 x0,.int .i64 x1,.int .i64 x2,.int .i64 x3,.bool x4,.bool x5]:=Bk.at_ rfl
 have hgl:=h.bk.lt
 have hz:Hid (w.heap.size < (w.alloc (.cells #[.int .i64 x0,.int .i64 x1,.int .i64 x2,.int .i64 x3,.bool x4,.bool x5] 108)).heap.size):=Lib.hid (by simp)
 clear h
 go_enter Tryz.func80,Tryz.ntmps80
 go_wp2_with (refine Ym (by rfl) _ _ _ (by rfl) g 38 _ (by rfl) (by rfl) _ _ ({ R with clock:=⟨x0,x1,x2,x3,x4⟩ }:Xa).l.toArray HH.out.bk (Nat.le_of_ble_eq_true (by kernel_rfl)) (by kernel_rfl) (by rfl) (by kernel_rfl) ?_;intro w2 hst)
 obtain ⟨R1,hR1⟩:∃ R1,R1 = ({ R with clock:=⟨x0,x1,x2,x3,x4⟩ }:Xa):=⟨_,rfl⟩
 rw [← hR1] at hst
 have e0:Hid (R1.clock.nm = x3∧R1.word.nm = R.word.nm∧R1.notes = R.notes∧Yc g R1 = Yc g R∧R1.dating = R.dating∧R1.call.old = R.call.old):=by subst hR1;exact Lib.hid ⟨rfl,rfl,rfl,rfl,rfl,rfl⟩
 have hc2:Chg [g] (w.alloc (.cells #[.int .i64 x0,.int .i64 x1,.int .i64 x2,.int .i64 x3,.bool x4,.bool x5] 108)) w2:=Chg.of_grown (b:=0) hst.grown (fun b e=>by injection e with e;simp [e])
 have H2:Hid (RB w2 g R1 ns ds ss):=by subst hR1;exact Lib.hid (HH.out.upd hst.bk hc2 rfl (Or.inl ⟨rfl,rfl⟩) (Or.inl ⟨rfl,rfl⟩))
 have C2:Hid (Chg (Yc g R) w w2):=Lib.hid ((HC.out.mono (fun x hx=>by cases hx)).trans (hc2.mono (fun x hx=>Or.inl (by rw [List.mem_singleton.1 hx];exact Xk.2 (Or.inl rfl)))))
 have HR1:=Lib.hid hR1
 clear hc2 hst HH HC X0 hz c18 hR1
 have S2:w2.cell? ⟨g,36,none⟩ = some (.int .i64 R1.word.nm)∧w2.cell? ⟨g,41,none⟩ = some (.int .i64 R1.clock.nm):=⟨rcell H2.out.bk 36 _ (by kernel_rfl),rcell H2.out.bk 41 _ (by kernel_rfl)⟩
 refine X2 (fun w'=>w'.cell? ⟨g,36,none⟩ = some (.int .i64 R1.word.nm)∧w'.cell? ⟨g,41,none⟩ = some (.int .i64 R1.clock.nm)) 14 (by kernel_rfl) S2 (fun hS=>?_)
 have H3:Hid (RB w2.drew g R1 ns ds ss):=Lib.hid (H2.out.chg (F:=[]) (Chg.of_below (Below.refl _ _).drew) (fun _ _=>List.not_mem_nil))
 have C3:Hid (Chg (Yc g R) w w2.drew):=Lib.hid (C2.out.trans (Chg.of_below (Below.refl _ _).drew))
 clear H2 C2 S2
 generalize w2.drew = w3 at *
 ((try simp only [Act.put,List.setIfInBounds_toArray,List.set_cons_succ,List.set_cons_zero]);refine vT (fuel:=1) hS [0,1,2,3,4,5,6,7,8,9,10,11,12] ?_;simp only [Xu,Xj,List.toList_toArray];(repeat (first | go_big_quiet_skip | (go_big_quiet_want;first | (go_big_quiet_op;go_big_quiet_on) | (apply Exists.intro;refine ⟨fun w' hS'=>?_,?_⟩;(· (obtain ⟨c36,c41⟩:=hS';go_simp;first | done | rfl | exact ⟨rfl,rfl⟩));go_big_quiet_on;simp only [Act.put,List.setIfInBounds_toArray,List.set_cons_succ,List.set_cons_zero]))));refine wpQuiet_nil ?_;(try dsimp only))
 (refine Xh 13 (by kernel_rfl) (fun K hK=>?_);simp only [Xj,List.toList_toArray])
 go_wp2_with fail
 refine (note_any w3 g R1 ns ds ss H3.out hl R1.word.nm R1.clock.nm).mono ?_
 rintro e w4 ⟨rfl,hn,hrb,hc4,hf4⟩
 go_wp2_with fail
 refine hK.out _ _ (fun _=>⟨rcell hrb.bk 36 _ (by kernel_rfl),rcell hrb.bk 41 _ (by kernel_rfl)⟩) ?_
 clear hK hS
 refine X9 (by kernel_rfl) ?_ _
 obtain ⟨R4,hR4⟩:∃ R4,R4 = ({ R1 with notes:=hn }:Xa):=⟨_,rfl⟩
 rw [← hR4] at hrb
 have eN:(⟨wref R1.call.old,R1.word.nm,R1.clock.nm⟩:Xp) = ⟨wref R.call.old,R.word.nm,x3⟩:=by rw [HR1.out]
 rw [eN] at hrb
 have e4:R4 = Yw { R with clock:=⟨x0,x1,x2,x3,x4⟩ } hn R.doomed R.seen:=by rw [hR4,HR1.out];rfl
 have HB:=Lib.hid hrb;have H4:=Lib.hid e4;clear e4;have HC4:=Lib.hid hc4;have HF4:=Lib.hid hf4
 have hd4:R4.dating = R.dating:=by rw [hR4];exact e0.out.2.2.2.2.1
 have HF:Hid (∀ x∈Yc g (Yw { R with clock:=⟨x0,x1,x2,x3,x4⟩ } hn R.doomed R.seen),x∈Yc g R∨w.heap.size≤x):=by
  refine Lib.hid (fun x hx=>?_)
  have hz:=C3.out.size
  rcases Xk.1 hx with h1 | h1 | h1 | h1
  ·exact Or.inl (Xk.2 (Or.inl h1))
  ·rcases hf4 x h1 with h2 | h2
   ·rw [e0.out.2.2.1] at h2
    exact Or.inl (Xk.2 (Or.inr (Or.inl h2)))
   ·right;omega
  ·exact Or.inl (Xk.2 (Or.inr (Or.inr (Or.inl h1))))
  ·exact Or.inl (Xk.2 (Or.inr (Or.inr (Or.inr h1))))
 clear hrb hR4 hc4 hf4 H3
 go_wp2_with fail
 refine (rdating_any R4 g w4 HB.out.bk).mono ?_
 rintro e w5 ⟨rfl,hb5,hc5⟩
 have H5:=Lib.hid (HB.out.same hb5 hc5);have CC:Hid (Chg (Yc g R) w w5):=Lib.hid ((C3.out.trans (e0.out.2.2.2.1 ▸ HC4.out)).trans (chg_g hc5 (Xk.2 (Or.inl rfl))))
 clear hb5 hc5
 simp only
 rw [hd4]
 cases hdt:R.dating with
 | true =>
  go_wp2_with fail
  refine (radv_any R4 11 g w5 H5.out.bk).mono ?_
  rintro e w6 ⟨rfl,hb6,hc6⟩
  have HB6:=Lib.hid hb6;have C6:=Lib.hid hc6
  clear hb6 hc6
  go_wp2_with fail
  go_end0
  rw [took_10 _ _ _ _ _ hs,hdt]
  refine retR_wrap (w1:=w5) (R:={ R with clock:=⟨x0,x1,x2,x3,x4⟩ }) (a:=hn) (b:=R.doomed) (c:=R.seen) ht (Xk.2 (Or.inl rfl)) CC.out (H4.out ▸ H5.out) HF.out (hdr_advance (st:=11) rfl) (H4.out ▸ HB6.out) C6.out
 | false =>
  go_wp2_with fail
  refine (rnoted_any R4 g w5 H5.out.bk).mono ?_
  rintro e w6 ⟨rfl,hb6,hc6⟩
  have HB6:=Lib.hid hb6;have C6:=Lib.hid hc6
  clear hb6 hc6
  go_wp2_with fail
  go_end0
  rw [took_10 _ _ _ _ _ hs,hdt]
  show RetR w g (Yc g R) _ (bif decide (R.most≤((ns++[(⟨wref R.call.old,R.word.nm,x3⟩:Xp)]).length:Int)) then _ else _) _ _
  have hb6:=HB6.out
  unfold Xa.noted at hb6
  rw [own_n H5.out.on] at hb6
  rw [show R4.most = R.most from by rw [H4.out];rfl] at hb6
  cases hm:decide (R.most≤((ns++[(⟨wref R.call.old,R.word.nm,x3⟩:Xp)]).length:Int)) with
  | true =>
   rw [hm] at hb6
   exact retR_wrap (w1:=w5) (R:={ R with clock:=⟨x0,x1,x2,x3,x4⟩ }) (a:=hn) (b:=R.doomed) (c:=R.seen) ht (Xk.2 (Or.inl rfl)) CC.out (H4.out ▸ H5.out) HF.out hdr_scan (H4.out ▸ hb6) C6.out
  | false =>
   rw [hm] at hb6
   exact retR_wrap (w1:=w5) (R:={ R with clock:=⟨x0,x1,x2,x3,x4⟩ }) (a:=hn) (b:=R.doomed) (c:=R.seen) ht (Xk.2 (Or.inl rfl)) CC.out (H4.out ▸ H5.out) HF.out hdr_done (H4.out ▸ hb6) C6.out
theorem Chg.seq {w w1 w':World} {F F1:List Nat} (hc:Chg F w w1) (hF:∀ x∈F1,x∈F∨w.heap.size≤x) (h:Chg F1 w1 w'):Chg F w w' :=
 ⟨h.os.trans hc.os,h.tape.trans hc.tape,h.output.trans hc.output,Nat.le_trans hc.size h.size,fun b hb hf=>(h.far b (Nat.lt_of_lt_of_le hb hc.size) (fun h1=>(hF b h1).elim hf (fun h2=>by omega))).trans (hc.far b hb hf)⟩
theorem RetR.after {w w1 w':World} {g:Nat} {F F1:List Nat} {v:Value} {M:MR} {e:Ending} (hc:Chg F w w1) (hF:∀ x∈F1,x∈F∨w.heap.size≤x) (h:RetR w1 g F1 v M e w'):RetR w g F v M e w':=by
 obtain ⟨he,a,b,c,hb,hc1,hf⟩:=h
 have hz:=hc.size
 exact ⟨he,a,b,c,hb,hc.seq hF hc1,fun x hx=>(hf x hx).elim (hF x) (fun h=>Or.inr (by omega))⟩
theorem rcells {w:World} {g:Nat} {R:Xa} (h:Bk w g 171 R.l.toArray):w.cell? ⟨g,41,none⟩ = some (.int .i64 R.clock.nm)∧w.cell? ⟨g,44,none⟩ = some R.seen.v∧w.cell? ⟨g,45,none⟩ = some R.doomed.v∧w.cell? ⟨g,46,none⟩ = some (.int .i64 R.engine)∧w.cell? ⟨g,98,none⟩ = some R.notes.v :=
 ⟨rcell h 41 _ (by kernel_rfl),rcell h 44 _ (by kernel_rfl),rcell h 45 _ (by kernel_rfl),rcell h 46 _ (by kernel_rfl),rcell h 98 _ (by kernel_rfl)⟩
theorem reap_any (w:World) (g:Nat) (R:Xa) (ns ds:List Xp) (ss:List Xf) (h:RB w g R ns ds ss) (ht:Thr R) (hl:ds.length≤100000) :
  Calls Tryz.prog 102 #[.pointer (some ⟨g,0,none⟩)] w (RetR w g (Yc g R) (.tuple #[]) (MR.reap ⟨R,ns,ds,ss⟩)):=by
 obtain ⟨_,_,c45,_,_⟩:=rcells h.bk
 have HH:=Lib.hid h
 have hgl:=h.bk.lt
 cases ds with
 | nil =>
  obtain ⟨a,cp,e,_⟩:=Yq h.od
  rw [e] at c45
  clear e h
  simp only [List.length_nil] at c45
  go_enter Tryz.func102,Tryz.ntmps102
  go_wp2_with fail
  refine (rdone_any R g w HH.out.bk).mono ?_
  rintro e w1 ⟨rfl,hb,hc⟩
  have HB:=Lib.hid hb;have HC:=Lib.hid hc
  clear hb hc
  go_wp2_with fail
  go_end0
  exact retR_wrap (w1:=w) (R:=R) (a:=R.notes) (b:=R.doomed) (c:=R.seen) ht (Xk.2 (Or.inl rfl)) (Chg.refl _ _) HH.out (fun x hx=>Or.inl hx) hdr_done HB.out HC.out
 | cons d r =>
  obtain ⟨b,off,cp,e,hcp⟩:=own_form h.od (by simp)
  have ho:=h.od
  rw [e] at c45 ho
  have hr:=own_row nlen ho 0 (by simp)
  rw [Nat.zero_mul,Nat.add_zero] at hr
  obtain ⟨q0,q1,q2,q3,q4,_,_⟩:=range7 hr
  simp only [List.getElem_cons_zero] at q0 q1 q2 q3 q4
  simp only [List.length_cons] at c45 hcp
  clear ho hr e h
  have hn:¬ (r.length+1 = 0):=by omega
  go_enter Tryz.func102,Tryz.ntmps102
  go_wp2_with fail
  refine (rask_any R 16 ⟨5,.zero,d.ref,.zero⟩ g w HH.out.bk).mono ?_
  rintro e w1 ⟨rfl,hb,hc⟩
  have HB:=Lib.hid hb;have HC:=Lib.hid hc
  clear hb hc
  go_wp2_with fail
  go_end0
  have:=retR_wrap (v:=.tuple #[]) (w1:=w) (R:=R) (a:=R.notes) (b:=R.doomed) (c:=R.seen) ht (Xk.2 (Or.inl rfl)) (Chg.refl _ _) HH.out (fun x hx=>Or.inl hx) (hdr_ask (st:=16) rfl ⟨5,.zero,d.ref,.zero⟩) HB.out HC.out
  exact this
theorem hear_l (x:Xf):(hear x).l.toArray = #[.bool (hear x).is,.int .i64 (hear x).low,.int .i64 (hear x).high]:=rfl
def RetNew (w:World) (E:TypeId) (sz:Nat) (n:Nat) (xs:List Value) (e:Ending) (w':World):Prop :=
 ∃ v,e = .returned v∧Own w' E sz v n xs∧Below w.heap.size w w'∧∀ b,v.ownBlock = some b→w.heap.size≤b
theorem own_spans_append (w:World) (v:Value) (l:List GSpan) (h:Own w 169 3 v l.length (rows GSpan.l l)) (hl:l.length≤100000) (x:GSpan) (b:Nat) (hb:Bk w b 169 x.l.toArray) (t:TypeId) :
  ∃ v' w',(Builtin.append_ #[213,213] t #[v,.slice (some ⟨b,0,none⟩) 1 1]).run Tryz.prog w = .ok v' w' ∧
   Own w' 169 3 v' (l++[x]).length (rows GSpan.l (l++[x]))∧w.grownBy w' v.ownBlock∧Fresh w v v' :=
 own_rows_append slen sone Tryz.underlying213 infoSpan rfl (by decide) (by decide) w v l h hl x b hb t
theorem map_take {α β:Type} {f:α→β} {l:List α} {k:Nat} (hk:k < l.length):(l.take (k+1)).map f = (l.take k).map f++[f l[k]]:=by
 rw [List.take_add_one,List.getElem?_eq_getElem hk,List.map_append]
 rfl
theorem spansOf_any (w:World) (g:Nat) (R:Xa) (ns ds:List Xp) (ss:List Xf) (h:RB w g R ns ds ss) (hl:ss.length≤1000) :
  Calls Tryz.prog 99 #[.pointer (some ⟨g,0,none⟩)] w (RetNew w 169 3 (ss.map hear).length (rows GSpan.l (ss.map hear))):=by
 obtain ⟨_,c44,_,_,_⟩:=rcells h.bk
 obtain ⟨a,cp,e,hcp,_⟩:=Yq h.os
 have hs:Sl w w.heap.size 5 a ss.length (rows Xf.l ss):=Sl.of_own2 (e ▸ h.os)
 have hgl:=h.bk.lt
 rw [e] at c44
 clear e h
 go_enter Tryz.func99,Tryz.ntmps99
 go_wp2_with fail
 go_loopw [3,12] (fun v i wr=>∃ k:Nat,k≤ss.length∧i = .int .i64 k∧Below w.heap.size w wr ∧
   Own wr 169 3 v ((ss.take k).map hear).length (rows GSpan.l ((ss.take k).map hear))∧(∀ b,v.ownBlock = some b→w.heap.size≤b)) (fun _ i _=>ss.length - (intOf i).toNat)
 case atStart=>exact ⟨0,Nat.zero_le _,rfl,Below.refl _ _,Own.nil,by simp [Value.ownBlock]⟩
 case round =>
  obtain ⟨k,hkl,rfl,hB,ho,h3⟩:=hrel
  have hz:=hB.size
  by_cases hlt:k < ss.length
  ·obtain ⟨b,off,rfl,hbb,hr⟩:=(hs.below hB).row wlen k hlt
   obtain ⟨q0,q1,q2,q3,q4⟩:=range5 hr
   have X1:Bk (wr.alloc (.cells #[.int .i64 0,.int .i64 0,.int .i64 0,.int .i64 0,.bool false] 51)) wr.heap.size 51 #[.int .i64 0,.int .i64 0,.int .i64 0,.int .i64 0,.bool false]:=Bk.at_ rfl
   have hB2:=hB.alloc hB.size (.cells #[.int .i64 0,.int .i64 0,.int .i64 0,.int .i64 0,.bool false] 51)
   have o3:=ho.alloc (.cells #[.int .i64 0,.int .i64 0,.int .i64 0,.int .i64 0,.bool false] 51)
   have lt3:∀ b,u3.ownBlock = some b→b < wr.heap.size:=fun b hb=>ho.lt hb
   have HS:=Lib.hid hs
   clear ho hs hr
   go_wp2_with (refine vM X1 ?_;intro w2 hst;have r0:=hst.bk.cell 0;have r1:=hst.bk.cell 1;have r2:=hst.bk.cell 2;have r3:=hst.bk.cell 3;have r4:=hst.bk.cell 4;simp at r0 r1 r2 r3 r4)
   refine (hear_any ss[k] w2).mono ?_
   rintro e w3 ⟨rfl,hc3⟩
   rw [hear_l]
   have hb3:=hc3.below
   have hB3':=hst.below hB2 hz
   have hB3:=hB3'.trans (hb3.mono hB3'.size)
   have o33:=(o3.grown hst.grown (by cases h0:u3.ownBlock with | none=>exact Or.inl rfl | some b=>exact Or.inr (fun e=>by have:=lt3 b h0;cases e;omega))).below hb3
   have MT:=Lib.hid (map_take (f:=hear) hlt)
   obtain ⟨v',w5,hrun,ho,hg,hfr⟩:=own_spans_append (w3.alloc (.cells #[.bool (hear ss[k]).is,.int .i64 (hear ss[k]).low,.int .i64 (hear ss[k]).high] 169)) u3 ((ss.take k).map hear) (o33.alloc _) (by simp;omega) (hear ss[k]) w3.heap.size (Bk.at_ rfl) 213
   rw [← MT.out] at ho
   have HO:=Lib.hid (And.intro ho (And.intro hg hfr));clear ho hg hfr hc3
   go_wp2_with (at_builtin;refine Ya (by rfl) _ _ _ _ _ _ _ (by rfl) (by rfl) (by rfl) hrun ?_)
   obtain ⟨ho,hg,hfr⟩:=HO.out
   have z3:=hb3.size
   have z2:=hst.size
   simp at z2
   have hB4:=(hB3.alloc hB3.size (.cells #[.bool (hear ss[k]).is,.int .i64 (hear ss[k]).low,.int .i64 (hear ss[k]).high] 169))
   have hB5:Below w.heap.size w w5:=hB4.grown hg hB4.size (fun b e=>h3 b e)
   go_roundw
   case rel=>exact ⟨k+1,by omega,by go_num,hB5,ho,fun b hb=>(hfr b hb).elim (h3 b) (fun h=>by simp at h;omega)⟩
   case measure=>simp [intOf];omega
  ·have hke:k = ss.length:=by omega
   subst hke
   rw [List.take_length] at ho
   have HO:=Lib.hid ho;clear ho
   go_wp2_with fail
   go_ret
   exact ⟨_,rfl,HO.out,hB,h3⟩
theorem plotValid_any {w:World} {g bb sb:Nat} {p:Pl} {fr:GSl} {fv:Value} (h:PB w g bb sb p fr fv) (a:GAcc) :
  Calls Tryz.prog 61 #[.pointer (some ⟨g,0,none⟩),.agg a.l.toArray] w (RetB (p.valid a) w):=by
 have hgl:=h.bk.lt
 have HH:=Lib.hid h
 clear h
 (obtain ⟨k,⟨a0,a1,a2⟩,⟨o0,o1,o2,o3,o4⟩,⟨n0,n1,n2,n3,n4⟩⟩:=a)
 show Calls Tryz.prog 61 #[.pointer (some ⟨g,0,none⟩),.agg #[.int .i64 k,.int .i64 a0,.int .i64 a1,.int .i64 a2,.int .i64 o0,.int .i64 o1,.int .i64 o2,.int .i64 o3,.bool o4,.int .i64 n0,.int .i64 n1,.int .i64 n2,.int .i64 n3,.bool n4]] w _
 have hb0:Below w.heap.size w (w.alloc (.cells #[.int .i64 k,.int .i64 a0,.int .i64 a1,.int .i64 a2,.int .i64 o0,.int .i64 o1,.int .i64 o2,.int .i64 o3,.bool o4,.int .i64 n0,.int .i64 n1,.int .i64 n2,.int .i64 n3,.bool n4] 114)):=(Below.refl _ _).alloc (Nat.le_refl _) _
 have H1:=Lib.hid (plotHas_any (HH.out.below hb0) ⟨a0,a1,a2⟩)
 have H2:=Lib.hid (plotExists_any (HH.out.below hb0) o0)
 unfold Pl.valid
 simp only
 cases k1:(k==1) with
 | true =>
  go_enter Tryz.func61,Tryz.ntmps61
  go_wp2_with fail
  refine H1.out.mono ?_
  rintro e w1 ⟨rfl,hb1⟩
  go_wp2_with fail
  go_ret
  exact ⟨rfl,hb0.trans (hb1.mono hb0.size)⟩
 | false =>
 cases k2:(k==2) with
 | true =>
  go_enter Tryz.func61,Tryz.ntmps61
  go_wp2_with fail
  refine H1.out.mono ?_
  rintro e w1 ⟨rfl,hb1⟩
  go_wp2_with fail
  go_ret
  exact ⟨rfl,hb0.trans (hb1.mono hb0.size)⟩
 | false =>
 cases k3:(k==3) with
 | true =>
  go_enter Tryz.func61,Tryz.ntmps61
  go_wp2_with fail
  refine H1.out.mono ?_
  rintro e w1 ⟨rfl,hb1⟩
  go_wp2_with fail
  go_ret
  exact ⟨rfl,hb0.trans (hb1.mono hb0.size)⟩
 | false =>
 cases k4:(k==4) with
 | true =>
  go_enter Tryz.func61,Tryz.ntmps61
  go_wp2_with fail
  go_ret
  exact ⟨rfl,vB⟩
 | false =>
 cases k5:(k==5) with
 | true =>
  go_enter Tryz.func61,Tryz.ntmps61
  go_wp2_with fail
  refine H2.out.mono ?_
  rintro e w1 ⟨rfl,hb1⟩
  go_wp2_with fail
  go_ret
  exact ⟨rfl,hb0.trans (hb1.mono hb0.size)⟩
 | false =>
  go_enter Tryz.func61,Tryz.ntmps61
  go_wp2_with fail
  go_ret
  exact ⟨rfl,vB⟩
theorem has_exists {p:Pl} {a:Yj} (h:p.has a = true):a.sl = 0∨p.exists_ a.sl = true:=by
 unfold Pl.has at h
 cases h0:(a.sl==0) with
 | true=>left;simpa using h0
 | false =>
  right
  rw [h0] at h
  simp only [cond_false,Bool.and_eq_true] at h
  exact h.1
theorem RetE.pre {w w0 w1:World} {b:Bool} {e:Ending} (h:RetE b w0 e w1) (h0:Below w.heap.size w w0):RetE b w e w1:=⟨h.1,h0.trans (h.2.mono h0.size)⟩
theorem plotWrong_any {w:World} {g bb sb:Nat} {p:Pl} {fr:GSl} {fv:Value} (h:PB w g bb sb p fr fv) (he:ErrOk w) (a:GAcc) (hv:p.valid a = true) :
  Calls Tryz.prog 62 #[.pointer (some ⟨g,0,none⟩),.agg a.l.toArray] w (RetE (p.right a) w):=by
 have hgl:=h.bk.lt
 have hwl:=he.lt
 have HH:=Lib.hid h
 have HE:=Lib.hid he
 clear h he
 (obtain ⟨k,⟨a0,a1,a2⟩,⟨o0,o1,o2,o3,o4⟩,⟨n0,n1,n2,n3,n4⟩⟩:=a)
 show Calls Tryz.prog 62 #[.pointer (some ⟨g,0,none⟩),.agg #[.int .i64 k,.int .i64 a0,.int .i64 a1,.int .i64 a2,.int .i64 o0,.int .i64 o1,.int .i64 o2,.int .i64 o3,.bool o4,.int .i64 n0,.int .i64 n1,.int .i64 n2,.int .i64 n3,.bool n4]] w _
 have hb0:Below w.heap.size w (w.alloc (.cells #[.int .i64 k,.int .i64 a0,.int .i64 a1,.int .i64 a2,.int .i64 o0,.int .i64 o1,.int .i64 o2,.int .i64 o3,.bool o4,.int .i64 n0,.int .i64 n1,.int .i64 n2,.int .i64 n3,.bool n4] 114)):=(Below.refl _ _).alloc (Nat.le_refl _) _
 have l1:6 < w.heap.size:=by omega
 have l2:3 < w.heap.size:=by omega
 obtain ⟨T1,q1,e1⟩:=HE.out.twice
 obtain ⟨T2,q2,e2⟩:=HE.out.freed
 unfold Pl.right
 simp only
 cases k4:(k==4) with
 | true =>
  go_enter Tryz.func62,Tryz.ntmps62
  go_wp2_with fail
  go_ret
  exact ⟨rfl,vB⟩
 | false =>
 cases k5:(k==5) with
 | true =>
  have hx:o0 = 0∨p.exists_ o0 = true:=by
   right
   have:k = 5:=by simpa using k5
   subst this
   exact hv
  have H1:=Lib.hid (plotState_any (HH.out.below hb0) (HE.out.below hb0) o0 o1 hx T1 q1)
  clear hv hx
  go_enter Tryz.func62,Tryz.ntmps62
  go_wp2_with fail
  refine H1.out.mono ?_
  intro e w1 hr
  have HR:=Lib.hid (hr.pre hb0)
  cases hl:p.live o0 o1 with
  | true =>
   rw [hl] at hr
   obtain ⟨rfl,hb⟩:=hr
   clear hb
   go_wp2_with fail
   go_ret
   exact HR.out
  | false =>
   rw [hl] at hr
   obtain ⟨⟨T,q,rfl⟩,hb⟩:=hr
   clear hb
   go_wp2_with fail
   go_ret
   exact HR.out
 | false =>
  have hx:a0 = 0∨p.exists_ a0 = true:=by
   refine has_exists (a:=⟨a0,a1,a2⟩) ?_
   unfold Pl.valid at hv
   simp only [k4,k5] at hv
   cases hk:(k==1 || (k==2 || k==3)) with
   | true=>rw [hk] at hv;exact hv
   | false=>rw [hk] at hv;cases hv
  have H1:=Lib.hid (plotState_any (HH.out.below hb0) (HE.out.below hb0) a0 a1 hx T2 q2)
  clear hv hx
  go_enter Tryz.func62,Tryz.ntmps62
  go_wp2_with fail
  refine H1.out.mono ?_
  intro e w1 hr
  have HR:=Lib.hid (hr.pre hb0)
  cases hl:p.live a0 a1 with
  | true =>
   rw [hl] at hr
   obtain ⟨rfl,hb⟩:=hr
   clear hb
   go_wp2_with fail
   go_ret
   exact HR.out
  | false =>
   rw [hl] at hr
   obtain ⟨⟨T,q,rfl⟩,hb⟩:=hr
   clear hb
   go_wp2_with fail
   go_ret
   exact HR.out
def RetP (p:Addr) (w:World) (e:Ending) (w':World):Prop:=e = .returned (.pointer (some p))∧Below w.heap.size w w'
theorem plotCellB_any {w:World} {g bb sb:Nat} {p:Pl} {fr:GSl} {fv:Value} (h:PB w g bb sb p fr fv) (i:Nat) (gn:Int) (hi:i < p.nb) :
  Calls Tryz.prog 34 #[.pointer (some ⟨g,0,none⟩),.agg #[.int .i64 0,.int .i64 gn,.int .i64 i]] w (RetP ⟨bb,i*5,none⟩ w):=by
 obtain ⟨c0,_,_,_,_,_⟩:=h.cells
 have hgl:=h.bk.lt
 have hns:=h.nbm
 clear h
 go_enter Tryz.func34,Tryz.ntmps34
 go_wp2_with fail
 go_quiet (fail)
 go_wp2_with fail
 go_ret
 exact ⟨rfl,vB⟩
theorem plotCellS_any {w:World} {g bb sb:Nat} {p:Pl} {fr:GSl} {fv:Value} (h:PB w g bb sb p fr fv) (i k:Nat) (gn:Int) (hi:i < p.ns) (hk:k < 10) :
  Calls Tryz.prog 34 #[.pointer (some ⟨g,0,none⟩),.agg #[.int .i64 ((i:Int)+1),.int .i64 gn,.int .i64 k]] w (RetP ⟨sb,i*52+2+k*5,none⟩ w):=by
 obtain ⟨_,c1,_,_,_,_⟩:=h.cells
 have hgl:=h.bk.lt
 have hns:=h.nsm
 have hnz:(((i:Int)+1)==0) = false:=by simp;omega
 clear h
 go_enter Tryz.func34,Tryz.ntmps34
 go_wp2_with fail
 go_quiet (fail)
 go_wp2_with fail
 go_ret
 exact ⟨rfl,vB⟩
def RetT (w:World) (b:Nat) (T:TypeId) (cs:Array Value) (x:Xi) (e:Ending) (w':World):Prop:=e = .returned (.agg x.l.toArray)∧Bk w' b T cs∧Chg [b] w w'
theorem touch_chg {w w2 w3:World} {o1 o2 o3:Obj} {b:Nat} {T T2:TypeId} {cs cs2:Array Value} {u:Value} {k:Nat} (h1:Stored (((w.alloc o1).alloc o2).alloc o3) b T cs w2) (h3:Stored (w2.setCell ⟨w.heap.size+1+1,k,none⟩ u) (w.heap.size+1) T2 cs2 w3) (hb:b < w.heap.size):Chg [b] w w3:=by
 have c0:Chg [b] w (((w.alloc o1).alloc o2).alloc o3):=Chg.of_below vB
 have c1:Chg [b] (((w.alloc o1).alloc o2).alloc o3) w2:=Chg.of_grown (b:=0) h1.grown (fun b' e=>by injection e with e;simp [e])
 have c2:Chg [w.heap.size+1+1] w2 (w2.setCell ⟨w.heap.size+1+1,k,none⟩ u):=Chg.of_grown (b:=0) (Xq _ _ _ _) (fun b' e=>by injection e with e;simp [e])
 have c3:Chg [w.heap.size+1] (w2.setCell ⟨w.heap.size+1+1,k,none⟩ u) w3:=Chg.of_grown (b:=0) h3.grown (fun b' e=>by injection e with e;simp [e])
 refine (((c0.trans c1).seq (F1:=[w.heap.size+1+1]) ?_ c2)).seq (F1:=[w.heap.size+1]) ?_ c3
 ·intro x hx;rw [List.mem_singleton.1 hx];right;omega
 ·intro x hx;rw [List.mem_singleton.1 hx];right;omega
theorem touch1_any (w:World) (b o:Nat) (T:TypeId) (cs:Array Value) (x:Xf) (a:GAcc) (hb:Bk w b T cs) (hx:w.rangeAt b o x.l) (hk:a.kind = 1) :
  Calls Tryz.prog 65 #[.pointer (some ⟨b,o,none⟩),.agg a.l.toArray] w (RetT w b T cs ⟨x,true⟩):=by
 have hgl:=hb.lt
 have hgl1:b < w.heap.size+1:=by omega
 have hgl2:b < w.heap.size+1+1:=by omega
 obtain ⟨q0,q1,q2,q3,q4⟩:=range5 hx
 have HB:=Lib.hid hb
 clear hb hx
 (obtain ⟨k,⟨a0,a1,a2⟩,⟨o0,o1,o2,o3,o4⟩,⟨n0,n1,n2,n3,n4⟩⟩:=a)
 simp only at hk
 subst hk
 show Calls Tryz.prog 65 #[.pointer (some ⟨b,o,none⟩),.agg #[.int .i64 1,.int .i64 a0,.int .i64 a1,.int .i64 a2,.int .i64 o0,.int .i64 o1,.int .i64 o2,.int .i64 o3,.bool o4,.int .i64 n0,.int .i64 n1,.int .i64 n2,.int .i64 n3,.bool n4]] w _
 go_enter Tryz.func65,Tryz.ntmps65
 go_wp2_with fail
 refine bodyPost_ret (v:=.agg #[.int .i64 x.sl,.int .i64 x.gn,.int .i64 x.tg,.int .i64 x.nm,.bool x.mark,.bool true]) (by simp [results,Tryz.results65,go_sem]) rfl ?_
 exact ⟨rfl,((HB.out.alloc _).alloc _).alloc _,Chg.of_below vB⟩
theorem touch2_any (w:World) (b o:Nat) (T:TypeId) (cs cs':Array Value) (a:GAcc) (hb:Bk w b T cs) (ho:o+5≤cs.size) (hk:a.kind = 2) (hcs:cs'.toList = cs.toList.take o++a.new.l++cs.toList.drop (o+5)) :
  Calls Tryz.prog 65 #[.pointer (some ⟨b,o,none⟩),.agg a.l.toArray] w (RetT w b T cs' ⟨.zero,true⟩):=by
 have hgl:=hb.lt
 have hgl1:b < w.heap.size+1:=by omega
 have hgl2:b < w.heap.size+1+1:=by omega
 have hgl3:b < w.heap.size+1+1+1:=by omega
 have HB:=Lib.hid hb
 clear hb
 (obtain ⟨k,⟨a0,a1,a2⟩,⟨o0,o1,o2,o3,o4⟩,⟨n0,n1,n2,n3,n4⟩⟩:=a)
 simp only at hk hcs
 subst hk
 show Calls Tryz.prog 65 #[.pointer (some ⟨b,o,none⟩),.agg #[.int .i64 2,.int .i64 a0,.int .i64 a1,.int .i64 a2,.int .i64 o0,.int .i64 o1,.int .i64 o2,.int .i64 o3,.bool o4,.int .i64 n0,.int .i64 n1,.int .i64 n2,.int .i64 n3,.bool n4]] w _
 have HCS:=Lib.hid hcs
 have HBX:Hid (∀ o1 o2 o3,Bk (((w.alloc o1).alloc o2).alloc o3) b T cs):=Lib.hid (fun o1 o2 o3=>((HB.out.alloc o1).alloc o2).alloc o3)
 have R4:Hid (∀ o1,Bk (((w.alloc o1).alloc (.cells #[.int .i64 0,.int .i64 0,.int .i64 0,.int .i64 0,.bool false,.bool false] 108)).alloc (.cells #[.int .i64 0,.int .i64 0,.int .i64 0,.int .i64 0,.bool false,.bool false] 108)) (w.heap.size+1) 108 #[.int .i64 0,.int .i64 0,.int .i64 0,.int .i64 0,.bool false,.bool false]):=Lib.hid (fun o1=>(Bk.at_ (by simp)).alloc _)
 have R5:Hid (∀ o1,Bk (((w.alloc o1).alloc (.cells #[.int .i64 0,.int .i64 0,.int .i64 0,.int .i64 0,.bool false,.bool false] 108)).alloc (.cells #[.int .i64 0,.int .i64 0,.int .i64 0,.int .i64 0,.bool false,.bool false] 108)) (w.heap.size+1+1) 108 #[.int .i64 0,.int .i64 0,.int .i64 0,.int .i64 0,.bool false,.bool false]):=Lib.hid (fun o1=>Bk.at_ (by simp))
 clear hcs
 go_enter Tryz.func65,Tryz.ntmps65
 go_wp2_with (first | (refine Ym (by rfl) _ _ _ (by rfl) b o _ (by rfl) (by rfl) _ _ cs' (HBX.out _ _ _) (by exact ho) (by kernel_rfl) (by rfl) (by exact HCS.out) ?_;intro w2 hst;have y5:=hst.far (R5.out _) (by omega);have y4:=hst.far (R4.out _) (by omega);have q0:=y5.cell 0;have q1:=y5.cell 1;have q2:=y5.cell 2;have q3:=y5.cell 3;have q4:=y5.cell 4;have q5:=y5.cell 5;have f5:=y5.free 5;simp at q0 q1 q2 q3 q4 q5;have Y4:=Lib.hid (y4.far (p:=⟨w.heap.size+1+1,5,none⟩) (by simp) (.bool true));have HST:=Lib.hid hst;clear hst y4 y5) | (refine vM Y4.out ?_;intro w3 hst3))
 (have r0:=hst3.bk.cell 0;have r1:=hst3.bk.cell 1;have r2:=hst3.bk.cell 2;have r3:=hst3.bk.cell 3;have r4:=hst3.bk.cell 4;have r5:=hst3.bk.cell 5;simp at r0 r1 r2 r3 r4 r5;refine bodyPost_ret (v:=.agg #[.int .i64 0,.int .i64 0,.int .i64 0,.int .i64 0,.bool false,.bool true]) (by simp [results,Tryz.results65,go_sem,r0,r1,r2,r3,r4,r5]) rfl ?_)
 exact ⟨rfl,hst3.far (HST.out.bk.far (p:=⟨w.heap.size+1+1,5,none⟩) (by simp;omega) (.bool true)) (by omega),touch_chg HST.out hst3 (by omega)⟩
end Go.Proofs.YtaipogljokblkaaGreatDoor
