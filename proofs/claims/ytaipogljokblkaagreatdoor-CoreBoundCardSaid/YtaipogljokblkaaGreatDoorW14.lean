/- Core: RC, RD, RE, RF, RG, RI. -/
import Derived.Test.YtaipogljokblkaaGreatDoorW13
import Derived.Test.YtaipogljokblkaaGreatDoorW01
import Derived.Test.YtaipogljokblkaaGreatDoorW12
import Derived.Deep.Cut
set_option linter.all false
set_option maxRecDepth 100000
set_option maxHeartbeats 8000000
namespace Go.Proofs.YtaipogljokblkaaGreatDoor
open Go Go.RowKit
set_option linter.unusedSimpArgs false
set_option linter.unusedVariables false
set_option linter.unusedSectionVars false
theorem Ba{w:World}{g:Nat}{R:Xb}(h:Bk w g 171 R.l.toArray)(i:Nat)(u:Value)(e:R.l.toArray[i]?=some u):w.cell? ⟨g,i,none⟩=some u:=(h.cell i).trans e
theorem wY{w:World}{g:Nat}{R:Xb}(h:Bk w g 171 R.l.toArray):w.cell? ⟨g,98,none⟩=some R.notes.v/\w.cell? ⟨g,4,none⟩=some (.int .i64 R.call.A1.sl)/\w.cell? ⟨g,5,none⟩=some (.int .i64 R.call.A1.gn)/\
  w.cell? ⟨g,6,none⟩=some (.int .i64 R.call.A1.tg)/\w.cell? ⟨g,7,none⟩=some (.int .i64 R.call.A1.nm)/\w.cell? ⟨g,8,none⟩=some (.bool R.call.A1.mark):=
 ⟨Ba h 98 _ Zk,Ba h 4 _ Zk,Ba h 5 _ Zk,Ba h 6 _ Zk,Ba h 7 _ Zk,Ba h 8 _ Zk⟩
def wN(w:World)(g:Nat)(R:Xb)(ns ds:List Xn)(ss:List Xd)(e:Ending)(w':World):Prop:=
 e=.returned (.tuple #[])/\∃hn:BB,RB w' g {R with notes:=hn} ns ds ss/\Al (Yh g R) w w'/\(∀b,hn.v.ownBlock=some b->R.notes.v.ownBlock=some b\/w.heap.size<=b)
theorem set98(R:Xb)(u:BB):R.l.toArray.setIfInBounds 98 u.v=({R with notes:=u}:Xb).l.toArray:=Zk
theorem RB.notes{w w2:World}{g:Nat}{R:Xb}{ns ns' ds:List Xn}{ss:List Xd}(h:RB w g R ns ds ss){u:BB}(ho:Own w2 201 7 u.v ns'.length (rows Xn.l ns'))
  (hg:w.grownBy w2 R.notes.v.ownBlock)(hf:EW w R.notes.v u.v):RB (w2.setCell ⟨g,98,none⟩ u.v) g {R with notes:=u} ns' ds ss/\Al (Yh g R) w (w2.setCell ⟨g,98,none⟩ u.v):=by
 have hlt:=h.bk.lt
 have b2:Bk w2 g 171 R.l.toArray:=h.bk.grown hg (λe=>h.gn e.symm)
 have gu:u.v.ownBlock≠some g:=λe=>(hf g e).elim h.gn (λh'=>by omega)
 have od:=h.od.grown hg (by cases h0:R.Ao.v.ownBlock with|none=>exact Or.inl rfl|some b=>exact Or.inr (λe=>h.nd b e.symm h0))
 have os:=h.os.grown hg (by cases h0:R.seen.v.ownBlock with|none=>exact Or.inl rfl|some b=>exact Or.inr (λe=>h.ns b e.symm h0))
 have Av:∀{v:Value},v.ownBlock≠some g->v.ownBlock=none\/v.ownBlock≠some g:=λhv=>Or.inr hv
 have hg2:=Xr w2 g 98 u.v
 refine⟨⟨by rw[←set98];exact b2.E3 98 u.v,ho.grown hg2 (Av gu),od.grown hg2 (Av h.gd),os.grown hg2 (Av h.gs),gu,h.gd,h.gs,λb hb=>(hf b hb).elim (h.nd b) (λh' e=>by have:=h.od.lt e;omega),λb hb=>(hf b hb).elim (h.ns b) (λh' e=>by have:=h.os.lt e;omega),h.ds⟩,?_⟩
 refine(Al.Aw (b:=0) hg λb e=>Xk.2 (Or.inr (Or.inl e))).trans ?_
 exact Al.Aw (b:=0) hg2 λb e=>Xk.2 (Or.inl (by injection e with e;exact e.symm))
theorem xX(x:Xd):(AF x).l.toArray=#[.int .i64 x.sl,.int .i64 x.gn,.int .i64 0,.int .i64 0,.bool false]:=rfl
theorem UN(w:World)(g:Nat)(R:Xb)(ns ds:List Xn)(ss:List Xd)(h:RB w g R ns ds ss)(hl:ns.length<=100000)(A8 Db:Int):
  Calls Tryz.prog 93 #[.pointer (some ⟨g,0,none⟩),.int .i64 A8,.int .i64 Db] w (wN w g R (ns++[⟨AF R.call.A1,A8,Db⟩]) ds ss):=by
 have HH:=Zh h
 have HB:=Zh h.bk
 have hgl:=h.bk.lt
 clear h
 go_enter Tryz.func93,Tryz.ntmps93
 refine Yb (λw'=>Bk w' g 171 R.l.toArray) 17 Zk HB.out.drew (λhS=>?_)
 have HD:Hid (RB w.drew g R ns ds ss):=Zh (HH.out.Cf (F:=[]) (Al.Af (Below.refl _ _).drew) (λ_ _=>List.not_mem_nil))
 have HC:Hid (Al [] w w.drew):=Zh (Al.Af (Below.refl _ _).drew)
 clear HH HB
 generalize w.drew=w0 at*
 ((try simp only[ZL]);refine vT (fuel:=7) hS [0,1,2,3,4,5,6,7,8,9,10,12,13] ?_;simp only[Xv,Xp,List.toList_toArray];(repeat (first|go_big_quiet_skip|(go_big_quiet_want;first|(go_big_quiet_op;go_big_quiet_on)|(apply Exists.intro;refine⟨λw' hS'=>?_,?_⟩;(· (obtain⟨c98,c4,c5,c6,c7,c8⟩:=wY hS';go_simp;first|done|rfl|exact⟨rfl,rfl⟩));go_big_quiet_on;simp only[ZL]))));refine wpQuiet_nil ?_;(try dsimp only))
 (refine Xh 11 Zk (λK hK=>?_);simp only[Xp,List.toList_toArray])
 go_wp2_with fail
 refine(aB R.call.A1 _).mono ?_
 rintro e w1 ⟨rfl,hc⟩
 have HD1:=Zh (HD.out.Cf hc (λ_ _=>List.not_mem_nil))
 have HC1:=Zh (HC.out.trans hc)
 clear HD HC hc hS
 rw[xX]
 go_wp2_with fail
 refine hK.out _ _ (λ_=>HD1.out.bk) ?_
 clear hK
 have hS:=HD1.out.bk
 ((try simp only[ZL]);refine vT (fuel:=5) hS [14] ?_;simp only[Xv,Xp,List.toList_toArray];(repeat (first|go_big_quiet_skip|(go_big_quiet_want;first|(go_big_quiet_op;go_big_quiet_on)|(apply Exists.intro;refine⟨λw' hS'=>?_,?_⟩;(· (skip;go_simp;first|done|rfl|exact⟨rfl,rfl⟩));go_big_quiet_on;simp only[ZL]))));refine wpQuiet_nil ?_;(try dsimp only))
 (refine Xh 15 Zk (λK hK=>?_);simp only[Xp,List.toList_toArray])
 go_wp2_with fail
 have HN:Hid (RB (w1.alloc (.cells #[.int .i64 R.call.A1.sl,.int .i64 R.call.A1.gn,.int .i64 0,.int .i64 0,.bool false,.int .i64 A8,.int .i64 Db] 201)) g R ns ds ss):=Zh (HD1.out.Cf (F:=[]) (Al.Af ((Below.refl _ _).alloc (Nat.le_refl _) _)) (λ_ _=>List.not_mem_nil))
 have HCN:Hid (Al [] w (w1.alloc (.cells #[.int .i64 R.call.A1.sl,.int .i64 R.call.A1.gn,.int .i64 0,.int .i64 0,.bool false,.int .i64 A8,.int .i64 Db] 201))):=Zh (HC1.out.trans (Al.Af ((Below.refl _ _).alloc (Nat.le_refl _) _)))
 obtain⟨v',w5,hrun,ho,hg,hfr⟩:=Fm _ R.notes.v ns HN.out.on hl ⟨AF R.call.A1,A8,Db⟩ w1.heap.size (Bk.at_ rfl) 64
 obtain⟨a',c',rfl,_,_⟩:=Ys ho
 have HO:=Zh (And.intro (HN.out.notes (u:=⟨a',(ns++[(⟨AF R.call.A1,A8,Db⟩:Xn)]).length,c'⟩) ho hg hfr) (And.intro hfr (HN.out.bk.grown hg (λe=>HN.out.gn e.symm))))
 have HR:=Zh hrun
 refine hK.out _ _ (λ_=>HN.out.bk) ?_
 clear hK hS ho hg hfr hrun HD1 HC1
 generalize(ns++[(⟨AF R.call.A1,A8,Db⟩:Xn)]).length=m at*
 (refine Xh 16 Zk (λK hK=>?_);simp only[Xp,List.toList_toArray])
 go_wp2_with (at_builtin;refine Ye Zr _ _ _ _ _ _ _ Zr Zr Zr HR.out ?_)
 refine hK.out _ _ (λ_=>HO.out.2.2) ?_
 clear hK HR
 have hS:=HO.out.2.2
 have c98:=hS.cell 98
 have f98:=hS.free 98
 rw[show R.l.toArray[98]?=some R.notes.v from by kernel_rfl] at c98
 ((refine Xh 17 Zk (λK hK=>?_);simp only[Xp,List.toList_toArray]);go_wp2_with fail;refine hK.out _ _ (λh=>absurd h Zo) ?_;clear hK)
 ((refine Xh 18 Zk (λK hK=>?_);simp only[Xp,List.toList_toArray]);go_wp2_with fail;refine hK.out _ _ (λh=>absurd h Zo) ?_;clear hK)
 (refine Xh 19 Zk (λK hK=>?_);simp only[Xp,List.toList_toArray])
 go_wp2_with fail
 refine hK.out _ _ (λh=>absurd h Zo) ?_
 clear hK
 refine Yg Zk ?_ _
 go_wp2_with fail
 go_end0
 refine⟨rfl,_,HO.out.1.1,(HCN.out.mono (λx hx=>by cases hx)).trans HO.out.1.2,λb hb=>(HO.out.2.1 b hb).imp id (λh=>?_)⟩
 have:=HCN.out.size
 omega
def Y2(R:Xb)(a b c:BB):Xb:={R with notes:=a,Ao:=b,seen:=c}
def IY(R:Xb):Prop:=1<=R.Ac/\R.Ac<=6
def Mc(f:Xb->Xb):Prop:=∀R a b c,IY R->f (Y2 R a b c)=Y2 (f R) a (bif (f R).step==0 then Br else b) (bif (f R).step==0 then Br else c)
def Bv(w:World)(g:Nat)(F:List Nat)(v:Value)(M:MR)(e:Ending)(w':World):Prop:=
 e=.returned v/\∃a b c:BB,RB w' g (Y2 M.R a b c) M.ns M.ds M.ss/\Al F w w'/\(∀x∈Yh g (Y2 M.R a b c),x∈F\/w.heap.size<=x)
theorem RB.same{w w':World}{g:Nat}{R:Xb}{ns ds:List Xn}{ss:List Xd}(h:RB w g R ns ds ss)(hb:Bk w' g 171 R.l.toArray)(hc:Al [g] w w'):RB w' g R ns ds ss:=h.Ah hb hc rfl (Or.inl ⟨rfl,rfl⟩) (Or.inl ⟨rfl,rfl⟩)
section
variable{w w1 w':World}{g:Nat}{F:List Nat}{R:Xb}{a b c:BB}{ns ds:List Xn}{ss:List Xd}{v:Value}
theorem Im(h:Al [g] w w')(hg:g∈F):Al F w w':=h.mono λx hx=>Or.inl (by rw[List.mem_singleton.1 hx];exact hg)
theorem Df(ht:IY R)(hg:g∈F)(hc1:Al F w w1)(h:RB w1 g (Y2 R a b c) ns ds ss)(hF:∀x∈Yh g (Y2 R a b c),x∈F\/w.heap.size<=x){f:Xb->Xb}(hf:Mc f)(hb:Bk w' g 171 (f (Y2 R a b c)).l.toArray)(hc:Al [g] w1 w'):
  Bv w g F v (MR.wrap ⟨R,ns,ds,ss⟩ (f R)) (.returned v) w':=by
 rw[hf R a b c ht] at hb
 unfold MR.wrap
 cases hz:((f R).step==0) with
 |true=>
  rw[hz] at hb
  refine⟨rfl,a,Br,Br,h.Ah hb hc rfl (Or.inr ⟨rfl,rfl⟩) (Or.inr ⟨rfl,rfl⟩),hc1.trans (Im hc hg),λx hx=>hF x ?_⟩
  rcases Xk.1 hx with h1|h1|h1|h1
  ·exact Xk.2 (Or.inl h1)
  ·exact Xk.2 (Or.inr (Or.inl h1))
  ·cases h1
  ·cases h1
 |false=>
  rw[hz] at hb
  exact⟨rfl,a,b,c,h.Ah hb hc rfl (Or.inl ⟨rfl,rfl⟩) (Or.inl ⟨rfl,rfl⟩),hc1.trans (Im hc hg),λx hx=>hF x (Xk.2 (Xk.1 hx))⟩
end
theorem OL(x:Xj):Mc λR=>R.finish x:=λR a b c ht=>rfl
theorem DA:Mc Xb.done:=λR a b c ht=>rfl
theorem EK{st:Int}(h:(st==0)=false)(a:Bo):Mc λR=>R.ask st a:=λR x y z ht=>by
 have e:(R.ask st a).step=st:=rfl;simp only[e,h,cond_false];rfl
theorem EJ{st:Int}(h:(st==0)=false)(a:Yj):Mc λR=>R.load st a:=EK h _
theorem Nd{st:Int}(h:(st==0)=false):Mc λR=>R.advance st:=λR x y z ht=>by
 have e:(R.advance st).step=st:=rfl;simp only[e,h,cond_false];rfl
theorem NG{f h:Xb->Xb}{p:Xb->Bool}(hp:∀R a b c,p (Y2 R a b c)=p R)(hf:Mc f)(hh:Mc h):Mc λR=>bif p R then f R else h R:=λR a b c ht=>by
 simp only[hp];cases p R with
 |true=>exact hf R a b c ht
 |false=>exact hh R a b c ht
theorem JX(R:Xb)(a b c:BB)(n:Int):(Y2 R a b c).look n=(Y2 (R.look n).1 a b c,(R.look n).2):=by
 unfold Xb.look;show(bif R.Az then _ else _)=_;cases R.Az with
 |true=>
  show(bif decide (wr (R.Ac*9)<=n) then _ else _)=_;cases decide (wr (R.Ac*9)<=n) with
  |true=>rfl
  |false=>rfl
 |false=>
  show(bif decide (R.Ac<=n) then _ else _)=_;cases decide (R.Ac<=n) with
  |true=>rfl
  |false=>rfl
theorem Z9{n:Int}(h0:-9223372036854775808<=n)(h1:n<9223372036854775808):wr n=n:=IntWalk.i64_in _ ⟨h0,by omega⟩
theorem J2:Mc Xb.scan:=λR a b c ht=>by
 obtain⟨h1,h2⟩:=ht;unfold Xb.scan;show(bif R.Aa==1 then _ else _)=_;cases R.Aa==1 with
 |true=>rfl
 |false=>
  show(bif R.Aa==4 then _ else _)=_;cases R.Aa==4 with
  |true=>rfl
  |false=>
   show((Y2 R a b c).look 0).1=_;rw[JX];show Y2 (R.look 0).1 a b c=Y2 (R.look 0).1 a (bif (R.look 0).1.step==0 then Br else b) (bif (R.look 0).1.step==0 then Br else c);have e:(R.look 0).1.step=13:=by
    unfold Xb.look;cases R.Az with
    |true=>
     rw[show decide (wr (R.Ac*9)<=0)=false from decide_eq_false (by rw[Z9 Zo Zo];omega)];rfl
    |false=>
     rw[show decide (R.Ac<=0)=false from decide_eq_false Zo];rfl
   rw[e];rfl
theorem nU{w:World}{E:TypeId}{sz:Nat}{s:BB}{n:Nat}{xs:List Value}(h:Own w E sz s.v n xs):s.n=n:=by
 obtain⟨a,c,e,_⟩:=Ys h;unfold BB.v at e;injection e
theorem ZM(R:Xb)(ns ds:List Xn)(ss:List Xd)(x:Xj)(hs:R.step=10):MR.As ⟨R,ns,ds,ss⟩ x=bif R.dating then MR.wrap ⟨{R with clock:=x.word},ns++[⟨AF R.call.A1,R.word.nm,x.word.nm⟩],ds,ss⟩ (Xb.advance {R with clock:=x.word} 11) else MR.noted ⟨{R with clock:=x.word},ns++[⟨AF R.call.A1,R.word.nm,x.word.nm⟩],ds,ss⟩:=by
 unfold MR.As;simp only[hs];rfl
theorem IJ{w:World}{g:Nat}{R:Xb}(h:Bk w g 171 R.l.toArray):w.cell? ⟨g,18,none⟩=some (.int .i64 R.step):=Ba h 18 _ Zk
theorem Mj(w:World)(g:Nat)(R:Xb)(ns ds:List Xn)(ss:List Xd)(x:Xj)(h:RB w g R ns ds ss)(hl:ns.length<=100000)(hs:R.step=10)(ht:IY R):
  Calls Tryz.prog 80 #[.pointer (some ⟨g,0,none⟩),.agg x.l.toArray] w (Bv w g (Yh g R) (.tuple #[]) (MR.As ⟨R,ns,ds,ss⟩ x)):=by
 have c18:=IJ h.bk
 rw[hs] at c18
 obtain⟨⟨x0,x1,x2,x3,x4⟩,x5⟩:=x
 show Calls Tryz.prog 80 #[.pointer (some ⟨g,0,none⟩),.agg #[.int .i64 x0,.int .i64 x1,.int .i64 x2,.int .i64 x3,.bool x4,.bool x5]] w _
 have HH:Hid (RB (w.alloc (.cells #[.int .i64 x0,.int .i64 x1,.int .i64 x2,.int .i64 x3,.bool x4,.bool x5] 108)) g R ns ds ss):=Zh (h.Cf (F:=[]) (Al.Af ((Below.refl _ _).alloc (Nat.le_refl _) _)) (λ_ _=>List.not_mem_nil))
 have HC:Hid (Al [] w (w.alloc (.cells #[.int .i64 x0,.int .i64 x1,.int .i64 x2,.int .i64 x3,.bool x4,.bool x5] 108))):=Zh (Al.Af ((Below.refl _ _).alloc (Nat.le_refl _) _))
 have X0:Bk (w.alloc (.cells #[.int .i64 x0,.int .i64 x1,.int .i64 x2,.int .i64 x3,.bool x4,.bool x5] 108)) w.heap.size 108 #[.int .i64 x0,.int .i64 x1,.int .i64 x2,.int .i64 x3,.bool x4,.bool x5]:=Bk.at_ rfl
 have hgl:=h.bk.lt
 have hz:Hid (w.heap.size<(w.alloc (.cells #[.int .i64 x0,.int .i64 x1,.int .i64 x2,.int .i64 x3,.bool x4,.bool x5] 108)).heap.size):=Zh Zs
 clear h
 go_enter Tryz.func80,Tryz.ntmps80
 go_wp2_with (refine Y3 Zr _ _ _ Zr g 38 _ Zr Zr _ _ ({R with clock:=⟨x0,x1,x2,x3,x4⟩}:Xb).l.toArray HH.out.bk (Nat.le_of_ble_eq_true Zk) Zk Zr Zk ?_;intro w2 hst)
 obtain⟨R1,hR1⟩:∃R1,R1=({R with clock:=⟨x0,x1,x2,x3,x4⟩}:Xb):=⟨_,rfl⟩
 rw[←hR1] at hst
 have e0:Hid (R1.clock.nm=x3/\R1.word.nm=R.word.nm/\R1.notes=R.notes/\Yh g R1=Yh g R/\R1.dating=R.dating/\R1.call.A1=R.call.A1):=by subst hR1;exact Zh ⟨rfl,rfl,rfl,rfl,rfl,rfl⟩
 have hc2:Al [g] (w.alloc (.cells #[.int .i64 x0,.int .i64 x1,.int .i64 x2,.int .i64 x3,.bool x4,.bool x5] 108)) w2:=Al.Aw (b:=0) hst.grown (λb e=>by injection e with e;simp[e])
 have H2:Hid (RB w2 g R1 ns ds ss):=by subst hR1;exact Zh (HH.out.Ah hst.bk hc2 rfl (Or.inl ⟨rfl,rfl⟩) (Or.inl ⟨rfl,rfl⟩))
 have C2:Hid (Al (Yh g R) w w2):=Zh ((HC.out.mono (λx hx=>by cases hx)).trans (hc2.mono (λx hx=>Or.inl (by rw[List.mem_singleton.1 hx];exact Xk.2 (Or.inl rfl)))))
 have HR1:=Zh hR1
 clear hc2 hst HH HC X0 hz c18 hR1
 have S2:w2.cell? ⟨g,36,none⟩=some (.int .i64 R1.word.nm)/\w2.cell? ⟨g,41,none⟩=some (.int .i64 R1.clock.nm):=⟨Ba H2.out.bk 36 _ Zk,Ba H2.out.bk 41 _ Zk⟩
 refine Yb (λw'=>w'.cell? ⟨g,36,none⟩=some (.int .i64 R1.word.nm)/\w'.cell? ⟨g,41,none⟩=some (.int .i64 R1.clock.nm)) 14 Zk S2 (λhS=>?_)
 have H3:Hid (RB w2.drew g R1 ns ds ss):=Zh (H2.out.Cf (F:=[]) (Al.Af (Below.refl _ _).drew) (λ_ _=>List.not_mem_nil))
 have C3:Hid (Al (Yh g R) w w2.drew):=Zh (C2.out.trans (Al.Af (Below.refl _ _).drew))
 clear H2 C2 S2
 generalize w2.drew=w3 at*
 ((try simp only[ZL]);refine vT (fuel:=1) hS [0,1,2,3,4,5,6,7,8,9,10,11,12] ?_;simp only[Xv,Xp,List.toList_toArray];(repeat (first|go_big_quiet_skip|(go_big_quiet_want;first|(go_big_quiet_op;go_big_quiet_on)|(apply Exists.intro;refine⟨λw' hS'=>?_,?_⟩;(· (obtain⟨c36,c41⟩:=hS';go_simp;first|done|rfl|exact⟨rfl,rfl⟩));go_big_quiet_on;simp only[ZL]))));refine wpQuiet_nil ?_;(try dsimp only))
 (refine Xh 13 Zk (λK hK=>?_);simp only[Xp,List.toList_toArray])
 go_wp2_with fail
 refine(UN w3 g R1 ns ds ss H3.out hl R1.word.nm R1.clock.nm).mono ?_
 rintro e w4 ⟨rfl,hn,hrb,hc4,hf4⟩
 go_wp2_with fail
 refine hK.out _ _ (λ_=>⟨Ba hrb.bk 36 _ Zk,Ba hrb.bk 41 _ Zk⟩) ?_
 clear hK hS
 refine Yg Zk ?_ _
 obtain⟨R4,hR4⟩:∃R4,R4=({R1 with notes:=hn}:Xb):=⟨_,rfl⟩
 rw[←hR4] at hrb
 have eN:(⟨AF R1.call.A1,R1.word.nm,R1.clock.nm⟩:Xn)=⟨AF R.call.A1,R.word.nm,x3⟩:=by rw[HR1.out]
 rw[eN] at hrb
 have e4:R4=Y2 {R with clock:=⟨x0,x1,x2,x3,x4⟩} hn R.Ao R.seen:=by rw[hR4,HR1.out];rfl
 have HB:=Zh hrb;have H4:=Zh e4;clear e4;have HC4:=Zh hc4;have HF4:=Zh hf4
 have hd4:R4.dating=R.dating:=by rw[hR4];exact e0.out.2.2.2.2.1
 have HF:Hid (∀x∈Yh g (Y2 {R with clock:=⟨x0,x1,x2,x3,x4⟩} hn R.Ao R.seen),x∈Yh g R\/w.heap.size<=x):=by
  refine Zh (λx hx=>?_);have hz:=C3.out.size;rcases Xk.1 hx with h1|h1|h1|h1
  ·exact Or.inl (Xk.2 (Or.inl h1))
  ·rcases hf4 x h1 with h2|h2
   ·rw[e0.out.2.2.1] at h2;exact Or.inl (Xk.2 (Or.inr (Or.inl h2)))
   ·right;omega
  ·exact Or.inl (Xk.2 (Or.inr (Or.inr (Or.inl h1))))
  ·exact Or.inl (Xk.2 (Or.inr (Or.inr (Or.inr h1))))
 clear hrb hR4 hc4 hf4 H3
 go_wp2_with fail
 refine(U2 R4 g w4 HB.out.bk).mono ?_
 rintro e w5 ⟨rfl,hb5,hc5⟩
 have H5:=Zh (HB.out.same hb5 hc5);have CC:Hid (Al (Yh g R) w w5):=Zh ((C3.out.trans (e0.out.2.2.2.1▸HC4.out)).trans (Im hc5 (Xk.2 (Or.inl rfl))))
 clear hb5 hc5
 simp only
 rw[hd4]
 cases hdt:R.dating with
 |true=>
  go_wp2_with fail
  refine(U3 R4 11 g w5 H5.out.bk).mono ?_
  rintro e w6 ⟨rfl,hb6,hc6⟩
  have HB6:=Zh hb6;have C6:=Zh hc6
  clear hb6 hc6
  go_wp2_with fail
  go_end0
  rw[ZM _ _ _ _ _ hs,hdt]
  refine Df (w1:=w5) (R:={R with clock:=⟨x0,x1,x2,x3,x4⟩}) (a:=hn) (b:=R.Ao) (c:=R.seen) ht (Xk.2 (Or.inl rfl)) CC.out (H4.out▸H5.out) HF.out (Nd (st:=11) rfl) (H4.out▸HB6.out) C6.out
 |false=>
  go_wp2_with fail
  refine(Ow R4 g w5 H5.out.bk).mono ?_
  rintro e w6 ⟨rfl,hb6,hc6⟩
  have HB6:=Zh hb6;have C6:=Zh hc6
  clear hb6 hc6
  go_wp2_with fail
  go_end0
  rw[ZM _ _ _ _ _ hs,hdt]
  show Bv w g (Yh g R) _ (bif decide (R.most<=((ns++[(⟨AF R.call.A1,R.word.nm,x3⟩:Xn)]).length:Int)) then _ else _) _ _
  have hb6:=HB6.out
  unfold Xb.noted at hb6
  rw[nU H5.out.on] at hb6
  rw[show R4.most=R.most from by rw[H4.out];rfl] at hb6
  cases hm:decide (R.most<=((ns++[(⟨AF R.call.A1,R.word.nm,x3⟩:Xn)]).length:Int)) with
  |true=>
   rw[hm] at hb6
   exact Df (w1:=w5) (R:={R with clock:=⟨x0,x1,x2,x3,x4⟩}) (a:=hn) (b:=R.Ao) (c:=R.seen) ht (Xk.2 (Or.inl rfl)) CC.out (H4.out▸H5.out) HF.out J2 (H4.out▸hb6) C6.out
  |false=>
   rw[hm] at hb6
   exact Df (w1:=w5) (R:={R with clock:=⟨x0,x1,x2,x3,x4⟩}) (a:=hn) (b:=R.Ao) (c:=R.seen) ht (Xk.2 (Or.inl rfl)) CC.out (H4.out▸H5.out) HF.out DA (H4.out▸hb6) C6.out
theorem Al.seq{w w1 w':World}{F F1:List Nat}(hc:Al F w w1)(hF:∀x∈F1,x∈F\/w.heap.size<=x)(h:Al F1 w1 w'):Al F w w':=
 ⟨h.os.trans hc.os,h.tape.trans hc.tape,h.output.trans hc.output,Nat.le_trans hc.size h.size,λb hb hf=>(h.Av b (Nat.lt_of_lt_of_le hb hc.size) (λh1=>(hF b h1).elim hf (λh2=>by omega))).trans (hc.Av b hb hf)⟩
theorem Bv.after{w w1 w':World}{g:Nat}{F F1:List Nat}{v:Value}{M:MR}{e:Ending}(hc:Al F w w1)(hF:∀x∈F1,x∈F\/w.heap.size<=x)(h:Bv w1 g F1 v M e w'):Bv w g F v M e w':=by
 obtain⟨he,a,b,c,hb,hc1,hf⟩:=h;have hz:=hc.size;exact⟨he,a,b,c,hb,hc.seq hF hc1,λx hx=>(hf x hx).elim (hF x) (λh=>Or.inr Zo)⟩
theorem G6{w:World}{g:Nat}{R:Xb}(h:Bk w g 171 R.l.toArray):w.cell? ⟨g,41,none⟩=some (.int .i64 R.clock.nm)/\w.cell? ⟨g,44,none⟩=some R.seen.v/\w.cell? ⟨g,45,none⟩=some R.Ao.v/\w.cell? ⟨g,46,none⟩=some (.int .i64 R.Aa)/\w.cell? ⟨g,98,none⟩=some R.notes.v:=
 ⟨Ba h 41 _ Zk,Ba h 44 _ Zk,Ba h 45 _ Zk,Ba h 46 _ Zk,Ba h 98 _ Zk⟩
theorem Ia(w:World)(g:Nat)(R:Xb)(ns ds:List Xn)(ss:List Xd)(h:RB w g R ns ds ss)(ht:IY R)(hl:ds.length<=100000):
  Calls Tryz.prog 102 #[.pointer (some ⟨g,0,none⟩)] w (Bv w g (Yh g R) (.tuple #[]) (MR.reap ⟨R,ns,ds,ss⟩)):=by
 obtain⟨_,_,c45,_,_⟩:=G6 h.bk
 have HH:=Zh h
 have hgl:=h.bk.lt
 cases ds with
 |nil=>
  obtain⟨a,cp,e,_⟩:=Ys h.od
  rw[e] at c45
  clear e h
  simp only[List.length_nil] at c45
  go_enter Tryz.func102,Tryz.ntmps102
  go_wp2_with fail
  refine(fH R g w HH.out.bk).mono ?_
  rintro e w1 ⟨rfl,hb,hc⟩
  have HB:=Zh hb;have HC:=Zh hc
  clear hb hc
  go_wp2_with fail
  go_end0
  exact Df (w1:=w) (R:=R) (a:=R.notes) (b:=R.Ao) (c:=R.seen) ht (Xk.2 (Or.inl rfl)) (Al.refl _ _) HH.out (λx hx=>Or.inl hx) DA HB.out HC.out
 |cons d r=>
  obtain⟨b,off,cp,e,hcp⟩:=EC h.od Zs
  have ho:=h.od
  rw[e] at c45 ho
  have hr:=ND Qo ho 0 Zs
  rw[Nat.zero_mul,Nat.add_zero] at hr
  obtain⟨q0,q1,q2,q3,q4,_,_⟩:=Oy hr
  simp only[List.getElem_cons_zero] at q0 q1 q2 q3 q4
  simp only[List.length_cons] at c45 hcp
  clear ho hr e h
  have hn:¬(r.length+1=0):=Zo
  go_enter Tryz.func102,Tryz.ntmps102
  go_wp2_with fail
  refine(nA R 16 ⟨5,.zero,d.ref,.zero⟩ g w HH.out.bk).mono ?_
  rintro e w1 ⟨rfl,hb,hc⟩
  have HB:=Zh hb;have HC:=Zh hc
  clear hb hc
  go_wp2_with fail
  go_end0
  have:=Df (v:=.tuple #[]) (w1:=w) (R:=R) (a:=R.notes) (b:=R.Ao) (c:=R.seen) ht (Xk.2 (Or.inl rfl)) (Al.refl _ _) HH.out (λx hx=>Or.inl hx) (EK (st:=16) rfl ⟨5,.zero,d.ref,.zero⟩) HB.out HC.out
  exact this
theorem hear_l(x:Xd):(E5 x).l.toArray=#[.bool (E5 x).is,.int .i64 (E5 x).low,.int .i64 (E5 x).IC]:=rfl
def RetNew(w:World)(E:TypeId)(sz:Nat)(n:Nat)(xs:List Value)(e:Ending)(w':World):Prop:=
 ∃v,e=.returned v/\Own w' E sz v n xs/\Below w.heap.size w w'/\∀b,v.ownBlock=some b->w.heap.size<=b
theorem Mz(w:World)(v:Value)(l:List AN)(h:Own w 169 3 v l.length (rows AN.l l))(hl:l.length<=100000)(x:AN)(b:Nat)(hb:Bk w b 169 x.l.toArray)(t:TypeId):
  ∃v' w',(Builtin.append_ #[213,213] t #[v,.slice (some ⟨b,0,none⟩) 1 1]).run Tryz.prog w=.ok v' w'/\
   Own w' 169 3 v' (l++[x]).length (rows AN.l (l++[x]))/\w.grownBy w' v.ownBlock/\EW w v v':=
 Bq yS sone Tryz.underlying213 pI rfl Zd Zd w v l h hl x b hb t
theorem map_take{α β:Type}{f:α->β}{l:List α}{k:Nat}(hk:k<l.length):(l.take (k+1)).map f=(l.take k).map f++[f l[k]]:=by
 rw[List.take_add_one,List.getElem?_eq_getElem hk,List.map_append];rfl
theorem MU(w:World)(g:Nat)(R:Xb)(ns ds:List Xn)(ss:List Xd)(h:RB w g R ns ds ss)(hl:ss.length<=1000):
  Calls Tryz.prog 99 #[.pointer (some ⟨g,0,none⟩)] w (RetNew w 169 3 (ss.map E5).length (rows AN.l (ss.map E5))):=by
 obtain⟨_,c44,_,_,_⟩:=G6 h.bk
 obtain⟨a,cp,e,hcp,_⟩:=Ys h.os
 have hs:Sl w w.heap.size 5 a ss.length (rows Xd.l ss):=Sl.DO (e▸h.os)
 have hgl:=h.bk.lt
 rw[e] at c44
 clear e h
 go_enter Tryz.func99,Tryz.ntmps99
 go_wp2_with fail
 go_loopw [3,12] (fun v i wr=>∃ k:Nat,k≤ss.length∧i = .int .i64 k∧Below w.heap.size w wr ∧
   Own wr 169 3 v ((ss.take k).map E5).length (rows AN.l ((ss.take k).map E5))/\(∀b,v.ownBlock=some b->w.heap.size<=b)) (λ_ i _=>ss.length-(intOf i).toNat)
 case atStart=>exact⟨0,Nat.zero_le _,rfl,Below.refl _ _,Own.nil,by simp[Value.ownBlock]⟩
 case round=>
  obtain⟨k,hkl,rfl,hB,ho,h3⟩:=hrel
  have hz:=hB.size
  by_cases hlt:k<ss.length
  ·obtain⟨b,off,rfl,hbb,hr⟩:=(hs.below hB).row NS k hlt;obtain⟨q0,q1,q2,q3,q4⟩:=Mt hr;have X1:Bk (wr.alloc (.cells #[.int .i64 0,.int .i64 0,.int .i64 0,.int .i64 0,.bool false] 51)) wr.heap.size 51 #[.int .i64 0,.int .i64 0,.int .i64 0,.int .i64 0,.bool false]:=Bk.at_ rfl;have hB2:=hB.alloc hB.size (.cells #[.int .i64 0,.int .i64 0,.int .i64 0,.int .i64 0,.bool false] 51);have o3:=ho.alloc (.cells #[.int .i64 0,.int .i64 0,.int .i64 0,.int .i64 0,.bool false] 51);have lt3:∀b,u3.ownBlock=some b->b<wr.heap.size:=λb hb=>ho.lt hb;have HS:=Zh hs;clear ho hs hr;go_wp2_with (refine vM X1 ?_;intro w2 hst;have r0:=hst.bk.cell 0;have r1:=hst.bk.cell 1;have r2:=hst.bk.cell 2;have r3:=hst.bk.cell 3;have r4:=hst.bk.cell 4;simp at r0 r1 r2 r3 r4);refine(pL ss[k] w2).mono ?_;rintro e w3 ⟨rfl,hc3⟩;rw[hear_l];have hb3:=hc3.below;have hB3':=hst.below hB2 hz;have hB3:=hB3'.trans (hb3.mono hB3'.size);have o33:=(o3.grown hst.grown (by cases h0:u3.ownBlock with|none=>exact Or.inl rfl|some b=>exact Or.inr (λe=>by have:=lt3 b h0;cases e;omega))).below hb3;have MT:=Zh (map_take (f:=E5) hlt);obtain⟨v',w5,hrun,ho,hg,hfr⟩:=Mz (w3.alloc (.cells #[.bool (E5 ss[k]).is,.int .i64 (E5 ss[k]).low,.int .i64 (E5 ss[k]).IC] 169)) u3 ((ss.take k).map E5) (o33.alloc _) (by simp;omega) (E5 ss[k]) w3.heap.size (Bk.at_ rfl) 213;rw[←MT.out] at ho;have HO:=Zh (And.intro ho (And.intro hg hfr));clear ho hg hfr hc3;go_wp2_with (at_builtin;refine Ye Zr _ _ _ _ _ _ _ Zr Zr Zr hrun ?_);obtain⟨ho,hg,hfr⟩:=HO.out;have z3:=hb3.size;have z2:=hst.size;simp at z2;have hB4:=(hB3.alloc hB3.size (.cells #[.bool (E5 ss[k]).is,.int .i64 (E5 ss[k]).low,.int .i64 (E5 ss[k]).IC] 169));have hB5:Below w.heap.size w w5:=hB4.grown hg hB4.size (λb e=>h3 b e);go_roundw
   case rel=>exact⟨k+1,by omega,by go_num,hB5,ho,λb hb=>(hfr b hb).elim (h3 b) (λh=>by simp at h;omega)⟩
   case measure=>simp[intOf];omega
  ·have hke:k=ss.length:=Zo;subst hke;rw[List.take_length] at ho;have HO:=Zh ho;clear ho;go_wp2_with fail;go_ret;exact⟨_,rfl,HO.out,hB,h3⟩
theorem set45(R:Xb)(u:BB):R.l.toArray.setIfInBounds 45 u.v=({R with Ao:=u}:Xb).l.toArray:=Zk
theorem RB.iC{w:World}{g:Nat}{R:Xb}{ns ds ds':List Xn}{ss:List Xd}(h:RB w g R ns ds ss){u:BB}(ho:Own w 201 7 u.v ds'.length (rows Xn.l ds'))
  (gu:u.v.ownBlock≠some g)(nu:∀b,R.notes.v.ownBlock=some b->u.v.ownBlock≠some b)(su:∀b,u.v.ownBlock=some b->R.seen.v.ownBlock≠some b):
  RB (w.setCell ⟨g,45,none⟩ u.v) g {R with Ao:=u} ns ds' ss/\Al [g] w (w.setCell ⟨g,45,none⟩ u.v):=by
 have hg2:=Xr w g 45 u.v
 exact ⟨⟨by rw [← set45];exact h.bk.E3 45 u.v,h.on.grown hg2 (Or.inr h.gn),ho.grown hg2 (Or.inr gu),h.os.grown hg2 (Or.inr h.gs),h.gn,gu,h.gs,nu,h.ns,su⟩,
  Al.Aw (b:=0) hg2 λb e=>by injection e with e;simp[e]⟩
theorem Le{w w1 w2 w3:World}{g:Nat}{R:Xb}{ns ds ds':List Xn}{ss:List Xd}{u:BB}{e:Ending}(h:RB w g R ns ds ss)(hb:Below w.heap.size w w1)(hf:∀b,u.v.ownBlock=some b->w.heap.size<=b)(hc:Al [g] w1 w2)
  (hr:Bv w2 g (Yh g {R with Ao:=u}) (.tuple #[]) (MR.reap ⟨{R with Ao:=u},ns,ds',ss⟩) e w3)(he:MR.sift ⟨R,ns,ds,ss⟩=MR.reap ⟨R,ns,ds',ss⟩):Bv w g (Yh g R) (.tuple #[]) (MR.sift ⟨R,ns,ds,ss⟩) e w3:=by
 rw[he]
 have h1:Bv w2 g (Yh g {R with Ao:=u}) (.tuple #[]) (MR.reap ⟨R,ns,ds',ss⟩) e w3:=by
  cases ds' with
  |nil=>exact hr
  |cons d r=>exact hr
 refine Bv.after ((Al.Af hb).trans (Im hc (Xk.2 (Or.inl rfl)))) (λx hx=>?_) h1
 rcases Xk.1 hx with h2|h2|h2|h2
 ·exact Or.inl (Xk.2 (Or.inl h2))
 ·exact Or.inl (Xk.2 (Or.inr (Or.inl h2)))
 ·exact Or.inr (hf x h2)
 ·exact Or.inl (Xk.2 (Or.inr (Or.inr (Or.inr h2))))
theorem eJ(w:World)(g:Nat)(R:Xb)(ns ds:List Xn)(ss:List Xd)(h:RB w g R ns ds ss)(ht:IY R)(hl:ns.length<=100000)(hk:ss.length<=1000)(he:R.Aa=2):
  Calls Tryz.prog 97 #[.pointer (some ⟨g,0,none⟩)] w (Bv w g (Yh g R) (.tuple #[]) (MR.sift ⟨R,ns,ds,ss⟩)):=by
 obtain⟨_,c44,_,c46,c98⟩:=G6 h.bk
 obtain⟨sa,sc,es,_⟩:=Ys h.os
 obtain⟨na,nc,en,_⟩:=Ys h.on
 have hsS:Sl w w.heap.size 5 sa ss.length (rows Xd.l ss):=Sl.DO (es▸h.os)
 have hsN:Sl w w.heap.size 7 na ns.length (rows Xn.l ns):=Sl.DO (en▸h.on)
 have HH:=Zh h
 have hgl:=h.bk.lt
 have HM:Hid (MR.sift ⟨R,ns,ds,ss⟩=MR.reap ⟨R,ns,ns.filter λn=>!Cz ss n,ss⟩):=Zh (by unfold MR.sift MR.stays;simp only[he];rfl)
 have HL:(ns.filter λn=>!Cz ss n).length<=100000:=Nat.le_trans (List.length_filter_le _ _) hl
 have HLH:=Zh HL
 rw[he] at c46
 rw[en] at c98
 rw[es] at c44
 have HS:=Zh (And.intro hsS hsN)
 have HES:=Zh (And.intro es en)
 clear h es en HL hsS hsN
 go_enter Tryz.func97,Tryz.ntmps97
 go_upto_region 2 with(fail)
 refine Yb (λw'=>w'.cell? ⟨g,98,none⟩=some (.slice na ns.length nc)/\w'.cell? ⟨g,44,none⟩=some (.slice sa ss.length sc)) 18 Zk ⟨c98,c44⟩ (λhS=>?_)
 have hd0:Below w.heap.size w w.drew:=(Below.refl _ _).drew
 have H1:=Zh (eC ns na nc ss sa sc w.drew (HS.out.2.up hd0) hl (HS.out.1.up hd0) Zo)
 clear c98 c44 c46 HS
 ((try simp only[ZL]);refine vT (fuel:=8) hS [0,1,2,3,4,5,6,7,8,9] ?_;simp only[Xv,Xp,List.toList_toArray];(repeat (first|go_big_quiet_skip|(go_big_quiet_want;first|(go_big_quiet_op;go_big_quiet_on)|(apply Exists.intro;refine⟨λw' hS'=>?_,?_⟩;(· (obtain⟨c98,c44⟩:=hS';go_simp;first|done|rfl|exact⟨rfl,rfl⟩));go_big_quiet_on;simp only[ZL]))));refine wpQuiet_nil ?_;(try dsimp only))
 (refine Xh 10 Zk (λK hK=>?_);simp only[Xp,List.toList_toArray])
 go_wp2_with fail
 refine H1.out.mono ?_
 rintro e w3 ⟨v,u,rfl,o1,o2,hb,f1,f2,f3⟩
 (generalize(ns.filter λn=>!Cz ss n)=fs at*;obtain⟨va,vc,rfl,_⟩:=Ys o1;have hb:Below w.heap.size w w3:=hd0.trans hb;have RBW:=HH.out.Cf (F:=[]) (Al.Af hb) (λ_ _=>List.not_mem_nil);have HD:=Zh (RBW.iC (u:=⟨va,fs.length,vc⟩) o1 (λe=>by have:=f1 g e;have h2:w.heap.size<=g:=this;omega) (λb h1 h2=>by have h3:w.heap.size<=b:=f1 b h2;have:=HH.out.on.lt h1;omega) (λb h1 h2=>by have h3:w.heap.size<=b:=f1 b h1;have:=HH.out.os.lt h2;omega));have HF:Hid (∀b,(BB.v ⟨va,fs.length,vc⟩).ownBlock=some b->w.heap.size<=b):=Zh f1;have HB:=Zh hb;have c45:=RBW.bk.cell 45;have vN:=RBW.bk.free 45;rw[show R.l.toArray[45]?=some R.Ao.v from by kernel_rfl] at c45;have c98:=Ba RBW.bk 98 _ (show _=some R.notes.v by kernel_rfl);have c44:=Ba RBW.bk 44 _ (show _=some R.seen.v by kernel_rfl);have c41:=Ba RBW.bk 41 _ (show _=some (.int .i64 R.clock.nm) by kernel_rfl);rw[HES.out.2] at c98;rw[HES.out.1] at c44)
 clear o1 o2 f1 f2 f3 hb RBW H1
 go_wp2_with fail
 refine hK.out _ _ (λ_=>⟨c98,c44⟩) ?_
 clear hK hS
 have hS:=And.intro c98 c44
 ((try simp only[ZL]);refine vT (fuel:=1) hS [11,12,13,14,15,16] ?_;simp only[Xv,Xp,List.toList_toArray];(repeat (first|go_big_quiet_skip|(go_big_quiet_want;first|(go_big_quiet_op;go_big_quiet_on)|(apply Exists.intro;refine⟨λw' hS'=>?_,?_⟩;(· (skip;go_simp;first|done|rfl|exact⟨rfl,rfl⟩));go_big_quiet_on;simp only[ZL]))));refine wpQuiet_nil ?_;(try dsimp only))
 (refine Xh 17 Zk (λK hK=>?_);simp only[Xp,List.toList_toArray])
 go_wp2_with fail
 refine hK.out _ _ (λ_=>⟨Ba HD.out.1.bk 98 _ (by rw[←HES.out.2];kernel_rfl),Ba HD.out.1.bk 44 _ (by rw[←HES.out.1];kernel_rfl)⟩) ?_
 clear hK hS c98 c44 c41 c45 vN
 refine Yg Zk ?_ _
 (go_wp2_with fail;(refine(Ia _ g _ ns fs ss HD.out.1 ht HLH.out).mono ?_;intro e w5 hr;have HR:=Zh (Le HH.out HB.out HF.out HD.out.2 hr HM.out);have he0:=Zh hr.1;obtain rfl:=hr.1;clear hr;go_wp2_with fail;go_end0;exact HR.out))
theorem Jn(l:List Int):rows (λn=>[Value.int .i64 n]) l=AA l:=by
 induction l with
 |nil=>rfl
 |cons a l ih=>rw[DN,ih];rfl
theorem Nt(w:World)(v:Value)(l:List Int)(h:Own w 3 1 v l.length (AA l))(hl:l.length<=100000)(x:Int)(b:Nat)(hb:Bk w b 3 #[.int .i64 x])(t:TypeId):
  ∃v' w',(Builtin.append_ #[45,45] t #[v,.slice (some ⟨b,0,none⟩) 1 1]).run Tryz.prog w=.ok v' w'/\
   Own w' 3 1 v' (l++[x]).length (AA (l++[x]))/\w.grownBy w' v.ownBlock/\EW w v v':=by
 have h1:=Bq (f:=λn:Int=>[Value.int .i64 n]) (sz:=1) (E:=3) (λ_=>rfl) (λx u hu=>by rw[List.mem_singleton.1 hu];rfl) Tryz.underlying45 NF rfl Zd Zd w v l (by rw[Jn];exact h) hl x b hb t
 rw[Jn] at h1
 exact h1
theorem eI(w:World)(g:Nat)(R:Xb)(ns ds:List Xn)(ss:List Xd)(h:RB w g R ns ds ss)(ht:IY R)(hl:ns.length<=100000)(hk:ss.length<=1000)(he:R.Aa=3):
  Calls Tryz.prog 97 #[.pointer (some ⟨g,0,none⟩)] w (Bv w g (Yh g R) (.tuple #[]) (MR.sift ⟨R,ns,ds,ss⟩)):=by
 (obtain⟨c41,c44,_,c46,c98⟩:=G6 h.bk;obtain⟨sa,sc,es,_⟩:=Ys h.os;obtain⟨na,nc,en,_⟩:=Ys h.on;have hsS:Sl w w.heap.size 5 sa ss.length (rows Xd.l ss):=Sl.DO (es▸h.os);have hsN:Sl w w.heap.size 7 na ns.length (rows Xn.l ns):=Sl.DO (en▸h.on);have HH:=Zh h;have hgl:=h.bk.lt;have HM:Hid (MR.sift ⟨R,ns,ds,ss⟩=MR.reap ⟨R,ns,ns.filter λn=>!GF (ss.map (·.nm)) n,ss⟩):=Zh (by unfold MR.sift MR.stays;simp only[he];rfl);have HLH:Hid ((ns.filter λn=>!GF (ss.map (·.nm)) n).length<=100000):=Zh (Nat.le_trans (List.length_filter_le _ _) hl);rw[he] at c46;rw[en] at c98;rw[es] at c44;have HS:=Zh (And.intro hsS hsN);have HES:=Zh (And.intro es en);clear h es en hsS hsN)
 go_enter Tryz.func97,Tryz.ntmps97
 go_wp2_with fail
 go_loopw [2,36] (fun v i wr=>∃ k:Nat,k≤ss.length∧i = .int .i64 k∧Below w.heap.size w wr ∧
   Own wr 3 1 v ((ss.take k).map (·.nm)).length (AA ((ss.take k).map (·.nm)))/\(∀b,v.ownBlock=some b->w.heap.size<=b)) (λ_ i _=>ss.length-(intOf i).toNat)
 case atStart=>exact⟨0,Nat.zero_le _,rfl,Below.refl _ _,Own.nil,by simp[Value.ownBlock]⟩
 case round=>
  obtain⟨k,hkl,rfl,hB,ho,h3⟩:=hrel
  have hz:=hB.size
  by_cases hlt:k<ss.length
  ·obtain⟨b,off,rfl,hbb,hr⟩:=(HS.out.1.below hB).row NS k hlt;obtain⟨q0,q1,q2,q3,q4⟩:=Mt hr;have X1:Bk (wr.alloc (.cells #[.int .i64 0,.int .i64 0,.int .i64 0,.int .i64 0,.bool false] 51)) wr.heap.size 51 #[.int .i64 0,.int .i64 0,.int .i64 0,.int .i64 0,.bool false]:=Bk.at_ rfl;have hB2:=hB.alloc hB.size (.cells #[.int .i64 0,.int .i64 0,.int .i64 0,.int .i64 0,.bool false] 51);have o3:=ho.alloc (.cells #[.int .i64 0,.int .i64 0,.int .i64 0,.int .i64 0,.bool false] 51);have lt3:∀b,u2.ownBlock=some b->b<wr.heap.size:=λb hb=>ho.lt hb;clear ho hr;go_wp2_with (first|(at_builtin;refine Ye Zr _ _ _ _ _ _ _ Zr Zr Zr HR.out ?_)|(refine vM X1 ?_;intro w2 hst;have r0:=hst.bk.cell 0;have r3:=hst.bk.cell 3;simp at r0 r3;have hB3:=hst.below hB2 hz;have o33:=(o3.grown hst.grown (by cases h0:u2.ownBlock with|none=>exact Or.inl rfl|some b=>exact Or.inr (λe=>by have:=lt3 b h0;cases e;omega)));obtain⟨v',w5,hrun,ho,hg,hfr⟩:=Nt (w2.alloc (.cells #[.int .i64 ss[k].nm] 3)) u2 ((ss.take k).map (·.nm)) (o33.alloc _) (by simp;omega) ss[k].nm w2.heap.size (Bk.at_ rfl) 45;rw[←map_take (f:=λx:Xd=>x.nm) hlt] at ho;have HR:=Zh hrun;have HO:=Zh (And.intro ho (And.intro hg hfr));clear ho hg hfr hrun));obtain⟨ho,hg,hfr⟩:=HO.out;have z2:=hst.size;simp at z2;have hB4:=(hB3.alloc hB3.size (.cells #[.int .i64 ss[k].nm] 3));have hB5:Below w.heap.size w w5:=hB4.grown hg hB4.size (λb e=>h3 b e);go_roundw
   case rel=>exact⟨k+1,by omega,by go_num,hB5,ho,λb hb=>(hfr b hb).elim (h3 b) (λh=>by simp at h;omega)⟩
   case measure=>simp[intOf];omega
  ·have hke:k=ss.length:=Zo;subst hke;rw[List.take_length] at ho;obtain⟨ea,ec,rfl,_⟩:=Ys ho;have hse:Sl wr wr.heap.size 1 ea (ss.map (·.nm)).length (AA (ss.map (·.nm))):=Sl.DO ho;have hmz:(ss.map (·.nm)).length<=100000:=by simp;omega
   have HMZ:=Zh hmz;have cB:=(Ba ((HH.out.Cf (F:=[]) (Al.Af hB) (λ_ _=>List.not_mem_nil)).bk) 98 _ (show _=some R.notes.v by kernel_rfl));rw[HES.out.2] at cB;have H1:=Zh (qG ns na nc (ss.map (·.nm)) ea ec wr (HS.out.2.up hB) hl hse hmz);have hd0:=hB;clear ho hse hmz HS;generalize ss.map (·.nm)=sp at*;have F1:Hid (g<wr.heap.size):=Zh Zo;go_wp2_with (refine H1.out.mono ?_;rintro e w3 ⟨v,u,rfl,o1,o2,hb,f1,f2,f3⟩;have f1:∀b,v.ownBlock=some b->w.heap.size<=b:=(λb h=>Nat.le_trans hz (f1 b h));have hb:Below w.heap.size wr w3:=(hb.mono hz);(generalize(ns.filter λn=>!GF sp n)=fs at*;obtain⟨va,vc,rfl,_⟩:=Ys o1;have hb:Below w.heap.size w w3:=hd0.trans hb;have RBW:=HH.out.Cf (F:=[]) (Al.Af hb) (λ_ _=>List.not_mem_nil);have HD:=Zh (RBW.iC (u:=⟨va,fs.length,vc⟩) o1 (λe=>by have:=f1 g e;have h2:w.heap.size<=g:=this;omega) (λb h1 h2=>by have h3:w.heap.size<=b:=f1 b h2;have:=HH.out.on.lt h1;omega) (λb h1 h2=>by have h3:w.heap.size<=b:=f1 b h1;have:=HH.out.os.lt h2;omega));have HF:Hid (∀b,(BB.v ⟨va,fs.length,vc⟩).ownBlock=some b->w.heap.size<=b):=Zh f1;have HB:=Zh hb;have c45:=RBW.bk.cell 45;have vN:=RBW.bk.free 45;rw[show R.l.toArray[45]?=some R.Ao.v from by kernel_rfl] at c45;have c98:=Ba RBW.bk 98 _ (show _=some R.notes.v by kernel_rfl);have c44:=Ba RBW.bk 44 _ (show _=some R.seen.v by kernel_rfl);have c41:=Ba RBW.bk 41 _ (show _=some (.int .i64 R.clock.nm) by kernel_rfl);rw[HES.out.2] at c98;rw[HES.out.1] at c44);clear o1 o2 f1 f2 f3 hb RBW H1);(refine(Ia _ g _ ns fs ss HD.out.1 ht HLH.out).mono ?_;intro e w5 hr;have HR:=Zh (Le HH.out HB.out HF.out HD.out.2 hr HM.out);have he0:=Zh hr.1;obtain rfl:=hr.1;clear hr;go_wp2_with fail;go_end0;exact HR.out)
end Go.Proofs.YtaipogljokblkaaGreatDoor
