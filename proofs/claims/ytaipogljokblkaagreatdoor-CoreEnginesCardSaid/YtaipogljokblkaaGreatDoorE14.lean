/- Core: RC, RD, RE, RF, RG, RI. -/
import Derived.Test.YtaipogljokblkaaGreatDoorE13
import Derived.Test.YtaipogljokblkaaGreatDoorE01
import Derived.Test.YtaipogljokblkaaGreatDoorE12
import Derived.Deep.Cut
set_option linter.all false
set_option maxRecDepth 100000
set_option maxHeartbeats 8000000
namespace Go.Proofs.YtaipogljokblkaaGreatDoor
open Go Go.RowKit
set_option linter.unusedSimpArgs false
set_option linter.unusedVariables false
set_option linter.unusedSectionVars false
theorem AZ{w:World}{g:Nat}{R:Xb}(h:Bk w g 171 R.l.toArray)(i:Nat)(u:Value)(e:R.l.toArray[i]?=some u):w.cell? ⟨g,i,none⟩=some u:=(h.cell i).trans e
theorem rnote{w:World}{g:Nat}{R:Xb}(h:Bk w g 171 R.l.toArray):w.cell? ⟨g,98,none⟩=some R.notes.v/\w.cell? ⟨g,4,none⟩=some (.int .i64 R.call.Bb.sl)/\w.cell? ⟨g,5,none⟩=some (.int .i64 R.call.Bb.gn)/\
  w.cell? ⟨g,6,none⟩=some (.int .i64 R.call.Bb.tg)/\w.cell? ⟨g,7,none⟩=some (.int .i64 R.call.Bb.nm)/\w.cell? ⟨g,8,none⟩=some (.bool R.call.Bb.mark):=
 ⟨AZ h 98 _ Zk,AZ h 4 _ Zk,AZ h 5 _ Zk,AZ h 6 _ Zk,AZ h 7 _ Zk,AZ h 8 _ Zk⟩
def wI(w:World)(g:Nat)(R:Xb)(ns ds:List Xq)(ss:List Xe)(e:Ending)(w':World):Prop:=
 e=.returned (.tuple #[])/\∃hn:BA,RB w' g {R with notes:=hn} ns ds ss/\Ak (Yf g R) w w'/\(∀b,hn.v.ownBlock=some b->R.notes.v.ownBlock=some b\/w.heap.size<=b)
theorem set98(R:Xb)(u:BA):R.l.toArray.setIfInBounds 98 u.v=({R with notes:=u}:Xb).l.toArray:=Zk
theorem RB.notes{w w2:World}{g:Nat}{R:Xb}{ns ns' ds:List Xq}{ss:List Xe}(h:RB w g R ns ds ss){u:BA}(ho:Own w2 201 7 u.v ns'.length (rows Xq.l ns'))
  (hg:w.grownBy w2 R.notes.v.ownBlock)(hf:Em w R.notes.v u.v):RB (w2.setCell ⟨g,98,none⟩ u.v) g {R with notes:=u} ns' ds ss/\Ak (Yf g R) w (w2.setCell ⟨g,98,none⟩ u.v):=by
 have hlt:=h.bk.lt
 have b2:Bk w2 g 171 R.l.toArray:=h.bk.grown hg (λe=>h.gn e.symm)
 have gu:u.v.ownBlock≠some g:=λe=>(hf g e).elim h.gn (λh'=>by omega)
 have od:=h.od.grown hg (by cases h0:R.An.v.ownBlock with|none=>exact Or.inl rfl|some b=>exact Or.inr (λe=>h.nd b e.symm h0))
 have os:=h.os.grown hg (by cases h0:R.seen.v.ownBlock with|none=>exact Or.inl rfl|some b=>exact Or.inr (λe=>h.ns b e.symm h0))
 have Ax:∀{v:Value},v.ownBlock≠some g->v.ownBlock=none\/v.ownBlock≠some g:=λhv=>Or.inr hv
 have hg2:=Xs w2 g 98 u.v
 refine⟨⟨by rw[←set98];exact b2.Eo 98 u.v,ho.grown hg2 (Ax gu),od.grown hg2 (Ax h.gd),os.grown hg2 (Ax h.gs),gu,h.gd,h.gs,λb hb=>(hf b hb).elim (h.nd b) (λh' e=>by have:=h.od.lt e;omega),λb hb=>(hf b hb).elim (h.ns b) (λh' e=>by have:=h.os.lt e;omega),h.ds⟩,?_⟩
 refine(Ak.Ar (b:=0) hg λb e=>Xn.2 (Or.inr (Or.inl e))).trans ?_
 exact Ak.Ar (b:=0) hg2 λb e=>Xn.2 (Or.inl (by injection e with e;exact e.symm))
theorem xM(x:Xe):(Yt x).l.toArray=#[.int .i64 x.sl,.int .i64 x.gn,.int .i64 0,.int .i64 0,.bool false]:=rfl
theorem Ui(w:World)(g:Nat)(R:Xb)(ns ds:List Xq)(ss:List Xe)(h:RB w g R ns ds ss)(hl:ns.length<=100000)(A4 CS:Int):
  Calls Tryz.prog 93 #[.pointer (some ⟨g,0,none⟩),.int .i64 A4,.int .i64 CS] w (wI w g R (ns++[⟨Yt R.call.Bb,A4,CS⟩]) ds ss):=by
 have HH:=Zh h
 have HB:=Zh h.bk
 have hgl:=h.bk.lt
 clear h
 go_enter Tryz.func93,Tryz.ntmps93
 refine X8 (λw'=>Bk w' g 171 R.l.toArray) 17 Zk HB.out.drew (λhS=>?_)
 have HD:Hid (RB w.drew g R ns ds ss):=Zh (HH.out.BV (F:=[]) (Ak.Ag (Below.refl _ _).drew) (λ_ _=>List.not_mem_nil))
 have HC:Hid (Ak [] w w.drew):=Zh (Ak.Ag (Below.refl _ _).drew)
 clear HH HB
 generalize w.drew=w0 at*
 ((try simp only[ZL]);refine vT (fuel:=7) hS [0,1,2,3,4,5,6,7,8,9,10,12,13] ?_;simp only[Xy,Xr,List.toList_toArray];(repeat (first|go_big_quiet_skip|(go_big_quiet_want;first|(go_big_quiet_op;go_big_quiet_on)|(apply Exists.intro;refine⟨λw' hS'=>?_,?_⟩;(· (obtain⟨c98,c4,c5,c6,c7,c8⟩:=rnote hS';go_simp;first|done|rfl|exact⟨rfl,rfl⟩));go_big_quiet_on;simp only[ZL]))));refine wpQuiet_nil ?_;(try dsimp only))
 (refine Xi 11 Zk (λK hK=>?_);simp only[Xr,List.toList_toArray])
 go_wp2_with fail
 refine(Zx R.call.Bb _).mono ?_
 rintro e w1 ⟨rfl,hc⟩
 have HD1:=Zh (HD.out.BV hc (λ_ _=>List.not_mem_nil))
 have HC1:=Zh (HC.out.trans hc)
 clear HD HC hc hS
 rw[xM]
 go_wp2_with fail
 refine hK.out _ _ (λ_=>HD1.out.bk) ?_
 clear hK
 have hS:=HD1.out.bk
 ((try simp only[ZL]);refine vT (fuel:=5) hS [14] ?_;simp only[Xy,Xr,List.toList_toArray];(repeat (first|go_big_quiet_skip|(go_big_quiet_want;first|(go_big_quiet_op;go_big_quiet_on)|(apply Exists.intro;refine⟨λw' hS'=>?_,?_⟩;(· (skip;go_simp;first|done|rfl|exact⟨rfl,rfl⟩));go_big_quiet_on;simp only[ZL]))));refine wpQuiet_nil ?_;(try dsimp only))
 (refine Xi 15 Zk (λK hK=>?_);simp only[Xr,List.toList_toArray])
 go_wp2_with fail
 have HN:Hid (RB (w1.alloc (.cells #[.int .i64 R.call.Bb.sl,.int .i64 R.call.Bb.gn,.int .i64 0,.int .i64 0,.bool false,.int .i64 A4,.int .i64 CS] 201)) g R ns ds ss):=Zh (HD1.out.BV (F:=[]) (Ak.Ag ((Below.refl _ _).alloc (Nat.le_refl _) _)) (λ_ _=>List.not_mem_nil))
 have HCN:Hid (Ak [] w (w1.alloc (.cells #[.int .i64 R.call.Bb.sl,.int .i64 R.call.Bb.gn,.int .i64 0,.int .i64 0,.bool false,.int .i64 A4,.int .i64 CS] 201))):=Zh (HC1.out.trans (Ak.Ag ((Below.refl _ _).alloc (Nat.le_refl _) _)))
 obtain⟨v',w5,hrun,ho,hg,hfr⟩:=EW _ R.notes.v ns HN.out.on hl ⟨Yt R.call.Bb,A4,CS⟩ w1.heap.size (Bk.at_ rfl) 64
 obtain⟨a',c',rfl,_,_⟩:=Yq ho
 have HO:=Zh (And.intro (HN.out.notes (u:=⟨a',(ns++[(⟨Yt R.call.Bb,A4,CS⟩:Xq)]).length,c'⟩) ho hg hfr) (And.intro hfr (HN.out.bk.grown hg (λe=>HN.out.gn e.symm))))
 have HR:=Zh hrun
 refine hK.out _ _ (λ_=>HN.out.bk) ?_
 clear hK hS ho hg hfr hrun HD1 HC1
 generalize(ns++[(⟨Yt R.call.Bb,A4,CS⟩:Xq)]).length=m at*
 (refine Xi 16 Zk (λK hK=>?_);simp only[Xr,List.toList_toArray])
 go_wp2_with (at_builtin;refine Ya Zr _ _ _ _ _ _ _ Zr Zr Zr HR.out ?_)
 refine hK.out _ _ (λ_=>HO.out.2.2) ?_
 clear hK HR
 have hS:=HO.out.2.2
 have c98:=hS.cell 98
 have f98:=hS.free 98
 rw[show R.l.toArray[98]?=some R.notes.v from by kernel_rfl] at c98
 ((refine Xi 17 Zk (λK hK=>?_);simp only[Xr,List.toList_toArray]);go_wp2_with fail;refine hK.out _ _ (λh=>absurd h Zo) ?_;clear hK)
 ((refine Xi 18 Zk (λK hK=>?_);simp only[Xr,List.toList_toArray]);go_wp2_with fail;refine hK.out _ _ (λh=>absurd h Zo) ?_;clear hK)
 (refine Xi 19 Zk (λK hK=>?_);simp only[Xr,List.toList_toArray])
 go_wp2_with fail
 refine hK.out _ _ (λh=>absurd h Zo) ?_
 clear hK
 refine Ye Zk ?_ _
 go_wp2_with fail
 go_end0
 refine⟨rfl,_,HO.out.1.1,(HCN.out.mono (λx hx=>by cases hx)).trans HO.out.1.2,λb hb=>(HO.out.2.1 b hb).imp id (λh=>?_)⟩
 have:=HCN.out.size
 omega
def Y7(R:Xb)(a b c:BA):Xb:={R with notes:=a,An:=b,seen:=c}
def IJ(R:Xb):Prop:=1<=R.Af/\R.Af<=6
def Lu(f:Xb->Xb):Prop:=∀R a b c,IJ R->f (Y7 R a b c)=Y7 (f R) a (bif (f R).step==0 then Bp else b) (bif (f R).step==0 then Bp else c)
def Bs(w:World)(g:Nat)(F:List Nat)(v:Value)(M:MR)(e:Ending)(w':World):Prop:=
 e=.returned v/\∃a b c:BA,RB w' g (Y7 M.R a b c) M.ns M.ds M.ss/\Ak F w w'/\(∀x∈Yf g (Y7 M.R a b c),x∈F\/w.heap.size<=x)
theorem RB.same{w w':World}{g:Nat}{R:Xb}{ns ds:List Xq}{ss:List Xe}(h:RB w g R ns ds ss)(hb:Bk w' g 171 R.l.toArray)(hc:Ak [g] w w'):RB w' g R ns ds ss:=h.Ap hb hc rfl (Or.inl ⟨rfl,rfl⟩) (Or.inl ⟨rfl,rfl⟩)
section
variable{w w1 w':World}{g:Nat}{F:List Nat}{R:Xb}{a b c:BA}{ns ds:List Xq}{ss:List Xe}{v:Value}
theorem Ib(h:Ak [g] w w')(hg:g∈F):Ak F w w':=h.mono λx hx=>Or.inl (by rw[List.mem_singleton.1 hx];exact hg)
theorem CV(ht:IJ R)(hg:g∈F)(hc1:Ak F w w1)(h:RB w1 g (Y7 R a b c) ns ds ss)(hF:∀x∈Yf g (Y7 R a b c),x∈F\/w.heap.size<=x){f:Xb->Xb}(hf:Lu f)(hb:Bk w' g 171 (f (Y7 R a b c)).l.toArray)(hc:Ak [g] w1 w'):
  Bs w g F v (MR.wrap ⟨R,ns,ds,ss⟩ (f R)) (.returned v) w':=by
 rw[hf R a b c ht] at hb
 unfold MR.wrap
 cases hz:((f R).step==0) with
 |true=>
  rw[hz] at hb
  refine⟨rfl,a,Bp,Bp,h.Ap hb hc rfl (Or.inr ⟨rfl,rfl⟩) (Or.inr ⟨rfl,rfl⟩),hc1.trans (Ib hc hg),λx hx=>hF x ?_⟩
  rcases Xn.1 hx with h1|h1|h1|h1
  ·exact Xn.2 (Or.inl h1)
  ·exact Xn.2 (Or.inr (Or.inl h1))
  ·cases h1
  ·cases h1
 |false=>
  rw[hz] at hb
  exact⟨rfl,a,b,c,h.Ap hb hc rfl (Or.inl ⟨rfl,rfl⟩) (Or.inl ⟨rfl,rfl⟩),hc1.trans (Ib hc hg),λx hx=>hF x (Xn.2 (Xn.1 hx))⟩
end
theorem NY(x:Xj):Lu λR=>R.finish x:=λR a b c ht=>rfl
theorem Du:Lu Xb.done:=λR a b c ht=>rfl
theorem E8{st:Int}(h:(st==0)=false)(a:Bn):Lu λR=>R.ask st a:=λR x y z ht=>by
 have e:(R.ask st a).step=st:=rfl;simp only[e,h,cond_false];rfl
theorem E7{st:Int}(h:(st==0)=false)(a:X9):Lu λR=>R.load st a:=E8 h _
theorem My{st:Int}(h:(st==0)=false):Lu λR=>R.advance st:=λR x y z ht=>by
 have e:(R.advance st).step=st:=rfl;simp only[e,h,cond_false];rfl
theorem MW{f h:Xb->Xb}{p:Xb->Bool}(hp:∀R a b c,p (Y7 R a b c)=p R)(hf:Lu f)(hh:Lu h):Lu λR=>bif p R then f R else h R:=λR a b c ht=>by
 simp only[hp];cases p R with
 |true=>exact hf R a b c ht
 |false=>exact hh R a b c ht
theorem JK(R:Xb)(a b c:BA)(n:Int):(Y7 R a b c).look n=(Y7 (R.look n).1 a b c,(R.look n).2):=by
 unfold Xb.look;show(bif R.A2 then _ else _)=_;cases R.A2 with
 |true=>
  show(bif decide (wr (R.Af*9)<=n) then _ else _)=_;cases decide (wr (R.Af*9)<=n) with
  |true=>rfl
  |false=>rfl
 |false=>
  show(bif decide (R.Af<=n) then _ else _)=_;cases decide (R.Af<=n) with
  |true=>rfl
  |false=>rfl
theorem YL{n:Int}(h0:-9223372036854775808<=n)(h1:n<9223372036854775808):wr n=n:=IntWalk.i64_in _ ⟨h0,by omega⟩
theorem Ju:Lu Xb.scan:=λR a b c ht=>by
 obtain⟨h1,h2⟩:=ht;unfold Xb.scan;show(bif R.Aa==1 then _ else _)=_;cases R.Aa==1 with
 |true=>rfl
 |false=>
  show(bif R.Aa==4 then _ else _)=_;cases R.Aa==4 with
  |true=>rfl
  |false=>
   show((Y7 R a b c).look 0).1=_;rw[JK];show Y7 (R.look 0).1 a b c=Y7 (R.look 0).1 a (bif (R.look 0).1.step==0 then Bp else b) (bif (R.look 0).1.step==0 then Bp else c);have e:(R.look 0).1.step=13:=by
    unfold Xb.look;cases R.A2 with
    |true=>
     rw[show decide (wr (R.Af*9)<=0)=false from decide_eq_false (by rw[YL Zo Zo];omega)];rfl
    |false=>
     rw[show decide (R.Af<=0)=false from decide_eq_false Zo];rfl
   rw[e];rfl
theorem mR{w:World}{E:TypeId}{sz:Nat}{s:BA}{n:Nat}{xs:List Value}(h:Own w E sz s.v n xs):s.n=n:=by
 obtain⟨a,c,e,_⟩:=Yq h;unfold BA.v at e;injection e
theorem YX(R:Xb)(ns ds:List Xq)(ss:List Xe)(x:Xj)(hs:R.step=10):MR.Av ⟨R,ns,ds,ss⟩ x=bif R.dating then MR.wrap ⟨{R with clock:=x.word},ns++[⟨Yt R.call.Bb,R.word.nm,x.word.nm⟩],ds,ss⟩ (Xb.advance {R with clock:=x.word} 11) else MR.noted ⟨{R with clock:=x.word},ns++[⟨Yt R.call.Bb,R.word.nm,x.word.nm⟩],ds,ss⟩:=by
 unfold MR.Av;simp only[hs];rfl
theorem I8{w:World}{g:Nat}{R:Xb}(h:Bk w g 171 R.l.toArray):w.cell? ⟨g,18,none⟩=some (.int .i64 R.step):=AZ h 18 _ Zk
theorem L3(w:World)(g:Nat)(R:Xb)(ns ds:List Xq)(ss:List Xe)(x:Xj)(h:RB w g R ns ds ss)(hl:ns.length<=100000)(hs:R.step=10)(ht:IJ R):
  Calls Tryz.prog 80 #[.pointer (some ⟨g,0,none⟩),.agg x.l.toArray] w (Bs w g (Yf g R) (.tuple #[]) (MR.Av ⟨R,ns,ds,ss⟩ x)):=by
 have c18:=I8 h.bk
 rw[hs] at c18
 obtain⟨⟨x0,x1,x2,x3,x4⟩,x5⟩:=x
 show Calls Tryz.prog 80 #[.pointer (some ⟨g,0,none⟩),.agg #[.int .i64 x0,.int .i64 x1,.int .i64 x2,.int .i64 x3,.bool x4,.bool x5]] w _
 have HH:Hid (RB (w.alloc (.cells #[.int .i64 x0,.int .i64 x1,.int .i64 x2,.int .i64 x3,.bool x4,.bool x5] 108)) g R ns ds ss):=Zh (h.BV (F:=[]) (Ak.Ag ((Below.refl _ _).alloc (Nat.le_refl _) _)) (λ_ _=>List.not_mem_nil))
 have HC:Hid (Ak [] w (w.alloc (.cells #[.int .i64 x0,.int .i64 x1,.int .i64 x2,.int .i64 x3,.bool x4,.bool x5] 108))):=Zh (Ak.Ag ((Below.refl _ _).alloc (Nat.le_refl _) _))
 have X0:Bk (w.alloc (.cells #[.int .i64 x0,.int .i64 x1,.int .i64 x2,.int .i64 x3,.bool x4,.bool x5] 108)) w.heap.size 108 #[.int .i64 x0,.int .i64 x1,.int .i64 x2,.int .i64 x3,.bool x4,.bool x5]:=Bk.at_ rfl
 have hgl:=h.bk.lt
 have hz:Hid (w.heap.size<(w.alloc (.cells #[.int .i64 x0,.int .i64 x1,.int .i64 x2,.int .i64 x3,.bool x4,.bool x5] 108)).heap.size):=Zh Zs
 clear h
 go_enter Tryz.func80,Tryz.ntmps80
 go_wp2_with (refine Za Zr _ _ _ Zr g 38 _ Zr Zr _ _ ({R with clock:=⟨x0,x1,x2,x3,x4⟩}:Xb).l.toArray HH.out.bk (Nat.le_of_ble_eq_true Zk) Zk Zr Zk ?_;intro w2 hst)
 obtain⟨R1,hR1⟩:∃R1,R1=({R with clock:=⟨x0,x1,x2,x3,x4⟩}:Xb):=⟨_,rfl⟩
 rw[←hR1] at hst
 have e0:Hid (R1.clock.nm=x3/\R1.word.nm=R.word.nm/\R1.notes=R.notes/\Yf g R1=Yf g R/\R1.dating=R.dating/\R1.call.Bb=R.call.Bb):=by subst hR1;exact Zh ⟨rfl,rfl,rfl,rfl,rfl,rfl⟩
 have hc2:Ak [g] (w.alloc (.cells #[.int .i64 x0,.int .i64 x1,.int .i64 x2,.int .i64 x3,.bool x4,.bool x5] 108)) w2:=Ak.Ar (b:=0) hst.grown (λb e=>by injection e with e;simp[e])
 have H2:Hid (RB w2 g R1 ns ds ss):=by subst hR1;exact Zh (HH.out.Ap hst.bk hc2 rfl (Or.inl ⟨rfl,rfl⟩) (Or.inl ⟨rfl,rfl⟩))
 have C2:Hid (Ak (Yf g R) w w2):=Zh ((HC.out.mono (λx hx=>by cases hx)).trans (hc2.mono (λx hx=>Or.inl (by rw[List.mem_singleton.1 hx];exact Xn.2 (Or.inl rfl)))))
 have HR1:=Zh hR1
 clear hc2 hst HH HC X0 hz c18 hR1
 have S2:w2.cell? ⟨g,36,none⟩=some (.int .i64 R1.word.nm)/\w2.cell? ⟨g,41,none⟩=some (.int .i64 R1.clock.nm):=⟨AZ H2.out.bk 36 _ Zk,AZ H2.out.bk 41 _ Zk⟩
 refine X8 (λw'=>w'.cell? ⟨g,36,none⟩=some (.int .i64 R1.word.nm)/\w'.cell? ⟨g,41,none⟩=some (.int .i64 R1.clock.nm)) 14 Zk S2 (λhS=>?_)
 have H3:Hid (RB w2.drew g R1 ns ds ss):=Zh (H2.out.BV (F:=[]) (Ak.Ag (Below.refl _ _).drew) (λ_ _=>List.not_mem_nil))
 have C3:Hid (Ak (Yf g R) w w2.drew):=Zh (C2.out.trans (Ak.Ag (Below.refl _ _).drew))
 clear H2 C2 S2
 generalize w2.drew=w3 at*
 ((try simp only[ZL]);refine vT (fuel:=1) hS [0,1,2,3,4,5,6,7,8,9,10,11,12] ?_;simp only[Xy,Xr,List.toList_toArray];(repeat (first|go_big_quiet_skip|(go_big_quiet_want;first|(go_big_quiet_op;go_big_quiet_on)|(apply Exists.intro;refine⟨λw' hS'=>?_,?_⟩;(· (obtain⟨c36,c41⟩:=hS';go_simp;first|done|rfl|exact⟨rfl,rfl⟩));go_big_quiet_on;simp only[ZL]))));refine wpQuiet_nil ?_;(try dsimp only))
 (refine Xi 13 Zk (λK hK=>?_);simp only[Xr,List.toList_toArray])
 go_wp2_with fail
 refine(Ui w3 g R1 ns ds ss H3.out hl R1.word.nm R1.clock.nm).mono ?_
 rintro e w4 ⟨rfl,hn,hrb,hc4,hf4⟩
 go_wp2_with fail
 refine hK.out _ _ (λ_=>⟨AZ hrb.bk 36 _ Zk,AZ hrb.bk 41 _ Zk⟩) ?_
 clear hK hS
 refine Ye Zk ?_ _
 obtain⟨R4,hR4⟩:∃R4,R4=({R1 with notes:=hn}:Xb):=⟨_,rfl⟩
 rw[←hR4] at hrb
 have eN:(⟨Yt R1.call.Bb,R1.word.nm,R1.clock.nm⟩:Xq)=⟨Yt R.call.Bb,R.word.nm,x3⟩:=by rw[HR1.out]
 rw[eN] at hrb
 have e4:R4=Y7 {R with clock:=⟨x0,x1,x2,x3,x4⟩} hn R.An R.seen:=by rw[hR4,HR1.out];rfl
 have HB:=Zh hrb;have H4:=Zh e4;clear e4;have HC4:=Zh hc4;have HF4:=Zh hf4
 have hd4:R4.dating=R.dating:=by rw[hR4];exact e0.out.2.2.2.2.1
 have HF:Hid (∀x∈Yf g (Y7 {R with clock:=⟨x0,x1,x2,x3,x4⟩} hn R.An R.seen),x∈Yf g R\/w.heap.size<=x):=by
  refine Zh (λx hx=>?_);have hz:=C3.out.size;rcases Xn.1 hx with h1|h1|h1|h1
  ·exact Or.inl (Xn.2 (Or.inl h1))
  ·rcases hf4 x h1 with h2|h2
   ·rw[e0.out.2.2.1] at h2;exact Or.inl (Xn.2 (Or.inr (Or.inl h2)))
   ·right;omega
  ·exact Or.inl (Xn.2 (Or.inr (Or.inr (Or.inl h1))))
  ·exact Or.inl (Xn.2 (Or.inr (Or.inr (Or.inr h1))))
 clear hrb hR4 hc4 hf4 H3
 go_wp2_with fail
 refine(TN R4 g w4 HB.out.bk).mono ?_
 rintro e w5 ⟨rfl,hb5,hc5⟩
 have H5:=Zh (HB.out.same hb5 hc5);have CC:Hid (Ak (Yf g R) w w5):=Zh ((C3.out.trans (e0.out.2.2.2.1▸HC4.out)).trans (Ib hc5 (Xn.2 (Or.inl rfl))))
 clear hb5 hc5
 simp only
 rw[hd4]
 cases hdt:R.dating with
 |true=>
  go_wp2_with fail
  refine(TO R4 11 g w5 H5.out.bk).mono ?_
  rintro e w6 ⟨rfl,hb6,hc6⟩
  have HB6:=Zh hb6;have C6:=Zh hc6
  clear hb6 hc6
  go_wp2_with fail
  go_end0
  rw[YX _ _ _ _ _ hs,hdt]
  refine CV (w1:=w5) (R:={R with clock:=⟨x0,x1,x2,x3,x4⟩}) (a:=hn) (b:=R.An) (c:=R.seen) ht (Xn.2 (Or.inl rfl)) CC.out (H4.out▸H5.out) HF.out (My (st:=11) rfl) (H4.out▸HB6.out) C6.out
 |false=>
  go_wp2_with fail
  refine(N4 R4 g w5 H5.out.bk).mono ?_
  rintro e w6 ⟨rfl,hb6,hc6⟩
  have HB6:=Zh hb6;have C6:=Zh hc6
  clear hb6 hc6
  go_wp2_with fail
  go_end0
  rw[YX _ _ _ _ _ hs,hdt]
  show Bs w g (Yf g R) _ (bif decide (R.most<=((ns++[(⟨Yt R.call.Bb,R.word.nm,x3⟩:Xq)]).length:Int)) then _ else _) _ _
  have hb6:=HB6.out
  unfold Xb.noted at hb6
  rw[mR H5.out.on] at hb6
  rw[show R4.most=R.most from by rw[H4.out];rfl] at hb6
  cases hm:decide (R.most<=((ns++[(⟨Yt R.call.Bb,R.word.nm,x3⟩:Xq)]).length:Int)) with
  |true=>
   rw[hm] at hb6
   exact CV (w1:=w5) (R:={R with clock:=⟨x0,x1,x2,x3,x4⟩}) (a:=hn) (b:=R.An) (c:=R.seen) ht (Xn.2 (Or.inl rfl)) CC.out (H4.out▸H5.out) HF.out Ju (H4.out▸hb6) C6.out
  |false=>
   rw[hm] at hb6
   exact CV (w1:=w5) (R:={R with clock:=⟨x0,x1,x2,x3,x4⟩}) (a:=hn) (b:=R.An) (c:=R.seen) ht (Xn.2 (Or.inl rfl)) CC.out (H4.out▸H5.out) HF.out Du (H4.out▸hb6) C6.out
theorem Ak.seq{w w1 w':World}{F F1:List Nat}(hc:Ak F w w1)(hF:∀x∈F1,x∈F\/w.heap.size<=x)(h:Ak F1 w1 w'):Ak F w w':=
 ⟨h.os.trans hc.os,h.tape.trans hc.tape,h.output.trans hc.output,Nat.le_trans hc.size h.size,λb hb hf=>(h.Ax b (Nat.lt_of_lt_of_le hb hc.size) (λh1=>(hF b h1).elim hf (λh2=>by omega))).trans (hc.Ax b hb hf)⟩
theorem Bs.after{w w1 w':World}{g:Nat}{F F1:List Nat}{v:Value}{M:MR}{e:Ending}(hc:Ak F w w1)(hF:∀x∈F1,x∈F\/w.heap.size<=x)(h:Bs w1 g F1 v M e w'):Bs w g F v M e w':=by
 obtain⟨he,a,b,c,hb,hc1,hf⟩:=h;have hz:=hc.size;exact⟨he,a,b,c,hb,hc.seq hF hc1,λx hx=>(hf x hx).elim (hF x) (λh=>Or.inr Zo)⟩
theorem Gw{w:World}{g:Nat}{R:Xb}(h:Bk w g 171 R.l.toArray):w.cell? ⟨g,41,none⟩=some (.int .i64 R.clock.nm)/\w.cell? ⟨g,44,none⟩=some R.seen.v/\w.cell? ⟨g,45,none⟩=some R.An.v/\w.cell? ⟨g,46,none⟩=some (.int .i64 R.Aa)/\w.cell? ⟨g,98,none⟩=some R.notes.v:=
 ⟨AZ h 41 _ Zk,AZ h 44 _ Zk,AZ h 45 _ Zk,AZ h 46 _ Zk,AZ h 98 _ Zk⟩
theorem Hy(w:World)(g:Nat)(R:Xb)(ns ds:List Xq)(ss:List Xe)(h:RB w g R ns ds ss)(ht:IJ R)(hl:ds.length<=100000):
  Calls Tryz.prog 102 #[.pointer (some ⟨g,0,none⟩)] w (Bs w g (Yf g R) (.tuple #[]) (MR.reap ⟨R,ns,ds,ss⟩)):=by
 obtain⟨_,_,c45,_,_⟩:=Gw h.bk
 have HH:=Zh h
 have hgl:=h.bk.lt
 cases ds with
 |nil=>
  obtain⟨a,cp,e,_⟩:=Yq h.od
  rw[e] at c45
  clear e h
  simp only[List.length_nil] at c45
  go_enter Tryz.func102,Tryz.ntmps102
  go_wp2_with fail
  refine(dY R g w HH.out.bk).mono ?_
  rintro e w1 ⟨rfl,hb,hc⟩
  have HB:=Zh hb;have HC:=Zh hc
  clear hb hc
  go_wp2_with fail
  go_end0
  exact CV (w1:=w) (R:=R) (a:=R.notes) (b:=R.An) (c:=R.seen) ht (Xn.2 (Or.inl rfl)) (Ak.refl _ _) HH.out (λx hx=>Or.inl hx) Du HB.out HC.out
 |cons d r=>
  obtain⟨b,off,cp,e,hcp⟩:=Ds h.od Zs
  have ho:=h.od
  rw[e] at c45 ho
  have hr:=JJ Ph ho 0 Zs
  rw[Nat.zero_mul,Nat.add_zero] at hr
  obtain⟨q0,q1,q2,q3,q4,_,_⟩:=N9 hr
  simp only[List.getElem_cons_zero] at q0 q1 q2 q3 q4
  simp only[List.length_cons] at c45 hcp
  clear ho hr e h
  have hn:¬(r.length+1=0):=Zo
  go_enter Tryz.func102,Tryz.ntmps102
  go_wp2_with fail
  refine(lU R 16 ⟨5,.zero,d.ref,.zero⟩ g w HH.out.bk).mono ?_
  rintro e w1 ⟨rfl,hb,hc⟩
  have HB:=Zh hb;have HC:=Zh hc
  clear hb hc
  go_wp2_with fail
  go_end0
  have:=CV (v:=.tuple #[]) (w1:=w) (R:=R) (a:=R.notes) (b:=R.An) (c:=R.seen) ht (Xn.2 (Or.inl rfl)) (Ak.refl _ _) HH.out (λx hx=>Or.inl hx) (E8 (st:=16) rfl ⟨5,.zero,d.ref,.zero⟩) HB.out HC.out
  exact this
theorem zX(x:Xe):(DY x).l.toArray=#[.bool (DY x).is,.int .i64 (DY x).low,.int .i64 (DY x).Hh]:=rfl
def RetNew(w:World)(E:TypeId)(sz:Nat)(n:Nat)(xs:List Value)(e:Ending)(w':World):Prop:=
 ∃v,e=.returned v/\Own w' E sz v n xs/\Below w.heap.size w w'/\∀b,v.ownBlock=some b->w.heap.size<=b
theorem LH(w:World)(v:Value)(l:List AJ)(h:Own w 169 3 v l.length (rows AJ.l l))(hl:l.length<=100000)(x:AJ)(b:Nat)(hb:Bk w b 169 x.l.toArray)(t:TypeId):
  ∃v' w',(Builtin.append_ #[213,213] t #[v,.slice (some ⟨b,0,none⟩) 1 1]).run Tryz.prog w=.ok v' w'/\
   Own w' 169 3 v' (l++[x]).length (rows AJ.l (l++[x]))/\w.grownBy w' v.ownBlock/\Em w v v':=
 AX yK sone Tryz.underlying213 oF rfl Zd Zd w v l h hl x b hb t
theorem map_take{α β:Type}{f:α->β}{l:List α}{k:Nat}(hk:k<l.length):(l.take (k+1)).map f=(l.take k).map f++[f l[k]]:=by
 rw[List.take_add_one,List.getElem?_eq_getElem hk,List.map_append];rfl
theorem Mm(w:World)(g:Nat)(R:Xb)(ns ds:List Xq)(ss:List Xe)(h:RB w g R ns ds ss)(hl:ss.length<=1000):
  Calls Tryz.prog 99 #[.pointer (some ⟨g,0,none⟩)] w (RetNew w 169 3 (ss.map DY).length (rows AJ.l (ss.map DY))):=by
 obtain⟨_,c44,_,_,_⟩:=Gw h.bk
 obtain⟨a,cp,e,hcp,_⟩:=Yq h.os
 have hs:Sl w w.heap.size 5 a ss.length (rows Xe.l ss):=Sl.DE (e▸h.os)
 have hgl:=h.bk.lt
 rw[e] at c44
 clear e h
 go_enter Tryz.func99,Tryz.ntmps99
 go_wp2_with fail
 go_loopw [3,12] (fun v i wr=>∃ k:Nat,k≤ss.length∧i = .int .i64 k∧Below w.heap.size w wr ∧
   Own wr 169 3 v ((ss.take k).map DY).length (rows AJ.l ((ss.take k).map DY))/\(∀b,v.ownBlock=some b->w.heap.size<=b)) (λ_ i _=>ss.length-(intOf i).toNat)
 case atStart=>exact⟨0,Nat.zero_le _,rfl,Below.refl _ _,Own.nil,by simp[Value.ownBlock]⟩
 case round=>
  obtain⟨k,hkl,rfl,hB,ho,h3⟩:=hrel
  have hz:=hB.size
  by_cases hlt:k<ss.length
  ·obtain⟨b,off,rfl,hbb,hr⟩:=(hs.below hB).row Ng k hlt;obtain⟨q0,q1,q2,q3,q4⟩:=LB hr;have X1:Bk (wr.alloc (.cells #[.int .i64 0,.int .i64 0,.int .i64 0,.int .i64 0,.bool false] 51)) wr.heap.size 51 #[.int .i64 0,.int .i64 0,.int .i64 0,.int .i64 0,.bool false]:=Bk.at_ rfl;have hB2:=hB.alloc hB.size (.cells #[.int .i64 0,.int .i64 0,.int .i64 0,.int .i64 0,.bool false] 51);have o3:=ho.alloc (.cells #[.int .i64 0,.int .i64 0,.int .i64 0,.int .i64 0,.bool false] 51);have lt3:∀b,u3.ownBlock=some b->b<wr.heap.size:=λb hb=>ho.lt hb;have HS:=Zh hs;clear ho hs hr;go_wp2_with (refine vM X1 ?_;intro w2 hst;have r0:=hst.bk.cell 0;have r1:=hst.bk.cell 1;have r2:=hst.bk.cell 2;have r3:=hst.bk.cell 3;have r4:=hst.bk.cell 4;simp at r0 r1 r2 r3 r4);refine(oH ss[k] w2).mono ?_;rintro e w3 ⟨rfl,hc3⟩;rw[zX];have hb3:=hc3.below;have hB3':=hst.below hB2 hz;have hB3:=hB3'.trans (hb3.mono hB3'.size);have o33:=(o3.grown hst.grown (by cases h0:u3.ownBlock with|none=>exact Or.inl rfl|some b=>exact Or.inr (λe=>by have:=lt3 b h0;cases e;omega))).below hb3;have MT:=Zh (map_take (f:=DY) hlt);obtain⟨v',w5,hrun,ho,hg,hfr⟩:=LH (w3.alloc (.cells #[.bool (DY ss[k]).is,.int .i64 (DY ss[k]).low,.int .i64 (DY ss[k]).Hh] 169)) u3 ((ss.take k).map DY) (o33.alloc _) (by simp;omega) (DY ss[k]) w3.heap.size (Bk.at_ rfl) 213;rw[←MT.out] at ho;have HO:=Zh (And.intro ho (And.intro hg hfr));clear ho hg hfr hc3;go_wp2_with (at_builtin;refine Ya Zr _ _ _ _ _ _ _ Zr Zr Zr hrun ?_);obtain⟨ho,hg,hfr⟩:=HO.out;have z3:=hb3.size;have z2:=hst.size;simp at z2;have hB4:=(hB3.alloc hB3.size (.cells #[.bool (DY ss[k]).is,.int .i64 (DY ss[k]).low,.int .i64 (DY ss[k]).Hh] 169));have hB5:Below w.heap.size w w5:=hB4.grown hg hB4.size (λb e=>h3 b e);go_roundw
   case rel=>exact⟨k+1,by omega,by go_num,hB5,ho,λb hb=>(hfr b hb).elim (h3 b) (λh=>by simp at h;omega)⟩
   case measure=>simp[intOf];omega
  ·have hke:k=ss.length:=Zo;subst hke;rw[List.take_length] at ho;have HO:=Zh ho;clear ho;go_wp2_with fail;go_ret;exact⟨_,rfl,HO.out,hB,h3⟩
theorem set45(R:Xb)(u:BA):R.l.toArray.setIfInBounds 45 u.v=({R with An:=u}:Xb).l.toArray:=Zk
theorem RB.gC{w:World}{g:Nat}{R:Xb}{ns ds ds':List Xq}{ss:List Xe}(h:RB w g R ns ds ss){u:BA}(ho:Own w 201 7 u.v ds'.length (rows Xq.l ds'))
  (gu:u.v.ownBlock≠some g)(nu:∀b,R.notes.v.ownBlock=some b->u.v.ownBlock≠some b)(su:∀b,u.v.ownBlock=some b->R.seen.v.ownBlock≠some b):
  RB (w.setCell ⟨g,45,none⟩ u.v) g {R with An:=u} ns ds' ss/\Ak [g] w (w.setCell ⟨g,45,none⟩ u.v):=by
 have hg2:=Xs w g 45 u.v
 exact ⟨⟨by rw [← set45];exact h.bk.Eo 45 u.v,h.on.grown hg2 (Or.inr h.gn),ho.grown hg2 (Or.inr gu),h.os.grown hg2 (Or.inr h.gs),h.gn,gu,h.gs,nu,h.ns,su⟩,
  Ak.Ar (b:=0) hg2 λb e=>by injection e with e;simp[e]⟩
theorem KI{w w1 w2 w3:World}{g:Nat}{R:Xb}{ns ds ds':List Xq}{ss:List Xe}{u:BA}{e:Ending}(h:RB w g R ns ds ss)(hb:Below w.heap.size w w1)(hf:∀b,u.v.ownBlock=some b->w.heap.size<=b)(hc:Ak [g] w1 w2)
  (hr:Bs w2 g (Yf g {R with An:=u}) (.tuple #[]) (MR.reap ⟨{R with An:=u},ns,ds',ss⟩) e w3)(he:MR.sift ⟨R,ns,ds,ss⟩=MR.reap ⟨R,ns,ds',ss⟩):Bs w g (Yf g R) (.tuple #[]) (MR.sift ⟨R,ns,ds,ss⟩) e w3:=by
 rw[he]
 have h1:Bs w2 g (Yf g {R with An:=u}) (.tuple #[]) (MR.reap ⟨R,ns,ds',ss⟩) e w3:=by
  cases ds' with
  |nil=>exact hr
  |cons d r=>exact hr
 refine Bs.after ((Ak.Ag hb).trans (Ib hc (Xn.2 (Or.inl rfl)))) (λx hx=>?_) h1
 rcases Xn.1 hx with h2|h2|h2|h2
 ·exact Or.inl (Xn.2 (Or.inl h2))
 ·exact Or.inl (Xn.2 (Or.inr (Or.inl h2)))
 ·exact Or.inr (hf x h2)
 ·exact Or.inl (Xn.2 (Or.inr (Or.inr (Or.inr h2))))
theorem cY(w:World)(g:Nat)(R:Xb)(ns ds:List Xq)(ss:List Xe)(h:RB w g R ns ds ss)(ht:IJ R)(hl:ns.length<=100000)(hk:ss.length<=1000)(he:R.Aa=2):
  Calls Tryz.prog 97 #[.pointer (some ⟨g,0,none⟩)] w (Bs w g (Yf g R) (.tuple #[]) (MR.sift ⟨R,ns,ds,ss⟩)):=by
 obtain⟨_,c44,_,c46,c98⟩:=Gw h.bk
 obtain⟨sa,sc,es,_⟩:=Yq h.os
 obtain⟨na,nc,en,_⟩:=Yq h.on
 have hsS:Sl w w.heap.size 5 sa ss.length (rows Xe.l ss):=Sl.DE (es▸h.os)
 have hsN:Sl w w.heap.size 7 na ns.length (rows Xq.l ns):=Sl.DE (en▸h.on)
 have HH:=Zh h
 have hgl:=h.bk.lt
 have HM:Hid (MR.sift ⟨R,ns,ds,ss⟩=MR.reap ⟨R,ns,ns.filter λn=>!Gu ss n,ss⟩):=Zh (by unfold MR.sift MR.stays;simp only[he];rfl)
 have HL:(ns.filter λn=>!Gu ss n).length<=100000:=Nat.le_trans (List.length_filter_le _ _) hl
 have HLH:=Zh HL
 rw[he] at c46
 rw[en] at c98
 rw[es] at c44
 have HS:=Zh (And.intro hsS hsN)
 have HES:=Zh (And.intro es en)
 clear h es en HL hsS hsN
 go_enter Tryz.func97,Tryz.ntmps97
 go_upto_region 2 with(fail)
 refine X8 (λw'=>w'.cell? ⟨g,98,none⟩=some (.slice na ns.length nc)/\w'.cell? ⟨g,44,none⟩=some (.slice sa ss.length sc)) 18 Zk ⟨c98,c44⟩ (λhS=>?_)
 have hd0:Below w.heap.size w w.drew:=(Below.refl _ _).drew
 have H1:=Zh (cR ns na nc ss sa sc w.drew (HS.out.2.up hd0) hl (HS.out.1.up hd0) Zo)
 clear c98 c44 c46 HS
 ((try simp only[ZL]);refine vT (fuel:=8) hS [0,1,2,3,4,5,6,7,8,9] ?_;simp only[Xy,Xr,List.toList_toArray];(repeat (first|go_big_quiet_skip|(go_big_quiet_want;first|(go_big_quiet_op;go_big_quiet_on)|(apply Exists.intro;refine⟨λw' hS'=>?_,?_⟩;(· (obtain⟨c98,c44⟩:=hS';go_simp;first|done|rfl|exact⟨rfl,rfl⟩));go_big_quiet_on;simp only[ZL]))));refine wpQuiet_nil ?_;(try dsimp only))
 (refine Xi 10 Zk (λK hK=>?_);simp only[Xr,List.toList_toArray])
 go_wp2_with fail
 refine H1.out.mono ?_
 rintro e w3 ⟨v,u,rfl,o1,o2,hb,f1,f2,f3⟩
 (generalize(ns.filter λn=>!Gu ss n)=fs at*;obtain⟨va,vc,rfl,_⟩:=Yq o1;have hb:Below w.heap.size w w3:=hd0.trans hb;have RBW:=HH.out.BV (F:=[]) (Ak.Ag hb) (λ_ _=>List.not_mem_nil);have HD:=Zh (RBW.gC (u:=⟨va,fs.length,vc⟩) o1 (λe=>by have:=f1 g e;have h2:w.heap.size<=g:=this;omega) (λb h1 h2=>by have h3:w.heap.size<=b:=f1 b h2;have:=HH.out.on.lt h1;omega) (λb h1 h2=>by have h3:w.heap.size<=b:=f1 b h1;have:=HH.out.os.lt h2;omega));have HF:Hid (∀b,(BA.v ⟨va,fs.length,vc⟩).ownBlock=some b->w.heap.size<=b):=Zh f1;have HB:=Zh hb;have c45:=RBW.bk.cell 45;have uZ:=RBW.bk.free 45;rw[show R.l.toArray[45]?=some R.An.v from by kernel_rfl] at c45;have c98:=AZ RBW.bk 98 _ (show _=some R.notes.v by kernel_rfl);have c44:=AZ RBW.bk 44 _ (show _=some R.seen.v by kernel_rfl);have c41:=AZ RBW.bk 41 _ (show _=some (.int .i64 R.clock.nm) by kernel_rfl);rw[HES.out.2] at c98;rw[HES.out.1] at c44)
 clear o1 o2 f1 f2 f3 hb RBW H1
 go_wp2_with fail
 refine hK.out _ _ (λ_=>⟨c98,c44⟩) ?_
 clear hK hS
 have hS:=And.intro c98 c44
 ((try simp only[ZL]);refine vT (fuel:=1) hS [11,12,13,14,15,16] ?_;simp only[Xy,Xr,List.toList_toArray];(repeat (first|go_big_quiet_skip|(go_big_quiet_want;first|(go_big_quiet_op;go_big_quiet_on)|(apply Exists.intro;refine⟨λw' hS'=>?_,?_⟩;(· (skip;go_simp;first|done|rfl|exact⟨rfl,rfl⟩));go_big_quiet_on;simp only[ZL]))));refine wpQuiet_nil ?_;(try dsimp only))
 (refine Xi 17 Zk (λK hK=>?_);simp only[Xr,List.toList_toArray])
 go_wp2_with fail
 refine hK.out _ _ (λ_=>⟨AZ HD.out.1.bk 98 _ (by rw[←HES.out.2];kernel_rfl),AZ HD.out.1.bk 44 _ (by rw[←HES.out.1];kernel_rfl)⟩) ?_
 clear hK hS c98 c44 c41 c45 uZ
 refine Ye Zk ?_ _
 (go_wp2_with fail;(refine(Hy _ g _ ns fs ss HD.out.1 ht HLH.out).mono ?_;intro e w5 hr;have HR:=Zh (KI HH.out HB.out HF.out HD.out.2 hr HM.out);have he0:=Zh hr.1;obtain rfl:=hr.1;clear hr;go_wp2_with fail;go_end0;exact HR.out))
theorem IZ(l:List Int):rows (λn=>[Value.int .i64 n]) l=Y5 l:=by
 induction l with
 |nil=>rfl
 |cons a l ih=>rw[DC,ih];rfl
theorem MD(w:World)(v:Value)(l:List Int)(h:Own w 3 1 v l.length (Y5 l))(hl:l.length<=100000)(x:Int)(b:Nat)(hb:Bk w b 3 #[.int .i64 x])(t:TypeId):
  ∃v' w',(Builtin.append_ #[45,45] t #[v,.slice (some ⟨b,0,none⟩) 1 1]).run Tryz.prog w=.ok v' w'/\
   Own w' 3 1 v' (l++[x]).length (Y5 (l++[x]))/\w.grownBy w' v.ownBlock/\Em w v v':=by
 have h1:=AX (f:=λn:Int=>[Value.int .i64 n]) (sz:=1) (E:=3) (λ_=>rfl) (λx u hu=>by rw[List.mem_singleton.1 hu];rfl) Tryz.underlying45 MU rfl Zd Zd w v l (by rw[IZ];exact h) hl x b hb t
 rw[IZ] at h1
 exact h1
theorem cX(w:World)(g:Nat)(R:Xb)(ns ds:List Xq)(ss:List Xe)(h:RB w g R ns ds ss)(ht:IJ R)(hl:ns.length<=100000)(hk:ss.length<=1000)(he:R.Aa=3):
  Calls Tryz.prog 97 #[.pointer (some ⟨g,0,none⟩)] w (Bs w g (Yf g R) (.tuple #[]) (MR.sift ⟨R,ns,ds,ss⟩)):=by
 (obtain⟨c41,c44,_,c46,c98⟩:=Gw h.bk;obtain⟨sa,sc,es,_⟩:=Yq h.os;obtain⟨na,nc,en,_⟩:=Yq h.on;have hsS:Sl w w.heap.size 5 sa ss.length (rows Xe.l ss):=Sl.DE (es▸h.os);have hsN:Sl w w.heap.size 7 na ns.length (rows Xq.l ns):=Sl.DE (en▸h.on);have HH:=Zh h;have hgl:=h.bk.lt;have HM:Hid (MR.sift ⟨R,ns,ds,ss⟩=MR.reap ⟨R,ns,ns.filter λn=>!G9 (ss.map (·.nm)) n,ss⟩):=Zh (by unfold MR.sift MR.stays;simp only[he];rfl);have HLH:Hid ((ns.filter λn=>!G9 (ss.map (·.nm)) n).length<=100000):=Zh (Nat.le_trans (List.length_filter_le _ _) hl);rw[he] at c46;rw[en] at c98;rw[es] at c44;have HS:=Zh (And.intro hsS hsN);have HES:=Zh (And.intro es en);clear h es en hsS hsN)
 go_enter Tryz.func97,Tryz.ntmps97
 go_wp2_with fail
 go_loopw [2,36] (fun v i wr=>∃ k:Nat,k≤ss.length∧i = .int .i64 k∧Below w.heap.size w wr ∧
   Own wr 3 1 v ((ss.take k).map (·.nm)).length (Y5 ((ss.take k).map (·.nm)))/\(∀b,v.ownBlock=some b->w.heap.size<=b)) (λ_ i _=>ss.length-(intOf i).toNat)
 case atStart=>exact⟨0,Nat.zero_le _,rfl,Below.refl _ _,Own.nil,by simp[Value.ownBlock]⟩
 case round=>
  obtain⟨k,hkl,rfl,hB,ho,h3⟩:=hrel
  have hz:=hB.size
  by_cases hlt:k<ss.length
  ·obtain⟨b,off,rfl,hbb,hr⟩:=(HS.out.1.below hB).row Ng k hlt;obtain⟨q0,q1,q2,q3,q4⟩:=LB hr;have X1:Bk (wr.alloc (.cells #[.int .i64 0,.int .i64 0,.int .i64 0,.int .i64 0,.bool false] 51)) wr.heap.size 51 #[.int .i64 0,.int .i64 0,.int .i64 0,.int .i64 0,.bool false]:=Bk.at_ rfl;have hB2:=hB.alloc hB.size (.cells #[.int .i64 0,.int .i64 0,.int .i64 0,.int .i64 0,.bool false] 51);have o3:=ho.alloc (.cells #[.int .i64 0,.int .i64 0,.int .i64 0,.int .i64 0,.bool false] 51);have lt3:∀b,u2.ownBlock=some b->b<wr.heap.size:=λb hb=>ho.lt hb;clear ho hr;go_wp2_with (first|(at_builtin;refine Ya Zr _ _ _ _ _ _ _ Zr Zr Zr HR.out ?_)|(refine vM X1 ?_;intro w2 hst;have r0:=hst.bk.cell 0;have r3:=hst.bk.cell 3;simp at r0 r3;have hB3:=hst.below hB2 hz;have o33:=(o3.grown hst.grown (by cases h0:u2.ownBlock with|none=>exact Or.inl rfl|some b=>exact Or.inr (λe=>by have:=lt3 b h0;cases e;omega)));obtain⟨v',w5,hrun,ho,hg,hfr⟩:=MD (w2.alloc (.cells #[.int .i64 ss[k].nm] 3)) u2 ((ss.take k).map (·.nm)) (o33.alloc _) (by simp;omega) ss[k].nm w2.heap.size (Bk.at_ rfl) 45;rw[←map_take (f:=λx:Xe=>x.nm) hlt] at ho;have HR:=Zh hrun;have HO:=Zh (And.intro ho (And.intro hg hfr));clear ho hg hfr hrun));obtain⟨ho,hg,hfr⟩:=HO.out;have z2:=hst.size;simp at z2;have hB4:=(hB3.alloc hB3.size (.cells #[.int .i64 ss[k].nm] 3));have hB5:Below w.heap.size w w5:=hB4.grown hg hB4.size (λb e=>h3 b e);go_roundw
   case rel=>exact⟨k+1,by omega,by go_num,hB5,ho,λb hb=>(hfr b hb).elim (h3 b) (λh=>by simp at h;omega)⟩
   case measure=>simp[intOf];omega
  ·have hke:k=ss.length:=Zo;subst hke;rw[List.take_length] at ho;obtain⟨ea,ec,rfl,_⟩:=Yq ho;have hse:Sl wr wr.heap.size 1 ea (ss.map (·.nm)).length (Y5 (ss.map (·.nm))):=Sl.DE ho;have hmz:(ss.map (·.nm)).length<=100000:=by simp;omega
   have HMZ:=Zh hmz;have cB:=(AZ ((HH.out.BV (F:=[]) (Ak.Ag hB) (λ_ _=>List.not_mem_nil)).bk) 98 _ (show _=some R.notes.v by kernel_rfl));rw[HES.out.2] at cB;have H1:=Zh (oS ns na nc (ss.map (·.nm)) ea ec wr (HS.out.2.up hB) hl hse hmz);have hd0:=hB;clear ho hse hmz HS;generalize ss.map (·.nm)=sp at*;have F1:Hid (g<wr.heap.size):=Zh Zo;go_wp2_with (refine H1.out.mono ?_;rintro e w3 ⟨v,u,rfl,o1,o2,hb,f1,f2,f3⟩;have f1:∀b,v.ownBlock=some b->w.heap.size<=b:=(λb h=>Nat.le_trans hz (f1 b h));have hb:Below w.heap.size wr w3:=(hb.mono hz);(generalize(ns.filter λn=>!G9 sp n)=fs at*;obtain⟨va,vc,rfl,_⟩:=Yq o1;have hb:Below w.heap.size w w3:=hd0.trans hb;have RBW:=HH.out.BV (F:=[]) (Ak.Ag hb) (λ_ _=>List.not_mem_nil);have HD:=Zh (RBW.gC (u:=⟨va,fs.length,vc⟩) o1 (λe=>by have:=f1 g e;have h2:w.heap.size<=g:=this;omega) (λb h1 h2=>by have h3:w.heap.size<=b:=f1 b h2;have:=HH.out.on.lt h1;omega) (λb h1 h2=>by have h3:w.heap.size<=b:=f1 b h1;have:=HH.out.os.lt h2;omega));have HF:Hid (∀b,(BA.v ⟨va,fs.length,vc⟩).ownBlock=some b->w.heap.size<=b):=Zh f1;have HB:=Zh hb;have c45:=RBW.bk.cell 45;have uZ:=RBW.bk.free 45;rw[show R.l.toArray[45]?=some R.An.v from by kernel_rfl] at c45;have c98:=AZ RBW.bk 98 _ (show _=some R.notes.v by kernel_rfl);have c44:=AZ RBW.bk 44 _ (show _=some R.seen.v by kernel_rfl);have c41:=AZ RBW.bk 41 _ (show _=some (.int .i64 R.clock.nm) by kernel_rfl);rw[HES.out.2] at c98;rw[HES.out.1] at c44);clear o1 o2 f1 f2 f3 hb RBW H1);(refine(Hy _ g _ ns fs ss HD.out.1 ht HLH.out).mono ?_;intro e w5 hr;have HR:=Zh (KI HH.out HB.out HF.out HD.out.2 hr HM.out);have he0:=Zh hr.1;obtain rfl:=hr.1;clear hr;go_wp2_with fail;go_end0;exact HR.out)
end Go.Proofs.YtaipogljokblkaaGreatDoor
