/- Core: RL, RM, RN. -/
import Derived.Test.YtaipogljokblkaaGreatDoorE15
import Derived.Test.YtaipogljokblkaaGreatDoorE01
import Derived.Test.YtaipogljokblkaaGreatDoorE14
set_option linter.all false
set_option maxRecDepth 100000
set_option maxHeartbeats 8000000
namespace Go.Proofs.YtaipogljokblkaaGreatDoor
open Go Go.RowKit
set_option linter.unusedSimpArgs false
set_option linter.unusedVariables false
set_option linter.unusedSectionVars false
theorem set44(R:Xb)(u:BA):R.l.toArray.setIfInBounds 44 u.v=({R with seen:=u}:Xb).l.toArray:=Zk
theorem LG(w:World)(v:Value)(l:List Xe)(h:Own w 51 5 v l.length (rows Xe.l l))(hl:l.length<=100000)(x:Xe)(b:Nat)(hb:Bk w b 51 x.l.toArray)(t:TypeId):
  ∃v' w',(Builtin.append_ #[103,103] t #[v,.slice (some ⟨b,0,none⟩) 1 1]).run Tryz.prog w=.ok v' w'/\
   Own w' 51 5 v' (l++[x]).length (rows Xe.l (l++[x]))/\w.grownBy w' v.ownBlock/\Em w v v':=
 AX Ng wone Tryz.underlying103 fN rfl Zd Zd w v l h hl x b hb t
theorem RB.sees{w w2:World}{g:Nat}{R:Xb}{ns ds:List Xq}{ss ss':List Xe}(h:RB w g R ns ds ss){u:BA}(ho:Own w2 51 5 u.v ss'.length (rows Xe.l ss'))
  (hg:w.grownBy w2 R.seen.v.ownBlock)(hf:Em w R.seen.v u.v):RB (w2.setCell ⟨g,44,none⟩ u.v) g {R with seen:=u} ns ds ss'/\Ak (Yf g R) w (w2.setCell ⟨g,44,none⟩ u.v):=by
 have hlt:=h.bk.lt
 have b2:Bk w2 g 171 R.l.toArray:=h.bk.grown hg (λe=>h.gs e.symm)
 have gu:u.v.ownBlock≠some g:=λe=>(hf g e).elim h.gs (λh'=>by omega)
 have on:=h.on.grown hg (by cases h0:R.notes.v.ownBlock with|none=>exact Or.inl rfl|some b=>exact Or.inr (λe=>h.ns b h0 e.symm))
 have od:=h.od.grown hg (by cases h0:R.An.v.ownBlock with|none=>exact Or.inl rfl|some b=>exact Or.inr (λe=>h.ds b h0 e.symm))
 have hg2:=Xs w2 g 44 u.v
 refine⟨⟨by rw[←set44];exact b2.Eo 44 u.v,on.grown hg2 (Or.inr h.gn),od.grown hg2 (Or.inr h.gd),ho.grown hg2 (Or.inr gu),h.gn,h.gd,gu,h.nd,λb hb e=>(hf b e).elim (h.ns b hb) (λh'=>by have:=h.on.lt hb;omega),λb hb e=>(hf b e).elim (h.ds b hb) (λh'=>by have:=h.od.lt hb;omega)⟩,?_⟩
 refine(Ak.Ar (b:=0) hg λb e=>Xn.2 (Or.inr (Or.inr (Or.inr e)))).trans ?_
 exact Ak.Ar (b:=0) hg2 λb e=>Xn.2 (Or.inl (by injection e with e;exact e.symm))
theorem JG{w:World}{g:Nat}{R:Xb}(h:Bk w g 171 R.l.toArray):w.cell? ⟨g,43,none⟩=some (.int .i64 R.index)/\w.cell? ⟨g,46,none⟩=some (.int .i64 R.Aa)/\w.cell? ⟨g,41,none⟩=some (.int .i64 R.clock.nm):=
 ⟨AZ h 43 _ Zk,AZ h 46 _ Zk,AZ h 41 _ Zk⟩
theorem nN(R:Xb)(n:Int)(g:Nat)(w:World)(h:Bk w g 171 R.l.toArray)(ht:IJ R)(h0:0<=n)(h1:n<1000):Calls Tryz.prog 96 #[.pointer (some ⟨g,0,none⟩),.int .i64 n] w λe w'=>
  e=.returned (.bool (R.look n).2)/\Bk w' g 171 (R.look n).1.l.toArray/\Ak [g] w w':=by
 obtain⟨t1,t2⟩:=ht
 have hd:Int.tdiv n 9=n/9:=Int.tdiv_eq_ediv_of_nonneg h0
 have hm:Int.tmod n 9=n%9:=Int.tmod_eq_emod_of_nonneg h0
 have hw:IntKind.i64.wrap (n/9)=n/9:=YL Zo Zo
 by_cases h54:n<54
 ·exact dL R n g w h h0 (by rw[hd,hw];omega) (by rw[hd,hw];omega) (by rw[hm];omega) (by rw[hm];omega) t2
 ·have hz:wr (R.Af*9)=R.Af*9:=YL Zo Zo;have e:R.look n=(R,false):=by
   unfold Xb.look;cases R.A2 with
   |true=>rw[hz,show decide (R.Af*9<=n)=true from decide_eq_true Zo];rfl
   |false=>rw[show decide (R.Af<=n)=true from decide_eq_true Zo];rfl
  rw[e];exact Wi R n g w h (by show wr (R.Af*9)<=n;rw[hz];omega) Zo
theorem uJ{R:Xb}{n:Int}(h:(R.look n).2=false):(R.look n).1=R:=by
 unfold Xb.look at*;cases hk:R.A2<;>rw[hk] at h<;>simp only[cond_true,cond_false] at*
 ·cases hd:decide (R.Af<=n)<;>rw[hd] at h
  ·cases h
  ·rfl
 ·cases hd:decide (wr (R.Af*9)<=n)<;>rw[hd] at h
  ·cases h
  ·rfl
theorem dW{w w':World}{g:Nat}{F:List Nat}{v:Value}{R:Xb}{a b c:BA}{ns ds:List Xq}{ss:List Xe}{e:Ending}(h:Bs w g F v (MR.reap ⟨Y7 R a b c,ns,ds,ss⟩) e w'):Bs w g F v (MR.reap ⟨R,ns,ds,ss⟩) e w':=by
 cases ds with
 |nil=>exact h
 |cons d r=>exact h
theorem cU{w w':World}{g:Nat}{F:List Nat}{v:Value}{R:Xb}{a b c:BA}{ns ds:List Xq}{ss:List Xe}{e:Ending}(h:Bs w g F v (MR.sift ⟨Y7 R a b c,ns,ds,ss⟩) e w'):Bs w g F v (MR.sift ⟨R,ns,ds,ss⟩) e w':=dW h
theorem sJ(R:Xb)(ns ds:List Xq)(ss:List Xe)(x:Xj)(hs:R.step=13):MR.Av ⟨R,ns,ds,ss⟩ x=MR.AK ⟨R,ns,ds,ss⟩ x:=by
 unfold MR.Av;simp only[hs];rfl
theorem No(w:World)(g:Nat)(R:Xb)(ns ds:List Xq)(ss:List Xe)(x:Xj)(h:RB w g R ns ds ss)(ht:IJ R)(hl:ns.length<=100000)(hk:ss.length<=900)(hs:R.step=13)
  (he:R.Aa=2\/R.Aa=3\/R.Aa=4\/R.Aa=5)(hi0:0<=R.index)(hi1:R.index<100):
  Calls Tryz.prog 81 #[.pointer (some ⟨g,0,none⟩),.agg x.l.toArray] w (Bs w g (Yf g R) (.tuple #[]) (MR.Av ⟨R,ns,ds,ss⟩ x)):=by
 rw[sJ _ _ _ _ _ hs]
 (have c18:=I8 h.bk;rw[hs] at c18;obtain⟨⟨x0,x1,x2,x3,x4⟩,x5⟩:=x;show Calls Tryz.prog 81 #[.pointer (some ⟨g,0,none⟩),.agg #[.int .i64 x0,.int .i64 x1,.int .i64 x2,.int .i64 x3,.bool x4,.bool x5]] w _;have HH:=Zh (h.BV (w':=(w.alloc (.cells #[.int .i64 x0,.int .i64 x1,.int .i64 x2,.int .i64 x3,.bool x4,.bool x5] 108))) (F:=[]) (Ak.Ag ((Below.refl _ _).alloc (Nat.le_refl _) _)) (λ_ _=>List.not_mem_nil));have HC:Hid (Ak [] w (w.alloc (.cells #[.int .i64 x0,.int .i64 x1,.int .i64 x2,.int .i64 x3,.bool x4,.bool x5] 108))):=Zh (Ak.Ag ((Below.refl _ _).alloc (Nat.le_refl _) _));have X0:Bk (w.alloc (.cells #[.int .i64 x0,.int .i64 x1,.int .i64 x2,.int .i64 x3,.bool x4,.bool x5] 108)) w.heap.size 108 #[.int .i64 x0,.int .i64 x1,.int .i64 x2,.int .i64 x3,.bool x4,.bool x5]:=Bk.at_ rfl;have hgl:=h.bk.lt;have H0:=Zh h;clear h)
 go_enter Tryz.func81,Tryz.ntmps81
 go_upto_region 9 with(fail)
 have X1:=X0.drew
 have H1:=Zh (HH.out.BV (F:=[]) (w':=(w.alloc (.cells #[.int .i64 x0,.int .i64 x1,.int .i64 x2,.int .i64 x3,.bool x4,.bool x5] 108)).drew) (Ak.Ag (Below.refl _ _).drew) (λ_ _=>List.not_mem_nil))
 have C1:Hid (Ak [] w (w.alloc (.cells #[.int .i64 x0,.int .i64 x1,.int .i64 x2,.int .i64 x3,.bool x4,.bool x5] 108)).drew):=Zh (HC.out.trans (Ak.Ag (Below.refl _ _).drew))
 have c44:=(Gw H1.out.bk).2.1
 have hgx:g≠w.heap.size:=Zo
 have bx:R.seen.v.ownBlock≠some w.heap.size:=λe=>by have:=H0.out.os.lt e;omega
 clear HH HC X0 H0 c18
 refine X8 (λw'=>w'.cell? ⟨g,44,none⟩=some R.seen.v/\w'.cell? ⟨w.heap.size,0,none⟩=some (.int .i64 x0)/\w'.cell? ⟨w.heap.size,1,none⟩=some (.int .i64 x1)/\w'.cell? ⟨w.heap.size,2,none⟩=some (.int .i64 x2)/\w'.cell? ⟨w.heap.size,3,none⟩=some (.int .i64 x3)/\w'.cell? ⟨w.heap.size,4,none⟩=some (.bool x4)) 10 Zk ⟨c44,X1.cell 0,X1.cell 1,X1.cell 2,X1.cell 3,X1.cell 4⟩ (λhS=>?_)
 clear c44
 have hxs:w.heap.size<(w.alloc (.cells #[.int .i64 x0,.int .i64 x1,.int .i64 x2,.int .i64 x3,.bool x4,.bool x5] 108)).drew.heap.size:=by simp
 generalize(w.alloc (.cells #[.int .i64 x0,.int .i64 x1,.int .i64 x2,.int .i64 x3,.bool x4,.bool x5] 108)).drew=w0 at*
 ((try simp only[ZL]);refine vT (fuel:=6) hS [0,1,2,3,4,5,6,7] ?_;simp only[Xy,Xr,List.toList_toArray];(repeat (first|go_big_quiet_skip|(go_big_quiet_want;first|(go_big_quiet_op;go_big_quiet_on)|(apply Exists.intro;refine⟨λw' hS'=>?_,?_⟩;(· (obtain⟨c44,q0,q1,q2,q3,q4⟩:=hS';go_simp;first|done|rfl|exact⟨rfl,rfl⟩));go_big_quiet_on;simp only[ZL]))));refine wpQuiet_nil ?_;(try dsimp only))
 (refine Xi 8 Zk (λK hK=>?_);simp only[Xr,List.toList_toArray])
 have c44:=hS.1
 go_wp2_with fail
 have HN:=Zh (H1.out.BV (w':=w0.alloc (.cells #[.int .i64 x0,.int .i64 x1,.int .i64 x2,.int .i64 x3,.bool x4] 51)) (F:=[]) (Ak.Ag ((Below.refl _ _).alloc (Nat.le_refl _) _)) (λ_ _=>List.not_mem_nil))
 have CN:=Zh (C1.out.trans (Ak.Ag (F:=[]) ((Below.refl _ _).alloc (Nat.le_refl _) (.cells #[.int .i64 x0,.int .i64 x1,.int .i64 x2,.int .i64 x3,.bool x4] 51))))
 have XN:=X1.alloc (.cells #[.int .i64 x0,.int .i64 x1,.int .i64 x2,.int .i64 x3,.bool x4] 51)
 obtain⟨v',w5,hrun,ho,hg,hfr⟩:=LG _ R.seen.v ss HN.out.os Zo ⟨x0,x1,x2,x3,x4⟩ w0.heap.size (Bk.at_ rfl) 103
 obtain⟨va,vc,rfl,_⟩:=Yq ho
 have HS:=Zh (HN.out.sees (u:=⟨va,(ss++[(⟨x0,x1,x2,x3,x4⟩:Xe)]).length,vc⟩) ho hg hfr)
 have HR:=Zh hrun
 have HF:=Zh hfr
 have b2:Bk w5 g 171 R.l.toArray:=HN.out.bk.grown hg (λe=>HN.out.gs e.symm)
 have X5:=XN.grown hg (λe=>bx e.symm)
 have c44:=(Gw b2).2.1
 have f44:=b2.free 44
 have hS1:_/\_/\_/\_/\_/\_:=⟨(Gw HN.out.bk).2.1,XN.cell 0,XN.cell 1,XN.cell 2,XN.cell 3,XN.cell 4⟩
 refine hK.out _ _ (λ_=>hS1) ?_
 clear hK hS hS1 ho hg hfr hrun X1 H1
 generalize(ss++[(⟨x0,x1,x2,x3,x4⟩:Xe)]).length=sl at*
 (refine Xi 9 Zk (λK hK=>?_);simp only[Xr,List.toList_toArray])
 go_wp2_with (at_builtin;refine Ya Zr _ _ _ _ _ _ _ Zr Zr Zr HR.out ?_)
 refine hK.out _ _ (λ_=>⟨c44,X5.cell 0,X5.cell 1,X5.cell 2,X5.cell 3,X5.cell 4⟩) ?_
 clear hK HR
 ((refine Xi 10 Zk (λK hK=>?_);simp only[Xr,List.toList_toArray]);go_wp2_with fail;refine hK.out _ _ (λh=>absurd h Zo) ?_;clear hK)
 ((refine Xi 11 Zk (λK hK=>?_);simp only[Xr,List.toList_toArray]);go_wp2_with fail;refine hK.out _ _ (λh=>absurd h Zo) ?_;clear hK)
 ((refine Xi 12 Zk (λK hK=>?_);simp only[Xr,List.toList_toArray]);go_wp2_with fail;refine hK.out _ _ (λh=>absurd h Zo) ?_;clear hK)
 (refine Xi 13 Zk (λK hK=>?_);simp only[Xr,List.toList_toArray])
 go_wp2_with fail
 refine hK.out _ _ (λh=>absurd h Zo) ?_
 clear hK
 refine Ye Zk ?_ _
 clear c44 f44 b2 X5
 obtain⟨R1,hR1⟩:∃R1,R1=Y7 R R.notes R.An ⟨va,sl,vc⟩:=⟨_,rfl⟩
 have H6:RB (w5.setCell ⟨g,44,none⟩ (.slice va sl vc)) g R1 ns ds (ss++[⟨x0,x1,x2,x3,x4⟩]):=by rw[hR1];exact HS.out.1
 have C6:Ak (Yf g R) w (w5.setCell ⟨g,44,none⟩ (.slice va sl vc)):=(CN.out.mono (λx hx=>by cases hx)).trans HS.out.2
 have HFF:Hid (∀x∈Yf g R1,x∈Yf g R\/w.heap.size<=x):=by
  refine Zh (λx hx=>?_);rw[hR1] at hx;have hz:=CN.out.size;rcases Xn.1 hx with h1|h1|h1|h1
  ·exact Or.inl (Xn.2 (Or.inl h1))
  ·exact Or.inl (Xn.2 (Or.inr (Or.inl h1)))
  ·exact Or.inl (Xn.2 (Or.inr (Or.inr (Or.inl h1))))
  ·rcases HF.out x h1 with h2|h2
   ·exact Or.inl (Xn.2 (Or.inr (Or.inr (Or.inr h2))))
   ·right;omega
 have HE:Hid (R1=Y7 R R.notes R.An ⟨va,sl,vc⟩):=Zh hR1
 have ix:R1.index=R.index:=by rw[hR1];rfl
 have ex:R1.Aa=R.Aa:=by rw[hR1];rfl
 have ht1:IJ R1:=by rw[hR1];exact ht
 have ck:R1.clock=R.clock:=by rw[hR1];rfl
 have CK:=Zh ck;have EX:=Zh ex;have IX:=Zh ix
 clear hR1 HS HF HN CN XN C1 ck ex
 generalize w5.setCell ⟨g,44,none⟩ (.slice va sl vc)=w6 at*
 have c43:=(JG H6.bk).1
 rw[ix] at c43
 have L1:=Zh (nN R1 (R.index+1) g w6 H6.bk ht1 Zo Zo)
 have H6:=Zh H6;have C6:=Zh C6
 clear ix bx
 go_wp2_with fail
 refine L1.out.mono ?_
 rintro e w7 ⟨rfl,hb7,hc7⟩
 have HB7:=Zh hb7;have HC7:=Zh hc7
 clear hb7 hc7 L1 c43
 have hls:R1.look (R.index+1)=(Y7 (R.look (R.index+1)).1 R.notes R.An ⟨va,sl,vc⟩,(R.look (R.index+1)).2):=by rw[HE.out,JK]
 have HLS:=Zh hls
 rw[show(R1.look (R.index+1)).2=(R.look (R.index+1)).2 from by rw[hls]]
 clear hls
 cases hlk:(R.look (R.index+1)).2 with
 |true=>
  go_wp2_with fail
  go_end0
  have hb7:=HB7.out
  rw[HLS.out] at hb7
  have e1:MR.AK ⟨R,ns,ds,ss⟩ ⟨⟨x0,x1,x2,x3,x4⟩,x5⟩=⟨(R.look (R.index+1)).1,ns,ds,ss++[⟨x0,x1,x2,x3,x4⟩]⟩:=by
   unfold MR.AK;simp only[hlk];rfl
  rw[e1]
  refine⟨rfl,R.notes,R.An,⟨va,sl,vc⟩,H6.out.Ap hb7 HC7.out (by rw[HE.out];rfl) (Or.inl ⟨by rw[HE.out];rfl,rfl⟩) (Or.inl ⟨by rw[HE.out];rfl,rfl⟩),C6.out.trans (Ib HC7.out (Xn.2 (Or.inl rfl))),λx hx=>HFF.out x ?_⟩
  rw[HE.out]
  exact Xn.2 (Xn.1 hx)
 |false=>
  have e7:(R1.look (R.index+1)).1=R1:=by rw[HLS.out,uJ hlk,HE.out]
  have H7:=Zh (H6.out.same (e7▸HB7.out) HC7.out)
  have C7:Hid (Ak (Yf g R) w w7):=Zh (C6.out.trans (Ib HC7.out (Xn.2 (Or.inl rfl))))
  have c46:=(JG H7.out.bk).2.1
  rw[EX.out] at c46
  have HLK:=Zh hlk
  clear e7 hlk HB7 HC7 HLS H6 C6 c44
  by_cases h4:R.Aa=4
  ·have em:MR.AK ⟨R,ns,ds,ss⟩ ⟨⟨x0,x1,x2,x3,x4⟩,x5⟩=bif Ew R.clock.nm ((ss++[(⟨x0,x1,x2,x3,x4⟩:Xe)]).map DY) then⟨R.advance 14,ns,ds,ss++[⟨x0,x1,x2,x3,x4⟩]⟩ else⟨R.load 15 (root 24),ns,ds,ss++[⟨x0,x1,x2,x3,x4⟩]⟩:=by
    unfold MR.AK;simp only[HLK.out,h4];rfl
   rw[h4] at c46;have EM:=Zh em;have H4:=Zh h4;clear em h4 he;go_wp2_with fail;have c41:=(JG H7.out.bk).2.2;rw[CK.out] at c41;refine X8 (λw'=>w'.cell? ⟨g,41,none⟩=some (.int .i64 R.clock.nm)) 9 Zk c41 (λhS=>?_);have H8:=Zh (H7.out.BV (w':=w7.drew) (F:=[]) (Ak.Ag (Below.refl _ _).drew) (λ_ _=>List.not_mem_nil));have C8:Hid (Ak (Yf g R) w w7.drew):=Zh (C7.out.trans (Ak.Ag (Below.refl _ _).drew));clear c41 c46 H7 C7;generalize w7.drew=w8 at*;have HSP:=Zh (Mm w8 g R1 ns ds _ H8.out (by simp;omega));have hml:((ss++[(⟨x0,x1,x2,x3,x4⟩:Xe)]).map DY).length<=100000:=by simp;omega
   have HML:=Zh hml;clear hml;generalize(ss++[(⟨x0,x1,x2,x3,x4⟩:Xe)]).map DY=sp at*;((try simp only[ZL]);refine vT (fuel:=2) hS [0,1,2,3,4,5,6] ?_;simp only[Xy,Xr,List.toList_toArray];(repeat (first|go_big_quiet_skip|(go_big_quiet_want;first|(go_big_quiet_op;go_big_quiet_on)|(apply Exists.intro;refine⟨λw' hS'=>?_,?_⟩;(· (have c41:=hS';go_simp;first|done|rfl|exact⟨rfl,rfl⟩));go_big_quiet_on;simp only[ZL]))));refine wpQuiet_nil ?_;(try dsimp only));(refine Xi 7 Zk (λK hK=>?_);simp only[Xr,List.toList_toArray]);go_wp2_with fail;refine HSP.out.mono ?_;rintro e w9 ⟨v,rfl,os,hb9,fs0⟩;obtain⟨pa,pc,rfl,_⟩:=Yq os;have hsp:Sl w9 w9.heap.size 3 pa sp.length (rows AJ.l sp):=Sl.DE os;have HMY:=Zh (uH R.clock.nm pa pc sp w9 hsp HML.out);have H9:=Zh (H8.out.BV (F:=[]) (Ak.Ag hb9) (λ_ _=>List.not_mem_nil));have C9:Hid (Ak (Yf g R) w w9):=Zh (C8.out.trans (Ak.Ag hb9));have c41:=(JG H9.out.bk).2.2;rw[CK.out] at c41;clear os hb9 fs0 hsp HSP H8 C8;go_wp2_with fail;refine hK.out _ _ (λ_=>c41) ?_;clear hK hS;(refine Xi 8 Zk (λK hK=>?_);simp only[Xr,List.toList_toArray]);go_wp2_with fail;refine HMY.out.mono ?_;rintro e wa ⟨rfl,hba⟩;have HA:=Zh (H9.out.BV (F:=[]) (Ak.Ag hba) (λ_ _=>List.not_mem_nil));have CA:Hid (Ak (Yf g R) w wa):=Zh (C9.out.trans (Ak.Ag hba));have c41:=(JG HA.out.bk).2.2;rw[CK.out] at c41;clear hba HMY H9 C9;go_wp2_with fail;refine hK.out _ _ (λ_=>c41) ?_;clear hK c41;refine Ye Zk ?_ _;cases hmy:Ew R.clock.nm sp with
   |true=>
    go_wp2_with fail;refine(TO R1 14 g wa HA.out.bk).mono ?_;rintro e wb ⟨rfl,hbb,hcb⟩;have HB:=Zh hbb;have HC:=Zh hcb;clear hbb hcb;go_wp2_with fail;go_end0;have h1:=CV (v:=.tuple #[]) (w1:=wa) (R:=R) (a:=R.notes) (b:=R.An) (c:=⟨va,sl,vc⟩) ht (Xn.2 (Or.inl rfl)) CA.out (HE.out▸HA.out) (HE.out▸HFF.out) (My (st:=14) rfl) (HE.out▸HB.out) HC.out;rw[EM.out,hmy];exact h1
   |false=>
    go_wp2_with fail;refine(vC wa).mono ?_;rintro e wb ⟨rfl,hcb⟩;have HB:=Zh (HA.out.BV hcb (λ_ _=>List.not_mem_nil));have CB:Hid (Ak (Yf g R) w wb):=Zh (CA.out.trans (hcb.mono (λx hx=>by cases hx)));clear hcb;go_wp2_with fail;refine(dQ R1 15 (root 24) g wb HB.out.bk).mono ?_;rintro e wc ⟨rfl,hbb,hcb⟩;have HB2:=Zh hbb;have HC:=Zh hcb;clear hbb hcb;go_wp2_with fail;go_end0;have h1:=CV (v:=.tuple #[]) (w1:=wb) (R:=R) (a:=R.notes) (b:=R.An) (c:=⟨va,sl,vc⟩) ht (Xn.2 (Or.inl rfl)) CB.out (HE.out▸HB.out) (HE.out▸HFF.out) (E7 (st:=15) rfl (root 24)) (HE.out▸HB2.out) HC.out;rw[EM.out,hmy];exact h1
  ·have em:MR.AK ⟨R,ns,ds,ss⟩ ⟨⟨x0,x1,x2,x3,x4⟩,x5⟩=MR.sift ⟨R,ns,ds,ss++[⟨x0,x1,x2,x3,x4⟩]⟩:=by
    unfold MR.AK;simp only[HLK.out];rw[show(R.Aa==4)=false from by simp[h4]];rfl
   have EM:=Zh em;have h4':(R.Aa==4)=false:=by simp[h4]
   have HSI:=Zh (T4 w7 g R1 ns ds (ss++[⟨x0,x1,x2,x3,x4⟩]) H7.out ht1 hl (by simp;omega) (by rw[EX.out];exact he));have H4:=Zh h4;have HE2:=Zh he;clear em h4 he;go_wp2_with fail;refine HSI.out.mono ?_;intro e w9 hr;have hr2:Bs w g (Yf g R) (.tuple #[]) (MR.sift ⟨R,ns,ds,ss++[⟨x0,x1,x2,x3,x4⟩]⟩) e w9:=by
    refine Bs.after C7.out HFF.out (cU (R:=R) (a:=R.notes) (b:=R.An) (c:=⟨va,sl,vc⟩) ?_);rw[←HE.out];exact hr
   rw[←EM.out] at hr2;obtain rfl:=hr2.1;have HR:=Zh hr2;clear hr hr2;go_wp2_with fail;go_end0;exact HR.out
theorem eE(R:Xb)(a b c:BA)(n:Int)(u:Xe):(Y7 R a b c).Ga n u=Y7 (R.Ga n u) a b c:=by
 unfold Xb.Ga;cases n==0 with
 |true=>rfl
 |false=>
 cases n==1 with
 |true=>rfl
 |false=>
 cases n==2 with
 |true=>rfl
 |false=>
 cases n==3 with
 |true=>rfl
 |false=>
 cases n==4 with
 |true=>rfl
 |false=>
 cases n==5 with
 |true=>rfl
 |false=>
 cases n==6 with
 |true=>rfl
 |false=>
 cases n==7 with
 |true=>rfl
 |false=>rfl
theorem KW{st:Int}(h:(st==0)=false)(n:Int)(u:Xe):Lu λR=>R.post st n u:=λR a b c ht=>by
 have e:(R.post st n u).step=st:=rfl;simp only[e,h,cond_false];unfold Xb.post;rw[eE];rfl
theorem I3{st:Int}(h:(st==0)=false)(s:AJ):Lu λR=>R.Cy st s:=λR a b c ht=>by
 have e:(R.Cy st s).step=st:=rfl;simp only[e,h,cond_false];rfl
theorem NX:∀l,Lu λR=>R.E6 l
 |[]=>Du
 |n::r=>λR a b c ht=>by
  show(bif wz ((Y7 R a b c).B4 n) then(Y7 R a b c).E6 r else Xb.post {(Y7 R a b c) with index:=n} 4 n .zero)=Y7 (bif wz (R.B4 n) then R.E6 r else Xb.post {R with index:=n} 4 n .zero) a (bif (bif wz (R.B4 n) then R.E6 r else Xb.post {R with index:=n} 4 n .zero).step==0 then Bp else b) (bif (bif wz (R.B4 n) then R.E6 r else Xb.post {R with index:=n} 4 n .zero).step==0 then Bp else c);rw[show(Y7 R a b c).B4 n=R.B4 n from rfl];cases wz (R.B4 n) with
  |true=>exact NX r R a b c ht
  |false=>exact KW (st:=4) rfl n .zero {R with index:=n} a b c ht
theorem JO(l:List Int):Lu λR=>R.Fz l:=
 MW (p:=λR=>R.Dq&&!(!R.span.is&&(R.span.low==0&&R.span.Hh==0))) (λ_ _ _ _=>rfl) (I3 (st:=2) rfl .zero) (MW (p:=Xb.A2) (λ_ _ _ _=>rfl) (NX l) Du)
theorem I2(x:Xj):Lu λR=>R.Ev x:=λR a b c ht=>by
 show(bif R.dating then Xb.load {(Y7 R a b c) with word:=x.word} 6 (root 24) else bif R.Aa==2&&(!(x.word.sl==0)&&!OV (R.B4 R.call.i) x.word) then Xb.post {(Y7 R a b c) with word:=x.word} 7 R.call.i (Yt x.word) else Xb.finish {(Y7 R a b c) with word:=x.word} ⟨x.word,true⟩)=
  Y7 (bif R.dating then Xb.load {R with word:=x.word} 6 (root 24) else bif R.Aa==2&&(!(x.word.sl==0)&&!OV (R.B4 R.call.i) x.word) then Xb.post {R with word:=x.word} 7 R.call.i (Yt x.word) else Xb.finish {R with word:=x.word} ⟨x.word,true⟩) a (bif (bif R.dating then Xb.load {R with word:=x.word} 6 (root 24) else bif R.Aa==2&&(!(x.word.sl==0)&&!OV (R.B4 R.call.i) x.word) then Xb.post {R with word:=x.word} 7 R.call.i (Yt x.word) else Xb.finish {R with word:=x.word} ⟨x.word,true⟩).step==0 then Bp else b) (bif (bif R.dating then Xb.load {R with word:=x.word} 6 (root 24) else bif R.Aa==2&&(!(x.word.sl==0)&&!OV (R.B4 R.call.i) x.word) then Xb.post {R with word:=x.word} 7 R.call.i (Yt x.word) else Xb.finish {R with word:=x.word} ⟨x.word,true⟩).step==0 then Bp else c)
 cases R.dating with
 |true=>rfl
 |false=>
  cases R.Aa==2&&(!(x.word.sl==0)&&!OV (R.B4 R.call.i) x.word) with
  |true=>exact KW (st:=7) rfl R.call.i (Yt x.word) {R with word:=x.word} a b c ht
  |false=>rfl
theorem Hi(x:Xj):Lu λR=>R.Cb x:=λR a b c ht=>by
 unfold Xb.Cb;simp only[show ∀i n,(Y7 R a b c).FP i n=R.FP i n from λ_ _=>rfl,show(Y7 R a b c).call=R.call from rfl,show(Y7 R a b c).Aa=R.Aa from rfl,show(Y7 R a b c).word=R.word from rfl,show(Y7 R a b c).span=R.span from rfl];cases R.FP R.call.i x.word.nm with
 |true=>rfl
 |false=>
  cases R.Aa==3 with
  |true=>exact KW (st:=7) rfl R.call.i (Yy x.word.nm) R a b c ht
  |false=>rfl
theorem Qi(x:Xj):Lu λR=>Xb.load {R with word:=x.word} 10 (root 24):=λR a b c ht=>rfl
theorem Qj:Lu λR=>R.load 5 R.call.Ay:=λR a b c ht=>rfl
theorem Qh(x:Xj):Lu λR=>(Xb.look {R with clock:=x.word} 0).1:=λR a b c ht=>by
 have h:=JK {R with clock:=x.word} a b c 0;show((Y7 {R with clock:=x.word} a b c).look 0).1=_;rw[h];have e:(Xb.look {R with clock:=x.word} 0).1.step=13:=by
  obtain⟨h1,h2⟩:=ht;unfold Xb.look;show(bif R.A2 then _ else _:Xb × Bool).1.step=13;cases R.A2 with
  |true=>
   show(bif decide (wr (R.Af*9)<=0) then _ else _:Xb × Bool).1.step=13;rw[show decide (wr (R.Af*9)<=0)=false from decide_eq_false (by rw[YL Zo Zo];omega)];rfl
  |false=>
   show(bif decide (R.Af<=0) then _ else _:Xb × Bool).1.step=13;rw[show decide (R.Af<=0)=false from decide_eq_false Zo];rfl
 simp only[e];rfl
theorem VM(w:World)(g:Nat)(R:Xb)(ns ds:List Xq)(ss:List Xe)(x:Xj)(h:RB w g R ns ds ss)(ht:IJ R)(hl:ns.length<=100000)(hs:R.step=10):
  Calls Tryz.prog 58 #[.pointer (some ⟨g,0,none⟩),.agg x.l.toArray] w (Bs w g (Yf g R) .nilIface (MR.Av ⟨R,ns,ds,ss⟩ x)):=by
 (have c18:=I8 h.bk;rw[hs] at c18;obtain⟨⟨x0,x1,x2,x3,x4⟩,x5⟩:=x;show Calls Tryz.prog 58 #[.pointer (some ⟨g,0,none⟩),.agg #[.int .i64 x0,.int .i64 x1,.int .i64 x2,.int .i64 x3,.bool x4,.bool x5]] w _;have HH:=Zh (h.BV (w':=(w.alloc (.cells #[.int .i64 x0,.int .i64 x1,.int .i64 x2,.int .i64 x3,.bool x4,.bool x5] 108))) (F:=[]) (Ak.Ag ((Below.refl _ _).alloc (Nat.le_refl _) _)) (λ_ _=>List.not_mem_nil));have HC:Hid (Ak [] w (w.alloc (.cells #[.int .i64 x0,.int .i64 x1,.int .i64 x2,.int .i64 x3,.bool x4,.bool x5] 108))):=Zh (Ak.Ag ((Below.refl _ _).alloc (Nat.le_refl _) _));have hgl:=h.bk.lt;have HQ:=Zh (L3 (w.alloc (.cells #[.int .i64 x0,.int .i64 x1,.int .i64 x2,.int .i64 x3,.bool x4,.bool x5] 108)) g R ns ds ss ⟨⟨x0,x1,x2,x3,x4⟩,x5⟩ HH.out hl hs ht);clear h;go_enter Tryz.func58,Tryz.ntmps58;go_wp2_with fail;refine HQ.out.mono ?_;intro e w5 hr;obtain⟨rfl,a,b,c,hb,hc,hf⟩:=hr;have HR:Hid (Bs w g (Yf g R) .nilIface _ (.returned .nilIface) w5):=Zh (Bs.after (HC.out.mono (λx hx=>by cases hx)) (λx hx=>Or.inl hx) ⟨rfl,a,b,c,hb,hc,hf⟩);clear hb hc hf HQ HC HH;go_wp2_with fail;go_ret;exact HR.out)
theorem VK(w:World)(g:Nat)(R:Xb)(ns ds:List Xq)(ss:List Xe)(x:Xj)(h:RB w g R ns ds ss)(ht:IJ R)(hl:ns.length<=100000)(hk:ss.length<=900)(hs:R.step=13)
  (he:R.Aa=2\/R.Aa=3\/R.Aa=4\/R.Aa=5)(hi0:0<=R.index)(hi1:R.index<100):
  Calls Tryz.prog 58 #[.pointer (some ⟨g,0,none⟩),.agg x.l.toArray] w (Bs w g (Yf g R) .nilIface (MR.Av ⟨R,ns,ds,ss⟩ x)):=by
 (have c18:=I8 h.bk;rw[hs] at c18;obtain⟨⟨x0,x1,x2,x3,x4⟩,x5⟩:=x;show Calls Tryz.prog 58 #[.pointer (some ⟨g,0,none⟩),.agg #[.int .i64 x0,.int .i64 x1,.int .i64 x2,.int .i64 x3,.bool x4,.bool x5]] w _;have HH:=Zh (h.BV (w':=(w.alloc (.cells #[.int .i64 x0,.int .i64 x1,.int .i64 x2,.int .i64 x3,.bool x4,.bool x5] 108))) (F:=[]) (Ak.Ag ((Below.refl _ _).alloc (Nat.le_refl _) _)) (λ_ _=>List.not_mem_nil));have HC:Hid (Ak [] w (w.alloc (.cells #[.int .i64 x0,.int .i64 x1,.int .i64 x2,.int .i64 x3,.bool x4,.bool x5] 108))):=Zh (Ak.Ag ((Below.refl _ _).alloc (Nat.le_refl _) _));have hgl:=h.bk.lt;have HQ:=Zh (No (w.alloc (.cells #[.int .i64 x0,.int .i64 x1,.int .i64 x2,.int .i64 x3,.bool x4,.bool x5] 108)) g R ns ds ss ⟨⟨x0,x1,x2,x3,x4⟩,x5⟩ HH.out ht hl hk hs he hi0 hi1);clear h;go_enter Tryz.func58,Tryz.ntmps58;go_wp2_with fail;refine HQ.out.mono ?_;intro e w5 hr;obtain⟨rfl,a,b,c,hb,hc,hf⟩:=hr;have HR:Hid (Bs w g (Yf g R) .nilIface _ (.returned .nilIface) w5):=Zh (Bs.after (HC.out.mono (λx hx=>by cases hx)) (λx hx=>Or.inl hx) ⟨rfl,a,b,c,hb,hc,hf⟩);clear hb hc hf HQ HC HH;go_wp2_with fail;go_ret;exact HR.out)
theorem VJ(w:World)(g:Nat)(R:Xb)(ns ds:List Xq)(ss:List Xe)(x:Xj)(h:RB w g R ns ds ss)(ht:IJ R)(hl:ns.length<=100000)(hk:ss.length<=1000)(he:R.Aa=2\/R.Aa=3\/R.Aa=4\/R.Aa=5)(hs:R.step=15):
  Calls Tryz.prog 58 #[.pointer (some ⟨g,0,none⟩),.agg x.l.toArray] w (Bs w g (Yf g R) .nilIface (MR.Av ⟨R,ns,ds,ss⟩ x)):=by
 (have c18:=I8 h.bk;rw[hs] at c18;obtain⟨⟨x0,x1,x2,x3,x4⟩,x5⟩:=x;show Calls Tryz.prog 58 #[.pointer (some ⟨g,0,none⟩),.agg #[.int .i64 x0,.int .i64 x1,.int .i64 x2,.int .i64 x3,.bool x4,.bool x5]] w _;have HH:=Zh (h.BV (w':=(w.alloc (.cells #[.int .i64 x0,.int .i64 x1,.int .i64 x2,.int .i64 x3,.bool x4,.bool x5] 108))) (F:=[]) (Ak.Ag ((Below.refl _ _).alloc (Nat.le_refl _) _)) (λ_ _=>List.not_mem_nil));have HC:Hid (Ak [] w (w.alloc (.cells #[.int .i64 x0,.int .i64 x1,.int .i64 x2,.int .i64 x3,.bool x4,.bool x5] 108))):=Zh (Ak.Ag ((Below.refl _ _).alloc (Nat.le_refl _) _));have hgl:=h.bk.lt;have HQ:=Zh (Nn (w.alloc (.cells #[.int .i64 x0,.int .i64 x1,.int .i64 x2,.int .i64 x3,.bool x4,.bool x5] 108)) g R ns ds ss ⟨⟨x0,x1,x2,x3,x4⟩,x5⟩ HH.out ht hl hk he hs);clear h;go_enter Tryz.func58,Tryz.ntmps58;go_wp2_with fail;refine HQ.out.mono ?_;intro e w5 hr;obtain⟨rfl,a,b,c,hb,hc,hf⟩:=hr;have HR:Hid (Bs w g (Yf g R) .nilIface _ (.returned .nilIface) w5):=Zh (Bs.after (HC.out.mono (λx hx=>by cases hx)) (λx hx=>Or.inl hx) ⟨rfl,a,b,c,hb,hc,hf⟩);clear hb hc hf HQ HC HH;go_wp2_with fail;go_ret;exact HR.out)
theorem VH(w:World)(g:Nat)(R:Xb)(ns r:List Xq)(d:Xq)(ss:List Xe)(x:Xj)(h:RB w g R ns (d::r) ss)(ht:IJ R)(hl:ns.length<=100000)(hl2:r.length<=90000)(hd:d∈ns)(hs:R.step=16):
  Calls Tryz.prog 58 #[.pointer (some ⟨g,0,none⟩),.agg x.l.toArray] w (Bs w g (Yf g R) .nilIface (MR.Av ⟨R,ns,d::r,ss⟩ x)):=by
 (have c18:=I8 h.bk;rw[hs] at c18;obtain⟨⟨x0,x1,x2,x3,x4⟩,x5⟩:=x;show Calls Tryz.prog 58 #[.pointer (some ⟨g,0,none⟩),.agg #[.int .i64 x0,.int .i64 x1,.int .i64 x2,.int .i64 x3,.bool x4,.bool x5]] w _;have HH:=Zh (h.BV (w':=(w.alloc (.cells #[.int .i64 x0,.int .i64 x1,.int .i64 x2,.int .i64 x3,.bool x4,.bool x5] 108))) (F:=[]) (Ak.Ag ((Below.refl _ _).alloc (Nat.le_refl _) _)) (λ_ _=>List.not_mem_nil));have HC:Hid (Ak [] w (w.alloc (.cells #[.int .i64 x0,.int .i64 x1,.int .i64 x2,.int .i64 x3,.bool x4,.bool x5] 108))):=Zh (Ak.Ag ((Below.refl _ _).alloc (Nat.le_refl _) _));have hgl:=h.bk.lt;have HQ:=Zh (Nm (w.alloc (.cells #[.int .i64 x0,.int .i64 x1,.int .i64 x2,.int .i64 x3,.bool x4,.bool x5] 108)) g R ns r d ss ⟨⟨x0,x1,x2,x3,x4⟩,x5⟩ HH.out ht hl hl2 hd hs);clear h;go_enter Tryz.func58,Tryz.ntmps58;go_wp2_with fail;refine HQ.out.mono ?_;intro e w5 hr;obtain⟨rfl,a,b,c,hb,hc,hf⟩:=hr;have HR:Hid (Bs w g (Yf g R) .nilIface _ (.returned .nilIface) w5):=Zh (Bs.after (HC.out.mono (λx hx=>by cases hx)) (λx hx=>Or.inl hx) ⟨rfl,a,b,c,hb,hc,hf⟩);clear hb hc hf HQ HC HH;go_wp2_with fail;go_ret;exact HR.out)
end Go.Proofs.YtaipogljokblkaaGreatDoor
