/- Core: RL, RM, RN. -/
import Derived.Test.YtaipogljokblkaaGreatDoorP19
set_option linter.all false
set_option maxRecDepth 100000
set_option maxHeartbeats 8000000
namespace Go.Proofs.YtaipogljokblkaaGreatDoor
open Go Go.RowKit
def J2(R:Xd)(u:B5):R.l.toArray.setIfInBounds 44 u.v=({R with seen:=u}:Xd).l.toArray:=Zk
def MD(w:World)(v:Value)(l:List Xe)(h:Own w 51 5 v l.length (rows Xe.l l))(a:l.length<=100000)(x:Xe)(b:Nat)(c:Bk w b 51 x.l.toArray)(t:TypeId):
  ∃v' w',(Builtin.append_ #[103,103] t #[v,.slice (some ⟨b,0,none⟩) 1 1]).run Tryz.prog w=.ok v' w'/\
   Own w' 51 5 v' (l++[x]).length (rows Xe.l (l++[x]))/\w.grownBy w' v.ownBlock/\Gi w v v':=
 Cb Qs wone Tryz.underlying103 kS rfl Zd Zd w v l h a x b c t
def RB.sees{w w2:World}{g:Nat}{R:Xd}{ns ds:List Xw}{ss ss':List Xe}(h:RB w g R ns ds ss){u:B5}(m:Own w2 51 5 u.v ss'.length (rows Xe.l ss'))
  (d:w.grownBy w2 R.seen.v.ownBlock)(f:Gi w R.seen.v u.v):RB (w2.setCell ⟨g,44,none⟩ u.v) g {R with seen:=u} ns ds ss'/\Aq (Yn g R) w (w2.setCell ⟨g,44,none⟩ u.v):=by
 have n:=h.bk.lt
 have o:Bk w2 g 171 R.l.toArray:=h.bk.grown d (λe=>h.gs e.symm)
 have j:u.v.ownBlock≠some g:=λe=>(f g e).elim h.gs (λk=>Zo)
 have on:=h.on.grown d (by cases i:R.notes.v.ownBlock with|none=>exact fq rfl|some b=>exact db (λe=>h.ns b i e.symm))
 have p:=h.od.grown d (by cases i:R.Au.v.ownBlock with|none=>exact fq rfl|some b=>exact db (λe=>h.ds b i e.symm))
 have a:=X2 w2 g 44 u.v
 refine⟨⟨by rw[←J2];exact o.Ez 44 u.v,on.grown a (db h.gn),p.grown a (db h.gd),m.grown a (db j),h.gn,h.gd,j,h.nd,λb c e=>(f b e).elim (h.ns b c) (λk=>by have:=h.on.lt c;omega),λb c e=>(f b e).elim (h.ds b c) (λk=>by have:=h.od.lt c;omega)⟩,?_⟩
 refine(Aq.Ax (b:=0) d λb e=>Xs.2 (d2 (db e))).trans ?_
 exact Aq.Ax (b:=0) a λb e=>Xs.2 (fq (by injection e with e;exact e.symm))
def Kk{w:World}{g:Nat}{R:Xd}(h:Bk w g 171 R.l.toArray):w.cell? ⟨g,43,none⟩=some (.int .i64 R.index)/\w.cell? ⟨g,46,none⟩=some (.int .i64 R.Aa)/\w.cell? ⟨g,41,none⟩=some (.int .i64 R.clock.nm):=
 ⟨Cf h 43 _ Zk,Cf h 46 _ Zk,Cf h 41 _ Zk⟩
def sM(R:Xd)(n:Int)(g:Nat)(w:World)(h:Bk w g 171 R.l.toArray)(j:Jm R)(a:0<=n)(m:n<1000):Kp 96 #[.pointer (some ⟨g,0,none⟩),.int .i64 n] w λe w'=>
  e=.returned (.bool (R.look n).2)/\Bk w' g 171 (R.look n).1.l.toArray/\Aq [g] w w':=by
 obtain⟨t1,t2⟩:=j
 have b:Int.tdiv n 9=n/9:=Int.tdiv_eq_ediv_of_nonneg a
 have c:Int.tmod n 9=n%9:=Int.tmod_eq_emod_of_nonneg a
 have d:IntKind.i64.wrap (n/9)=n/9:=bY Zo Zo
 by_cases k:n<54
 ·exact iT R n g w h a (by rw[b,d];omega) (by rw[b,d];omega) (by rw[c];omega) (by rw[c];omega) t2
 ·have i:wr (R.Ae*9)=R.Ae*9:=bY Zo Zo;have e:R.look n=(R,false):=by
   unfold Xd.look;cases R.AO with
   |true=>rw[i,show decide (R.Ae*9<=n)=true from g5 Zo];rfl
   |false=>rw[show decide (R.Ae<=n)=true from g5 Zo];rfl
  rw[e];exact Z1 R n g w h (by show wr (R.Ae*9)<=n;rw[i];omega) Zo
def zM{R:Xd}{n:Int}(h:(R.look n).2=false):(R.look n).1=R:=by
 unfold Xd.look at*;cases b:R.AO<;>rw[b] at h<;>simp only[i9,gx] at*
 ·cases a:decide (R.Ae<=n)<;>rw[a] at h
  ·cases h
  ·rfl
 ·cases a:decide (wr (R.Ae*9)<=n)<;>rw[a] at h
  ·cases h
  ·rfl
def jD{w w':World}{g:Nat}{F:List Nat}{v:Value}{R:Xd}{a b c:B5}{ns ds:List Xw}{ss:List Xe}{e:Ending}(h:BI w g F v (MR.reap ⟨Zm R a b c,ns,ds,ss⟩) e w'):BI w g F v (MR.reap ⟨R,ns,ds,ss⟩) e w':=by
 cases ds with
 |nil=>exact h
 |cons d r=>exact h
def iD{w w':World}{g:Nat}{F:List Nat}{v:Value}{R:Xd}{a b c:B5}{ns ds:List Xw}{ss:List Xe}{e:Ending}(h:BI w g F v (MR.sift ⟨Zm R a b c,ns,ds,ss⟩) e w'):BI w g F v (MR.sift ⟨R,ns,ds,ss⟩) e w':=jD h
def xH(R:Xd)(ns ds:List Xw)(ss:List Xe)(x:Xr)(a:R.step=13):MR.Ah ⟨R,ns,ds,ss⟩ x=MR.AQ ⟨R,ns,ds,ss⟩ x:=by
 unfold MR.Ah;simp only[a];rfl
def On(w:World)(g:Nat)(R:Xd)(ns ds:List Xw)(ss:List Xe)(x:Xr)(h:RB w g R ns ds ss)(ht:Jm R)(hl:ns.length<=100000)(hk:ss.length<=900)(hs:R.step=13)
  (he:R.Aa=2\/R.Aa=4)(au:0<=R.index)(av:R.index<100):
  Kp 81 #[.pointer (some ⟨g,0,none⟩),.agg x.l.toArray] w (BI w g (Yn g R) (.tuple #[]) (MR.Ah ⟨R,ns,ds,ss⟩ x)):=by
 rw[xH _ _ _ _ _ hs]
 (have ab:=IV h.bk;rw[hs] at ab;obtain⟨⟨d,i,j,k,m⟩,B⟩:=x;show Kp 81 #[.pointer (some ⟨g,0,none⟩),.agg #[.int .i64 d,.int .i64 i,.int .i64 j,.int .i64 k,.bool m,.bool B]] w _;have HH:=eR (h.CJ (w':=(w.alloc (.cells #[.int .i64 d,.int .i64 i,.int .i64 j,.int .i64 k,.bool m,.bool B] 108))) (F:=[]) (Aq.Ai ((fx _ _).alloc (Nat.le_refl _) _)) (λ_ _=>ic));have HC:Hid (Aq [] w (w.alloc (.cells #[.int .i64 d,.int .i64 i,.int .i64 j,.int .i64 k,.bool m,.bool B] 108))):=eR (Aq.Ai ((fx _ _).alloc (Nat.le_refl _) _));have X0:Bk (w.alloc (.cells #[.int .i64 d,.int .i64 i,.int .i64 j,.int .i64 k,.bool m,.bool B] 108)) w.heap.size 108 #[.int .i64 d,.int .i64 i,.int .i64 j,.int .i64 k,.bool m,.bool B]:=Bk.at_ rfl;have aw:=h.bk.lt;have H0:=eR h;clear h)
 go_enter Tryz.func81,Tryz.ntmps81
 go_upto_region 9 with(fail)
 have P:=X0.drew
 have H1:=eR (HH.out.CJ (F:=[]) (w':=(w.alloc (.cells #[.int .i64 d,.int .i64 i,.int .i64 j,.int .i64 k,.bool m,.bool B] 108)).drew) (Aq.Ai (fx _ _).drew) (λ_ _=>ic))
 have C1:Hid (Aq [] w (w.alloc (.cells #[.int .i64 d,.int .i64 i,.int .i64 j,.int .i64 k,.bool m,.bool B] 108)).drew):=eR (HC.out.trans (Aq.Ai (fx _ _).drew))
 have r:=(II H1.out.bk).2.1
 have ax:g≠w.heap.size:=Zo
 have bx:R.seen.v.ownBlock≠some w.heap.size:=λe=>by have:=H0.out.os.lt e;omega
 clear HH HC X0 H0 ab
 refine Yh (λy=>y.cell? ⟨g,44,none⟩=some R.seen.v/\y.cell? ⟨w.heap.size,0,none⟩=some (.int .i64 d)/\y.cell? ⟨w.heap.size,1,none⟩=some (.int .i64 i)/\y.cell? ⟨w.heap.size,2,none⟩=some (.int .i64 j)/\y.cell? ⟨w.heap.size,3,none⟩=some (.int .i64 k)/\y.cell? ⟨w.heap.size,4,none⟩=some (.bool m)) 10 Zk ⟨r,P.cell 0,P.cell 1,P.cell 2,P.cell 3,P.cell 4⟩ (λhS=>?_)
 clear r
 have ay:w.heap.size<(w.alloc (.cells #[.int .i64 d,.int .i64 i,.int .i64 j,.int .i64 k,.bool m,.bool B] 108)).drew.heap.size:=by simp
 generalize(w.alloc (.cells #[.int .i64 d,.int .i64 i,.int .i64 j,.int .i64 k,.bool m,.bool B] 108)).drew=w0 at*
 ((try simp only[ZL]);refine vT (fuel:=6) hS [0,1,2,3,4,5,6,7] ?_;simp only[Yb,Xv,fs];(repeat (first|go_big_quiet_skip|(go_big_quiet_want;first|(go_big_quiet_op;go_big_quiet_on)|(apply g7;refine⟨λy Q=>?_,?_⟩;(· (obtain⟨r,q0,q1,q2,q3,q4⟩:=Q;go_simp;first|done|rfl|exact⟨rfl,rfl⟩));go_big_quiet_on;simp only[ZL]))));refine gw ?_;(try dsimp only))
 (refine Xn 8 Zk (λK n=>?_);simp only[Xv,fs])
 have r:=hS.1
 go_wp2_with fail
 have HN:=eR (H1.out.CJ (w':=w0.alloc (.cells #[.int .i64 d,.int .i64 i,.int .i64 j,.int .i64 k,.bool m] 51)) (F:=[]) (Aq.Ai ((fx _ _).alloc (Nat.le_refl _) _)) (λ_ _=>ic))
 have CN:=eR (C1.out.trans (Aq.Ai (F:=[]) ((fx _ _).alloc (Nat.le_refl _) (.cells #[.int .i64 d,.int .i64 i,.int .i64 j,.int .i64 k,.bool m] 51))))
 have S:=P.alloc (.cells #[.int .i64 d,.int .i64 i,.int .i64 j,.int .i64 k,.bool m] 51)
 obtain⟨v',w5,M,ho,hg,T⟩:=MD _ R.seen.v ss HN.out.os Zo ⟨d,i,j,k,m⟩ w0.heap.size (Bk.at_ rfl) 103
 obtain⟨C,D,rfl,_⟩:=AN ho
 have HS:=eR (HN.out.sees (u:=⟨C,(ss++[(⟨d,i,j,k,m⟩:Xe)]).length,D⟩) ho hg T)
 have HR:=eR M
 have HF:=eR T
 have b2:Bk w5 g 171 R.l.toArray:=HN.out.bk.grown hg (λe=>HN.out.gs e.symm)
 have X5:=S.grown hg (λe=>bx e.symm)
 have r:=(II b2).2.1
 have f44:=b2.free 44
 have ae:_/\_/\_/\_/\_/\_:=⟨(II HN.out.bk).2.1,S.cell 0,S.cell 1,S.cell 2,S.cell 3,S.cell 4⟩
 refine n.out _ _ (λ_=>ae) ?_
 clear n hS ae ho hg T M P H1
 generalize(ss++[(⟨d,i,j,k,m⟩:Xe)]).length=sl at*
 (refine Xn 9 Zk (λK n=>?_);simp only[Xv,fs])
 go_wp2_with (at_builtin;refine Yj Zr _ _ _ _ _ _ _ Zr Zr Zr HR.out ?_)
 refine n.out _ _ (λ_=>⟨r,X5.cell 0,X5.cell 1,X5.cell 2,X5.cell 3,X5.cell 4⟩) ?_
 clear n HR
 ((refine Xn 10 Zk (λK n=>?_);simp only[Xv,fs]);go_wp2_with fail;refine n.out _ _ (λh=>absurd h Zo) ?_;clear n)
 ((refine Xn 11 Zk (λK n=>?_);simp only[Xv,fs]);go_wp2_with fail;refine n.out _ _ (λh=>absurd h Zo) ?_;clear n)
 ((refine Xn 12 Zk (λK n=>?_);simp only[Xv,fs]);go_wp2_with fail;refine n.out _ _ (λh=>absurd h Zo) ?_;clear n)
 (refine Xn 13 Zk (λK n=>?_);simp only[Xv,fs])
 go_wp2_with fail
 refine n.out _ _ (λh=>absurd h Zo) ?_
 clear n
 refine Yk Zk ?_ _
 clear r f44 b2 X5
 obtain⟨q,s⟩:∃q,q=Zm R R.notes R.Au ⟨C,sl,D⟩:=⟨_,rfl⟩
 have U:RB (w5.setCell ⟨g,44,none⟩ (.slice C sl D)) g q ns ds (ss++[⟨d,i,j,k,m⟩]):=by rw[s];exact HS.out.1
 have C6:Aq (Yn g R) w (w5.setCell ⟨g,44,none⟩ (.slice C sl D)):=(CN.out.mono (λx N=>by cases N)).trans HS.out.2
 have I:Hid (∀x∈Yn g q,x∈Yn g R\/w.heap.size<=x):=by
  refine eR (λx N=>?_);rw[s] at N;have hz:=CN.out.size;rcases Xs.1 N with h1|h1|h1|h1
  ·exact fq (Xs.2 (fq h1))
  ·exact fq (Xs.2 (db (fq h1)))
  ·exact fq (Xs.2 (d2 (fq h1)))
  ·rcases HF.out x h1 with h2|h2
   ·exact fq (Xs.2 (d2 (db h2)))
   ·right;omega
 have z:Hid (q=Zm R R.notes R.Au ⟨C,sl,D⟩):=eR s
 have ix:q.index=R.index:=by rw[s];rfl
 have ex:q.Aa=R.Aa:=by rw[s];rfl
 have af:Jm q:=by rw[s];exact ht
 have ck:q.clock=R.clock:=by rw[s];rfl
 have CK:=eR ck;have EX:=eR ex;have IX:=eR ix
 clear s HS HF HN CN S C1 ck ex
 generalize w5.setCell ⟨g,44,none⟩ (.slice C sl D)=w6 at*
 have ag:=(Kk U.bk).1
 rw[ix] at ag
 have L1:=eR (sM q (R.index+1) g w6 U.bk af Zo Zo)
 have U:=eR U;have C6:=eR C6
 clear ix bx
 go_wp2_with fail
 refine L1.out.mono ?_
 rintro e w7 ⟨rfl,E,ah⟩
 have V:=eR E;have G:=eR ah
 clear E ah L1 ag
 have W:q.look (R.index+1)=(Zm (R.look (R.index+1)).1 R.notes R.Au ⟨C,sl,D⟩,(R.look (R.index+1)).2):=by rw[z.out,Kq]
 have X:=eR W
 rw[show(q.look (R.index+1)).2=(R.look (R.index+1)).2 from by rw[W]]
 clear W
 cases J:(R.look (R.index+1)).2 with
 |true=>
  go_wp2_with fail
  go_end0
  have E:=V.out
  rw[X.out] at E
  have e1:MR.AQ ⟨R,ns,ds,ss⟩ ⟨⟨d,i,j,k,m⟩,B⟩=⟨(R.look (R.index+1)).1,ns,ds,ss++[⟨d,i,j,k,m⟩]⟩:=by
   unfold MR.AQ;simp only[J];rfl
  rw[e1]
  refine⟨rfl,R.notes,R.Au,⟨C,sl,D⟩,U.out.Ar E G.out (by rw[z.out];rfl) (fq ⟨by rw[z.out];rfl,rfl⟩) (fq ⟨by rw[z.out];rfl,rfl⟩),C6.out.trans (I2 G.out (Xs.2 (fq rfl))),λx N=>I.out x ?_⟩
  rw[z.out]
  exact Xs.2 (Xs.1 N)
 |false=>
  have e7:(q.look (R.index+1)).1=q:=by rw[X.out,zM J,z.out]
  have H7:=eR (U.out.same (e7▸V.out) G.out)
  have C7:Hid (Aq (Yn g R) w w7):=eR (C6.out.trans (I2 G.out (Xs.2 (fq rfl))))
  have Y:=(Kk H7.out.bk).2.1
  rw[EX.out] at Y
  have ai:=eR J
  clear e7 J V G X U C6 r
  by_cases O:R.Aa=4
  ·have em:MR.AQ ⟨R,ns,ds,ss⟩ ⟨⟨d,i,j,k,m⟩,B⟩=bif CM R.clock.nm ((ss++[(⟨d,i,j,k,m⟩:Xe)]).map Ei) then⟨R.advance 14,ns,ds,ss++[⟨d,i,j,k,m⟩]⟩ else⟨R.load 15 (root 24),ns,ds,ss++[⟨d,i,j,k,m⟩]⟩:=by
    unfold MR.AQ;simp only[ai.out,O];rfl
   rw[O] at Y;have EM:=eR em;have H4:=eR O;clear em O he;go_wp2_with fail;have o:=(Kk H7.out.bk).2.2;rw[CK.out] at o;refine Yh (λy=>y.cell? ⟨g,41,none⟩=some (.int .i64 R.clock.nm)) 9 Zk o (λhS=>?_);have H8:=eR (H7.out.CJ (w':=w7.drew) (F:=[]) (Aq.Ai (fx _ _).drew) (λ_ _=>ic));have C8:Hid (Aq (Yn g R) w w7.drew):=eR (C7.out.trans (Aq.Ai (fx _ _).drew));clear o Y H7 C7;generalize w7.drew=w8 at*;have aj:=eR (UU w8 g q ns ds _ H8.out (by simp;omega));have ak:((ss++[(⟨d,i,j,k,m⟩:Xe)]).map Ei).length<=100000:=by simp;omega
   have ao:=eR ak;clear ak;generalize(ss++[(⟨d,i,j,k,m⟩:Xe)]).map Ei=sp at*;((try simp only[ZL]);refine vT (fuel:=2) hS [0,1,2,3,4,5,6] ?_;simp only[Yb,Xv,fs];(repeat (first|go_big_quiet_skip|(go_big_quiet_want;first|(go_big_quiet_op;go_big_quiet_on)|(apply g7;refine⟨λy Q=>?_,?_⟩;(· (have o:=Q;go_simp;first|done|rfl|exact⟨rfl,rfl⟩));go_big_quiet_on;simp only[ZL]))));refine gw ?_;(try dsimp only));(refine Xn 7 Zk (λK n=>?_);simp only[Xv,fs]);go_wp2_with fail;refine aj.out.mono ?_;rintro e w9 ⟨v,rfl,os,Z,ap⟩;obtain⟨pa,pc,rfl,_⟩:=AN os;have al:Sl w9 w9.heap.size 3 pa sp.length (rows BL.l sp):=Sl.IL os;have am:=eR (zK R.clock.nm pa pc sp w9 al ao.out);have H9:=eR (H8.out.CJ (F:=[]) (Aq.Ai Z) (λ_ _=>ic));have C9:Hid (Aq (Yn g R) w w9):=eR (C8.out.trans (Aq.Ai Z));have o:=(Kk H9.out.bk).2.2;rw[CK.out] at o;clear os Z ap al aj H8 C8;go_wp2_with fail;refine n.out _ _ (λ_=>o) ?_;clear n hS;(refine Xn 8 Zk (λK n=>?_);simp only[Xv,fs]);go_wp2_with fail;refine am.out.mono ?_;rintro e wa ⟨rfl,aa⟩;have HA:=eR (H9.out.CJ (F:=[]) (Aq.Ai aa) (λ_ _=>ic));have CA:Hid (Aq (Yn g R) w wa):=eR (C9.out.trans (Aq.Ai aa));have o:=(Kk HA.out.bk).2.2;rw[CK.out] at o;clear aa am H9 C9;go_wp2_with fail;refine n.out _ _ (λ_=>o) ?_;clear n o;refine Yk Zk ?_ _;cases an:CM R.clock.nm sp with
   |true=>
    go_wp2_with fail;refine(qZ q 14 g wa HA.out.bk).mono ?_;rintro e wb ⟨rfl,H,p⟩;have HB:=eR H;have HC:=eR p;clear H p;go_wp2_with fail;go_end0;have h1:=DZ (v:=.tuple #[]) (w1:=wa) (R:=R) (a:=R.notes) (b:=R.Au) (c:=⟨C,sl,D⟩) ht (Xs.2 (fq rfl)) CA.out (z.out▸HA.out) (z.out▸I.out) (VZ (st:=14) rfl) (z.out▸HB.out) HC.out;rw[EM.out,an];exact h1
   |false=>
    go_wp2_with fail;refine(ql wa).mono ?_;rintro e wb ⟨rfl,p⟩;have HB:=eR (HA.out.CJ p (λ_ _=>ic));have CB:Hid (Aq (Yn g R) w wb):=eR (CA.out.trans (p.mono (λx N=>by cases N)));clear p;go_wp2_with fail;refine(iX q 15 (root 24) g wb HB.out.bk).mono ?_;rintro e wc ⟨rfl,H,p⟩;have aq:=eR H;have HC:=eR p;clear H p;go_wp2_with fail;go_end0;have h1:=DZ (v:=.tuple #[]) (w1:=wb) (R:=R) (a:=R.notes) (b:=R.Au) (c:=⟨C,sl,D⟩) ht (Xs.2 (fq rfl)) CB.out (z.out▸HB.out) (z.out▸I.out) (Fg (st:=15) rfl (root 24)) (z.out▸aq.out) HC.out;rw[EM.out,an];exact h1
  ·have em:MR.AQ ⟨R,ns,ds,ss⟩ ⟨⟨d,i,j,k,m⟩,B⟩=MR.sift ⟨R,ns,ds,ss++[⟨d,i,j,k,m⟩]⟩:=by
    unfold MR.AQ;simp only[ai.out];rw[show(R.Aa==4)=false from by simp[O]];rfl
   have EM:=eR em;have az:(R.Aa==4)=false:=by simp[O]
   have ar:=eR (Vc w7 g q ns ds (ss++[⟨d,i,j,k,m⟩]) H7.out af hl (by simp;omega) (by rw[EX.out];exact he));have H4:=eR O;have a0:=eR he;clear em O he;go_wp2_with fail;refine ar.out.mono ?_;intro e w9 hr;have L:BI w g (Yn g R) (.tuple #[]) (MR.sift ⟨R,ns,ds,ss++[⟨d,i,j,k,m⟩]⟩) e w9:=by
    refine BI.after C7.out I.out (iD (R:=R) (a:=R.notes) (b:=R.Au) (c:=⟨C,sl,D⟩) ?_);rw[←z.out];exact hr
   rw[←EM.out] at L;obtain rfl:=L.1;have HR:=eR L;clear hr L;go_wp2_with fail;go_end0;exact HR.out
def jN(R:Xd)(a b c:B5)(n:Int)(u:Xe):(Zm R a b c).SZ n u=Zm (R.SZ n u) a b c:=by
 unfold Xd.SZ;cases n==0 with
 |true=>rfl
 |false=>
 cases n==1 with
 |true=>rfl
 |false=>
 cases n==2 with
 |true=>rfl
 |false=>
 cases n==3 with
 |true=>rfl
 |false=>
 cases n==4 with
 |true=>rfl
 |false=>
 cases n==5 with
 |true=>rfl
 |false=>
 cases n==6 with
 |true=>rfl
 |false=>
 cases n==7 with
 |true=>rfl
 |false=>rfl
def LK{st:Int}(h:(st==0)=false)(n:Int)(u:Xe):Ms λR=>R.post st n u:=λR a b c d=>by
 have e:(R.post st n u).step=st:=rfl;simp only[e,h,gx];unfold Xd.post;rw[jN];rfl
def IS{st:Int}(h:(st==0)=false)(s:BL):Ms λR=>R.DV st s:=λR a b c d=>by
 have e:(R.DV st s).step=st:=rfl;simp only[e,h,gx];rfl
def Pg:∀l,Ms λR=>R.IN l
 |[]=>DL
 |n::r=>λR a b c d=>by
  show(bif wz ((Zm R a b c).Dc n) then(Zm R a b c).IN r else Xd.post {(Zm R a b c) with index:=n} 4 n .zero)=Zm (bif wz (R.Dc n) then R.IN r else Xd.post {R with index:=n} 4 n .zero) a (bif (bif wz (R.Dc n) then R.IN r else Xd.post {R with index:=n} 4 n .zero).step==0 then Bz else b) (bif (bif wz (R.Dc n) then R.IN r else Xd.post {R with index:=n} 4 n .zero).step==0 then Bz else c);rw[show(Zm R a b c).Dc n=R.Dc n from rfl];cases wz (R.Dc n) with
  |true=>exact Pg r R a b c d
  |false=>exact LK (st:=4) rfl n .zero {R with index:=n} a b c d
def Kt(l:List Int):Ms λR=>R.Cw l:=
 NS (p:=λR=>R.EU&&!(!R.span.is&&(R.span.low==0&&R.span.KS==0))) (λ_ _ _ _=>rfl) (IS (st:=2) rfl .zero) (NS (p:=Xd.AO) (λ_ _ _ _=>rfl) (Pg l) DL)
def IR(x:Xr):Ms λR=>R.FV x:=λR a b c d=>by
 show(bif R.dating then Xd.load {(Zm R a b c) with word:=x.word} 6 (root 24) else bif R.Aa==2&&(!(x.word.sl==0)&&!XD (R.Dc R.call.i) x.word) then Xd.post {(Zm R a b c) with word:=x.word} 7 R.call.i (Yx x.word) else Xd.finish {(Zm R a b c) with word:=x.word} ⟨x.word,true⟩)=
  Zm (bif R.dating then Xd.load {R with word:=x.word} 6 (root 24) else bif R.Aa==2&&(!(x.word.sl==0)&&!XD (R.Dc R.call.i) x.word) then Xd.post {R with word:=x.word} 7 R.call.i (Yx x.word) else Xd.finish {R with word:=x.word} ⟨x.word,true⟩) a (bif (bif R.dating then Xd.load {R with word:=x.word} 6 (root 24) else bif R.Aa==2&&(!(x.word.sl==0)&&!XD (R.Dc R.call.i) x.word) then Xd.post {R with word:=x.word} 7 R.call.i (Yx x.word) else Xd.finish {R with word:=x.word} ⟨x.word,true⟩).step==0 then Bz else b) (bif (bif R.dating then Xd.load {R with word:=x.word} 6 (root 24) else bif R.Aa==2&&(!(x.word.sl==0)&&!XD (R.Dc R.call.i) x.word) then Xd.post {R with word:=x.word} 7 R.call.i (Yx x.word) else Xd.finish {R with word:=x.word} ⟨x.word,true⟩).step==0 then Bz else c)
 cases R.dating with
 |true=>rfl
 |false=>
  cases R.Aa==2&&(!(x.word.sl==0)&&!XD (R.Dc R.call.i) x.word) with
  |true=>exact LK (st:=7) rfl R.call.i (Yx x.word) {R with word:=x.word} a b c d
  |false=>rfl
def QC(x:Xr):Ms λR=>R.Io x:=λR a b c d=>by
 unfold Xd.Io;simp only[show ∀i n,(Zm R a b c).MS i n=R.MS i n from λ_ _=>rfl,show(Zm R a b c).call=R.call from rfl,show(Zm R a b c).Aa=R.Aa from rfl,show(Zm R a b c).word=R.word from rfl,show(Zm R a b c).span=R.span from rfl];cases R.MS R.call.i x.word.nm with
 |true=>rfl
 |false=>
  cases R.Aa==3 with
  |true=>exact LK (st:=7) rfl R.call.i (Y6 x.word.nm) R a b c d
  |false=>rfl
def R6(x:Xr):Ms λR=>Xd.load {R with word:=x.word} 10 (root 24):=λR a b c d=>rfl
def R7:Ms λR=>R.load 5 R.call.AJ:=λR a b c d=>rfl
def R3(x:Xr):Ms λR=>(Xd.look {R with clock:=x.word} 0).1:=λR a b c d=>by
 have h:=Kq {R with clock:=x.word} a b c 0;show((Zm {R with clock:=x.word} a b c).look 0).1=_;rw[h];have e:(Xd.look {R with clock:=x.word} 0).1.step=13:=by
  obtain⟨f,g⟩:=d;unfold Xd.look;show(bif R.AO then _ else _:Xd × Bool).1.step=13;cases R.AO with
  |true=>
   show(bif decide (wr (R.Ae*9)<=0) then _ else _:Xd × Bool).1.step=13;rw[show decide (wr (R.Ae*9)<=0)=false from gz (by rw[bY Zo Zo];omega)];rfl
  |false=>
   show(bif decide (R.Ae<=0) then _ else _:Xd × Bool).1.step=13;rw[show decide (R.Ae<=0)=false from gz Zo];rfl
 simp only[e];rfl
def YH(w:World)(g:Nat)(R:Xd)(ns ds:List Xw)(ss:List Xe)(x:Xr)(h:RB w g R ns ds ss)(B:Jm R)(C:ns.length<=100000)(q:R.step=10)(D:R.Aa=2\/R.Aa=4):
  Kp 58 #[.pointer (some ⟨g,0,none⟩),.agg x.l.toArray] w (BI w g (Yn g R) .nilIface (MR.Ah ⟨R,ns,ds,ss⟩ x)):=by
 (have o:=IV h.bk;rw[q] at o;obtain⟨⟨d,i,j,k,m⟩,n⟩:=x;show Kp 58 #[.pointer (some ⟨g,0,none⟩),.agg #[.int .i64 d,.int .i64 i,.int .i64 j,.int .i64 k,.bool m,.bool n]] w _;have r:=eR (h.CJ (w':=(w.alloc (.cells #[.int .i64 d,.int .i64 i,.int .i64 j,.int .i64 k,.bool m,.bool n] 108))) (F:=[]) (Aq.Ai ((fx _ _).alloc (Nat.le_refl _) _)) (λ_ _=>ic));have s:Hid (Aq [] w (w.alloc (.cells #[.int .i64 d,.int .i64 i,.int .i64 j,.int .i64 k,.bool m,.bool n] 108))):=eR (Aq.Ai ((fx _ _).alloc (Nat.le_refl _) _));have E:=h.bk.lt;have u:=eR (M3 (w.alloc (.cells #[.int .i64 d,.int .i64 i,.int .i64 j,.int .i64 k,.bool m,.bool n] 108)) g R ns ds ss ⟨⟨d,i,j,k,m⟩,n⟩ r.out C q B D);clear h;go_enter Tryz.func58,Tryz.ntmps58;go_wp2_with fail;refine u.out.mono ?_;intro e G H;obtain⟨rfl,a,b,c,v,y,z⟩:=H;have I:Hid (BI w g (Yn g R) .nilIface _ (.returned .nilIface) G):=eR (BI.after (s.out.mono (λx p=>by cases p)) (λx p=>fq p) ⟨rfl,a,b,c,v,y,z⟩);clear v y z u s r;go_wp2_with fail;go_ret;exact I.out)
def YG(w:World)(g:Nat)(R:Xd)(ns ds:List Xw)(ss:List Xe)(x:Xr)(h:RB w g R ns ds ss)(D:Jm R)(E:ns.length<=100000)(G:ss.length<=900)(s:R.step=13)
  (H:R.Aa=2\/R.Aa=4)(o:0<=R.index)(p:R.index<100):
  Kp 58 #[.pointer (some ⟨g,0,none⟩),.agg x.l.toArray] w (BI w g (Yn g R) .nilIface (MR.Ah ⟨R,ns,ds,ss⟩ x)):=by
 (have q:=IV h.bk;rw[s] at q;obtain⟨⟨d,i,j,k,m⟩,n⟩:=x;show Kp 58 #[.pointer (some ⟨g,0,none⟩),.agg #[.int .i64 d,.int .i64 i,.int .i64 j,.int .i64 k,.bool m,.bool n]] w _;have u:=eR (h.CJ (w':=(w.alloc (.cells #[.int .i64 d,.int .i64 i,.int .i64 j,.int .i64 k,.bool m,.bool n] 108))) (F:=[]) (Aq.Ai ((fx _ _).alloc (Nat.le_refl _) _)) (λ_ _=>ic));have v:Hid (Aq [] w (w.alloc (.cells #[.int .i64 d,.int .i64 i,.int .i64 j,.int .i64 k,.bool m,.bool n] 108))):=eR (Aq.Ai ((fx _ _).alloc (Nat.le_refl _) _));have I:=h.bk.lt;have y:=eR (On (w.alloc (.cells #[.int .i64 d,.int .i64 i,.int .i64 j,.int .i64 k,.bool m,.bool n] 108)) g R ns ds ss ⟨⟨d,i,j,k,m⟩,n⟩ u.out D E G s H o p);clear h;go_enter Tryz.func58,Tryz.ntmps58;go_wp2_with fail;refine y.out.mono ?_;intro e J K;obtain⟨rfl,a,b,c,z,B,C⟩:=K;have L:Hid (BI w g (Yn g R) .nilIface _ (.returned .nilIface) J):=eR (BI.after (v.out.mono (λx r=>by cases r)) (λx r=>fq r) ⟨rfl,a,b,c,z,B,C⟩);clear z B C y v u;go_wp2_with fail;go_ret;exact L.out)
def YF(w:World)(g:Nat)(R:Xd)(ns ds:List Xw)(ss:List Xe)(x:Xr)(h:RB w g R ns ds ss)(B:Jm R)(C:ns.length<=100000)(D:ss.length<=1000)(E:R.Aa=2\/R.Aa=4)(q:R.step=15):
  Kp 58 #[.pointer (some ⟨g,0,none⟩),.agg x.l.toArray] w (BI w g (Yn g R) .nilIface (MR.Ah ⟨R,ns,ds,ss⟩ x)):=by
 (have o:=IV h.bk;rw[q] at o;obtain⟨⟨d,i,j,k,m⟩,n⟩:=x;show Kp 58 #[.pointer (some ⟨g,0,none⟩),.agg #[.int .i64 d,.int .i64 i,.int .i64 j,.int .i64 k,.bool m,.bool n]] w _;have r:=eR (h.CJ (w':=(w.alloc (.cells #[.int .i64 d,.int .i64 i,.int .i64 j,.int .i64 k,.bool m,.bool n] 108))) (F:=[]) (Aq.Ai ((fx _ _).alloc (Nat.le_refl _) _)) (λ_ _=>ic));have s:Hid (Aq [] w (w.alloc (.cells #[.int .i64 d,.int .i64 i,.int .i64 j,.int .i64 k,.bool m,.bool n] 108))):=eR (Aq.Ai ((fx _ _).alloc (Nat.le_refl _) _));have G:=h.bk.lt;have u:=eR (Om (w.alloc (.cells #[.int .i64 d,.int .i64 i,.int .i64 j,.int .i64 k,.bool m,.bool n] 108)) g R ns ds ss ⟨⟨d,i,j,k,m⟩,n⟩ r.out B C D E q);clear h;go_enter Tryz.func58,Tryz.ntmps58;go_wp2_with fail;refine u.out.mono ?_;intro e H I;obtain⟨rfl,a,b,c,v,y,z⟩:=I;have J:Hid (BI w g (Yn g R) .nilIface _ (.returned .nilIface) H):=eR (BI.after (s.out.mono (λx p=>by cases p)) (λx p=>fq p) ⟨rfl,a,b,c,v,y,z⟩);clear v y z u s r;go_wp2_with fail;go_ret;exact J.out)
def YE(w:World)(g:Nat)(R:Xd)(ns r:List Xw)(d:Xw)(ss:List Xe)(x:Xr)(h:RB w g R ns (d::r) ss)(E:Jm R)(G:ns.length<=100000)(p:r.length<=90000)(H:d∈ns)(u:R.step=16):
  Kp 58 #[.pointer (some ⟨g,0,none⟩),.agg x.l.toArray] w (BI w g (Yn g R) .nilIface (MR.Ah ⟨R,ns,d::r,ss⟩ x)):=by
 (have q:=IV h.bk;rw[u] at q;obtain⟨⟨i,j,k,m,n⟩,o⟩:=x;show Kp 58 #[.pointer (some ⟨g,0,none⟩),.agg #[.int .i64 i,.int .i64 j,.int .i64 k,.int .i64 m,.bool n,.bool o]] w _;have v:=eR (h.CJ (w':=(w.alloc (.cells #[.int .i64 i,.int .i64 j,.int .i64 k,.int .i64 m,.bool n,.bool o] 108))) (F:=[]) (Aq.Ai ((fx _ _).alloc (Nat.le_refl _) _)) (λ_ _=>ic));have y:Hid (Aq [] w (w.alloc (.cells #[.int .i64 i,.int .i64 j,.int .i64 k,.int .i64 m,.bool n,.bool o] 108))):=eR (Aq.Ai ((fx _ _).alloc (Nat.le_refl _) _));have I:=h.bk.lt;have z:=eR (Ol (w.alloc (.cells #[.int .i64 i,.int .i64 j,.int .i64 k,.int .i64 m,.bool n,.bool o] 108)) g R ns r d ss ⟨⟨i,j,k,m,n⟩,o⟩ v.out E G p H u);clear h;go_enter Tryz.func58,Tryz.ntmps58;go_wp2_with fail;refine z.out.mono ?_;intro e J K;obtain⟨rfl,a,b,c,B,C,D⟩:=K;have L:Hid (BI w g (Yn g R) .nilIface _ (.returned .nilIface) J):=eR (BI.after (y.out.mono (λx s=>by cases s)) (λx s=>fq s) ⟨rfl,a,b,c,B,C,D⟩);clear B C D z y v;go_wp2_with fail;go_ret;exact L.out)
