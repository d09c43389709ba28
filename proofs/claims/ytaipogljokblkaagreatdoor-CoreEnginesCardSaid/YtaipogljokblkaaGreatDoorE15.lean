/- Core: RH, CRk, RJ, RK. -/
import Derived.Test.YtaipogljokblkaaGreatDoorE14
import Derived.Test.YtaipogljokblkaaGreatDoorE01
import Derived.Test.YtaipogljokblkaaGreatDoorE13
import Derived.Test.YtaipogljokblkaaGreatDoorE09
set_option linter.all false
set_option maxRecDepth 100000
set_option maxHeartbeats 8000000
namespace Go.Proofs.YtaipogljokblkaaGreatDoor
open Go Go.RowKit
set_option linter.unusedSimpArgs false
set_option linter.unusedVariables false
set_option linter.unusedSectionVars false
theorem cW(w:World)(g:Nat)(R:Xb)(ns ds:List Xq)(ss:List Xe)(h:RB w g R ns ds ss)(ht:IJ R)(hl:ns.length<=100000)(hk:ss.length<=1000)(he:R.Aa=4):
  Calls Tryz.prog 97 #[.pointer (some ⟨g,0,none⟩)] w (Bs w g (Yf g R) (.tuple #[]) (MR.sift ⟨R,ns,ds,ss⟩)):=by
 (obtain⟨c41,c44,_,c46,c98⟩:=Gw h.bk;obtain⟨sa,sc,es,_⟩:=Yq h.os;obtain⟨na,nc,en,_⟩:=Yq h.on;have hsS:Sl w w.heap.size 5 sa ss.length (rows Xe.l ss):=Sl.DE (es▸h.os);have hsN:Sl w w.heap.size 7 na ns.length (rows Xq.l ns):=Sl.DE (en▸h.on);have HH:=Zh h;have hgl:=h.bk.lt;have HM:Hid (MR.sift ⟨R,ns,ds,ss⟩=MR.reap ⟨R,ns,ns.filter λn=>!DF R.clock.nm n,ss⟩):=Zh (by unfold MR.sift MR.stays;simp only[he];rfl);have HLH:Hid ((ns.filter λn=>!DF R.clock.nm n).length<=100000):=Zh (Nat.le_trans (List.length_filter_le _ _) hl);rw[he] at c46;rw[en] at c98;rw[es] at c44;have HS:=Zh (And.intro hsS hsN);have HES:=Zh (And.intro es en);clear h es en hsS hsN)
 go_enter Tryz.func97,Tryz.ntmps97
 go_upto_region 14 with(fail)
 refine X8 (λw'=>w'.cell? ⟨g,98,none⟩=some (.slice na ns.length nc)/\w'.cell? ⟨g,41,none⟩=some (.int .i64 R.clock.nm)) 19 Zk ⟨c98,c41⟩ (λhS=>?_)
 have hd0:Below w.heap.size w w.drew:=(Below.refl _ _).drew
 have H1:=Zh (XC ns na nc R.clock.nm w.drew (HS.out.2.up hd0) hl)
 clear c98 c44 c46 c41 HS
 ((try simp only[ZL]);refine vT (fuel:=8) hS [0,1,2,3,4,5,6,7,8,9,10] ?_;simp only[Xy,Xr,List.toList_toArray];(repeat (first|go_big_quiet_skip|(go_big_quiet_want;first|(go_big_quiet_op;go_big_quiet_on)|(apply Exists.intro;refine⟨λw' hS'=>?_,?_⟩;(· (obtain⟨c98,c41⟩:=hS';go_simp;first|done|rfl|exact⟨rfl,rfl⟩));go_big_quiet_on;simp only[ZL]))));refine wpQuiet_nil ?_;(try dsimp only))
 (refine Xi 11 Zk (λK hK=>?_);simp only[Xr,List.toList_toArray])
 go_wp2_with fail
 refine H1.out.mono ?_
 rintro e w3 ⟨v,u,rfl,o1,o2,hb,f1,f2,f3⟩
 (generalize(ns.filter λn=>!DF R.clock.nm n)=fs at*;obtain⟨va,vc,rfl,_⟩:=Yq o1;have hb:Below w.heap.size w w3:=hd0.trans hb;have RBW:=HH.out.BV (F:=[]) (Ak.Ag hb) (λ_ _=>List.not_mem_nil);have HD:=Zh (RBW.gC (u:=⟨va,fs.length,vc⟩) o1 (λe=>by have:=f1 g e;have h2:w.heap.size<=g:=this;omega) (λb h1 h2=>by have h3:w.heap.size<=b:=f1 b h2;have:=HH.out.on.lt h1;omega) (λb h1 h2=>by have h3:w.heap.size<=b:=f1 b h1;have:=HH.out.os.lt h2;omega));have HF:Hid (∀b,(BA.v ⟨va,fs.length,vc⟩).ownBlock=some b->w.heap.size<=b):=Zh f1;have HB:=Zh hb;have c45:=RBW.bk.cell 45;have uZ:=RBW.bk.free 45;rw[show R.l.toArray[45]?=some R.An.v from by kernel_rfl] at c45;have c98:=AZ RBW.bk 98 _ (show _=some R.notes.v by kernel_rfl);have c44:=AZ RBW.bk 44 _ (show _=some R.seen.v by kernel_rfl);have c41:=AZ RBW.bk 41 _ (show _=some (.int .i64 R.clock.nm) by kernel_rfl);rw[HES.out.2] at c98;rw[HES.out.1] at c44)
 clear o1 o2 f1 f2 f3 hb RBW H1
 go_wp2_with fail
 refine hK.out _ _ (λ_=>⟨c98,c41⟩) ?_
 clear hK hS
 have hS:=And.intro c98 c41
 ((try simp only[ZL]);refine vT (fuel:=1) hS [12,13,14,15,16,17] ?_;simp only[Xy,Xr,List.toList_toArray];(repeat (first|go_big_quiet_skip|(go_big_quiet_want;first|(go_big_quiet_op;go_big_quiet_on)|(apply Exists.intro;refine⟨λw' hS'=>?_,?_⟩;(· (skip;go_simp;first|done|rfl|exact⟨rfl,rfl⟩));go_big_quiet_on;simp only[ZL]))));refine wpQuiet_nil ?_;(try dsimp only))
 (refine Xi 18 Zk (λK hK=>?_);simp only[Xr,List.toList_toArray])
 go_wp2_with fail
 refine hK.out _ _ (λ_=>⟨AZ HD.out.1.bk 98 _ (by rw[←HES.out.2];kernel_rfl),AZ HD.out.1.bk 41 _ Zk⟩) ?_
 clear hK hS c98 c44 c41 c45 uZ
 refine Ye Zk ?_ _
 (go_wp2_with fail;(refine(Hy _ g _ ns fs ss HD.out.1 ht HLH.out).mono ?_;intro e w5 hr;have HR:=Zh (KI HH.out HB.out HF.out HD.out.2 hr HM.out);have he0:=Zh hr.1;obtain rfl:=hr.1;clear hr;go_wp2_with fail;go_end0;exact HR.out))
theorem cV(w:World)(g:Nat)(R:Xb)(ns ds:List Xq)(ss:List Xe)(h:RB w g R ns ds ss)(ht:IJ R)(hl:ns.length<=100000)(hk:ss.length<=1000)(he:R.Aa=5):
  Calls Tryz.prog 97 #[.pointer (some ⟨g,0,none⟩)] w (Bs w g (Yf g R) (.tuple #[]) (MR.sift ⟨R,ns,ds,ss⟩)):=by
 (obtain⟨c41,c44,_,c46,c98⟩:=Gw h.bk;obtain⟨sa,sc,es,_⟩:=Yq h.os;obtain⟨na,nc,en,_⟩:=Yq h.on;have hsS:Sl w w.heap.size 5 sa ss.length (rows Xe.l ss):=Sl.DE (es▸h.os);have hsN:Sl w w.heap.size 7 na ns.length (rows Xq.l ns):=Sl.DE (en▸h.on);have HH:=Zh h;have hgl:=h.bk.lt;have HM:Hid (MR.sift ⟨R,ns,ds,ss⟩=MR.reap ⟨R,ns,ns.filter λn=>!ET (ss.map DY) n,ss⟩):=Zh (by unfold MR.sift MR.stays;simp only[he];rfl);have HLH:Hid ((ns.filter λn=>!ET (ss.map DY) n).length<=100000):=Zh (Nat.le_trans (List.length_filter_le _ _) hl);rw[he] at c46;rw[en] at c98;rw[es] at c44;have HS:=Zh (And.intro hsS hsN);have HES:=Zh (And.intro es en);clear h es en hsS hsN)
 go_enter Tryz.func97,Tryz.ntmps97
 go_upto_region 12 with(fail)
 refine X8 (λw'=>w'.cell? ⟨g,98,none⟩=some (.slice na ns.length nc)) 15 Zk c98 (λhS=>?_)
 have hd0:Below w.heap.size w w.drew:=(Below.refl _ _).drew
 have H0:=Zh (Mm w.drew g R ns ds ss (HH.out.BV (F:=[]) (Ak.Ag hd0) (λ_ _=>List.not_mem_nil)) hk)
 have hmz:(ss.map DY).length<=100000:=by simp;omega
 have HMZ:=Zh hmz
 generalize ss.map DY=sp at*
 clear c98 c44 c46 c41 hmz
 ((try simp only[ZL]);refine vT (fuel:=9) hS [0,1,2,3,4,5] ?_;simp only[Xy,Xr,List.toList_toArray];(repeat (first|go_big_quiet_skip|(go_big_quiet_want;first|(go_big_quiet_op;go_big_quiet_on)|(apply Exists.intro;refine⟨λw' hS'=>?_,?_⟩;(· (have c98:=hS';go_simp;first|done|rfl|exact⟨rfl,rfl⟩));go_big_quiet_on;simp only[ZL]))));refine wpQuiet_nil ?_;(try dsimp only))
 (refine Xi 6 Zk (λK hK=>?_);simp only[Xr,List.toList_toArray])
 go_wp2_with fail
 refine H0.out.mono ?_
 rintro e w2 ⟨v,rfl,os,hb0,fs0⟩
 obtain⟨pa,pc,rfl,_⟩:=Yq os
 have hd0:Below w.heap.size w w2:=hd0.trans hb0
 have hsp:Sl w2 w2.heap.size 3 pa sp.length (rows AJ.l sp):=Sl.DE os
 have H1:=Zh (cP ns na nc sp pa pc w2 (HS.out.2.up hd0) hl hsp HMZ.out)
 have hS2:w2.cell? ⟨g,98,none⟩=some (.slice na ns.length nc):=(AZ ((HH.out.BV (F:=[]) (Ak.Ag hd0) (λ_ _=>List.not_mem_nil)).bk) 98 _ (by rw[←HES.out.2];kernel_rfl))
 clear os hb0 fs0 hsp H0 HS
 go_wp2_with fail
 refine hK.out _ _ (λ_=>hS2) ?_
 clear hK hS
 have hS:=hS2
 (refine Xi 7 Zk (λK hK=>?_);simp only[Xr,List.toList_toArray])
 go_wp2_with fail
 refine H1.out.mono ?_
 rintro e w3 ⟨v,u,rfl,o1,o2,hb,f1,f2,f3⟩
 have hzz:=hd0.size
 have f1:∀b,v.ownBlock=some b->w.heap.size<=b:=λb h=>Nat.le_trans hzz (f1 b h)
 have hb:Below w.heap.size w2 w3:=hb.mono hzz
 (generalize(ns.filter λn=>!ET sp n)=fs at*;obtain⟨va,vc,rfl,_⟩:=Yq o1;have hb:Below w.heap.size w w3:=hd0.trans hb;have RBW:=HH.out.BV (F:=[]) (Ak.Ag hb) (λ_ _=>List.not_mem_nil);have HD:=Zh (RBW.gC (u:=⟨va,fs.length,vc⟩) o1 (λe=>by have:=f1 g e;have h2:w.heap.size<=g:=this;omega) (λb h1 h2=>by have h3:w.heap.size<=b:=f1 b h2;have:=HH.out.on.lt h1;omega) (λb h1 h2=>by have h3:w.heap.size<=b:=f1 b h1;have:=HH.out.os.lt h2;omega));have HF:Hid (∀b,(BA.v ⟨va,fs.length,vc⟩).ownBlock=some b->w.heap.size<=b):=Zh f1;have HB:=Zh hb;have c45:=RBW.bk.cell 45;have uZ:=RBW.bk.free 45;rw[show R.l.toArray[45]?=some R.An.v from by kernel_rfl] at c45;have c98:=AZ RBW.bk 98 _ (show _=some R.notes.v by kernel_rfl);have c44:=AZ RBW.bk 44 _ (show _=some R.seen.v by kernel_rfl);have c41:=AZ RBW.bk 41 _ (show _=some (.int .i64 R.clock.nm) by kernel_rfl);rw[HES.out.2] at c98;rw[HES.out.1] at c44)
 clear o1 o2 f1 f2 f3 hb RBW H1
 go_wp2_with fail
 refine hK.out _ _ (λ_=>c98) ?_
 clear hK hS
 have hS:=c98
 ((try simp only[ZL]);refine vT (fuel:=1) hS [8,9,10,11,12,13] ?_;simp only[Xy,Xr,List.toList_toArray];(repeat (first|go_big_quiet_skip|(go_big_quiet_want;first|(go_big_quiet_op;go_big_quiet_on)|(apply Exists.intro;refine⟨λw' hS'=>?_,?_⟩;(· (skip;go_simp;first|done|rfl|exact⟨rfl,rfl⟩));go_big_quiet_on;simp only[ZL]))));refine wpQuiet_nil ?_;(try dsimp only))
 (refine Xi 14 Zk (λK hK=>?_);simp only[Xr,List.toList_toArray])
 go_wp2_with fail
 refine hK.out _ _ (λ_=>AZ HD.out.1.bk 98 _ (by rw[←HES.out.2];kernel_rfl)) ?_
 clear hK hS c98 c44 c41 c45 uZ
 refine Ye Zk ?_ _
 (go_wp2_with fail;(refine(Hy _ g _ ns fs ss HD.out.1 ht HLH.out).mono ?_;intro e w5 hr;have HR:=Zh (KI HH.out HB.out HF.out HD.out.2 hr HM.out);have he0:=Zh hr.1;obtain rfl:=hr.1;clear hr;go_wp2_with fail;go_end0;exact HR.out))
def dK(R:Xb)(n:Int):Env:=Ik [R.ii,[n]] [R.bb] [R.seen.v,R.An.v,R.notes.v] (AE rfl)
def lK:St:=⟨[],[(1,171,(ct [vs 0 8,[.bool (.var 0)],vs 8 4,[.bool (.var 1)],vs 12 13,[.bool (.var 2)],vs 25 4,[.bool (.var 3)],vs 29 4,[.bool (.var 4)],vs 33 4,[.bool (.var 5),.int (.var 37),.AN 0,.AN 1],vs 38 8,[.bool (.var 6)],vs 46 4,[.bool (.var 7)],vs 50 4,[.bool (.var 8)],vs 54 4,[.bool (.var 9)],vs 58 4,[.bool (.var 10)],vs 62 4,[.bool (.var 11)],vs 66 4,[.bool (.var 12)],vs 70 4,[.bool (.var 13)],vs 74 4,[.bool (.var 14),.bool (.var 15),.int (.var 78),.int (.var 79),.AN 2],vs 80 5,[.bool (.var 16),.bool (.var 17)]]))],[(.le (.lit 0) (.var 85),true),(.lt (.var 85) (.lit 0),false),(.le (.lit 0) (.quo (.var 85) 9),true),(.lt (.quo (.var 85) 9) (.lit 6),true),(.lt (.rem (.var 85) 9) (.lit 0),false),(.le (.lit 9) (.rem (.var 85) 9),false)],10,0⟩
def Wg:List SV:=[.c (.ptr 1 0),.c (.int (.var 85))]
theorem dL(R:Xb)(n:Int)(g1:Nat)(w:World)(h1:Bk w g1 171 (R.l).toArray)(hn0:0<=n)(hq0:0<=IntKind.i64.wrap (Int.tdiv n 9))(hq1:IntKind.i64.wrap (Int.tdiv n 9)<6)(hr0:0<=Int.tmod n 9)(hr1:Int.tmod n 9<9)(ht:R.Af<=6):Calls Tryz.prog 96 #[.pointer (some ⟨g1,0,none⟩),.int .i64 n] w λen w'=>en=.returned (.bool (Xb.look R n).2)/\Bk w' g1 171 ((Xb.look R n).1.l).toArray/\Ak [g1] w w':=by
 refine p1 (dK R n) [] 120 lK Wg (Xb.look R n) (fun r=>(.bool r.2,(r.1.l).toArray)) Xu (BO (decide_eq_true hn0) (BO (decide_eq_false (Int.not_lt.mpr hn0)) (BO (decide_eq_true hq0) (BO (decide_eq_true hq1) (BO (decide_eq_false (Int.not_lt.mpr hr0)) (BO (decide_eq_false (Int.not_le.mpr hr1)) BY)))))) h1 ?_;have e6:¬ R.Af≤n→n < 6:=Zo;refine Dr (show _ = (bif R.A2 then (bif decide (wr (R.Af*9)≤n) then (R,false) else (Xb.load { R with index:=n } 13 ⟨0,0,wr (wr (25+wr (wr (Int.tdiv n 9)*9))+Int.tmod n 9)⟩,true)) else bif decide (R.Af≤n) then (R,false) else bif !decide (n < 6) then (R,false) else (Xb.load { R with index:=n } 13 ⟨0,0,wr (79+n)⟩,true)) by
  unfold Xb.look;by_cases h:R.Af<=n
  ·simp only[decide_eq_true h,cond_true]
  ·simp only[decide_eq_false h,decide_eq_true (e6 h),cond_false,Bool.not_true]) ?_
 exact vS9
def Wh(R:Xb)(n:Int):Env:=Ik [R.ii,[n]] [R.bb] [R.seen.v,R.An.v,R.notes.v] (AE rfl)
def dM:St:=⟨[],[(1,171,(ct [vs 0 8,[.bool (.var 0)],vs 8 4,[.bool (.var 1)],vs 12 13,[.bool (.var 2)],vs 25 4,[.bool (.var 3)],vs 29 4,[.bool (.var 4)],vs 33 4,[.bool (.var 5),.int (.var 37),.AN 0,.AN 1],vs 38 8,[.bool (.var 6)],vs 46 4,[.bool (.var 7)],vs 50 4,[.bool (.var 8)],vs 54 4,[.bool (.var 9)],vs 58 4,[.bool (.var 10)],vs 62 4,[.bool (.var 11)],vs 66 4,[.bool (.var 12)],vs 70 4,[.bool (.var 13)],vs 74 4,[.bool (.var 14),.bool (.var 15),.int (.var 78),.int (.var 79),.AN 2],vs 80 5,[.bool (.var 16),.bool (.var 17)]]))],[(.le (.mul (.var 40) (.lit 9)) (.var 85),true),(.le (.var 40) (.var 85),true)],10,0⟩
def TF:List SV:=[.c (.ptr 1 0),.c (.int (.var 85))]
theorem Wi(R:Xb)(n:Int)(g1:Nat)(w:World)(h1:Bk w g1 171 (R.l).toArray)(hn0:IntKind.i64.wrap (R.Af*9)<=n)(hn1:R.Af<=n):Calls Tryz.prog 96 #[.pointer (some ⟨g1,0,none⟩),.int .i64 n] w λen w'=>en=.returned (.bool ((R,false)).2)/\Bk w' g1 171 (((R,false)).1.l).toArray/\Ak [g1] w w':=by
 refine p1 (Wh R n) [] 120 dM TF ((R,false)) (λr=>(.bool r.2,(r.1.l).toArray)) Xu (BO (decide_eq_true hn0) (BO (decide_eq_true hn1) BY)) h1 ?_;exact vS9
theorem T4(w:World)(g:Nat)(R:Xb)(ns ds:List Xq)(ss:List Xe)(h:RB w g R ns ds ss)(ht:IJ R)(hl:ns.length<=100000)(hk:ss.length<=1000)(he:R.Aa=2\/R.Aa=3\/R.Aa=4\/R.Aa=5):
  Calls Tryz.prog 97 #[.pointer (some ⟨g,0,none⟩)] w (Bs w g (Yf g R) (.tuple #[]) (MR.sift ⟨R,ns,ds,ss⟩)):=by
 rcases he with he|he|he|he
 ·exact cY w g R ns ds ss h ht hl hk he
 ·exact cX w g R ns ds ss h ht hl hk he
 ·exact cW w g R ns ds ss h ht hl hk he
 ·exact cV w g R ns ds ss h ht hl hk he
theorem Nn(w:World)(g:Nat)(R:Xb)(ns ds:List Xq)(ss:List Xe)(x:Xj)(h:RB w g R ns ds ss)(ht:IJ R)(hl:ns.length<=100000)(hk:ss.length<=1000)(he:R.Aa=2\/R.Aa=3\/R.Aa=4\/R.Aa=5)(hs:R.step=15):
  Calls Tryz.prog 81 #[.pointer (some ⟨g,0,none⟩),.agg x.l.toArray] w (Bs w g (Yf g R) (.tuple #[]) (MR.Av ⟨R,ns,ds,ss⟩ x)):=by
 (have c18:=I8 h.bk;rw[hs] at c18;obtain⟨⟨x0,x1,x2,x3,x4⟩,x5⟩:=x;show Calls Tryz.prog 81 #[.pointer (some ⟨g,0,none⟩),.agg #[.int .i64 x0,.int .i64 x1,.int .i64 x2,.int .i64 x3,.bool x4,.bool x5]] w _;have HH:=Zh (h.BV (w':=(w.alloc (.cells #[.int .i64 x0,.int .i64 x1,.int .i64 x2,.int .i64 x3,.bool x4,.bool x5] 108))) (F:=[]) (Ak.Ag ((Below.refl _ _).alloc (Nat.le_refl _) _)) (λ_ _=>List.not_mem_nil));have HC:Hid (Ak [] w (w.alloc (.cells #[.int .i64 x0,.int .i64 x1,.int .i64 x2,.int .i64 x3,.bool x4,.bool x5] 108))):=Zh (Ak.Ag ((Below.refl _ _).alloc (Nat.le_refl _) _));have X0:Bk (w.alloc (.cells #[.int .i64 x0,.int .i64 x1,.int .i64 x2,.int .i64 x3,.bool x4,.bool x5] 108)) w.heap.size 108 #[.int .i64 x0,.int .i64 x1,.int .i64 x2,.int .i64 x3,.bool x4,.bool x5]:=Bk.at_ rfl;have hgl:=h.bk.lt;have H0:=Zh h;clear h)
 have HM:Hid (MR.Av ⟨R,ns,ds,ss⟩ ⟨⟨x0,x1,x2,x3,x4⟩,x5⟩=MR.sift ⟨{R with clock:=⟨x0,x1,x2,x3,x4⟩},ns,ds,ss⟩):=Zh (by unfold MR.Av;simp only[hs];rfl)
 go_enter Tryz.func81,Tryz.ntmps81
 go_wp2_with (refine Za Zr _ _ _ Zr g 38 _ Zr Zr _ _ ({R with clock:=⟨x0,x1,x2,x3,x4⟩}:Xb).l.toArray HH.out.bk (Nat.le_of_ble_eq_true Zk) Zk Zr Zk ?_;intro w2 hst)
 have hc2:Ak [g] (w.alloc (.cells #[.int .i64 x0,.int .i64 x1,.int .i64 x2,.int .i64 x3,.bool x4,.bool x5] 108)) w2:=Ak.Ar (b:=0) hst.grown (λb e=>by injection e with e;simp[e])
 refine(T4 w2 g {R with clock:=⟨x0,x1,x2,x3,x4⟩} ns ds ss (HH.out.Ap hst.bk hc2 rfl (Or.inl ⟨rfl,rfl⟩) (Or.inl ⟨rfl,rfl⟩)) ht hl hk he).mono ?_
 intro e w5 hr
 have HR:Hid (Bs w g (Yf g R) (.tuple #[]) (MR.Av ⟨R,ns,ds,ss⟩ ⟨⟨x0,x1,x2,x3,x4⟩,x5⟩) e w5):=Zh (by
  rw[HM.out];exact Bs.after ((HC.out.mono (λx hx=>by cases hx)).trans (Ib hc2 (Xn.2 (Or.inl rfl)))) (λx hx=>Or.inl hx) hr)
 obtain rfl:=hr.1
 clear hr hc2 hst HH HC H0
 go_wp2_with fail
 go_end0
 exact HR.out
theorem U5{v:Xq}:∀{l:List Xq} {k:Nat},l.findIdx? (λn=>n==v)=some k->k<l.length/\l.take k++l.drop (k+1)=l.erase v
 |[],k,h=>by simp at h
 |a::l,k,h=>by
  rw[List.findIdx?_cons] at h;cases ha:(a==v) with
  |true=>
   rw[ha] at h;simp at h;subst h;refine⟨by simp,?_⟩;rw[List.erase_cons,ha];simp
  |false=>
   rw[ha] at h;simp only[Bool.false_eq_true,if_false,Option.map_eq_some_iff] at h;obtain⟨j,hj,rfl⟩:=h;obtain⟨h1,h2⟩:=U5 hj;refine⟨by simpa using h1,?_⟩;rw[List.erase_cons,ha];simpa using h2
theorem WI{v:Xq}{l:List Xq}(h:v∈l):∃k:Nat,LJ v l=k/\k<l.length/\l.take k++l.drop (k+1)=l.erase v:=by
 unfold LJ;cases hf:l.findIdx? (λn=>n==v) with
 |none=>
  rw[List.findIdx?_eq_none_iff] at hf;have:=hf v h;simp at this
 |some k=>exact⟨k,rfl,U5 hf⟩
theorem Ue{w:World}{g off cap:Nat}{d:Xq}{r:List Xq}(h:Own w 201 7 (.slice (some ⟨g,off,none⟩) (d::r).length cap) (d::r).length (rows Xq.l (d::r))):
  Own w 201 7 (.slice (some ⟨g,if cap=1 then off else off+7,none⟩) r.length (cap-1)) r.length (rows Xq.l r):=by
 rcases h.2 with⟨h',_⟩|⟨g',off',cap',A,R,hv,hk,rfl,hn,hm,hs⟩
 ·cases h'
 ·cases hv;simp only[List.length_cons] at hn hs;have hl:(rows Xq.l (d::r)).length=(r.length+1)*7:=Y0 Ph _;have hl2:(rows Xq.l r).length=r.length*7:=Y0 Ph _;refine⟨hl2,.inr ?_⟩;by_cases hc:cap=1
  ·obtain rfl:r=[]:=List.eq_nil_of_length_eq_zero Zo;rw[if_pos hc];refine⟨g,A.length,cap-1,A,Xq.l d++R,rfl,?_,rfl,by simp,by omega,by subst hc;simp⟩;have e:rows Xq.l [d]=Xq.l d:=by simp[rows]
   rw[e] at hk;exact hk
  ·rw[if_neg hc];refine⟨g,A.length+7,cap-1,A++Xq.l d,R,rfl,?_,by rw[List.length_append,Ph],by omega,by omega,?_⟩
   ·rw[DC] at hk;have e:A++Xq.l d++(rows Xq.l r++R)=A++(Xq.l d++rows Xq.l r++R):=by simp only[List.append_assoc]
    rw[e];exact hk
   ·rw[hl2];rw[hl] at hs;rw[Nat.sub_mul];omega
theorem set99(R:Xb)(n:Int):R.l.toArray.setIfInBounds 99 (.int .i64 n)=({R with Be:=n}:Xb).l.toArray:=Zk
theorem RB.Be{w:World}{g:Nat}{R:Xb}{ns ds:List Xq}{ss:List Xe}(h:RB w g R ns ds ss)(n:Int):RB (w.setCell ⟨g,99,none⟩ (.int .i64 n)) g {R with Be:=n} ns ds ss/\Ak [g] w (w.setCell ⟨g,99,none⟩ (.int .i64 n)):=by
 have hg2:=Xs w g 99 (.int .i64 n);exact ⟨⟨by rw [← set99];exact h.bk.Eo 99 _,h.on.grown hg2 (Or.inr h.gn),h.od.grown hg2 (Or.inr h.gd),h.os.grown hg2 (Or.inr h.gs),h.gn,h.gd,h.gs,h.nd,h.ns,h.ds⟩,
  Ak.Ar (b:=0) hg2 λb e=>by injection e with e;simp[e]⟩
theorem sI(R:Xb)(ns r:List Xq)(d:Xq)(ss:List Xe)(x:Xj)(hs:R.step=16):MR.Av ⟨R,ns,d::r,ss⟩ x=MR.reap ⟨{R with Be:=wr (R.Be+1)},ns.erase d,r,ss⟩:=by
 unfold MR.Av;simp only[hs];rfl
theorem tM{w:World}{g:Nat}{R:Xb}(h:Bk w g 171 R.l.toArray):w.cell? ⟨g,99,none⟩=some (.int .i64 R.Be):=AZ h 99 _ Zk
theorem Nm(w:World)(g:Nat)(R:Xb)(ns r:List Xq)(d:Xq)(ss:List Xe)(x:Xj)(h:RB w g R ns (d::r) ss)(ht:IJ R)(hl:ns.length<=100000)(hl2:r.length<=90000)(hd:d∈ns)(hs:R.step=16):
  Calls Tryz.prog 81 #[.pointer (some ⟨g,0,none⟩),.agg x.l.toArray] w (Bs w g (Yf g R) (.tuple #[]) (MR.Av ⟨R,ns,d::r,ss⟩ x)):=by
 (have c18:=I8 h.bk;rw[hs] at c18;obtain⟨⟨x0,x1,x2,x3,x4⟩,x5⟩:=x;show Calls Tryz.prog 81 #[.pointer (some ⟨g,0,none⟩),.agg #[.int .i64 x0,.int .i64 x1,.int .i64 x2,.int .i64 x3,.bool x4,.bool x5]] w _;have HH:=Zh (h.BV (w':=(w.alloc (.cells #[.int .i64 x0,.int .i64 x1,.int .i64 x2,.int .i64 x3,.bool x4,.bool x5] 108))) (F:=[]) (Ak.Ag ((Below.refl _ _).alloc (Nat.le_refl _) _)) (λ_ _=>List.not_mem_nil));have HC:Hid (Ak [] w (w.alloc (.cells #[.int .i64 x0,.int .i64 x1,.int .i64 x2,.int .i64 x3,.bool x4,.bool x5] 108))):=Zh (Ak.Ag ((Below.refl _ _).alloc (Nat.le_refl _) _));have X0:Bk (w.alloc (.cells #[.int .i64 x0,.int .i64 x1,.int .i64 x2,.int .i64 x3,.bool x4,.bool x5] 108)) w.heap.size 108 #[.int .i64 x0,.int .i64 x1,.int .i64 x2,.int .i64 x3,.bool x4,.bool x5]:=Bk.at_ rfl;have hgl:=h.bk.lt;have H0:=Zh h;clear h)
 have HM:=Zh (sI R ns r d ss ⟨⟨x0,x1,x2,x3,x4⟩,x5⟩ hs)
 obtain⟨k,hka,hkl,hke⟩:=WI hd
 have HK:=Zh (And.intro hka hke)
 clear hka hke
 obtain⟨na,nc,en,_⟩:=Yq H0.out.on
 obtain⟨db,dof,dc,ed,hdc⟩:=Ds H0.out.od Zs
 go_enter Tryz.func81,Tryz.ntmps81
 go_upto_region 18 with(fail)
 have X1:=X0.drew
 have H1:Hid (RB (w.alloc (.cells #[.int .i64 x0,.int .i64 x1,.int .i64 x2,.int .i64 x3,.bool x4,.bool x5] 108)).drew g R ns (d::r) ss):=Zh (HH.out.BV (F:=[]) (Ak.Ag (Below.refl _ _).drew) (λ_ _=>List.not_mem_nil))
 have C1:Hid (Ak [] w (w.alloc (.cells #[.int .i64 x0,.int .i64 x1,.int .i64 x2,.int .i64 x3,.bool x4,.bool x5] 108)).drew):=Zh (HC.out.trans (Ak.Ag (Below.refl _ _).drew))
 have ho:=H1.out.od
 have hon:=H1.out.on
 rw[ed] at ho
 rw[en] at hon
 have hrg:=JJ Ph ho 0 Zs
 rw[Nat.zero_mul,Nat.add_zero] at hrg
 simp only[List.getElem_cons_zero] at hrg
 have ZJ:=N9 hrg
 have hsN:=Sl.DE hon
 have cc:=Gw H1.out.bk
 have c98:=cc.2.2.2.2
 have c45:=cc.2.2.1
 rw[en] at c98
 rw[ed] at c45
 simp only[List.length_cons] at c45 hdc
 have hn:¬(r.length+1=0):=Zo
 have H2:=Zh (Pk d na nc ns (w.alloc (.cells #[.int .i64 x0,.int .i64 x1,.int .i64 x2,.int .i64 x3,.bool x4,.bool x5] 108)).drew hsN hl)
 rw[HK.out.1] at H2
 clear cc hrg ho hon hsN HH HC X0 H0 c18
 refine X8 (λw'=>w'.cell? ⟨g,98,none⟩=some (.slice na ns.length nc)/\w'.cell? ⟨g,45,none⟩=some (.slice (some ⟨db,dof,none⟩) (r.length+1) dc)/\w'.cell? ⟨db,dof,none⟩=some (.int .i64 d.ref.sl)/\w'.cell? ⟨db,dof+1,none⟩=some (.int .i64 d.ref.gn)/\w'.cell? ⟨db,dof+2,none⟩=some (.int .i64 d.ref.tg)/\w'.cell? ⟨db,dof+3,none⟩=some (.int .i64 d.ref.nm)/\w'.cell? ⟨db,dof+4,none⟩=some (.bool d.ref.mark)/\w'.cell? ⟨db,dof+5,none⟩=some (.int .i64 d.A4)/\w'.cell? ⟨db,dof+6,none⟩=some (.int .i64 d.CS)) 12 Zk ⟨c98,c45,ZJ⟩ (λhS=>?_)
 clear c98 c45 ZJ
 generalize(w.alloc (.cells #[.int .i64 x0,.int .i64 x1,.int .i64 x2,.int .i64 x3,.bool x4,.bool x5] 108)).drew=w0 at*
 ((try simp only[ZL]);refine vT (fuel:=2) hS [0,1,2,3,4,5,6,7,8,9,10] ?_;simp only[Xy,Xr,List.toList_toArray];(repeat (first|go_big_quiet_skip|(go_big_quiet_want;first|(go_big_quiet_op;go_big_quiet_on)|(apply Exists.intro;refine⟨λw' hS'=>?_,?_⟩;(· (obtain⟨c98,c45,q0,q1,q2,q3,q4,q5,q6⟩:=hS';go_simp;first|done|rfl|exact⟨rfl,rfl⟩));go_big_quiet_on;simp only[ZL]))));refine wpQuiet_nil ?_;(try dsimp only))
 (refine Xi 11 Zk (λK hK=>?_);simp only[Xr,List.toList_toArray])
 go_wp2_with fail
 refine H2.out.mono ?_
 rintro e w1 ⟨rfl,hb1⟩
 have hB1:=Zh (H1.out.BV (F:=[]) (Ak.Ag hb1) (λ_ _=>List.not_mem_nil))
 have C2:=Zh (C1.out.trans (Ak.Ag hb1))
 clear H1 C1 X1 H2 hb1
 have e1:=Gw hB1.out.bk
 have c98:=e1.2.2.2.2
 have c45:=e1.2.2.1
 rw[en] at c98
 rw[ed] at c45
 simp only[List.length_cons] at c45
 have ho:=hB1.out.od
 rw[ed] at ho
 have hrg:=JJ Ph ho 0 Zs
 rw[Nat.zero_mul,Nat.add_zero] at hrg
 simp only[List.getElem_cons_zero] at hrg
 have ZJ:=N9 hrg
 clear e1 ho hrg
 go_wp2_with fail
 refine hK.out _ _ (λ_=>⟨c98,c45,ZJ⟩) ?_
 clear hK hS
 (refine Xi 12 Zk (λK hK=>?_);simp only[Xr,List.toList_toArray])
 go_wp2_with fail
 refine hK.out _ _ (λh=>absurd h Zo) ?_
 clear hK
 refine Ye Zk ?_ _
 clear c98 c45 ZJ
 have H3:=Zh (Ov w1 R.notes.v ns hB1.out.on hl k hkl)
 rw[en] at H3
 have c98:=AZ hB1.out.bk 98 _ (show _=some R.notes.v by kernel_rfl)
 rw[en] at c98
 have EN:=Zh en;have ED:=Zh ed
 clear en ed hd
 go_wp2_with fail
 refine H3.out.mono ?_
 rintro e w2 ⟨v',rfl,ho,hg,hf⟩
 rw[HK.out.2] at ho
 obtain⟨va,vc,rfl,_⟩:=Yq ho
 rw[←EN.out] at hg hf
 have b2:Bk w2 g 171 R.l.toArray:=hB1.out.bk.grown hg (λe=>hB1.out.gn e.symm)
 have HN:=Zh (hB1.out.notes (u:=⟨va,(ns.erase d).length,vc⟩) ho hg hf)
 have HF:=Zh hf
 have c98:=AZ b2 98 _ (show _=some R.notes.v by kernel_rfl)
 have c99:=tM b2
 have c45:=AZ b2 45 _ (show _=some R.An.v by kernel_rfl)
 rw[ED.out] at c45
 simp only[List.length_cons] at c45
 have f98:=b2.free 98
 have f99:=b2.free 99
 have uZ:=b2.free 45
 clear ho hg hf b2
 generalize(ns.erase d).length=nl at*
 go_wp2_with fail
 ·obtain rfl:dc=1:=by assumption
  (have F1:=HN.out.1.Be (wr (R.Be+1));have hod:=F1.1.od;rw[show({({R with notes:=⟨va,nl,vc⟩}:Xb) with Be:=wr (R.Be+1)}:Xb).An.v=_ from ED.out] at hod;have hot:=Ue hod;rw[if_pos rfl] at hot;have eb:R.An.v.ownBlock=some db:=(by rw[ED.out];rfl);have D1:=F1.1.gC (u:=⟨some ⟨db,dof,none⟩,r.length,1-1⟩) (ds':=r) hot (λe=>F1.1.gd (eb.trans e)) (λb h1 h2=>F1.1.nd b h1 (eb.trans h2)) (λb h1=>F1.1.ds b (eb.trans h1));have CC:Ak (Yf g R) w _:=((C2.out.mono (λx hx=>by cases hx)).trans HN.out.2).trans ((Ib F1.2 (Xn.2 (Or.inl rfl))).trans (Ib D1.2 (Xn.2 (Or.inl rfl))));rw[FU] at D1 CC;have hz:=C2.out.size;have HFF:=Zh (λ(x:Nat) (hx:x∈Yf g {({({R with notes:=⟨va,nl,vc⟩}:Xb) with Be:=wrap64 (R.Be+1)}:Xb) with An:=⟨some ⟨db,dof,none⟩,r.length,1-1⟩})=>show x∈Yf g R\/w.heap.size<=x from(by rcases Xn.1 hx with h1|h1|h1|h1;(· exact Or.inl (Xn.2 (Or.inl h1)));(· rcases HF.out x h1 with h2|h2;(· exact Or.inl (Xn.2 (Or.inr (Or.inl h2))));(· right;omega));(· exact Or.inl (Xn.2 (Or.inr (Or.inr (Or.inl (eb.trans h1))))));(· exact Or.inl (Xn.2 (Or.inr (Or.inr (Or.inr h1)))))));have HD:=Zh (And.intro D1.1 CC);clear F1 hod hot eb D1 CC hz c98 c99 c45 f98 f99 uZ;refine(Hy _ g _ (ns.erase d) r ss HD.out.1 ht Zo).mono ?_;intro e w5 hr;have hr2:Bs w g (Yf g R) (.tuple #[]) (MR.reap ⟨{R with Be:=wr (R.Be+1)},ns.erase d,r,ss⟩) e w5:=(by rw[FU];refine Bs.after HD.out.2 HFF.out ?_;cases r with|nil=>exact hr|cons d2 r2=>exact hr);rw[←HM.out] at hr2;obtain rfl:=hr2.1;have HR:=Zh hr2;clear hr hr2;go_wp2_with fail;go_end0;exact HR.out)
 ·(have F1:=HN.out.1.Be (wr (R.Be+1));have hod:=F1.1.od;rw[show({({R with notes:=⟨va,nl,vc⟩}:Xb) with Be:=wr (R.Be+1)}:Xb).An.v=_ from ED.out] at hod;have hot:=Ue hod;rw[if_neg (show ¬dc=1 by assumption)] at hot;have eb:R.An.v.ownBlock=some db:=(by rw[ED.out];rfl);have D1:=F1.1.gC (u:=⟨some ⟨db,dof+7,none⟩,r.length,dc-1⟩) (ds':=r) hot (λe=>F1.1.gd (eb.trans e)) (λb h1 h2=>F1.1.nd b h1 (eb.trans h2)) (λb h1=>F1.1.ds b (eb.trans h1));have CC:Ak (Yf g R) w _:=((C2.out.mono (λx hx=>by cases hx)).trans HN.out.2).trans ((Ib F1.2 (Xn.2 (Or.inl rfl))).trans (Ib D1.2 (Xn.2 (Or.inl rfl))));rw[FU] at D1 CC;have hz:=C2.out.size;have HFF:=Zh (λ(x:Nat) (hx:x∈Yf g {({({R with notes:=⟨va,nl,vc⟩}:Xb) with Be:=wrap64 (R.Be+1)}:Xb) with An:=⟨some ⟨db,dof+7,none⟩,r.length,dc-1⟩})=>show x∈Yf g R\/w.heap.size<=x from(by rcases Xn.1 hx with h1|h1|h1|h1;(· exact Or.inl (Xn.2 (Or.inl h1)));(· rcases HF.out x h1 with h2|h2;(· exact Or.inl (Xn.2 (Or.inr (Or.inl h2))));(· right;omega));(· exact Or.inl (Xn.2 (Or.inr (Or.inr (Or.inl (eb.trans h1))))));(· exact Or.inl (Xn.2 (Or.inr (Or.inr (Or.inr h1)))))));have HD:=Zh (And.intro D1.1 CC);clear F1 hod hot eb D1 CC hz c98 c99 c45 f98 f99 uZ;refine(Hy _ g _ (ns.erase d) r ss HD.out.1 ht Zo).mono ?_;intro e w5 hr;have hr2:Bs w g (Yf g R) (.tuple #[]) (MR.reap ⟨{R with Be:=wr (R.Be+1)},ns.erase d,r,ss⟩) e w5:=(by rw[FU];refine Bs.after HD.out.2 HFF.out ?_;cases r with|nil=>exact hr|cons d2 r2=>exact hr);rw[←HM.out] at hr2;obtain rfl:=hr2.1;have HR:=Zh hr2;clear hr hr2;go_wp2_with fail;go_end0;exact HR.out)
end Go.Proofs.YtaipogljokblkaaGreatDoor
