/- Core: RG, RH, CRk, RJ, RK. -/
import Derived.Test.YtaipogljokblkaaGreatDoorP18
set_option linter.all false
set_option maxRecDepth 100000
set_option maxHeartbeats 8000000
namespace Go.Proofs.YtaipogljokblkaaGreatDoor
open Go Go.RowKit
def J1(R:Xd)(u:B5):R.l.toArray.setIfInBounds 45 u.v=({R with Au:=u}:Xd).l.toArray:=Zk
def RB.qq{w:World}{g:Nat}{R:Xd}{ns ds ds':List Xw}{ss:List Xe}(h:RB w g R ns ds ss){u:B5}(d:Own w 201 7 u.v ds'.length (rows Xw.l ds'))
  (c:u.v.ownBlock≠some g)(f:∀b,R.notes.v.ownBlock=some b->u.v.ownBlock≠some b)(i:∀b,u.v.ownBlock=some b->R.seen.v.ownBlock≠some b):
  RB (w.setCell ⟨g,45,none⟩ u.v) g {R with Au:=u} ns ds' ss/\Aq [g] w (w.setCell ⟨g,45,none⟩ u.v):=by
 have a:=X2 w g 45 u.v
 exact ⟨⟨by rw [← J1];exact h.bk.Ez 45 u.v,h.on.grown a (db h.gn),d.grown a (db c),h.os.grown a (db h.gs),h.gn,c,h.gs,f,h.ns,i⟩,
  Aq.Ax (b:=0) a λb e=>by injection e with e;simp[e]⟩
def Vb{w w1 w2 a:World}{g:Nat}{R:Xd}{ns ds ds':List Xw}{ss:List Xe}{u:B5}{e:Ending}(h:RB w g R ns ds ss)(f:Below w.heap.size w w1)(i:∀b,u.v.ownBlock=some b->w.heap.size<=b)(j:Aq [g] w1 w2)
  (c:BI w2 g (Yn g {R with Au:=u}) (.tuple #[]) (MR.reap ⟨{R with Au:=u},ns,ds',ss⟩) e a)(k:MR.sift ⟨R,ns,ds,ss⟩=MR.reap ⟨R,ns,ds',ss⟩):BI w g (Yn g R) (.tuple #[]) (MR.sift ⟨R,ns,ds,ss⟩) e a:=by
 rw[k]
 have l:BI w2 g (Yn g {R with Au:=u}) (.tuple #[]) (MR.reap ⟨R,ns,ds',ss⟩) e a:=by
  cases ds' with
  |nil=>exact c
  |cons d r=>exact c
 refine BI.after ((Aq.Ai f).trans (I2 j (Xs.2 (fq rfl)))) (λx m=>?_) l
 rcases Xs.1 m with h2|h2|h2|h2
 ·exact fq (Xs.2 (fq h2))
 ·exact fq (Xs.2 (db (fq h2)))
 ·exact db (i x h2)
 ·exact fq (Xs.2 (d2 (db h2)))
def iG(w:World)(g:Nat)(R:Xd)(ns ds:List Xw)(ss:List Xe)(h:RB w g R ns ds ss)(Z:Jm R)(Q:ns.length<=100000)(hk:ss.length<=1000)(S:R.Aa=2):
  Kp 97 #[.pointer (some ⟨g,0,none⟩)] w (BI w g (Yn g R) (.tuple #[]) (MR.sift ⟨R,ns,ds,ss⟩)):=by
 obtain⟨_,a,_,k,c⟩:=II h.bk
 obtain⟨H,T,y,_⟩:=AN h.os
 obtain⟨I,U,z,_⟩:=AN h.on
 have m:Sl w w.heap.size 5 H ss.length (rows Xe.l ss):=Sl.IL (y▸h.os)
 have o:Sl w w.heap.size 7 I ns.length (rows Xw.l ns):=Sl.IL (z▸h.on)
 have B:=eR h
 have aa:=h.bk.lt
 have HM:Hid (MR.sift ⟨R,ns,ds,ss⟩=MR.reap ⟨R,ns,ns.filter λn=>!GQ ss n,ss⟩):=eR (by unfold MR.sift MR.stays;simp only[S];rfl)
 have V:(ns.filter λn=>!GQ ss n).length<=100000:=gb (jy _ _) Q
 have J:=eR V
 rw[S] at k
 rw[z] at c
 rw[y] at a
 have L:=eR (fy m o)
 have i:=eR (fy y z)
 clear h y z V m o
 go_enter Tryz.func97,Tryz.ntmps97
 go_upto_region 2 with(fail)
 refine Yh (λC=>C.cell? ⟨g,98,none⟩=some (.slice I ns.length U)/\C.cell? ⟨g,44,none⟩=some (.slice H ss.length T)) 18 Zk ⟨c,a⟩ (λp=>?_)
 have j:Below w.heap.size w w.drew:=(fx _ _).drew
 have W:=eR (iA ns I U ss H T w.drew (L.out.2.up j) Q (L.out.1.up j) Zo)
 clear c a k L
 ((try simp only[ZL]);refine vT (fuel:=8) p [0,1,2,3,4,5,6,7,8,9] ?_;simp only[Yb,Xv,fs];(repeat (first|go_big_quiet_skip|(go_big_quiet_want;first|(go_big_quiet_op;go_big_quiet_on)|(apply g7;refine⟨λC r=>?_,?_⟩;(· (obtain⟨c,a⟩:=r;go_simp;first|done|rfl|exact⟨rfl,rfl⟩));go_big_quiet_on;simp only[ZL]))));refine gw ?_;(try dsimp only))
 (refine Xn 10 Zk (λK s=>?_);simp only[Xv,fs])
 go_wp2_with fail
 refine W.out.mono ?_
 rintro e w3 ⟨v,u,rfl,M,o2,t,f1,f2,f3⟩
 (generalize(ns.filter λn=>!GQ ss n)=N at*;obtain⟨X,Y,rfl,_⟩:=AN M;have t:Below w.heap.size w w3:=j.trans t;have d:=B.out.CJ (F:=[]) (Aq.Ai t) (λ_ _=>ic);have D:=eR (d.qq (u:=⟨X,N.length,Y⟩) M (λe=>by have:=f1 g e;have E:w.heap.size<=g:=this;omega) (λb O E=>by have h3:w.heap.size<=b:=f1 b E;have:=B.out.on.lt O;omega) (λb O E=>by have h3:w.heap.size<=b:=f1 b O;have:=B.out.os.lt E;omega));have HF:Hid (∀b,(B5.v ⟨X,N.length,Y⟩).ownBlock=some b->w.heap.size<=b):=eR f1;have HB:=eR t;have x:=d.bk.cell 45;have zh:=d.bk.free 45;rw[show R.l.toArray[45]?=some R.Au.v from Zk] at x;have c:=Cf d.bk 98 _ (show _=some R.notes.v by kernel_rfl);have a:=Cf d.bk 44 _ (show _=some R.seen.v by kernel_rfl);have P:=Cf d.bk 41 _ (show _=some (.int .i64 R.clock.nm) by kernel_rfl);rw[i.out.2] at c;rw[i.out.1] at a)
 clear M o2 f1 f2 f3 t d W
 go_wp2_with fail
 refine s.out _ _ (λ_=>⟨c,a⟩) ?_
 clear s p
 have p:=fy c a
 ((try simp only[ZL]);refine vT (fuel:=1) p [11,12,13,14,15,16] ?_;simp only[Yb,Xv,fs];(repeat (first|go_big_quiet_skip|(go_big_quiet_want;first|(go_big_quiet_op;go_big_quiet_on)|(apply g7;refine⟨λC r=>?_,?_⟩;(· (skip;go_simp;first|done|rfl|exact⟨rfl,rfl⟩));go_big_quiet_on;simp only[ZL]))));refine gw ?_;(try dsimp only))
 (refine Xn 17 Zk (λK s=>?_);simp only[Xv,fs])
 go_wp2_with fail
 refine s.out _ _ (λ_=>⟨Cf D.out.1.bk 98 _ (by rw[←i.out.2];kernel_rfl),Cf D.out.1.bk 44 _ (by rw[←i.out.1];kernel_rfl)⟩) ?_
 clear s p c a P x zh
 refine Yk Zk ?_ _
 (go_wp2_with fail;(refine(Ly _ g _ ns N ss D.out.1 Z J.out).mono ?_;intro e w5 G;have HR:=eR (Vb B.out HB.out HF.out D.out.2 G HM.out);have ab:=eR G.1;obtain rfl:=G.1;clear G;go_wp2_with fail;go_end0;exact HR.out))
def iF(w:World)(g:Nat)(R:Xd)(ns ds:List Xw)(ss:List Xe)(h:RB w g R ns ds ss)(W:Jm R)(O:ns.length<=100000)(hk:ss.length<=1000)(P:R.Aa=4):
  Kp 97 #[.pointer (some ⟨g,0,none⟩)] w (BI w g (Yn g R) (.tuple #[]) (MR.sift ⟨R,ns,ds,ss⟩)):=by
 (obtain⟨c,i,_,k,a⟩:=II h.bk;obtain⟨X,sc,z,_⟩:=AN h.os;obtain⟨I,Q,B,_⟩:=AN h.on;have m:Sl w w.heap.size 5 X ss.length (rows Xe.l ss):=Sl.IL (z▸h.os);have o:Sl w w.heap.size 7 I ns.length (rows Xw.l ns):=Sl.IL (B▸h.on);have C:=eR h;have Y:=h.bk.lt;have Z:Hid (MR.sift ⟨R,ns,ds,ss⟩=MR.reap ⟨R,ns,ns.filter λn=>!Cn R.clock.nm n,ss⟩):=eR (by unfold MR.sift MR.stays;simp only[P];rfl);have J:Hid ((ns.filter λn=>!Cn R.clock.nm n).length<=100000):=eR (gb (jy _ _) O);rw[P] at k;rw[B] at a;rw[z] at i;have S:=eR (fy m o);have j:=eR (fy z B);clear h z B m o)
 go_enter Tryz.func97,Tryz.ntmps97
 go_upto_region 14 with(fail)
 refine Yh (λD=>D.cell? ⟨g,98,none⟩=some (.slice I ns.length Q)/\D.cell? ⟨g,41,none⟩=some (.int .i64 R.clock.nm)) 19 Zk ⟨a,c⟩ (λp=>?_)
 have q:Below w.heap.size w w.drew:=(fx _ _).drew
 have T:=eR (aS ns I Q R.clock.nm w.drew (S.out.2.up q) O)
 clear a i k c S
 ((try simp only[ZL]);refine vT (fuel:=8) p [0,1,2,3,4,5,6,7,8,9,10] ?_;simp only[Yb,Xv,fs];(repeat (first|go_big_quiet_skip|(go_big_quiet_want;first|(go_big_quiet_op;go_big_quiet_on)|(apply g7;refine⟨λD s=>?_,?_⟩;(· (obtain⟨a,c⟩:=s;go_simp;first|done|rfl|exact⟨rfl,rfl⟩));go_big_quiet_on;simp only[ZL]))));refine gw ?_;(try dsimp only))
 (refine Xn 11 Zk (λK t=>?_);simp only[Xv,fs])
 go_wp2_with fail
 refine T.out.mono ?_
 rintro e w3 ⟨v,u,rfl,L,o2,x,f1,f2,f3⟩
 (generalize(ns.filter λn=>!Cn R.clock.nm n)=M at*;obtain⟨U,V,rfl,_⟩:=AN L;have x:Below w.heap.size w w3:=q.trans x;have d:=C.out.CJ (F:=[]) (Aq.Ai x) (λ_ _=>ic);have E:=eR (d.qq (u:=⟨U,M.length,V⟩) L (λe=>by have:=f1 g e;have G:w.heap.size<=g:=this;omega) (λb N G=>by have h3:w.heap.size<=b:=f1 b G;have:=C.out.on.lt N;omega) (λb N G=>by have h3:w.heap.size<=b:=f1 b N;have:=C.out.os.lt G;omega));have HF:Hid (∀b,(B5.v ⟨U,M.length,V⟩).ownBlock=some b->w.heap.size<=b):=eR f1;have HB:=eR x;have y:=d.bk.cell 45;have zh:=d.bk.free 45;rw[show R.l.toArray[45]?=some R.Au.v from Zk] at y;have a:=Cf d.bk 98 _ (show _=some R.notes.v by kernel_rfl);have i:=Cf d.bk 44 _ (show _=some R.seen.v by kernel_rfl);have c:=Cf d.bk 41 _ (show _=some (.int .i64 R.clock.nm) by kernel_rfl);rw[j.out.2] at a;rw[j.out.1] at i)
 clear L o2 f1 f2 f3 x d T
 go_wp2_with fail
 refine t.out _ _ (λ_=>⟨a,c⟩) ?_
 clear t p
 have p:=fy a c
 ((try simp only[ZL]);refine vT (fuel:=1) p [12,13,14,15,16,17] ?_;simp only[Yb,Xv,fs];(repeat (first|go_big_quiet_skip|(go_big_quiet_want;first|(go_big_quiet_op;go_big_quiet_on)|(apply g7;refine⟨λD s=>?_,?_⟩;(· (skip;go_simp;first|done|rfl|exact⟨rfl,rfl⟩));go_big_quiet_on;simp only[ZL]))));refine gw ?_;(try dsimp only))
 (refine Xn 18 Zk (λK t=>?_);simp only[Xv,fs])
 go_wp2_with fail
 refine t.out _ _ (λ_=>⟨Cf E.out.1.bk 98 _ (by rw[←j.out.2];kernel_rfl),Cf E.out.1.bk 41 _ Zk⟩) ?_
 clear t p a i c y zh
 refine Yk Zk ?_ _
 (go_wp2_with fail;(refine(Ly _ g _ ns M ss E.out.1 W J.out).mono ?_;intro e w5 H;have HR:=eR (Vb C.out HB.out HF.out E.out.2 H Z.out);have aa:=eR H.1;obtain rfl:=H.1;clear H;go_wp2_with fail;go_end0;exact HR.out))
def iS(R:Xd)(n:Int):Env:=IA [R.ii,[n]] [R.bb] [R.seen.v,R.Au.v,R.notes.v] (AS rfl)
def qL:St:=⟨[],[(1,171,(ct [vs 0 8,[.bV 0],vs 8 4,[.bV 1],vs 12 13,[.bV 2],vs 25 4,[.bV 3],vs 29 4,[.bV 4],vs 33 4,[.bV 5,.iV 37,.Ba 0,.Ba 1],vs 38 8,[.bV 6],vs 46 4,[.bV 7],vs 50 4,[.bV 8],vs 54 4,[.bV 9],vs 58 4,[.bV 10],vs 62 4,[.bV 11],vs 66 4,[.bV 12],vs 70 4,[.bV 13],vs 74 4,[.bV 14,.bV 15,.iV 78,.iV 79,.Ba 2],vs 80 5,[.bV 16,.bV 17]]))],[(.le (.lit 0) (.var 85),true),(.lt (.var 85) (.lit 0),false),(.le (.lit 0) (.quo (.var 85) 9),true),(.lt (.quo (.var 85) 9) (.lit 6),true),(.lt (.rem (.var 85) 9) (.lit 0),false),(.le (.lit 9) (.rem (.var 85) 9),false)],10,0⟩
def Zz:List SV:=[.c (.ptr 1 0),.c (.iV 85)]
def iT(R:Xd)(n:Int)(b:Nat)(w:World)(i:Bk w b 171 (R.l).toArray)(a:0<=n)(c:0<=IntKind.i64.wrap (Int.tdiv n 9))(d:IntKind.i64.wrap (Int.tdiv n 9)<6)(e:0<=Int.tmod n 9)(g:Int.tmod n 9<9)(m:R.Ae<=6):Kp 96 #[.pointer (some ⟨b,0,none⟩),.int .i64 n] w λj w'=>j=.returned (.bool (Xd.look R n).2)/\Bk w' b 171 ((Xd.look R n).1.l).toArray/\Aq [b] w w':=by
 refine p1 (iS R n) [] 120 qL Zz (Xd.look R n) (fun r=>(.bool r.2,(r.1.l).toArray)) X6 (Cp (g5 a) (Cp (gz (ju.mpr a)) (Cp (g5 c) (Cp (g5 d) (Cp (gz (ju.mpr e)) (Cp (gz (Int.not_le.mpr g)) CF)))))) i ?_;have k:¬ R.Ae≤n→n < 6:=Zo;refine Ed (show _ = (bif R.AO then (bif decide (wr (R.Ae*9)≤n) then (R,false) else (Xd.load { R with index:=n } 13 ⟨0,0,wr (wr (25+wr (wr (Int.tdiv n 9)*9))+Int.tmod n 9)⟩,true)) else bif decide (R.Ae≤n) then (R,false) else bif !decide (n < 6) then (R,false) else (Xd.load { R with index:=n } 13 ⟨0,0,wr (79+n)⟩,true)) by
  unfold Xd.look;by_cases h:R.Ae<=n
  ·simp only[g5 h,i9]
  ·simp only[gz h,g5 (k h),gx,iv]) ?_
 exact vS9
def Z0(R:Xd)(n:Int):Env:=IA [R.ii,[n]] [R.bb] [R.seen.v,R.Au.v,R.notes.v] (AS rfl)
def iU:St:=⟨[],[(1,171,(ct [vs 0 8,[.bV 0],vs 8 4,[.bV 1],vs 12 13,[.bV 2],vs 25 4,[.bV 3],vs 29 4,[.bV 4],vs 33 4,[.bV 5,.iV 37,.Ba 0,.Ba 1],vs 38 8,[.bV 6],vs 46 4,[.bV 7],vs 50 4,[.bV 8],vs 54 4,[.bV 9],vs 58 4,[.bV 10],vs 62 4,[.bV 11],vs 66 4,[.bV 12],vs 70 4,[.bV 13],vs 74 4,[.bV 14,.bV 15,.iV 78,.iV 79,.Ba 2],vs 80 5,[.bV 16,.bV 17]]))],[(.le (.mul (.var 40) (.lit 9)) (.var 85),true),(.le (.var 40) (.var 85),true)],10,0⟩
def Vl:List SV:=[.c (.ptr 1 0),.c (.iV 85)]
def Z1(R:Xd)(n:Int)(a:Nat)(w:World)(d:Bk w a 171 (R.l).toArray)(b:IntKind.i64.wrap (R.Ae*9)<=n)(c:R.Ae<=n):Kp 96 #[.pointer (some ⟨a,0,none⟩),.int .i64 n] w λe w'=>e=.returned (.bool ((R,false)).2)/\Bk w' a 171 (((R,false)).1.l).toArray/\Aq [a] w w':=by
 refine p1 (Z0 R n) [] 120 iU Vl ((R,false)) (λr=>(.bool r.2,(r.1.l).toArray)) X6 (Cp (g5 b) (Cp (g5 c) CF)) d ?_;exact vS9
def Vc(w:World)(g:Nat)(R:Xd)(ns ds:List Xw)(ss:List Xe)(h:RB w g R ns ds ss)(a:Jm R)(b:ns.length<=100000)(c:ss.length<=1000)(he:R.Aa=2\/R.Aa=4):
  Kp 97 #[.pointer (some ⟨g,0,none⟩)] w (BI w g (Yn g R) (.tuple #[]) (MR.sift ⟨R,ns,ds,ss⟩)):=by
 rcases he with he|he
 ·exact iG w g R ns ds ss h a b c he
 ·exact iF w g R ns ds ss h a b c he
def Om(w:World)(g:Nat)(R:Xd)(ns ds:List Xw)(ss:List Xe)(x:Xr)(h:RB w g R ns ds ss)(y:Jm R)(z:ns.length<=100000)(B:ss.length<=1000)(C:R.Aa=2\/R.Aa=4)(s:R.step=15):
  Kp 81 #[.pointer (some ⟨g,0,none⟩),.agg x.l.toArray] w (BI w g (Yn g R) (.tuple #[]) (MR.Ah ⟨R,ns,ds,ss⟩ x)):=by
 (have o:=IV h.bk;rw[s] at o;obtain⟨⟨a,c,d,i,j⟩,k⟩:=x;show Kp 81 #[.pointer (some ⟨g,0,none⟩),.agg #[.int .i64 a,.int .i64 c,.int .i64 d,.int .i64 i,.bool j,.bool k]] w _;have p:=eR (h.CJ (w':=(w.alloc (.cells #[.int .i64 a,.int .i64 c,.int .i64 d,.int .i64 i,.bool j,.bool k] 108))) (F:=[]) (Aq.Ai ((fx _ _).alloc (Nat.le_refl _) _)) (λ_ _=>ic));have u:Hid (Aq [] w (w.alloc (.cells #[.int .i64 a,.int .i64 c,.int .i64 d,.int .i64 i,.bool j,.bool k] 108))):=eR (Aq.Ai ((fx _ _).alloc (Nat.le_refl _) _));have K:Bk (w.alloc (.cells #[.int .i64 a,.int .i64 c,.int .i64 d,.int .i64 i,.bool j,.bool k] 108)) w.heap.size 108 #[.int .i64 a,.int .i64 c,.int .i64 d,.int .i64 i,.bool j,.bool k]:=Bk.at_ rfl;have D:=h.bk.lt;have E:=eR h;clear h)
 have G:Hid (MR.Ah ⟨R,ns,ds,ss⟩ ⟨⟨a,c,d,i,j⟩,k⟩=MR.sift ⟨{R with clock:=⟨a,c,d,i,j⟩},ns,ds,ss⟩):=eR (by unfold MR.Ah;simp only[s];rfl)
 go_enter Tryz.func81,Tryz.ntmps81
 go_wp2_with (refine Y2 Zr _ _ _ Zr g 38 _ Zr Zr _ _ ({R with clock:=⟨a,c,d,i,j⟩}:Xd).l.toArray p.out.bk (j6 Zk) Zk Zr Zk ?_;intro v m)
 have n:Aq [g] (w.alloc (.cells #[.int .i64 a,.int .i64 c,.int .i64 d,.int .i64 i,.bool j,.bool k] 108)) v:=Aq.Ax (b:=0) m.grown (λb e=>by injection e with e;simp[e])
 refine(Vc v g {R with clock:=⟨a,c,d,i,j⟩} ns ds ss (p.out.Ar m.bk n rfl (fq ⟨rfl,rfl⟩) (fq ⟨rfl,rfl⟩)) y z B C).mono ?_
 intro e H q
 have I:Hid (BI w g (Yn g R) (.tuple #[]) (MR.Ah ⟨R,ns,ds,ss⟩ ⟨⟨a,c,d,i,j⟩,k⟩) e H):=eR (by
  rw[G.out];exact BI.after ((u.out.mono (λx r=>by cases r)).trans (I2 n (Xs.2 (fq rfl)))) (λx r=>fq r) q)
 obtain rfl:=q.1
 clear q n m p u E
 go_wp2_with fail
 go_end0
 exact I.out
def Wj{v:Xw}:∀{l:List Xw} {k:Nat},l.findIdx? (λn=>n==v)=some k->k<l.length/\l.take k++l.drop (k+1)=l.erase v
 |[],k,h=>by simp at h
 |a::l,k,h=>by
  rw[List.findIdx?_cons] at h;cases ha:(a==v) with
  |true=>
   rw[ha] at h;simp at h;subst h;refine⟨by simp,?_⟩;rw[List.erase_cons,ha];simp
  |false=>
   rw[ha] at h;simp only[im,jx,my] at h;obtain⟨j,b,rfl⟩:=h;obtain⟨c,d⟩:=Wj b;refine⟨by simpa using c,?_⟩;rw[List.erase_cons,ha];simpa using d
def ZY{v:Xw}{l:List Xw}(h:v∈l):∃k:Nat,MH v l=k/\k<l.length/\l.take k++l.drop (k+1)=l.erase v:=by
 unfold MH;cases a:l.findIdx? (λn=>n==v) with
 |none=>
  rw[List.findIdx?_eq_none_iff] at a;have:=a v h;simp at this
 |some k=>exact⟨k,rfl,Wj a⟩
def VD{w:World}{g b a:Nat}{d:Xw}{r:List Xw}(h:Own w 201 7 (.slice (some ⟨g,b,none⟩) (d::r).length a) (d::r).length (rows Xw.l (d::r))):
  Own w 201 7 (.slice (some ⟨g,if a=1 then b else b+7,none⟩) r.length (a-1)) r.length (rows Xw.l r):=by
 rcases h.2 with⟨n,_⟩|⟨s,j,k,A,R,o,f,rfl,p,u,m⟩
 ·cases n
 ·cases o;simp only[jb] at p m;have q:(rows Xw.l (d::r)).length=(r.length+1)*7:=Zb Q6 _;have c:(rows Xw.l r).length=r.length*7:=Zb Q6 _;refine⟨c,.inr ?_⟩;by_cases i:a=1
  ·obtain rfl:r=[]:=jr Zo;rw[ga i];refine⟨g,A.length,a-1,A,Xw.l d++R,rfl,?_,rfl,by simp,Zo,by subst i;simp⟩;have e:rows Xw.l [d]=Xw.l d:=by simp[rows]
   rw[e] at f;exact f
  ·rw[fw i];refine⟨g,A.length+7,a-1,A++Xw.l d,R,rfl,?_,by rw[iu,Q6],Zo,Zo,?_⟩
   ·rw[E9] at f;have e:A++Xw.l d++(rows Xw.l r++R)=A++(Xw.l d++rows Xw.l r++R):=by simp only[jz]
    rw[e];exact f
   ·rw[c];rw[q] at m;rw[Nat.sub_mul];omega
def F5(R:Xd)(n:Int):R.l.toArray.setIfInBounds 99 (.int .i64 n)=({R with A7:=n}:Xd).l.toArray:=Zk
def RB.A7{w:World}{g:Nat}{R:Xd}{ns ds:List Xw}{ss:List Xe}(h:RB w g R ns ds ss)(n:Int):RB (w.setCell ⟨g,99,none⟩ (.int .i64 n)) g {R with A7:=n} ns ds ss/\Aq [g] w (w.setCell ⟨g,99,none⟩ (.int .i64 n)):=by
 have a:=X2 w g 99 (.int .i64 n);exact ⟨⟨by rw [← F5];exact h.bk.Ez 99 _,h.on.grown a (db h.gn),h.od.grown a (db h.gd),h.os.grown a (db h.gs),h.gn,h.gd,h.gs,h.nd,h.ns,h.ds⟩,
  Aq.Ax (b:=0) a λb e=>by injection e with e;simp[e]⟩
def xG(R:Xd)(ns r:List Xw)(d:Xw)(ss:List Xe)(x:Xr)(a:R.step=16):MR.Ah ⟨R,ns,d::r,ss⟩ x=MR.reap ⟨{R with A7:=wr (R.A7+1)},ns.erase d,r,ss⟩:=by
 unfold MR.Ah;simp only[a];rfl
def yO{w:World}{g:Nat}{R:Xd}(h:Bk w g 171 R.l.toArray):w.cell? ⟨g,99,none⟩=some (.int .i64 R.A7):=Cf h 99 _ Zk
def Ol(w:World)(g:Nat)(R:Xd)(ns r:List Xw)(d:Xw)(ss:List Xe)(x:Xr)(h:RB w g R ns (d::r) ss)(ht:Jm R)(hl:ns.length<=100000)(ai:r.length<=90000)(hd:d∈ns)(hs:R.step=16):
  Kp 81 #[.pointer (some ⟨g,0,none⟩),.agg x.l.toArray] w (BI w g (Yn g R) (.tuple #[]) (MR.Ah ⟨R,ns,d::r,ss⟩ x)):=by
 (have V:=IV h.bk;rw[hs] at V;obtain⟨⟨C,D,E,G,H⟩,I⟩:=x;show Kp 81 #[.pointer (some ⟨g,0,none⟩),.agg #[.int .i64 C,.int .i64 D,.int .i64 E,.int .i64 G,.bool H,.bool I]] w _;have HH:=eR (h.CJ (w':=(w.alloc (.cells #[.int .i64 C,.int .i64 D,.int .i64 E,.int .i64 G,.bool H,.bool I] 108))) (F:=[]) (Aq.Ai ((fx _ _).alloc (Nat.le_refl _) _)) (λ_ _=>ic));have HC:Hid (Aq [] w (w.alloc (.cells #[.int .i64 C,.int .i64 D,.int .i64 E,.int .i64 G,.bool H,.bool I] 108))):=eR (Aq.Ai ((fx _ _).alloc (Nat.le_refl _) _));have X0:Bk (w.alloc (.cells #[.int .i64 C,.int .i64 D,.int .i64 E,.int .i64 G,.bool H,.bool I] 108)) w.heap.size 108 #[.int .i64 C,.int .i64 D,.int .i64 E,.int .i64 G,.bool H,.bool I]:=Bk.at_ rfl;have aj:=h.bk.lt;have H0:=eR h;clear h)
 have HM:=eR (xG R ns r d ss ⟨⟨C,D,E,G,H⟩,I⟩ hs)
 obtain⟨k,W,ad,X⟩:=ZY hd
 have HK:=eR (fy W X)
 clear W X
 obtain⟨na,nc,L,_⟩:=AN H0.out.on
 obtain⟨s,i,Y,U,ae⟩:=Fa H0.out.od Zs
 go_enter Tryz.func81,Tryz.ntmps81
 go_upto_region 18 with(fail)
 have X1:=X0.drew
 have Z:Hid (RB (w.alloc (.cells #[.int .i64 C,.int .i64 D,.int .i64 E,.int .i64 G,.bool H,.bool I] 108)).drew g R ns (d::r) ss):=eR (HH.out.CJ (F:=[]) (Aq.Ai (fx _ _).drew) (λ_ _=>ic))
 have C1:Hid (Aq [] w (w.alloc (.cells #[.int .i64 C,.int .i64 D,.int .i64 E,.int .i64 G,.bool H,.bool I] 108)).drew):=eR (HC.out.trans (Aq.Ai (fx _ _).drew))
 have y:=Z.out.od
 have M:=Z.out.on
 rw[U] at y
 rw[L] at M
 have j:=NP Q6 y 0 Zs
 rw[ov,l9] at j
 simp only[nf] at j
 have WY:=OE j
 have aa:=Sl.IL M
 have cc:=II Z.out.bk
 have c:=cc.2.2.2.2
 have a:=cc.2.2.1
 rw[L] at c
 rw[U] at a
 simp only[jb] at a ae
 have hn:¬(r.length+1=0):=Zo
 have H2:=eR (QB d na nc ns (w.alloc (.cells #[.int .i64 C,.int .i64 D,.int .i64 E,.int .i64 G,.bool H,.bool I] 108)).drew aa hl)
 rw[HK.out.1] at H2
 clear cc j y M aa HH HC X0 H0 V
 refine Yh (λz=>z.cell? ⟨g,98,none⟩=some (.slice na ns.length nc)/\z.cell? ⟨g,45,none⟩=some (.slice (some ⟨s,i,none⟩) (r.length+1) Y)/\z.cell? ⟨s,i,none⟩=some (.int .i64 d.ref.sl)/\z.cell? ⟨s,i+1,none⟩=some (.int .i64 d.ref.gn)/\z.cell? ⟨s,i+2,none⟩=some (.int .i64 d.ref.tg)/\z.cell? ⟨s,i+3,none⟩=some (.int .i64 d.ref.nm)/\z.cell? ⟨s,i+4,none⟩=some (.bool d.ref.mark)/\z.cell? ⟨s,i+5,none⟩=some (.int .i64 d.A9)/\z.cell? ⟨s,i+6,none⟩=some (.int .i64 d.AF)) 12 Zk ⟨c,a,WY⟩ (λhS=>?_)
 clear c a WY
 generalize(w.alloc (.cells #[.int .i64 C,.int .i64 D,.int .i64 E,.int .i64 G,.bool H,.bool I] 108)).drew=w0 at*
 ((try simp only[ZL]);refine vT (fuel:=2) hS [0,1,2,3,4,5,6,7,8,9,10] ?_;simp only[Yb,Xv,fs];(repeat (first|go_big_quiet_skip|(go_big_quiet_want;first|(go_big_quiet_op;go_big_quiet_on)|(apply g7;refine⟨λz af=>?_,?_⟩;(· (obtain⟨c,a,q0,q1,q2,q3,q4,q5,q6⟩:=af;go_simp;first|done|rfl|exact⟨rfl,rfl⟩));go_big_quiet_on;simp only[ZL]))));refine gw ?_;(try dsimp only))
 (refine Xn 11 Zk (λK hK=>?_);simp only[Xv,fs])
 go_wp2_with fail
 refine H2.out.mono ?_
 rintro e w1 ⟨rfl,N⟩
 have n:=eR (Z.out.CJ (F:=[]) (Aq.Ai N) (λ_ _=>ic))
 have C2:=eR (C1.out.trans (Aq.Ai N))
 clear Z C1 X1 H2 N
 have e1:=II n.out.bk
 have c:=e1.2.2.2.2
 have a:=e1.2.2.1
 rw[L] at c
 rw[U] at a
 simp only[jb] at a
 have y:=n.out.od
 rw[U] at y
 have j:=NP Q6 y 0 Zs
 rw[ov,l9] at j
 simp only[nf] at j
 have WY:=OE j
 clear e1 y j
 go_wp2_with fail
 refine hK.out _ _ (λ_=>⟨c,a,WY⟩) ?_
 clear hK hS
 (refine Xn 12 Zk (λK hK=>?_);simp only[Xv,fs])
 go_wp2_with fail
 refine hK.out _ _ (λh=>absurd h Zo) ?_
 clear hK
 refine Yk Zk ?_ _
 clear c a WY
 have H3:=eR (PA w1 R.notes.v ns n.out.on hl k ad)
 rw[L] at H3
 have c:=Cf n.out.bk 98 _ (show _=some R.notes.v by kernel_rfl)
 rw[L] at c
 have EN:=eR L;have ED:=eR U
 clear L U hd
 go_wp2_with fail
 refine H3.out.mono ?_
 rintro e w2 ⟨v',rfl,y,hg,hf⟩
 rw[HK.out.2] at y
 obtain⟨va,vc,rfl,_⟩:=AN y
 rw[←EN.out] at hg hf
 have O:Bk w2 g 171 R.l.toArray:=n.out.bk.grown hg (λe=>n.out.gn e.symm)
 have HN:=eR (n.out.notes (u:=⟨va,(ns.erase d).length,vc⟩) y hg hf)
 have HF:=eR hf
 have c:=Cf O 98 _ (show _=some R.notes.v by kernel_rfl)
 have ab:=yO O
 have a:=Cf O 45 _ (show _=some R.Au.v by kernel_rfl)
 rw[ED.out] at a
 simp only[jb] at a
 have f98:=O.free 98
 have f99:=O.free 99
 have zh:=O.free 45
 clear y hg hf O
 generalize(ns.erase d).length=nl at*
 go_wp2_with fail
 ·obtain rfl:Y=1:=by assumption
  (have o:=HN.out.1.A7 (wr (R.A7+1));have p:=o.1.od;rw[show({({R with notes:=⟨va,nl,vc⟩}:Xd) with A7:=wr (R.A7+1)}:Xd).Au.v=_ from ED.out] at p;have q:=VD p;rw[ga rfl] at q;have B:R.Au.v.ownBlock=some s:=(by rw[ED.out];rfl);have J:=o.1.qq (u:=⟨some ⟨s,i,none⟩,r.length,1-1⟩) (ds':=r) q (λe=>o.1.gd (B.trans e)) (λb h1 h2=>o.1.nd b h1 (B.trans h2)) (λb h1=>o.1.ds b (B.trans h1));have P:Aq (Yn g R) w _:=((C2.out.mono (λx Q=>by cases Q)).trans HN.out.2).trans ((I2 o.2 (Xs.2 (fq rfl))).trans (I2 J.2 (Xs.2 (fq rfl))));rw[Gx] at J P;have hz:=C2.out.size;have S:=eR (λ(x:Nat) (Q:x∈Yn g {({({R with notes:=⟨va,nl,vc⟩}:Xd) with A7:=wrap64 (R.A7+1)}:Xd) with Au:=⟨some ⟨s,i,none⟩,r.length,1-1⟩})=>show x∈Yn g R\/w.heap.size<=x from(by rcases Xs.1 Q with h1|h1|h1|h1;(· exact fq (Xs.2 (fq h1)));(· rcases HF.out x h1 with h2|h2;(· exact fq (Xs.2 (db (fq h2))));(· right;omega));(· exact fq (Xs.2 (d2 (fq (B.trans h1)))));(· exact fq (Xs.2 (d2 (db h1))))));have HD:=eR (fy J.1 P);clear o p q B J P hz c ab a f98 f99 zh;refine(Ly _ g _ (ns.erase d) r ss HD.out.1 ht Zo).mono ?_;intro e w5 T;have m:BI w g (Yn g R) (.tuple #[]) (MR.reap ⟨{R with A7:=wr (R.A7+1)},ns.erase d,r,ss⟩) e w5:=(by rw[Gx];refine BI.after HD.out.2 S.out ?_;cases r with|nil=>exact T|cons d2 r2=>exact T);rw[←HM.out] at m;obtain rfl:=m.1;have HR:=eR m;clear T m;go_wp2_with fail;go_end0;exact HR.out)
 ·(have o:=HN.out.1.A7 (wr (R.A7+1));have p:=o.1.od;rw[show({({R with notes:=⟨va,nl,vc⟩}:Xd) with A7:=wr (R.A7+1)}:Xd).Au.v=_ from ED.out] at p;have q:=VD p;rw[fw (show ¬Y=1 by assumption)] at q;have B:R.Au.v.ownBlock=some s:=(by rw[ED.out];rfl);have J:=o.1.qq (u:=⟨some ⟨s,i+7,none⟩,r.length,Y-1⟩) (ds':=r) q (λe=>o.1.gd (B.trans e)) (λb h1 h2=>o.1.nd b h1 (B.trans h2)) (λb h1=>o.1.ds b (B.trans h1));have P:Aq (Yn g R) w _:=((C2.out.mono (λx Q=>by cases Q)).trans HN.out.2).trans ((I2 o.2 (Xs.2 (fq rfl))).trans (I2 J.2 (Xs.2 (fq rfl))));rw[Gx] at J P;have hz:=C2.out.size;have S:=eR (λ(x:Nat) (Q:x∈Yn g {({({R with notes:=⟨va,nl,vc⟩}:Xd) with A7:=wrap64 (R.A7+1)}:Xd) with Au:=⟨some ⟨s,i+7,none⟩,r.length,Y-1⟩})=>show x∈Yn g R\/w.heap.size<=x from(by rcases Xs.1 Q with h1|h1|h1|h1;(· exact fq (Xs.2 (fq h1)));(· rcases HF.out x h1 with h2|h2;(· exact fq (Xs.2 (db (fq h2))));(· right;omega));(· exact fq (Xs.2 (d2 (fq (B.trans h1)))));(· exact fq (Xs.2 (d2 (db h1))))));have HD:=eR (fy J.1 P);clear o p q B J P hz c ab a f98 f99 zh;refine(Ly _ g _ (ns.erase d) r ss HD.out.1 ht Zo).mono ?_;intro e w5 T;have m:BI w g (Yn g R) (.tuple #[]) (MR.reap ⟨{R with A7:=wr (R.A7+1)},ns.erase d,r,ss⟩) e w5:=(by rw[Gx];refine BI.after HD.out.2 S.out ?_;cases r with|nil=>exact T|cons d2 r2=>exact T);rw[←HM.out] at m;obtain rfl:=m.1;have HR:=eR m;clear T m;go_wp2_with fail;go_end0;exact HR.out)
