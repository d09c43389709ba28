/- Core: RR, VP, VU, CGood, PA, QA. -/
import Derived.Test.YtaipogljokblkaaGreatDoorW53
import Derived.Test.YtaipogljokblkaaGreatDoorW01
import Derived.Test.YtaipogljokblkaaGreatDoorW23
import Derived.Test.YtaipogljokblkaaGreatDoorW30
import Derived.Test.YtaipogljokblkaaGreatDoorW12
import Derived.Test.YtaipogljokblkaaGreatDoorW06
import Derived.Test.YtaipogljokblkaaGreatDoorW28
set_option linter.all false
set_option maxRecDepth 100000
set_option maxHeartbeats 8000000
namespace Go.Proofs.YtaipogljokblkaaGreatDoor
open Go Go.RowKit
set_option linter.unusedSimpArgs false
set_option linter.unusedVariables false
set_option linter.unusedSectionVars false
def Xb.fresh(Aa me Ac notes:Int):Xb:={Xb.zero with Aa:=Aa,me:=me,Ac:=Ac,most:=notes}
theorem Uv(Aa me Ac notes:Int)(w:World)(h1:1<=Aa)(h2:Aa<=5)(h3:1<=Ac)(h4:Ac<=6)(h5:0<=me)(h6:me<Ac)(h7:1<=notes)(h8:notes<=64):
  Calls Tryz.prog 47 #[.int .i64 Aa,.int .i64 me,.int .i64 Ac,.int .i64 notes] w (λe w'=>e=.returned (.tuple #[.pointer (some ⟨w.heap.size,0,none⟩),.nilIface])/\RB w' w.heap.size (Xb.fresh Aa me Ac notes) [] [] []/\Below w.heap.size w w'):=by
 have d1:decide (Aa<1)=false:=by simp;omega
 have d2:decide (5<Aa)=false:=by simp;omega
 have d3:decide (Ac<1)=false:=by simp;omega
 have d4:decide (6<Ac)=false:=by simp;omega
 have d5:decide (me<0)=false:=by simp;omega
 have d6:decide (Ac<=me)=false:=by simp;omega
 have d7:decide (notes<1)=false:=by simp;omega
 have d8:decide (64<notes)=false:=by simp;omega
 clear h1 h2 h3 h4 h5 h6 h7 h8
 go_enter Tryz.func47,Tryz.ntmps47
 go_wp2_with fail
 go_ret2
 exact⟨rfl,⟨Yu (Bk.at_ rfl) Zk,Own.nil,Own.nil,Own.nil,(λh=>by cases h),(λh=>by cases h),(λh=>by cases h),(λb h=>by cases h),(λb h=>by cases h),(λb h=>by cases h)⟩,vB⟩
def MR.fresh(Aa me Ac most:Int):MR:=⟨Xb.fresh Aa me Ac most,[],[],[]⟩
def MV.fresh(st Aa me Ac most:Int):MV:=⟨st,Aa,0,.zero,.zero,none,.zero,MR.fresh Aa me Ac most⟩
theorem KR.of{w:World}{g:Nat}{R:Xb}{ns ds:List Xn}{ss:List Xd}(h:RB w g R ns ds ss):KR w g ⟨R,ns,ds,ss⟩ (Yh g R):=⟨R.notes,R.Ao,R.seen,h,rfl⟩
theorem Uw(g:Nat)(e me th mo:Int):∀b∈Yh g (Xb.fresh e me th mo),b=g:=by
 intro b hb;rcases Xk.1 hb with h|h|h|h
 ·exact h
 all_goals cases h
theorem jT(st Aa me Ac most:Int)(w:World)(s1:1<=st)(s2:st<=5)(h1:1<=Aa)(h2:Aa<=5)(h3:1<=Ac)(h4:Ac<=6)(h5:0<=me)(h6:me<Ac)(h7:1<=most)(h8:most<=64):
  Calls Tryz.prog 23 #[.int .i64 st,.int .i64 Aa,.int .i64 me,.int .i64 Ac,.int .i64 most] w λen w'=>∃gv gr,en=.returned (.tuple #[.pointer (some ⟨gv,0,none⟩),.nilIface])/\
   Bk w' gv 126 ((Gv (MV.fresh st Aa me Ac most)).l (.pointer (some ⟨gr,0,none⟩)) .nilIface).toArray/\Np gr .nilIface (MR.fresh Aa me Ac most) none w' (λb=>b=gr)/\w.heap.size<=gr/\gr≠gv/\w.heap.size<=gv/\Below w.heap.size w w':=by
 have d1:decide (st<1)=false:=by simp;omega
 have d2:decide (5<st)=false:=by simp;omega
 have hq:=Uv Aa me Ac most w h1 h2 h3 h4 h5 h6 h7 h8
 clear h1 h2 h3 h4 h5 h6 h7 h8 s1 s2
 go_enter Tryz.func23,Tryz.ntmps23
 go_wp2_with fail
 refine hq.mono ?_
 rintro e w1 ⟨rfl,hr,hb⟩
 have HR:=Zh hr
 have hz1:w.heap.size<w1.heap.size:=hr.bk.lt
 have HB:=Zh hb
 clear hq hr hb
 go_wp2_with fail
 go_ret2
 have hx:KR w1 w.heap.size (MR.fresh Aa me Ac most) _:=KR.of HR.out
 refine⟨w1.heap.size,w.heap.size,rfl,Yu (Bk.at_ rfl) Zk,⟨rfl,_,hx.same λb hb=>Below.heap_alloc w1 _ b (hx.lt b hb),λb=>⟨?_,λh=>Uw _ Aa me Ac most b h⟩⟩,Nat.le_refl _,by omega,by omega,HB.out.trans (((Below.refl w1.heap.size w1).alloc (Nat.le_refl _) _).mono HB.out.size)⟩
 rintro rfl
 exact Xk.2 (Or.inl rfl)
def Pl.begun(ns:Nat):Pl:=(Pl.fresh 85 ns).stored 24 (Y5 1)
def Pl.laid(st:Int)(ns:Nat):Pl:=bif st==2 then(Pl.begun ns).EI else bif st==4 then(Pl.begun ns).GA else Pl.begun ns
def wO(p:Pl)(w:World)(en:Ending)(w':World):Prop:=
 ∃gh Fh,en=.returned (.tuple #[.pointer (some ⟨gh,0,none⟩),.nilIface])/\PQ w' gh p Fh/\(∀b∈Fh,w.heap.size<=b)/\Below w.heap.size w w'
theorem PH.start{wb:World}{gh:Nat}{p:Pl}{w:World}{Fh:List Nat}(he:AO w)(hl:wQ wb w)(h:PQ w gh p Fh)(h40:∀b∈Fh,7<=b):PH wb gh p w (λb=>b∈Fh\/b<7):=⟨⟨he,hl⟩,Fh,h,h40,λ_=>Iff.rfl⟩
theorem Lw{gh:Nat}{p:Pl}{w w':World}{F:Nat->Prop}(P:PH w gh p w' F)(c:CG (λb=>b<7) w w')(f:∀b,F b->b<7\/w.heap.size<=b):∃Fh,PQ w' gh p Fh/\(∀b∈Fh,w.heap.size<=b)/\Below w.heap.size w w':=by
 obtain⟨⟨_,hl⟩,Fh,h1,h2,h3⟩:=P;refine⟨Fh,h1,λb hb=>(f b ((h3 b).2 (Or.inl hb))).elim (λh=>by have:=h2 b hb;omega) id,c.os,c.tape,c.output,c.size,λk hk=>?_⟩;by_cases h:k<7
 ·exact hl k h
 ·exact c.Av k hk h
theorem OR(ns:Nat)(h:ns<=1024):Kk (Pl.fresh 85 ns):=by
 refine⟨λx hx=>?_,?_⟩
 ·have hx:x∈Pl.down ns ns:=hx;obtain⟨i,hi,rfl⟩:=List.mem_map.1 hx;have hi:=List.mem_range.1 hi;show(decide (1<=(ns:Int)-(i:Int))&&decide ((ns:Int)-(i:Int)<=(ns:Int)))=true;simp;omega
 ·show(Pl.down ns ns).length<=5000;rw[Pl.Pc];omega
theorem LO(ns:Nat)(h:ns<=1024):Kk (Pl.begun ns):=(OR ns h).stored _ _
theorem GJ(ns:Nat)(h:1<=ns):∃l n,(Pl.begun ns).free=l++[n]:=by
 obtain⟨k,rfl⟩:∃k,ns=k+1:=⟨ns-1,by omega⟩;exact⟨Pl.down (k+1) k,((k+1:Nat):Int)-(k:Int),Pl.MD _ _⟩
theorem XT(st:Int)(ns:Nat)(w:World)(he:AO w)(h:ns<=1024)(hs:st=2\/st=4->1<=ns):Calls Tryz.prog 22 #[.int .i64 st,.int .i64 (ns:Int)] w (wO (Pl.laid st ns) w):=by
 have hz:=he.lt;go_enter Tryz.func22,Tryz.ntmps22;go_wp2_with fail;refine(Pt _).mono ?_;rintro e w1 ⟨rfl,hc⟩;have HB:=Zh hc.below;have HE:=Zh (he.below hc.below);clear hc he;go_wp2_with fail;refine(MY 85 ns Zd h _).mono ?_;rintro e w2 ⟨gh,Fh,rfl,hp,hF,hb⟩;replace HE:=Zh (HE.out.below hb);have hz1:w.heap.size<=w1.heap.size:=HB.out.size;replace HB:=Zh (HB.out.trans (hb.mono HB.out.size));have HP:=Zh (PH.start (wb:=w) HE.out (λb hx=>HB.out.block b Zo) hp λb hb=>by have:=hF b hb;omega);have HF:=Zh (λb (hx:b∈Fh)=>Nat.le_trans hz1 (hF b hx));clear hb hp HE hF hz1;go_wp2_with fail;refine(Vz _).mono ?_;rintro e w3 ⟨rfl,hc⟩;replace HB:=Zh (HB.out.trans (hc.below.mono HB.out.size));replace HP:=Zh (HP.out.A5 λb hx=>hc.below.block b (HP.out.lt b hx));clear hc;go_wp2_with fail;refine(Re _).mono ?_;rintro e w4 ⟨rfl,hc⟩;replace HB:=Zh (HB.out.trans (hc.below.mono HB.out.size));replace HP:=Zh (HP.out.A5 λb hx=>hc.below.block b (HP.out.lt b hx));clear hc;go_wp2_with fail;refine(F0 24 0 0 1 HP.out (OR ns h) Zd (by show(24:Int)<((85:Nat):Int);decide)).mono ?_;rintro e w5 ⟨rfl,c5,F5,P5,a5⟩;have hz4:w.heap.size<=w4.heap.size:=HB.out.size;have HC:Hid (CG (λb=>b<7) w w5):=Zh (AH (Ce HB.out) c5 λb hx=>hx.elim (λh=>Or.inr (HF.out b h)) Or.inl);replace HF:Hid (∀b,F5 b->b<7\/w.heap.size<=b):=Zh λb hx=>(a5 b hx).elim (λh=>h.elim (λh=>Or.inr (HF.out b h)) Or.inl) λh=>Or.inr Zo;replace HP:Hid (PH w gh (Pl.begun ns) w5 F5):=Zh P5;have hz5:w.heap.size<=w5.heap.size:=HC.out.size;have X5:Bk (w5.alloc (.cells #[.int .i64 0,.int .i64 0,.int .i64 0,.int .i64 0,.bool false,.bool false] 108)) w5.heap.size 108 #[.int .i64 0,.int .i64 0,.int .i64 0,.int .i64 0,.bool false,.bool false]:=Bk.at_ rfl;have hB5:=(Below.refl w5.heap.size w5).alloc (Nat.le_refl _) (.cells #[.int .i64 0,.int .i64 0,.int .i64 0,.int .i64 0,.bool false,.bool false] 108);clear c5 P5 a5 HB hz4;by_cases s2:st=2
 ·subst s2;go_wp2_with (refine vM X5 ?_;intro w6 hst;have HL6:=Zh (And.intro hst.grown hst.size);clear hst);have HP6:Hid (PH w gh (Pl.begun ns) w6 F5):=Zh (HP.out.A5 λb hb=>(HL6.out.1.block b (by have:=HP.out.lt b hb;have:=hB5.size;omega) (λe=>by cases e;have:=HP.out.lt _ hb;omega)).trans (hB5.block b (HP.out.lt b hb)));have HC6:Hid (CG (λb=>b<7) w w6):=Zh (AH (AH HC.out (Ce (F:=λ_=>False) hB5) (λ_ h=>h.elim)) (F1:=λb=>b=w5.heap.size) ⟨HL6.out.1.os,HL6.out.1.tape,HL6.out.1.output,HL6.out.1.size,λb hb hf=>HL6.out.1.block b hb (λe=>hf (by cases e;rfl))⟩ (λb e=>by rw[e];exact Or.inr hz5));obtain⟨l,n,hfr⟩:=GJ ns (hs Zd);refine(Vq HP6.out (LO ns h) (by show 24<=85;decide) hfr).mono ?_;rintro e w7 ⟨rfl,c7,F7,P7,l7,a7⟩;have HP7:=Zh P7;have HC7:Hid (CG (λb=>b<7) w w7):=Zh (AH HC6.out c7 HF.out);have HF7:Hid (∀b,F7 b->b<7\/w.heap.size<=b):=Zh λb hx=>(a7 b hx).elim (HF.out b) λh=>Or.inr (by have:=HC6.out.size;omega);clear P7 c7 a7 l7 HP6 HC6 HF HP HC hfr;go_wp2_with fail;go_ret2;obtain⟨Fh',p1,p2,p3⟩:=Lw (p:=Pl.laid 2 ns) HP7.out HC7.out HF7.out;exact⟨gh,Fh',rfl,p1,p2,p3⟩
 by_cases s4:st=4
 ·subst s4;go_wp2_with (refine vM X5 ?_;intro w6 hst;have HL6:=Zh (And.intro hst.grown hst.size);clear hst);have HP6:Hid (PH w gh (Pl.begun ns) w6 F5):=Zh (HP.out.A5 λb hb=>(HL6.out.1.block b (by have:=HP.out.lt b hb;have:=hB5.size;omega) (λe=>by cases e;have:=HP.out.lt _ hb;omega)).trans (hB5.block b (HP.out.lt b hb)));have HC6:Hid (CG (λb=>b<7) w w6):=Zh (AH (AH HC.out (Ce (F:=λ_=>False) hB5) (λ_ h=>h.elim)) (F1:=λb=>b=w5.heap.size) ⟨HL6.out.1.os,HL6.out.1.tape,HL6.out.1.output,HL6.out.1.size,λb hb hf=>HL6.out.1.block b hb (λe=>hf (by cases e;rfl))⟩ (λb e=>by rw[e];exact Or.inr hz5));obtain⟨l,n,hfr⟩:=GJ ns (hs Zd);refine(RE HP6.out (LO ns h) (by show 24<=85;decide) hfr).mono ?_;rintro e w7 ⟨rfl,c7,F7,P7,l7,a7⟩;have HP7:=Zh P7;have HC7:Hid (CG (λb=>b<7) w w7):=Zh (AH HC6.out c7 HF.out);have HF7:Hid (∀b,F7 b->b<7\/w.heap.size<=b):=Zh λb hx=>(a7 b hx).elim (HF.out b) λh=>Or.inr (by have:=HC6.out.size;omega);clear P7 c7 a7 l7 HP6 HC6 HF HP HC hfr;go_wp2_with fail;go_ret2;obtain⟨Fh',p1,p2,p3⟩:=Lw (p:=Pl.laid 4 ns) HP7.out HC7.out HF7.out;exact⟨gh,Fh',rfl,p1,p2,p3⟩
 ·have q2:(st==2)=false:=by simp[s2]
  have q4:(st==4)=false:=by simp[s4]
  have ep:Pl.laid st ns=Pl.begun ns:=by unfold Pl.laid;rw[q2,q4];rfl
  go_wp2_with (refine vM X5 ?_;intro w6 hst;have HL6:=Zh (And.intro hst.grown hst.size);clear hst);have HP6:Hid (PH w gh (Pl.begun ns) w6 F5):=Zh (HP.out.A5 λb hb=>(HL6.out.1.block b (by have:=HP.out.lt b hb;have:=hB5.size;omega) (λe=>by cases e;have:=HP.out.lt _ hb;omega)).trans (hB5.block b (HP.out.lt b hb)));have HC6:Hid (CG (λb=>b<7) w w6):=Zh (AH (AH HC.out (Ce (F:=λ_=>False) hB5) (λ_ h=>h.elim)) (F1:=λb=>b=w5.heap.size) ⟨HL6.out.1.os,HL6.out.1.tape,HL6.out.1.output,HL6.out.1.size,λb hb hf=>HL6.out.1.block b hb (λe=>hf (by cases e;rfl))⟩ (λb e=>by rw[e];exact Or.inr hz5));go_ret2;obtain⟨Fh',p1,p2,p3⟩:=Lw (p:=Pl.begun ns) HP6.out HC6.out HF.out;exact⟨gh,Fh',rfl,by rw[ep];exact p1,p2,p3⟩
def C0(st eng Od slots most:Int):Env:=⟨λi=>([st,eng,Od,slots,most]:List Int).getD i 0,λ_=>false,λ_=>.nilIface,λ_=>rfl⟩
def UE:St:=⟨[],[],[(.le (.lit 1) (.var 0),true),(.le (.var 0) (.lit 5),true),(.le (.lit 1) (.var 1),true),(.le (.var 1) (.lit 5),true),(.le (.lit 1) (.var 2),true),(.le (.var 2) (.lit 6),true),(.le (.lit 0) (.var 3),true),(.le (.var 3) (.lit 1024),true),(.le (.lit 1) (.var 4),true),(.le (.var 4) (.lit 64),true)],10,0⟩
def O2:List SV:=[.agg (vs 0 5)]
def S7:SV × Yk:=((.c (.bool (.le (.var 4) (.lit 64)))),[])
theorem XR:CY (exec Tryz.prog [] 120 (.call 21 O2) UE)=.leaf S7:=Zk
theorem QJ(st eng Od slots most:Int)(w:World)(a0:1<=st)(b0:st<=5)(a1:1<=eng)(b1:eng<=5)(a2:1<=Od)(b2:Od<=6)(a3:0<=slots)(b3:slots<=1024)(a4:1<=most)(b4:most<=64):Calls Tryz.prog 21 #[.agg #[.int .i64 st,.int .i64 eng,.int .i64 Od,.int .i64 slots,.int .i64 most]] w λen w'=>en=.returned (.bool true)/\Al [] w w':=by
 refine(Cy (S:=[]) (e:=(C0 st eng Od slots most)) (st:=UE) (args:=O2) (k:=Dw []) mixed Xt (v:=S7.1) (hp':=S7.2) (by rw[XR];rfl) (Dc (show BT.den (C0 st eng Od slots most) (.le (.lit 1) (.var 0))=true from decide_eq_true a0) (Dc (show BT.den (C0 st eng Od slots most) (.le (.var 0) (.lit 5))=true from decide_eq_true b0) (Dc (show BT.den (C0 st eng Od slots most) (.le (.lit 1) (.var 1))=true from decide_eq_true a1) (Dc (show BT.den (C0 st eng Od slots most) (.le (.var 1) (.lit 5))=true from decide_eq_true b1) (Dc (show BT.den (C0 st eng Od slots most) (.le (.lit 1) (.var 2))=true from decide_eq_true a2) (Dc (show BT.den (C0 st eng Od slots most) (.le (.var 2) (.lit 6))=true from decide_eq_true b2) (Dc (show BT.den (C0 st eng Od slots most) (.le (.lit 0) (.var 3))=true from decide_eq_true a3) (Dc (show BT.den (C0 st eng Od slots most) (.le (.var 3) (.lit 1024))=true from decide_eq_true b3) (Dc (show BT.den (C0 st eng Od slots most) (.le (.lit 1) (.var 4))=true from decide_eq_true a4) (Dc (show BT.den (C0 st eng Od slots most) (.le (.var 4) (.lit 64))=true from decide_eq_true b4) (Hb rfl))))))))))) (CE []) (λz hz=>by cases hz) Zk Zk (λz hz=>by cases hz) Zk).mono λen w' hp=>?_;obtain⟨k',hp⟩:=hp;have e1:en=.returned (.bool (decide (most<=64))):=hp.ret.trans Zk;rw[decide_eq_true b4] at e1;exact⟨e1,Gd hp.Cf (ls:=[]) Zk Zs⟩
structure Fy where
 gv:Nat
 q:BB
 Cs:Int
 last:Int
def Fy.l(x:Fy):List Value:=[.pointer (some ⟨x.gv,0,none⟩)]++[x.q.v]++[.int .i64 x.Cs]++[.int .i64 x.last]
theorem Us(x:Fy):x.l.length=4:=rfl
theorem roone(x:Fy):∀u∈x.l,u.oneCell'=true:=by intro u hu;simp[Fy.l] at hu;rcases hu with rfl|rfl|rfl|rfl<;>rfl
theorem xE(x:Bl):x.l.length=4:=rfl
theorem opone(x:Bl):∀u∈x.l,u.oneCell'=true:=by intro u hu;simp[Bl.l] at hu;rcases hu with rfl|rfl|rfl|rfl<;>rfl
theorem V0(x:Yp):x.l.length=10:=rfl
theorem xP(x:Yp):∀u∈x.l,u.oneCell'=true:=by intro u hu;simp[Yp.l,Bl.l,DQ.l] at hu;rcases hu with rfl|rfl|rfl|rfl|rfl|rfl|rfl|rfl|rfl|rfl<;>rfl
theorem zZ:(Tryz.prog.info? 79).map (λi=>(i.zero,i.size,i.bytes))=some (some (.agg #[.pointer none,.slice none 0 0,.int .i64 0,.int .i64 0]),4,48):=Zk
theorem infoOp:(Tryz.prog.info? 35).map (λi=>(i.zero,i.size,i.bytes))=some (some (.agg #[.int .i64 0,.int .i64 0,.int .i64 0,.int .i64 0]),4,32):=Zk
theorem UW:(Tryz.prog.info? 42).map (λi=>(i.zero,i.size,i.bytes))=some (some (.agg #[.int .i64 0,.bool false,.int .i64 0,.int .i64 0,.int .i64 0,.int .i64 0,.bool false,.bool false,.int .i64 0,.int .i64 0]),10,72):=Zk
theorem O4(w:World)(v:Value)(l:List Fy)(h:Own w 79 4 v l.length (rows Fy.l l))(hl:l.length<=100000)(x:Fy)(b:Nat)(hb:Bk w b 79 x.l.toArray)(t:TypeId):
  ∃v' w',(Builtin.append_ #[72,72] t #[v,.slice (some ⟨b,0,none⟩) 1 1]).run Tryz.prog w=.ok v' w'/\
   Own w' 79 4 v' (l++[x]).length (rows Fy.l (l++[x]))/\w.grownBy w' v.ownBlock/\EW w v v':=
 Bq Us roone Tryz.underlying72 zZ rfl Zd Zd w v l h hl x b hb t
theorem O5(w:World)(v:Value)(l:List Bl)(h:Own w 35 4 v l.length (rows Bl.l l))(hl:l.length<=100000)(x:Bl)(b:Nat)(hb:Bk w b 35 x.l.toArray)(t:TypeId):
  ∃v' w',(Builtin.append_ #[22,22] t #[v,.slice (some ⟨b,0,none⟩) 1 1]).run Tryz.prog w=.ok v' w'/\
   Own w' 35 4 v' (l++[x]).length (rows Bl.l (l++[x]))/\w.grownBy w' v.ownBlock/\EW w v v':=
 Bq xE opone Tryz.underlying22 infoOp rfl Zd Zd w v l h hl x b hb t
theorem M1(w:World)(v:Value)(l:List Yp)(h:Own w 42 10 v l.length (rows Yp.l l))(hl:l.length<=100000)(x:Yp)(b:Nat)(hb:Bk w b 42 x.l.toArray)(t:TypeId):
  ∃v' w',(Builtin.append_ #[37,37] t #[v,.slice (some ⟨b,0,none⟩) 1 1]).run Tryz.prog w=.ok v' w'/\
   Own w' 42 10 v' (l++[x]).length (rows Yp.l (l++[x]))/\w.grownBy w' v.ownBlock/\EW w v v':=
 Bq V0 xP Tryz.underlying37 UW rfl Zd Zd w v l h hl x b hb t
def jK(w:World)(r:Fy)(T:MT)(F:Nat->Prop):Prop:=
 r.Cs=T.Cs/\r.last=T.last/\∃Fv:Nat->Prop,VB w r.gv T.V Fv/\Own w 35 4 r.q.v T.queue.length (rows Bl.l T.queue)/\(∀b,Fv b->r.q.v.ownBlock≠some b)/\∀b,F b↔Fv b\/r.q.v.ownBlock=some b
section
variable{w w':World}{r:Fy}{T:MT}{F:Nat->Prop}
theorem jK.A5(h:jK w r T F)(hs:∀b,F b->w'.heap[b]?=w.heap[b]?):jK w' r T F:=by
 obtain⟨h1,h2,Fv,h3,h4,h5,h6⟩:=h;exact⟨h1,h2,Fv,h3.A5 λb hb=>hs b ((h6 b).2 (Or.inl hb)),h4.kept λb hb=>hs b ((h6 b).2 (Or.inr hb)),h5,h6⟩
theorem jK.lt(h:jK w r T F):∀b,F b->b<w.heap.size:=by
 obtain⟨h1,h2,Fv,h3,h4,h5,h6⟩:=h;intro b hb;rcases(h6 b).1 hb with hb|hb
 ·exact h3.lt b hb
 ·exact h4.lt hb
end
structure Eh(w:World)(gp gh:Nat)(P:Ar)(tv bv:BB)(ro:List Fy)(Fh:List Nat)(Ft:Nat->Nat->Prop)(lab:Nat->Nat):Prop where
 bk:Bk w gp 74 #[.int .i64 P.st,.pointer (some ⟨gh,0,none⟩),tv.v,bv.v]
 K5:Own w 79 4 tv.v ro.length (rows Fy.l ro)
 Kw:Own w 42 10 bv.v P.A4.length (rows Yp.l P.A4)
 hp:PQ w gh P.heap Fh
 len:ro.length=P.AB.length
 th:∀i r T,ro[i]?=some r->P.AB[i]?=some T->jK w r T (Ft i)
 l0:lab gp=0
 l1:∀b,tv.v.ownBlock=some b->lab b=1
 l2:∀b,bv.v.ownBlock=some b->lab b=2
 l3:∀b∈Fh,lab b=3
 l4:∀i b,i<P.AB.length->Ft i b->lab b=4+i
 low:∀b,b<7->1000<=lab b
 Md:P.AB.length<=6
section
variable{w w':World}{gp gh:Nat}{P:Ar}{tv bv:BB}{ro:List Fy}{Fh:List Nat}{Ft:Nat->Nat->Prop}{lab:Nat->Nat}
theorem Eh.aP(h:Eh w gp gh P tv bv ro Fh Ft lab){i:Nat}(hi:i<P.AB.length):∀b,Ft i b->b<w.heap.size:=by
 have hi':i<ro.length:=by rw[h.len];exact hi
 exact(h.th i ro[i] P.AB[i] (List.getElem?_eq_getElem hi') (List.getElem?_eq_getElem hi)).lt
theorem Eh.below(h:Eh w gp gh P tv bv ro Fh Ft lab)(hb:Below w.heap.size w w'):Eh w' gp gh P tv bv ro Fh Ft lab:=
 ⟨h.bk.Ad hb,h.K5.below hb,h.Kw.below hb,h.hp.same λb hx=>hb.block b (h.hp.lt b hx),h.len,λi r T h1 h2=>(h.th i r T h1 h2).A5 λb hx=>hb.block b ((h.th i r T h1 h2).lt b hx),h.l0,h.l1,h.l2,h.l3,h.l4,h.low,h.Md⟩
open Classical in
theorem Eh.add{w2:World}{u:BB}{r:Fy}{T:MT}{F:Nat->Prop}(h:Eh w gp gh P tv bv ro Fh Ft lab)(ho:Own w2 79 4 u.v (ro++[r]).length (rows Fy.l (ro++[r])))(hg:w.grownBy w2 tv.v.ownBlock)(hf:EW w tv.v u.v)
  (ht:jK w r T F)(hF:∀b,F b->1000<=lab b)(h40:∀b,F b->7<=b)(hz:7<=w.heap.size)(hn:P.AB.length<6):∃Ft' lab',Eh (w2.setCell ⟨gp,2,none⟩ u.v) gp gh {P with AB:=P.AB++[T]} u bv (ro++[r]) Fh Ft' lab'/\
   (∀b,lab' b<1000->lab b<1000\/F b\/w.heap.size<=b)/\∀b,1000<=lab b->b<w.heap.size->¬F b->1000<=lab' b:=by
 have lgp:=h.bk.lt
 have gtv:tv.v.ownBlock≠some gp:=λe=>by have:=h.l1 gp e;rw[h.l0] at this;omega
 have gu:u.v.ownBlock≠some gp:=λe=>(hf gp e).elim gtv λh'=>by omega
 have uF:∀b,F b->u.v.ownBlock≠some b:=λb hb e=>(hf b e).elim (λe=>by have:=h.l1 b e;have:=hF b hb;omega) λh'=>by have:=ht.lt b hb;omega
 have same:∀b,b<w.heap.size->tv.v.ownBlock≠some b->b≠gp->(w2.setCell ⟨gp,2,none⟩ u.v).heap[b]?=w.heap[b]?:=λb hb h1 h2=>
  ((Xr w2 gp 2 u.v).block b (Nat.lt_of_lt_of_le hb hg.size) (λe=>h2 (by cases e;rfl))).trans (hg.block b hb λe=>h1 e.symm)
 have lb:∀b c,lab b=c->c≠0->c≠1->b<w.heap.size->(w2.setCell ⟨gp,2,none⟩ u.v).heap[b]?=w.heap[b]?:=λb c e h0 h1 hb=>same b hb (λe'=>h1 (by rw[←e];exact h.l1 b e')) λe'=>h0 (by rw[←e,e'];exact h.l0)
 have hlab:∀b,b<w.heap.size->u.v.ownBlock≠some b->¬F b->(if u.v.ownBlock=some b then 1 else if F b then 4+P.AB.length else if w.heap.size<=b then 1000 else lab b)=lab b:=λb h1 h2 h3=>by rw[if_neg h2,if_neg h3,if_neg Zo]
 have uo:∀b c,lab b=c->c≠1->b<w.heap.size->u.v.ownBlock≠some b:=λb c e h1 hb e'=>(hf b e').elim (λe2=>h1 (by rw[←e];exact h.l1 b e2)) λh'=>by omega
 refine⟨λi=>if i=P.AB.length then F else Ft i,λb=>if u.v.ownBlock=some b then 1 else if F b then 4+P.AB.length else if w.heap.size<=b then 1000 else lab b,⟨?_,?_,?_,?_,?_,?_,?_,?_,?_,?_,?_,?_,?_⟩,?_,?_⟩
 ·exact Yu ((h.bk.grown hg (λe=>gtv e.symm)).E3 2 u.v) Zk
 ·exact ho.grown (Xr w2 gp 2 u.v) (Or.inr gu)
 ·exact h.Kw.kept λb hb=>lb b 2 (h.l2 b hb) Zd Zd (h.Kw.lt hb)
 ·exact h.hp.same λb hb=>lb b 3 (h.l3 b hb) Zd Zd (h.hp.lt b hb)
 ·simp[h.len]
 ·intro i r' T' h1 h2;by_cases hi:i=P.AB.length
  ·rw[if_pos hi];have e1:r'=r:=by rw[hi,←h.len,List.getElem?_append_right (Nat.le_refl _)] at h1;simpa using h1.symm
   have e2:T'=T:=by rw[hi] at h2;simp only[List.getElem?_append_right (Nat.le_refl _)] at h2;simpa using h2.symm
   rw[e1,e2];exact ht.A5 λb hb=>same b (ht.lt b hb) (λe=>by have:=h.l1 b e;have:=hF b hb;omega) λe=>by have:=h.l0;have:=hF b hb;rw[e] at this;omega
  ·rw[if_neg hi];have hl:i<P.AB.length:=by
    rcases Nat.lt_or_ge i (P.AB.length+1) with hx|hx
    ·omega
    ·rw[List.getElem?_eq_none (by simpa using hx)] at h2;cases h2
   rw[List.getElem?_append_left (by rw[h.len];exact hl)] at h1;simp only[List.getElem?_append_left hl] at h2;exact(h.th i r' T' h1 h2).A5 λb hb=>lb b (4+i) (h.l4 i b hl hb) Zo Zo (h.aP hl b hb)
 ·show(if _ then _ else _)=0;rw[hlab gp lgp gu λhx=>by have:=hF gp hx;rw[h.l0] at this;omega];exact h.l0
 ·intro b hb;show(if _ then _ else _)=1;rw[if_pos hb]
 ·intro b hb;have:=h.l2 b hb;show(if _ then _ else _)=2;rw[hlab b (h.Kw.lt hb) (uo b 2 this Zd (h.Kw.lt hb)) λhx=>by have:=hF b hx;omega];exact this
 ·intro b hb;have:=h.l3 b hb;show(if _ then _ else _)=3;rw[hlab b (h.hp.lt b hb) (uo b 3 this Zd (h.hp.lt b hb)) λhx=>by have:=hF b hx;omega];exact this
 ·intro i b hi hb;replace hb:(if i=P.AB.length then F else Ft i) b:=hb;by_cases hi':i=P.AB.length
  ·rw[if_pos hi'] at hb;show(if _ then _ else _)=4+i;rw[if_neg (uF b hb),if_pos hb,hi']
  ·rw[if_neg hi'] at hb;have hl:i<P.AB.length:=by simp at hi;omega
   have hlb:=h.l4 i b hl hb;show(if _ then _ else _)=4+i;rw[hlab b (h.aP hl b hb) (uo b (4+i) hlb Zo (h.aP hl b hb)) λhx=>by have:=hF b hx;have:=h.Md;omega];exact hlb
 ·intro b hb;show 1000<=(if _ then _ else _);have hl:=h.low b hb;rw[hlab b Zo (λe=>(hf b e).elim (λe=>by have:=h.l1 b e;omega) λh'=>by omega) λhx=>by have:=h40 b hx;omega];exact hl
 ·show(P.AB++[T]).length<=6;simp;omega
 ·intro b hb;by_cases h1:F b
  ·exact Or.inr (Or.inl h1)
  ·by_cases h2:w.heap.size<=b
   ·exact Or.inr (Or.inr h2)
   ·refine Or.inl ?_;by_cases h3:u.v.ownBlock=some b
    ·rcases hf b h3 with e|e
     ·rw[h.l1 b e];decide
     ·omega
    ·simp only at hb;rwa [hlab b Zo h3 h1] at hb
 ·intro b h1 h2 h3;show 1000<=(if _ then _ else _);rw[hlab b h2 (λe=>(hf b e).elim (λe=>by have:=h.l1 b e;omega) λh'=>by omega) h3];exact h1
end
end Go.Proofs.YtaipogljokblkaaGreatDoor
