/- Core: RR, VP, VT, VU, CGood, PA, QA. -/
import Derived.Test.YtaipogljokblkaaGreatDoorP32
import Derived.Test.YtaipogljokblkaaGreatDoorP31
set_option linter.all false
set_option maxRecDepth 100000
set_option maxHeartbeats 8000000
namespace Go.Proofs.YtaipogljokblkaaGreatDoor
open Go Go.RowKit
def Xd.fresh(Aa me Ae a:Int):Xd:={Xd.zero with Aa:=Aa,me:=me,Ae:=Ae,most:=a}
def Vm(d g c a:Int)(w:World)(i:1<=d)(j:d<=5)(k:1<=c)(l:c<=6)(m:0<=g)(n:g<c)(o:1<=a)(p:a<=64):
  Kp 47 #[.int .i64 d,.int .i64 g,.int .i64 c,.int .i64 a] w (λe w'=>e=.returned (.tuple #[.pointer (some ⟨w.heap.size,0,none⟩),.nilIface])/\RB w' w.heap.size (Xd.fresh d g c a) [] [] []/\Below w.heap.size w w'):=by
 have d1:decide (d<1)=false:=by simp;omega
 have d2:decide (5<d)=false:=by simp;omega
 have d3:decide (c<1)=false:=by simp;omega
 have d4:decide (6<c)=false:=by simp;omega
 have d5:decide (g<0)=false:=by simp;omega
 have d6:decide (c<=g)=false:=by simp;omega
 have d7:decide (a<1)=false:=by simp;omega
 have d8:decide (64<a)=false:=by simp;omega
 clear i j k l m n o p
 go_enter Tryz.func47,Tryz.ntmps47
 go_wp2_with fail
 go_ret2
 exact⟨rfl,⟨Y1 (Bk.at_ rfl) Zk,Own.nil,Own.nil,Own.nil,(λh=>by cases h),(λh=>by cases h),(λh=>by cases h),(λb h=>by cases h),(λb h=>by cases h),(λb h=>by cases h)⟩,vB⟩
def MR.fresh(a b c most:Int):MR:=⟨Xd.fresh a b c most,[],[],[]⟩
def MV.fresh(st a b c most:Int):MV:=⟨st,a,0,.zero,.zero,none,.zero,MR.fresh a b c most⟩
def Le.of{w:World}{g:Nat}{R:Xd}{ns ds:List Xw}{ss:List Xe}(h:RB w g R ns ds ss):Le w g ⟨R,ns,ds,ss⟩ (Yn g R):=⟨R.notes,R.Au,R.seen,h,rfl⟩
def Vn(g:Nat)(e a c d:Int):∀b∈Yn g (Xd.fresh e a c d),b=g:=by
 intro b f;rcases Xs.1 f with h|h|h|h
 ·exact h
 all_goals cases h
def nD(st c d a most:Int)(w:World)(s1:1<=st)(s2:st<=5)(m:1<=c)(n:c<=5)(o:1<=a)(p:a<=6)(q:0<=d)(r:d<a)(s:1<=most)(u:most<=64):
  Kp 23 #[.int .i64 st,.int .i64 c,.int .i64 d,.int .i64 a,.int .i64 most] w λy w'=>∃gv i,y=.returned (.tuple #[.pointer (some ⟨gv,0,none⟩),.nilIface])/\
   Bk w' gv 126 ((G5 (MV.fresh st c d a most)).l (.pointer (some ⟨i,0,none⟩)) .nilIface).toArray/\Mo i .nilIface (MR.fresh c d a most) none w' (λb=>b=i)/\w.heap.size<=i/\i≠gv/\w.heap.size<=gv/\Below w.heap.size w w':=by
 have d1:decide (st<1)=false:=by simp;omega
 have d2:decide (5<st)=false:=by simp;omega
 have v:=Vm c d a most w m n o p q r s u
 clear m n o p q r s u s1 s2
 go_enter Tryz.func23,Tryz.ntmps23
 go_wp2_with fail
 refine v.mono ?_
 rintro e g ⟨rfl,k,j⟩
 have z:=eR k
 have B:w.heap.size<g.heap.size:=k.bk.lt
 have HB:=eR j
 clear v k j
 go_wp2_with fail
 go_ret2
 have x:Le g w.heap.size (MR.fresh c d a most) _:=Le.of z.out
 refine⟨g.heap.size,w.heap.size,rfl,Y1 (Bk.at_ rfl) Zk,⟨rfl,_,x.same λb j=>lp g _ b (x.lt b j),λb=>⟨?_,λh=>Vn _ c d a most b h⟩⟩,Nat.le_refl _,Zo,Zo,HB.out.trans (((fx g.heap.size g).alloc (Nat.le_refl _) _).mono HB.out.size)⟩
 rintro rfl
 exact Xs.2 (fq rfl)
def Td{wb:World}{gh:Nat}{p p':Pl}{w:World}{F:Nat->Prop}{x:Xr}(h:PH wb gh p w F)(ok:K2 p)(a:Bx)(d:p.valid a=true)(e:p.act a=(p',x)):
  Kp 42 #[.pointer (some ⟨gh,0,none⟩),.agg a.l.toArray] w λc w'=>c=.returned (.tuple #[.agg x.l.toArray,.nilIface])/\CI F w w'/\∃F':Nat->Prop,PH wb gh p' w' F'/\∀b,F' b->F b\/w.heap.size<=b:=by
 refine(dC h ok a d e ⟨λ_ w F=>PH wb gh p' w F,λ_ _ _ _ h i=>h.AL i⟩ 0 λw F h=>h).mono λc w' j=>?_
 obtain⟨p1,O⟩:=j
 obtain⟨F',k,m,r⟩:=O.fin
 exact⟨p1,⟨O.os,O.tape,O.output,O.size,λb n o=>O.Wc b n Zs o⟩,F',k,m⟩
def rl{wb:World}{gh:Nat}{p p':Pl}{w:World}{F:Nat->Prop}{x:Xe}(h:PH wb gh p w F)(ok:K2 p)(a:p.act Pl.A1=(p',⟨x,true⟩)):
  Kp 42 #[.pointer (some ⟨gh,0,none⟩),.agg #[.int .i64 4,.int .i64 0,.int .i64 0,.int .i64 0,.int .i64 0,.int .i64 0,.int .i64 0,.int .i64 0,.bool false,.int .i64 0,.int .i64 0,.int .i64 0,.int .i64 0,.bool false]] w λc w'=>c=.returned (.tuple #[.agg #[.int .i64 x.sl,.int .i64 x.gn,.int .i64 x.tg,.int .i64 x.nm,.bool x.mark,.bool true],.nilIface])/\CI F w w'/\∃F':Nat->Prop,PH wb gh p' w' F'/\∀b,F' b->F b\/w.heap.size<=b:=
 Td h ok Pl.A1 rfl a
def FM{wb:World}{gh:Nat}{p:Pl}{w:World}{F:Nat->Prop}(a sl gn nm:Int)(h:PH wb gh p w F)(ok:K2 p)(c:0<=a)(d:a<(p.nb:Int)):
  Kp 42 #[.pointer (some ⟨gh,0,none⟩),.agg #[.int .i64 2,.int .i64 0,.int .i64 0,.int .i64 a,.int .i64 0,.int .i64 0,.int .i64 0,.int .i64 0,.bool false,.int .i64 sl,.int .i64 gn,.int .i64 0,.int .i64 nm,.bool false]] w λe w'=>e=.returned (.tuple #[.agg #[.int .i64 0,.int .i64 0,.int .i64 0,.int .i64 0,.bool false,.bool true],.nilIface])/\CI F w w'/\∃F':Nat->Prop,PH wb gh (p.stored a ⟨sl,gn,0,nm,false⟩) w' F'/\∀b,F' b->F b\/w.heap.size<=b:=
 Td h ok (Pl.store a ⟨sl,gn,0,nm,false⟩) (Pl.Js _ _ _ c d) (Pl.MY _ _ _)
def AR{F F1:Nat->Prop}{w w1 w2:World}(h:CI F w w1)(a:CI F1 w1 w2)(e:∀b,F1 b->F b\/w.heap.size<=b):CI F w w2:=
 ⟨a.os.trans h.os,a.tape.trans h.tape,a.output.trans h.output,gb h.size a.size,λb c d=>(a.A5 b (ib c h.size) λf=>(e b f).elim d λh=>Zo).trans (h.A5 b c d)⟩
def Cx{F:Nat->Prop}{w w1:World}(h:Below w.heap.size w w1):CI F w w1:=⟨h.os,h.tape,h.output,h.size,λb a _=>h.block b a⟩
def A'(p1:Pl)(x:Xe)(k:Nat):Pl:=match k with
 |0=>p1
 |1=>p1.stored 0 (Yx x)
 |_=>(p1.stored 0 (Yx x)).stored 1 (Yx x)
def Ri(x:Xe)(w:World):Kp 67 #[.agg #[.int .i64 x.sl,.int .i64 x.gn,.int .i64 x.tg,.int .i64 x.nm,.bool x.mark]] w λa w'=>a=.returned (.agg #[.int .i64 x.sl,.int .i64 x.gn,.int .i64 0,.int .i64 0,.bool false])/\Aq [] w w':=cW x w
structure LY(wb w:World)(F:Nat->Prop)(gh:Nat)(x:Xe)(bx:Nat)(q:Pl)(F':Nat->Prop)(W:World):Prop where
 h:PH wb gh q W F'
 b:Bk W bx 108 #[.int .i64 x.sl,.int .i64 x.gn,.int .i64 x.tg,.int .i64 x.nm,.bool x.mark,.bool true]
 n:¬F' bx
 a:∀b,F' b->F b\/w.heap.size<=b
 c:CI F w W
 x:w.heap.size<=bx
structure BX(w:World)(bx:Nat)(F':Nat->Prop)(g:Nat)(W:World):Prop where
 b:Bk W g 108 #[.int .i64 0,.int .i64 0,.int .i64 0,.int .i64 0,.bool false,.bool false]
 n:¬F' g
 ne:g≠bx
 x:w.heap.size<=g
section
variable{wb w W W':World}{F F' F2:Nat->Prop}{gh bx g:Nat}{x:Xe}{q q':Pl}
def LY.below(h:LY wb w F gh x bx q F' W)(d:Below W.heap.size W W'):LY wb w F gh x bx q F' W':=
 ⟨h.h.AL λb e=>d.block b (h.h.lt b e),h.b.Af d,h.n,h.a,AR h.c (Cx (F:=λ_=>False) d) (λ_ h=>h.elim),h.x⟩
def BX.below(h:BX w bx F' g W)(a:Below W.heap.size W W'):BX w bx F' g W':=⟨h.b.Af a,h.n,h.ne,h.x⟩
def LY.aT(h:LY wb w F gh x bx q F' W)(c:CI F' W W')(p:PH wb gh q' W' F2)(a:∀b,F2 b->F' b\/W.heap.size<=b):LY wb w F gh x bx q' F2 W':=by
 have f:=h.c.size;refine⟨p,h.b.same (c.A5 bx h.b.lt h.n),λd=>(a bx d).elim h.n λd=>by have:=h.b.lt;omega,λb e=>(a b e).elim (h.a b) λd=>db Zo,AR h.c c h.a,h.x⟩
def BX.aT(h:BX w bx F' g W)(c:CI F' W W')(a:∀b,F2 b->F' b\/W.heap.size<=b):BX w bx F2 g W':=
 ⟨h.b.same (c.A5 g h.b.lt h.n),λd=>(a g d).elim h.n λd=>by have:=h.b.lt;omega,h.ne,h.x⟩
theorem BX.new(h:LY wb w F gh x bx q F' W):BX w bx F' W.heap.size (W.alloc (.cells #[.int .i64 0,.int .i64 0,.int .i64 0,.int .i64 0,.bool false,.bool false] 108)):=
 ⟨Bk.at_ rfl,λa=>by have:=h.h.lt _ a;omega,by have:=h.b.lt;omega,h.c.size⟩
def LY.stored{t:TypeId}{cs:Array Value}(h:LY wb w F gh x bx q F' W)(i:BX w bx F' g W)(d:Gu W g t cs W'):LY wb w F gh x bx q F' W':=
 ⟨h.h.AL fun b f=>d.grown.block b (h.h.lt b f) (fun e=>by cases e;exact i.n f),h.b.grown d.grown (fun e=>by cases e;exact i.ne rfl),h.n,h.a,
  ⟨d.grown.os.trans h.c.os,d.grown.tape.trans h.c.tape,d.grown.output.trans h.c.output,gb h.c.size d.grown.size,λb f j=>(d.grown.block b (ib f h.c.size) (λe=>by cases e;have:=i.x;omega)).trans (h.c.A5 b f j)⟩,h.x⟩
end
def Wt{wb:World}{gh:Nat}{p:Pl}{w:World}{F:Nat->Prop}(h:PH wb gh p w F)(ok:K2 p)(ad:24<=p.nb){l:List Int}{n:Int}(S:p.free=l++[n]):
  Kp 45 #[.pointer (some ⟨gh,0,none⟩)] w (TX ⟨λ_ w F=>PH wb gh p.IP w F,λ_ _ _ _ h hs=>h.AL hs⟩ 0 F .nilIface w):=by
 obtain⟨VG,ae,e1⟩:=ok.alloc S
 have e0:p.act Pl.A1=((p.act Pl.A1).1,⟨(p.act Pl.A1).2.word,true⟩):=pn rfl e1
 have el:p.IP=((p.act Pl.A1).1.stored 0 (Yx (p.act Pl.A1).2.word)).stored 1 (Yx (p.act Pl.A1).2.word):=rfl
 rw[el]
 clear el e1
 generalize(p.act Pl.A1).1=p1 at*
 generalize(p.act Pl.A1).2.word=x at*
 have hq:=rl h ok e0
 have hL:=h.lt
 go_enter Tryz.func45,Tryz.ntmps45
 go_wp2_with fail
 refine hq.mono ?_
 rintro e M ⟨rfl,c1,F1,T,a1⟩
 have G:=T.lt
 have P:=eR T
 have I:=eR c1
 have X1:Bk (M.alloc (.cells #[.int .i64 0,.int .i64 0,.int .i64 0,.int .i64 0,.bool false,.bool false] 108)) M.heap.size 108 #[.int .i64 0,.int .i64 0,.int .i64 0,.int .i64 0,.bool false,.bool false]:=Bk.at_ rfl
 have J:=(fx M.heap.size M).alloc (Nat.le_refl _) (.cells #[.int .i64 0,.int .i64 0,.int .i64 0,.int .i64 0,.bool false,.bool false] 108)
 clear T c1 hq h
 go_wp2_with (refine vM X1 ?_;intro w2 r;have H:=r.bk.cell 0;have r1:=r.bk.cell 1;have r2:=r.bk.cell 2;have r3:=r.bk.cell 3;have r4:=r.bk.cell 4;have r5:=r.bk.cell 5;simp at H r1 r2 r3 r4 r5)
 have Q:Hid (LY wb w F gh x M.heap.size (A' p1 x 0) F1 w2):=eR ⟨P.out.AL λb R=>(r.grown.block b (by have:=G b R;have:=J.size;omega) (λe=>by cases e;have:=G _ R;omega)).trans (J.block b (G b R)),r.bk,λh=>by have:=G _ h;omega,a1,AR (AR I.out (Cx (F:=λ_=>False) J) (λ_ h=>h.elim)) (F1:=λb=>b=M.heap.size) ⟨r.grown.os,r.grown.tape,r.grown.output,r.grown.size,λb R S=>r.grown.block b R (λe=>S (by cases e;rfl))⟩ (λb e=>by rw[e];exact db I.out.size),I.out.size⟩
 clear P I X1 J r H r1 r2 r3 r4 r5 G a1
 generalize M.heap.size=bx at*
 go_loopw [27] (λi wr=>∃(k:Nat) (F':Nat->Prop),((k=0/\i=.int .i64 0)\/(k=1/\i=.int .i64 1)\/(k=2/\i=.int .i64 2))/\LY wb w F gh x bx (A' p1 x k) F' wr) (λi _=>2-(intOf i).toNat)
 case atStart=>exact⟨0,_,fq ⟨rfl,rfl⟩,Q.out⟩
 case round=>
  obtain⟨k,F2,hk,hl⟩:=hrel
  have d:=eR hl
  clear hl Q
  have aa:∀w,(Instr.index 162 (.agg #[.int .i64 0,.int .i64 1]) (.int .i64 0)).run Tryz.prog w=.ok (.int .i64 0) w:=λw=>Zk
  have ab:∀w,(Instr.index 162 (.agg #[.int .i64 0,.int .i64 1]) (.int .i64 1)).run Tryz.prog w=.ok (.int .i64 1) w:=λw=>Zk
  rcases hk with⟨rfl,rfl⟩|⟨rfl,rfl⟩|⟨rfl,rfl⟩
  ·go_upto_region 11 with(fail);refine Yh (λU=>Bk U bx 108 #[.int .i64 x.sl,.int .i64 x.gn,.int .i64 x.tg,.int .i64 x.nm,.bool x.mark,.bool true]) 14 Zk d.out.b.drew (λm=>?_);replace d:=eR (d.out.below (fx _ _).drew);generalize World.drew _=w0 at*;((try simp only[ZL]);refine vT (fuel:=10) m [0,1,3,4] ?_;simp only[Yb,Xv,fs];(repeat go_big_quiet_step ((intro u;(have V:=u.cell 0;have X:=u.cell 1;have Y:=u.cell 2;have Z:=u.cell 3;have q4:=u.cell 4;simp at V X Y Z q4);go_simp;first|done|rfl|exact⟨rfl,rfl⟩)));refine gw ?_;(try dsimp only));refine Gz (i:=2) (j:=11) rfl rfl Zk (λK o=>?_) (λK o=>?_)
   ·go_wp2_with fail;refine(PF _).mono ?_;rintro e L ⟨rfl,z⟩;replace d:=eR (d.out.below z.below);clear z m;go_wp2_with fail;refine o.out _ _ ⟨λ_=>d.out.b,?_⟩;clear o;have m:=d.out.b;refine Gz (i:=5) (j:=11) rfl rfl Zk (λK o=>?_) (λK o=>?_)
    ·go_wp2_with fail;refine(Ri x _).mono ?_;rintro e L ⟨rfl,z⟩;replace d:=eR (d.out.below z.below);clear z m;go_wp2_with fail;refine o.out _ _ ⟨λ_=>d.out.b,?_⟩;clear o;have m:=d.out.b;((try simp only[ZL]);refine vT (fuel:=7) m [6] ?_;simp only[Yb,Xv,fs];(repeat go_big_quiet_step ((intro u;go_simp;first|done|rfl|exact⟨rfl,rfl⟩)));refine gw ?_;(try dsimp only));refine Gz (i:=7) (j:=11) rfl rfl Zk (λK o=>?_) (λK o=>?_)
     ·go_wp2_with fail;refine(FM 0 x.sl x.gn 0 d.out.h VG Zd (by show(0:Int)<((p1.nb:Nat):Int);omega)).mono ?_;rintro e N ⟨rfl,B,E,D,C⟩;replace d:=eR (d.out.aT B D C);clear B D C m;go_wp2_with fail;refine o.out _ _ ⟨λ_=>d.out.b,?_⟩;clear o;have m:=d.out.b;((try simp only[ZL]);refine vT (fuel:=3) m [8,9,10] ?_;simp only[Yb,Xv,fs];(repeat go_big_quiet_step ((intro u;go_simp;first|done|rfl|exact⟨rfl,rfl⟩)));refine gw ?_;(try dsimp only));(refine Xn 11 Zk (λK o=>?_);simp only[Xv,fs]);go_wp2_with fail;have y:=eR (BX.new d.out);replace d:=eR (d.out.below ((fx _ _).alloc (Nat.le_refl _) (.cells #[.int .i64 0,.int .i64 0,.int .i64 0,.int .i64 0,.bool false,.bool false] 108)));clear m;refine o.out _ _ (λ_=>d.out.b) ?_;clear o;have m:=d.out.b;(refine Xn 12 Zk (λK o=>?_);simp only[Xv,fs]);go_wp2_with (refine vM y.out.b ?_;intro O r);replace d:=eR (d.out.stored y.out r);clear y r m;refine o.out _ _ (λ_=>d.out.b) ?_;clear o;have m:=d.out.b;((try simp only[ZL]);refine vT (fuel:=0) m [13] ?_;simp only[Yb,Xv,fs];(repeat go_big_quiet_step ((intro u;go_simp;first|done|rfl|exact⟨rfl,rfl⟩)));refine gw ?_;(try dsimp only));refine Yk Zk ?_ _;have H:=d.out.b.cell 0;clear m;go_wp2_with fail;exact⟨⟨1,E,db (fq ⟨rfl,rfl⟩),d.out⟩,Zd⟩
     ·go_wp2_with fail;have y:=eR (BX.new d.out);replace d:=eR (d.out.below ((fx _ _).alloc (Nat.le_refl _) (.cells #[.int .i64 0,.int .i64 0,.int .i64 0,.int .i64 0,.bool false,.bool false] 108)));clear m;refine o.out _ _ ⟨λ_=>d.out.b,?_⟩;clear o;have m:=d.out.b;(refine Xn 7 Zk (λK o=>?_);simp only[Xv,fs]);go_wp2_with fail;refine(FM 0 x.sl x.gn 0 d.out.h VG Zd (by show(0:Int)<((p1.nb:Nat):Int);omega)).mono ?_;rintro e N ⟨rfl,B,E,D,C⟩;replace y:=eR (y.out.aT B C);replace d:=eR (d.out.aT B D C);clear B D C m;go_wp2_with fail;refine o.out _ _ (λ_=>d.out.b) ?_;clear o;have m:=d.out.b;((try simp only[ZL]);refine vT (fuel:=2) m [8,9,10] ?_;simp only[Yb,Xv,fs];(repeat go_big_quiet_step ((intro u;go_simp;first|done|rfl|exact⟨rfl,rfl⟩)));refine gw ?_;(try dsimp only));(refine Xn 12 Zk (λK o=>?_);simp only[Xv,fs]);go_wp2_with (refine vM y.out.b ?_;intro O r);replace d:=eR (d.out.stored y.out r);clear y r m;refine o.out _ _ (λ_=>d.out.b) ?_;clear o;have m:=d.out.b;((try simp only[ZL]);refine vT (fuel:=0) m [13] ?_;simp only[Yb,Xv,fs];(repeat go_big_quiet_step ((intro u;go_simp;first|done|rfl|exact⟨rfl,rfl⟩)));refine gw ?_;(try dsimp only));refine Yk Zk ?_ _;have H:=d.out.b.cell 0;clear m;go_wp2_with fail;exact⟨⟨1,E,db (fq ⟨rfl,rfl⟩),d.out⟩,Zd⟩
    ·go_wp2_with fail;have y:=eR (BX.new d.out);replace d:=eR (d.out.below ((fx _ _).alloc (Nat.le_refl _) (.cells #[.int .i64 0,.int .i64 0,.int .i64 0,.int .i64 0,.bool false,.bool false] 108)));clear m;refine o.out _ _ ⟨λ_=>d.out.b,?_⟩;clear o;have m:=d.out.b;(refine Xn 5 Zk (λK o=>?_);simp only[Xv,fs]);go_wp2_with fail;refine(Ri x _).mono ?_;rintro e L ⟨rfl,z⟩;replace y:=eR (y.out.below z.below);replace d:=eR (d.out.below z.below);clear z m;go_wp2_with fail;refine o.out _ _ (λ_=>d.out.b) ?_;clear o;have m:=d.out.b;((try simp only[ZL]);refine vT (fuel:=6) m [6] ?_;simp only[Yb,Xv,fs];(repeat go_big_quiet_step ((intro u;go_simp;first|done|rfl|exact⟨rfl,rfl⟩)));refine gw ?_;(try dsimp only));(refine Xn 7 Zk (λK o=>?_);simp only[Xv,fs]);go_wp2_with fail;refine(FM 0 x.sl x.gn 0 d.out.h VG Zd (by show(0:Int)<((p1.nb:Nat):Int);omega)).mono ?_;rintro e N ⟨rfl,B,E,D,C⟩;replace y:=eR (y.out.aT B C);replace d:=eR (d.out.aT B D C);clear B D C m;go_wp2_with fail;refine o.out _ _ (λ_=>d.out.b) ?_;clear o;have m:=d.out.b;((try simp only[ZL]);refine vT (fuel:=2) m [8,9,10] ?_;simp only[Yb,Xv,fs];(repeat go_big_quiet_step ((intro u;go_simp;first|done|rfl|exact⟨rfl,rfl⟩)));refine gw ?_;(try dsimp only));(refine Xn 12 Zk (λK o=>?_);simp only[Xv,fs]);go_wp2_with (refine vM y.out.b ?_;intro O r);replace d:=eR (d.out.stored y.out r);clear y r m;refine o.out _ _ (λ_=>d.out.b) ?_;clear o;have m:=d.out.b;((try simp only[ZL]);refine vT (fuel:=0) m [13] ?_;simp only[Yb,Xv,fs];(repeat go_big_quiet_step ((intro u;go_simp;first|done|rfl|exact⟨rfl,rfl⟩)));refine gw ?_;(try dsimp only));refine Yk Zk ?_ _;have H:=d.out.b.cell 0;clear m;go_wp2_with fail;exact⟨⟨1,E,db (fq ⟨rfl,rfl⟩),d.out⟩,Zd⟩
   ·go_wp2_with fail;have y:=eR (BX.new d.out);replace d:=eR (d.out.below ((fx _ _).alloc (Nat.le_refl _) (.cells #[.int .i64 0,.int .i64 0,.int .i64 0,.int .i64 0,.bool false,.bool false] 108)));clear m;refine o.out _ _ ⟨λ_=>d.out.b,?_⟩;clear o;have m:=d.out.b;(refine Xn 2 Zk (λK o=>?_);simp only[Xv,fs]);go_wp2_with fail;refine(PF _).mono ?_;rintro e L ⟨rfl,z⟩;replace y:=eR (y.out.below z.below);replace d:=eR (d.out.below z.below);clear z m;go_wp2_with fail;refine o.out _ _ (λ_=>d.out.b) ?_;clear o;have m:=d.out.b;(refine Xn 5 Zk (λK o=>?_);simp only[Xv,fs]);go_wp2_with fail;refine(Ri x _).mono ?_;rintro e L ⟨rfl,z⟩;replace y:=eR (y.out.below z.below);replace d:=eR (d.out.below z.below);clear z m;go_wp2_with fail;refine o.out _ _ (λ_=>d.out.b) ?_;clear o;have m:=d.out.b;((try simp only[ZL]);refine vT (fuel:=6) m [6] ?_;simp only[Yb,Xv,fs];(repeat go_big_quiet_step ((intro u;go_simp;first|done|rfl|exact⟨rfl,rfl⟩)));refine gw ?_;(try dsimp only));(refine Xn 7 Zk (λK o=>?_);simp only[Xv,fs]);go_wp2_with fail;refine(FM 0 x.sl x.gn 0 d.out.h VG Zd (by show(0:Int)<((p1.nb:Nat):Int);omega)).mono ?_;rintro e N ⟨rfl,B,E,D,C⟩;replace y:=eR (y.out.aT B C);replace d:=eR (d.out.aT B D C);clear B D C m;go_wp2_with fail;refine o.out _ _ (λ_=>d.out.b) ?_;clear o;have m:=d.out.b;((try simp only[ZL]);refine vT (fuel:=2) m [8,9,10] ?_;simp only[Yb,Xv,fs];(repeat go_big_quiet_step ((intro u;go_simp;first|done|rfl|exact⟨rfl,rfl⟩)));refine gw ?_;(try dsimp only));(refine Xn 12 Zk (λK o=>?_);simp only[Xv,fs]);go_wp2_with (refine vM y.out.b ?_;intro O r);replace d:=eR (d.out.stored y.out r);clear y r m;refine o.out _ _ (λ_=>d.out.b) ?_;clear o;have m:=d.out.b;((try simp only[ZL]);refine vT (fuel:=0) m [13] ?_;simp only[Yb,Xv,fs];(repeat go_big_quiet_step ((intro u;go_simp;first|done|rfl|exact⟨rfl,rfl⟩)));refine gw ?_;(try dsimp only));refine Yk Zk ?_ _;have H:=d.out.b.cell 0;clear m;go_wp2_with fail;exact⟨⟨1,E,db (fq ⟨rfl,rfl⟩),d.out⟩,Zd⟩
  ·go_upto_region 11 with(fail);refine Yh (λU=>Bk U bx 108 #[.int .i64 x.sl,.int .i64 x.gn,.int .i64 x.tg,.int .i64 x.nm,.bool x.mark,.bool true]) 14 Zk d.out.b.drew (λm=>?_);replace d:=eR (d.out.below (fx _ _).drew);generalize World.drew _=w0 at*;((try simp only[ZL]);refine vT (fuel:=10) m [0,1,3,4] ?_;simp only[Yb,Xv,fs];(repeat go_big_quiet_step ((intro u;(have V:=u.cell 0;have X:=u.cell 1;have Y:=u.cell 2;have Z:=u.cell 3;have q4:=u.cell 4;simp at V X Y Z q4);go_simp;first|done|rfl|exact⟨rfl,rfl⟩)));refine gw ?_;(try dsimp only));refine Gz (i:=2) (j:=11) rfl rfl Zk (λK o=>?_) (λK o=>?_)
   ·go_wp2_with fail;refine(PD _).mono ?_;rintro e L ⟨rfl,z⟩;replace d:=eR (d.out.below z.below);clear z m;go_wp2_with fail;refine o.out _ _ ⟨λ_=>d.out.b,?_⟩;clear o;have m:=d.out.b;refine Gz (i:=5) (j:=11) rfl rfl Zk (λK o=>?_) (λK o=>?_)
    ·go_wp2_with fail;refine(Ri x _).mono ?_;rintro e L ⟨rfl,z⟩;replace d:=eR (d.out.below z.below);clear z m;go_wp2_with fail;refine o.out _ _ ⟨λ_=>d.out.b,?_⟩;clear o;have m:=d.out.b;((try simp only[ZL]);refine vT (fuel:=7) m [6] ?_;simp only[Yb,Xv,fs];(repeat go_big_quiet_step ((intro u;go_simp;first|done|rfl|exact⟨rfl,rfl⟩)));refine gw ?_;(try dsimp only));refine Gz (i:=7) (j:=11) rfl rfl Zk (λK o=>?_) (λK o=>?_)
     ·go_wp2_with fail;refine(FM 1 x.sl x.gn 0 d.out.h (VG.stored _ _) Zd (by show(1:Int)<((p1.nb:Nat):Int);omega)).mono ?_;rintro e N ⟨rfl,B,E,D,C⟩;replace d:=eR (d.out.aT B D C);clear B D C m;go_wp2_with fail;refine o.out _ _ ⟨λ_=>d.out.b,?_⟩;clear o;have m:=d.out.b;((try simp only[ZL]);refine vT (fuel:=3) m [8,9,10] ?_;simp only[Yb,Xv,fs];(repeat go_big_quiet_step ((intro u;go_simp;first|done|rfl|exact⟨rfl,rfl⟩)));refine gw ?_;(try dsimp only));(refine Xn 11 Zk (λK o=>?_);simp only[Xv,fs]);go_wp2_with fail;have y:=eR (BX.new d.out);replace d:=eR (d.out.below ((fx _ _).alloc (Nat.le_refl _) (.cells #[.int .i64 0,.int .i64 0,.int .i64 0,.int .i64 0,.bool false,.bool false] 108)));clear m;refine o.out _ _ (λ_=>d.out.b) ?_;clear o;have m:=d.out.b;(refine Xn 12 Zk (λK o=>?_);simp only[Xv,fs]);go_wp2_with (refine vM y.out.b ?_;intro O r);replace d:=eR (d.out.stored y.out r);clear y r m;refine o.out _ _ (λ_=>d.out.b) ?_;clear o;have m:=d.out.b;((try simp only[ZL]);refine vT (fuel:=0) m [13] ?_;simp only[Yb,Xv,fs];(repeat go_big_quiet_step ((intro u;go_simp;first|done|rfl|exact⟨rfl,rfl⟩)));refine gw ?_;(try dsimp only));refine Yk Zk ?_ _;have H:=d.out.b.cell 0;clear m;go_wp2_with fail;exact⟨⟨2,E,db (db ⟨rfl,rfl⟩),d.out⟩,Zd⟩
     ·go_wp2_with fail;have y:=eR (BX.new d.out);replace d:=eR (d.out.below ((fx _ _).alloc (Nat.le_refl _) (.cells #[.int .i64 0,.int .i64 0,.int .i64 0,.int .i64 0,.bool false,.bool false] 108)));clear m;refine o.out _ _ ⟨λ_=>d.out.b,?_⟩;clear o;have m:=d.out.b;(refine Xn 7 Zk (λK o=>?_);simp only[Xv,fs]);go_wp2_with fail;refine(FM 1 x.sl x.gn 0 d.out.h (VG.stored _ _) Zd (by show(1:Int)<((p1.nb:Nat):Int);omega)).mono ?_;rintro e N ⟨rfl,B,E,D,C⟩;replace y:=eR (y.out.aT B C);replace d:=eR (d.out.aT B D C);clear B D C m;go_wp2_with fail;refine o.out _ _ (λ_=>d.out.b) ?_;clear o;have m:=d.out.b;((try simp only[ZL]);refine vT (fuel:=2) m [8,9,10] ?_;simp only[Yb,Xv,fs];(repeat go_big_quiet_step ((intro u;go_simp;first|done|rfl|exact⟨rfl,rfl⟩)));refine gw ?_;(try dsimp only));(refine Xn 12 Zk (λK o=>?_);simp only[Xv,fs]);go_wp2_with (refine vM y.out.b ?_;intro O r);replace d:=eR (d.out.stored y.out r);clear y r m;refine o.out _ _ (λ_=>d.out.b) ?_;clear o;have m:=d.out.b;((try simp only[ZL]);refine vT (fuel:=0) m [13] ?_;simp only[Yb,Xv,fs];(repeat go_big_quiet_step ((intro u;go_simp;first|done|rfl|exact⟨rfl,rfl⟩)));refine gw ?_;(try dsimp only));refine Yk Zk ?_ _;have H:=d.out.b.cell 0;clear m;go_wp2_with fail;exact⟨⟨2,E,db (db ⟨rfl,rfl⟩),d.out⟩,Zd⟩
    ·go_wp2_with fail;have y:=eR (BX.new d.out);replace d:=eR (d.out.below ((fx _ _).alloc (Nat.le_refl _) (.cells #[.int .i64 0,.int .i64 0,.int .i64 0,.int .i64 0,.bool false,.bool false] 108)));clear m;refine o.out _ _ ⟨λ_=>d.out.b,?_⟩;clear o;have m:=d.out.b;(refine Xn 5 Zk (λK o=>?_);simp only[Xv,fs]);go_wp2_with fail;refine(Ri x _).mono ?_;rintro e L ⟨rfl,z⟩;replace y:=eR (y.out.below z.below);replace d:=eR (d.out.below z.below);clear z m;go_wp2_with fail;refine o.out _ _ (λ_=>d.out.b) ?_;clear o;have m:=d.out.b;((try simp only[ZL]);refine vT (fuel:=6) m [6] ?_;simp only[Yb,Xv,fs];(repeat go_big_quiet_step ((intro u;go_simp;first|done|rfl|exact⟨rfl,rfl⟩)));refine gw ?_;(try dsimp only));(refine Xn 7 Zk (λK o=>?_);simp only[Xv,fs]);go_wp2_with fail;refine(FM 1 x.sl x.gn 0 d.out.h (VG.stored _ _) Zd (by show(1:Int)<((p1.nb:Nat):Int);omega)).mono ?_;rintro e N ⟨rfl,B,E,D,C⟩;replace y:=eR (y.out.aT B C);replace d:=eR (d.out.aT B D C);clear B D C m;go_wp2_with fail;refine o.out _ _ (λ_=>d.out.b) ?_;clear o;have m:=d.out.b;((try simp only[ZL]);refine vT (fuel:=2) m [8,9,10] ?_;simp only[Yb,Xv,fs];(repeat go_big_quiet_step ((intro u;go_simp;first|done|rfl|exact⟨rfl,rfl⟩)));refine gw ?_;(try dsimp only));(refine Xn 12 Zk (λK o=>?_);simp only[Xv,fs]);go_wp2_with (refine vM y.out.b ?_;intro O r);replace d:=eR (d.out.stored y.out r);clear y r m;refine o.out _ _ (λ_=>d.out.b) ?_;clear o;have m:=d.out.b;((try simp only[ZL]);refine vT (fuel:=0) m [13] ?_;simp only[Yb,Xv,fs];(repeat go_big_quiet_step ((intro u;go_simp;first|done|rfl|exact⟨rfl,rfl⟩)));refine gw ?_;(try dsimp only));refine Yk Zk ?_ _;have H:=d.out.b.cell 0;clear m;go_wp2_with fail;exact⟨⟨2,E,db (db ⟨rfl,rfl⟩),d.out⟩,Zd⟩
   ·go_wp2_with fail;have y:=eR (BX.new d.out);replace d:=eR (d.out.below ((fx _ _).alloc (Nat.le_refl _) (.cells #[.int .i64 0,.int .i64 0,.int .i64 0,.int .i64 0,.bool false,.bool false] 108)));clear m;refine o.out _ _ ⟨λ_=>d.out.b,?_⟩;clear o;have m:=d.out.b;(refine Xn 2 Zk (λK o=>?_);simp only[Xv,fs]);go_wp2_with fail;refine(PD _).mono ?_;rintro e L ⟨rfl,z⟩;replace y:=eR (y.out.below z.below);replace d:=eR (d.out.below z.below);clear z m;go_wp2_with fail;refine o.out _ _ (λ_=>d.out.b) ?_;clear o;have m:=d.out.b;(refine Xn 5 Zk (λK o=>?_);simp only[Xv,fs]);go_wp2_with fail;refine(Ri x _).mono ?_;rintro e L ⟨rfl,z⟩;replace y:=eR (y.out.below z.below);replace d:=eR (d.out.below z.below);clear z m;go_wp2_with fail;refine o.out _ _ (λ_=>d.out.b) ?_;clear o;have m:=d.out.b;((try simp only[ZL]);refine vT (fuel:=6) m [6] ?_;simp only[Yb,Xv,fs];(repeat go_big_quiet_step ((intro u;go_simp;first|done|rfl|exact⟨rfl,rfl⟩)));refine gw ?_;(try dsimp only));(refine Xn 7 Zk (λK o=>?_);simp only[Xv,fs]);go_wp2_with fail;refine(FM 1 x.sl x.gn 0 d.out.h (VG.stored _ _) Zd (by show(1:Int)<((p1.nb:Nat):Int);omega)).mono ?_;rintro e N ⟨rfl,B,E,D,C⟩;replace y:=eR (y.out.aT B C);replace d:=eR (d.out.aT B D C);clear B D C m;go_wp2_with fail;refine o.out _ _ (λ_=>d.out.b) ?_;clear o;have m:=d.out.b;((try simp only[ZL]);refine vT (fuel:=2) m [8,9,10] ?_;simp only[Yb,Xv,fs];(repeat go_big_quiet_step ((intro u;go_simp;first|done|rfl|exact⟨rfl,rfl⟩)));refine gw ?_;(try dsimp only));(refine Xn 12 Zk (λK o=>?_);simp only[Xv,fs]);go_wp2_with (refine vM y.out.b ?_;intro O r);replace d:=eR (d.out.stored y.out r);clear y r m;refine o.out _ _ (λ_=>d.out.b) ?_;clear o;have m:=d.out.b;((try simp only[ZL]);refine vT (fuel:=0) m [13] ?_;simp only[Yb,Xv,fs];(repeat go_big_quiet_step ((intro u;go_simp;first|done|rfl|exact⟨rfl,rfl⟩)));refine gw ?_;(try dsimp only));refine Yk Zk ?_ _;have H:=d.out.b.cell 0;clear m;go_wp2_with fail;exact⟨⟨2,E,db (db ⟨rfl,rfl⟩),d.out⟩,Zd⟩
  ·go_wp2_with fail;first
   |(go_ret2;exact⟨rfl,d.out.c,_,d.out.h,d.out.h.lt,d.out.a⟩)
   |(go_ret;exact⟨rfl,d.out.c,_,d.out.h,d.out.h.lt,d.out.a⟩)
   |(refine js (v:=.nilIface) (results_none rfl _ _ _) rfl ?_;exact⟨rfl,d.out.c,_,d.out.h,d.out.h.lt,d.out.a⟩)
def Pl.begun(ns:Nat):Pl:=(Pl.fresh 85 ns).stored 24 (Y6 1)
def Pl.laid(st:Int)(ns:Nat):Pl:=bif st==2 then(Pl.begun ns).IP else bif st==4 then(Pl.begun ns).Pa else Pl.begun ns
def sd(p:Pl)(w:World)(d:Ending)(w':World):Prop:=
 ∃a c,d=.returned (.tuple #[.pointer (some ⟨a,0,none⟩),.nilIface])/\NG w' a p c/\(∀b∈c,w.heap.size<=b)/\Below w.heap.size w w'
def PH.start{wb:World}{gh:Nat}{p:Pl}{w:World}{Fh:List Nat}(c:AT w)(d:sh wb w)(h:NG w gh p Fh)(a:∀b∈Fh,7<=b):PH wb gh p w (λb=>b∈Fh\/b<7):=⟨⟨c,d⟩,Fh,h,a,λ_=>j3⟩
def LG{gh:Nat}{p:Pl}{w w':World}{F:Nat->Prop}(P:PH w gh p w' F)(c:CI (λb=>b<7) w w')(f:∀b,F b->b<7\/w.heap.size<=b):∃Fh,NG w' gh p Fh/\(∀b∈Fh,w.heap.size<=b)/\Below w.heap.size w w':=by
 obtain⟨⟨_,d⟩,Fh,e,g,i⟩:=P;refine⟨Fh,e,λb a=>(f b ((i b).2 (fq a))).elim (λh=>by have:=g b a;omega) id,c.os,c.tape,c.output,c.size,λk j=>?_⟩;by_cases h:k<7
 ·exact d k h
 ·exact c.A5 k j h
def Po(ns:Nat)(h:ns<=1024):K2 (Pl.fresh 85 ns):=by
 refine⟨λx a=>?_,?_⟩
 ·have a:x∈Pl.down ns ns:=a;obtain⟨i,b,rfl⟩:=j7.1 a;have b:=jt.1 b;show(decide (1<=(ns:Int)-(i:Int))&&decide ((ns:Int)-(i:Int)<=(ns:Int)))=true;simp;omega
 ·show(Pl.down ns ns).length<=5000;rw[Pl.P6];omega
def Ma(ns:Nat)(h:ns<=1024):K2 (Pl.begun ns):=(Po ns h).stored _ _
def He(ns:Nat)(h:1<=ns):∃l n,(Pl.begun ns).free=l++[n]:=by
 obtain⟨k,rfl⟩:∃k,ns=k+1:=⟨ns-1,Zo⟩;exact⟨Pl.down (k+1) k,((k+1:Nat):Int)-(k:Int),Pl.MQ _ _⟩
def ZT(st:Int)(ns:Nat)(w:World)(N:AT w)(h:ns<=1024)(T:st=2\/st=4->1<=ns):Kp 22 #[.int .i64 st,.int .i64 (ns:Int)] w (sd (Pl.laid st ns) w):=by
 have hz:=N.lt;go_enter Tryz.func22,Tryz.ntmps22;go_wp2_with fail;refine(PR _).mono ?_;rintro e w1 ⟨rfl,o⟩;have HB:=eR o.below;have M:=eR (N.below o.below);clear o N;go_wp2_with fail;refine(Nn 85 ns Zd h _).mono ?_;rintro e w2 ⟨x,Fh,rfl,U,hF,c⟩;replace M:=eR (M.out.below c);have E:w.heap.size<=w1.heap.size:=HB.out.size;replace HB:=eR (HB.out.trans (c.mono HB.out.size));have g:=eR (PH.start (wb:=w) M.out (λb m=>HB.out.block b Zo) U λb c=>by have:=hF b c;omega);have s:=eR (λb (m:b∈Fh)=>gb E (hF b m));clear c U M hF E;go_wp2_with fail;refine(W0 _).mono ?_;rintro e w3 ⟨rfl,o⟩;replace HB:=eR (HB.out.trans (o.below.mono HB.out.size));replace g:=eR (g.out.AL λb m=>o.below.block b (g.out.lt b m));clear o;go_wp2_with fail;refine(RC _).mono ?_;rintro e w4 ⟨rfl,o⟩;replace HB:=eR (HB.out.trans (o.below.mono HB.out.size));replace g:=eR (g.out.AL λb m=>o.below.block b (g.out.lt b m));clear o;go_wp2_with fail;refine(FM 24 0 0 1 g.out (Po ns h) Zd (by show(24:Int)<((85:Nat):Int);decide)).mono ?_;rintro e u ⟨rfl,V,G,W,X⟩;have O:w.heap.size<=w4.heap.size:=HB.out.size;have D:Hid (CI (λb=>b<7) w u):=eR (AR (Cx HB.out) V λb m=>m.elim (λh=>db (s.out b h)) fq);replace s:Hid (∀b,G b->b<7\/w.heap.size<=b):=eR λb m=>(X b m).elim (λh=>h.elim (λh=>db (s.out b h)) fq) λh=>db Zo;replace g:Hid (PH w x (Pl.begun ns) u G):=eR W;have y:w.heap.size<=u.heap.size:=D.out.size;have P:Bk (u.alloc (.cells #[.int .i64 0,.int .i64 0,.int .i64 0,.int .i64 0,.bool false,.bool false] 108)) u.heap.size 108 #[.int .i64 0,.int .i64 0,.int .i64 0,.int .i64 0,.bool false,.bool false]:=Bk.at_ rfl;have i:=(fx u.heap.size u).alloc (Nat.le_refl _) (.cells #[.int .i64 0,.int .i64 0,.int .i64 0,.int .i64 0,.bool false,.bool false] 108);clear V W X HB O;by_cases Y:st=2
 ·subst Y;go_wp2_with (refine vM P ?_;intro v d;have a:=eR (fy d.grown d.size);clear d);have k:Hid (PH w x (Pl.begun ns) v G):=eR (g.out.AL λb c=>(a.out.1.block b (by have:=g.out.lt b c;have:=i.size;omega) (λe=>by cases e;have:=g.out.lt _ c;omega)).trans (i.block b (g.out.lt b c)));have j:Hid (CI (λb=>b<7) w v):=eR (AR (AR D.out (Cx (F:=λ_=>False) i) (λ_ h=>h.elim)) (F1:=λb=>b=u.heap.size) ⟨a.out.1.os,a.out.1.tape,a.out.1.output,a.out.1.size,λb c H=>a.out.1.block b c (λe=>H (by cases e;rfl))⟩ (λb e=>by rw[e];exact db y));obtain⟨l,n,q⟩:=He ns (T Zd);refine(Wt k.out (Ma ns h) (by show 24<=85;decide) q).mono ?_;rintro e Q ⟨rfl,I,R,J,S,K⟩;have z:=eR J;have B:Hid (CI (λb=>b<7) w Q):=eR (AR j.out I s.out);have C:Hid (∀b,R b->b<7\/w.heap.size<=b):=eR λb m=>(K b m).elim (s.out b) λh=>db (by have:=j.out.size;omega);clear J I K S k j s g D q;go_wp2_with fail;go_ret2;obtain⟨r,p1,p2,L⟩:=LG (p:=Pl.laid 2 ns) z.out B.out C.out;exact⟨x,r,rfl,p1,p2,L⟩
 by_cases s4:st=4
 ·subst s4;go_wp2_with (refine vM P ?_;intro v d;have a:=eR (fy d.grown d.size);clear d);have k:Hid (PH w x (Pl.begun ns) v G):=eR (g.out.AL λb c=>(a.out.1.block b (by have:=g.out.lt b c;have:=i.size;omega) (λe=>by cases e;have:=g.out.lt _ c;omega)).trans (i.block b (g.out.lt b c)));have j:Hid (CI (λb=>b<7) w v):=eR (AR (AR D.out (Cx (F:=λ_=>False) i) (λ_ h=>h.elim)) (F1:=λb=>b=u.heap.size) ⟨a.out.1.os,a.out.1.tape,a.out.1.output,a.out.1.size,λb c H=>a.out.1.block b c (λe=>H (by cases e;rfl))⟩ (λb e=>by rw[e];exact db y));obtain⟨l,n,q⟩:=He ns (T Zd);refine(Sm k.out (Ma ns h) (by show 24<=85;decide) q).mono ?_;rintro e Q ⟨rfl,I,R,J,S,K⟩;have z:=eR J;have B:Hid (CI (λb=>b<7) w Q):=eR (AR j.out I s.out);have C:Hid (∀b,R b->b<7\/w.heap.size<=b):=eR λb m=>(K b m).elim (s.out b) λh=>db (by have:=j.out.size;omega);clear J I K S k j s g D q;go_wp2_with fail;go_ret2;obtain⟨r,p1,p2,L⟩:=LG (p:=Pl.laid 4 ns) z.out B.out C.out;exact⟨x,r,rfl,p1,p2,L⟩
 ·have q2:(st==2)=false:=by simp[Y]
  have q4:(st==4)=false:=by simp[s4]
  have ep:Pl.laid st ns=Pl.begun ns:=by unfold Pl.laid;rw[q2,q4];rfl
  go_wp2_with (refine vM P ?_;intro v d;have a:=eR (fy d.grown d.size);clear d);have k:Hid (PH w x (Pl.begun ns) v G):=eR (g.out.AL λb c=>(a.out.1.block b (by have:=g.out.lt b c;have:=i.size;omega) (λe=>by cases e;have:=g.out.lt _ c;omega)).trans (i.block b (g.out.lt b c)));have j:Hid (CI (λb=>b<7) w v):=eR (AR (AR D.out (Cx (F:=λ_=>False) i) (λ_ h=>h.elim)) (F1:=λb=>b=u.heap.size) ⟨a.out.1.os,a.out.1.tape,a.out.1.output,a.out.1.size,λb c H=>a.out.1.block b c (λe=>H (by cases e;rfl))⟩ (λb e=>by rw[e];exact db y));go_ret2;obtain⟨r,p1,p2,L⟩:=LG (p:=Pl.begun ns) k.out j.out s.out;exact⟨x,r,rfl,by rw[ep];exact p1,p2,L⟩
def Da(st eng b a most:Int):Env:=⟨λi=>([st,eng,b,a,most]:List Int).getD i 0,λ_=>false,λ_=>.nilIface,λ_=>rfl⟩
def V6:St:=⟨[],[],[(.le (.lit 1) (.var 0),true),(.le (.var 0) (.lit 5),true),(.le (.lit 1) (.var 1),true),(.le (.var 1) (.lit 5),true),(.le (.lit 1) (.var 2),true),(.le (.var 2) (.lit 6),true),(.le (.lit 0) (.var 3),true),(.le (.var 3) (.lit 1024),true),(.le (.lit 1) (.var 4),true),(.le (.var 4) (.lit 64),true)],10,0⟩
def OL:List SV:=[.agg (vs 0 5)]
def Te:SV × Heap:=((.c (.bool (.le (.var 4) (.lit 64)))),[])
def ZR:Dq (exec Tryz.prog [] 120 (.call 21 OL) V6)=.leaf Te:=Zk
def Rn(st eng b a most:Int)(w:World)(j:1<=st)(l:st<=5)(m:1<=eng)(n:eng<=5)(o:1<=b)(p:b<=6)(q:0<=a)(r:a<=1024)(s:1<=most)(h:most<=64):Kp 21 #[.agg #[.int .i64 st,.int .i64 eng,.int .i64 b,.int .i64 a,.int .i64 most]] w λd w'=>d=.returned (.bool true)/\Aq [] w w':=by
 refine(CZ (S:=[]) (e:=(Da st eng b a most)) (st:=V6) (args:=OL) (k:=DF []) mixed X6 (v:=Te.1) (hp':=Te.2) (by rw[ZR];rfl) (Ds (show BT.den (Da st eng b a most) (.le (.lit 1) (.var 0))=true from g5 j) (Ds (show BT.den (Da st eng b a most) (.le (.var 0) (.lit 5))=true from g5 l) (Ds (show BT.den (Da st eng b a most) (.le (.lit 1) (.var 1))=true from g5 m) (Ds (show BT.den (Da st eng b a most) (.le (.var 1) (.lit 5))=true from g5 n) (Ds (show BT.den (Da st eng b a most) (.le (.lit 1) (.var 2))=true from g5 o) (Ds (show BT.den (Da st eng b a most) (.le (.var 2) (.lit 6))=true from g5 p) (Ds (show BT.den (Da st eng b a most) (.le (.lit 0) (.var 3))=true from g5 q) (Ds (show BT.den (Da st eng b a most) (.le (.var 3) (.lit 1024))=true from g5 r) (Ds (show BT.den (Da st eng b a most) (.le (.lit 1) (.var 4))=true from g5 s) (Ds (show BT.den (Da st eng b a most) (.le (.var 4) (.lit 64))=true from g5 h) (Ht rfl))))))))))) (Db []) (λz g=>by cases g) Zk Zk (λz g=>by cases g) Zk).mono λd w' c=>?_;obtain⟨u,c⟩:=c;have i:d=.returned (.bool (decide (most<=64))):=c.ret.trans Zk;rw[g5 h] at i;exact⟨i,Gs c.CJ (ls:=[]) Zk Zs⟩
structure E6 where
 gv:Nat
 q:B5
 BK:Int
 last:Int
def E6.l(x:E6):List Value:=[.pointer (some ⟨x.gv,0,none⟩)]++[x.q.v]++[.int .i64 x.BK]++[.int .i64 x.last]
def Vj(x:E6):x.l.length=4:=rfl
def P3(x:E6):∀u∈x.l,u.oneCell'=true:=by intro u a;simp[E6.l] at a;rcases a with rfl|rfl|rfl|rfl<;>rfl
def tr(x:AV):x.l.length=4:=rfl
def Ty(x:AV):∀u∈x.l,u.oneCell'=true:=by intro u a;simp[AV.l] at a;rcases a with rfl|rfl|rfl|rfl<;>rfl
def WB(x:Yr):x.l.length=10:=rfl
def tz(x:Yr):∀u∈x.l,u.oneCell'=true:=by intro u a;simp[Yr.l,AV.l,DI.l] at a;rcases a with rfl|rfl|rfl|rfl|rfl|rfl|rfl|rfl|rfl|rfl<;>rfl
def xt:(Tryz.prog.info? 79).map (λi=>(i.zero,i.size,i.bytes))=some (some (.agg #[.pointer none,.slice none 0 0,.int .i64 0,.int .i64 0]),4,48):=Zk
def xu:(Tryz.prog.info? 35).map (λi=>(i.zero,i.size,i.bytes))=some (some (.agg #[.int .i64 0,.int .i64 0,.int .i64 0,.int .i64 0]),4,32):=Zk
def VV:(Tryz.prog.info? 42).map (λi=>(i.zero,i.size,i.bytes))=some (some (.agg #[.int .i64 0,.bool false,.int .i64 0,.int .i64 0,.int .i64 0,.int .i64 0,.bool false,.bool false,.int .i64 0,.int .i64 0]),10,72):=Zk
def ON(w:World)(v:Value)(l:List E6)(h:Own w 79 4 v l.length (rows E6.l l))(a:l.length<=100000)(x:E6)(b:Nat)(c:Bk w b 79 x.l.toArray)(t:TypeId):
  ∃v' w',(Builtin.append_ #[72,72] t #[v,.slice (some ⟨b,0,none⟩) 1 1]).run Tryz.prog w=.ok v' w'/\
   Own w' 79 4 v' (l++[x]).length (rows E6.l (l++[x]))/\w.grownBy w' v.ownBlock/\Gi w v v':=
 Cb Vj P3 Tryz.underlying72 xt rfl Zd Zd w v l h a x b c t
def OO(w:World)(v:Value)(l:List AV)(h:Own w 35 4 v l.length (rows AV.l l))(a:l.length<=100000)(x:AV)(b:Nat)(c:Bk w b 35 x.l.toArray)(t:TypeId):
  ∃v' w',(Builtin.append_ #[22,22] t #[v,.slice (some ⟨b,0,none⟩) 1 1]).run Tryz.prog w=.ok v' w'/\
   Own w' 35 4 v' (l++[x]).length (rows AV.l (l++[x]))/\w.grownBy w' v.ownBlock/\Gi w v v':=
 Cb tr Ty Tryz.underlying22 xu rfl Zd Zd w v l h a x b c t
def MF(w:World)(v:Value)(l:List Yr)(h:Own w 42 10 v l.length (rows Yr.l l))(a:l.length<=100000)(x:Yr)(b:Nat)(c:Bk w b 42 x.l.toArray)(t:TypeId):
  ∃v' w',(Builtin.append_ #[37,37] t #[v,.slice (some ⟨b,0,none⟩) 1 1]).run Tryz.prog w=.ok v' w'/\
   Own w' 42 10 v' (l++[x]).length (rows Yr.l (l++[x]))/\w.grownBy w' v.ownBlock/\Gi w v v':=
 Cb WB tz Tryz.underlying37 VV rfl Zd Zd w v l h a x b c t
def mQ(w:World)(r:E6)(T:MT)(F:Nat->Prop):Prop:=
 r.BK=T.BK/\r.last=T.last/\∃a:Nat->Prop,VB w r.gv T.V a/\Own w 35 4 r.q.v T.queue.length (rows AV.l T.queue)/\(∀b,a b->r.q.v.ownBlock≠some b)/\∀b,F b↔a b\/r.q.v.ownBlock=some b
section
variable{w w':World}{r:E6}{T:MT}{F:Nat->Prop}
def mQ.AL(h:mQ w r T F)(d:∀b,F b->w'.heap[b]?=w.heap[b]?):mQ w' r T F:=by
 obtain⟨e,f,g,i,j,k,a⟩:=h;exact⟨e,f,g,i.AL λb c=>d b ((a b).2 (fq c)),j.kept λb c=>d b ((a b).2 (db c)),k,a⟩
def mQ.lt(h:mQ w r T F):∀b,F b->b<w.heap.size:=by
 obtain⟨f,g,i,c,d,j,e⟩:=h;intro b a;rcases(e b).1 a with a|a
 ·exact c.lt b a
 ·exact d.lt a
end
structure DK(w:World)(gp gh:Nat)(P:Aj)(tv bv:B5)(ro:List E6)(Fh:List Nat)(Ft:Nat->Nat->Prop)(lab:Nat->Nat):Prop where
 bk:Bk w gp 74 #[.int .i64 P.st,.pointer (some ⟨gh,0,none⟩),tv.v,bv.v]
 KH:Own w 79 4 tv.v ro.length (rows E6.l ro)
 KE:Own w 42 10 bv.v P.Ap.length (rows Yr.l P.Ap)
 hp:NG w gh P.heap Fh
 len:ro.length=P.Av.length
 th:∀i r T,ro[i]?=some r->P.Av[i]?=some T->mQ w r T (Ft i)
 l0:lab gp=0
 l1:∀b,tv.v.ownBlock=some b->lab b=1
 l2:∀b,bv.v.ownBlock=some b->lab b=2
 l3:∀b∈Fh,lab b=3
 l4:∀i b,i<P.Av.length->Ft i b->lab b=4+i
 low:∀b,b<7->1000<=lab b
 Nt:P.Av.length<=6
section
variable{w w':World}{gp gh:Nat}{P:Aj}{tv bv:B5}{ro:List E6}{Fh:List Nat}{Ft:Nat->Nat->Prop}{lab:Nat->Nat}
def DK.dG(h:DK w gp gh P tv bv ro Fh Ft lab){i:Nat}(c:i<P.Av.length):∀b,Ft i b->b<w.heap.size:=by
 have a:i<ro.length:=by rw[h.len];exact c
 exact(h.th i ro[i] P.Av[i] (gl a) (gl c)).lt
def DK.below(h:DK w gp gh P tv bv ro Fh Ft lab)(a:Below w.heap.size w w'):DK w' gp gh P tv bv ro Fh Ft lab:=
 ⟨h.bk.Af a,h.KH.below a,h.KE.below a,h.hp.same λb c=>a.block b (h.hp.lt b c),h.len,λi r T d e=>(h.th i r T d e).AL λb c=>a.block b ((h.th i r T d e).lt b c),h.l0,h.l1,h.l2,h.l3,h.l4,h.low,h.Nt⟩
open Classical in
def DK.add{w2:World}{u:B5}{r:E6}{T:MT}{F:Nat->Prop}(h:DK w gp gh P tv bv ro Fh Ft lab)(N:Own w2 79 4 u.v (ro++[r]).length (rows E6.l (ro++[r])))(B:w.grownBy w2 tv.v.ownBlock)(p:Gi w tv.v u.v)
  (C:mQ w r T F)(hF:∀b,F b->1000<=lab b)(D:∀b,F b->7<=b)(S:7<=w.heap.size)(U:P.Av.length<6):∃E k,DK (w2.setCell ⟨gp,2,none⟩ u.v) gp gh {P with Av:=P.Av++[T]} u bv (ro++[r]) Fh E k/\
   (∀b,k b<1000->lab b<1000\/F b\/w.heap.size<=b)/\∀b,1000<=lab b->b<w.heap.size->¬F b->1000<=k b:=by
 have G:=h.bk.lt
 have x:tv.v.ownBlock≠some gp:=λe=>by have:=h.l1 gp e;rw[h.l0] at this;omega
 have K:u.v.ownBlock≠some gp:=λe=>(p gp e).elim x λA=>Zo
 have O:∀b,F b->u.v.ownBlock≠some b:=λb a e=>(p b e).elim (λe=>by have:=h.l1 b e;have:=hF b a;omega) λA=>by have:=C.lt b a;omega
 have n:∀b,b<w.heap.size->tv.v.ownBlock≠some b->b≠gp->(w2.setCell ⟨gp,2,none⟩ u.v).heap[b]?=w.heap[b]?:=λb a f g=>
  ((X2 w2 gp 2 u.v).block b (ib a B.size) (λe=>g (by cases e;rfl))).trans (B.block b a λe=>f e.symm)
 have H:∀b c,lab b=c->c≠0->c≠1->b<w.heap.size->(w2.setCell ⟨gp,2,none⟩ u.v).heap[b]?=w.heap[b]?:=λb c e Q f a=>n b a (λy=>f (by rw[←e];exact h.l1 b y)) λy=>Q (by rw[←e,y];exact h.l0)
 have d:∀b,b<w.heap.size->u.v.ownBlock≠some b->¬F b->(if u.v.ownBlock=some b then 1 else if F b then 4+P.Av.length else if w.heap.size<=b then 1000 else lab b)=lab b:=λb f g q=>by rw[fw g,fw q,fw Zo]
 have I:∀b c,lab b=c->c≠1->b<w.heap.size->u.v.ownBlock≠some b:=λb c e f a y=>(p b y).elim (λJ=>f (by rw[←e];exact h.l1 b J)) λA=>Zo
 refine⟨λi=>if i=P.Av.length then F else Ft i,λb=>if u.v.ownBlock=some b then 1 else if F b then 4+P.Av.length else if w.heap.size<=b then 1000 else lab b,⟨?_,?_,?_,?_,?_,?_,?_,?_,?_,?_,?_,?_,?_⟩,?_,?_⟩
 ·exact Y1 ((h.bk.grown B (λe=>x e.symm)).Ez 2 u.v) Zk
 ·exact N.grown (X2 w2 gp 2 u.v) (db K)
 ·exact h.KE.kept λb a=>H b 2 (h.l2 b a) Zd Zd (h.KE.lt a)
 ·exact h.hp.same λb a=>H b 3 (h.l3 b a) Zd Zd (h.hp.lt b a)
 ·simp[h.len]
 ·intro i L M f g;by_cases s:i=P.Av.length
  ·rw[ga s];have R:L=r:=by rw[s,←h.len,je (Nat.le_refl _)] at f;simpa using f.symm
   have J:M=T:=by rw[s] at g;simp only[je (Nat.le_refl _)] at g;simpa using g.symm
   rw[R,J];exact C.AL λb a=>n b (C.lt b a) (λe=>by have:=h.l1 b e;have:=hF b a;omega) λe=>by have:=h.l0;have:=hF b a;rw[e] at this;omega
  ·rw[fw s];have m:i<P.Av.length:=by
    rcases iw i (P.Av.length+1) with j|j
    ·omega
    ·rw[ik (by simpa using j)] at g;cases g
   rw[ke (by rw[h.len];exact m)] at f;simp only[ke m] at g;exact(h.th i L M f g).AL λb a=>H b (4+i) (h.l4 i b m a) Zo Zo (h.dG m b a)
 ·show(if _ then _ else _)=0;rw[d gp G K λj=>by have:=hF gp j;rw[h.l0] at this;omega];exact h.l0
 ·intro b a;show(if _ then _ else _)=1;rw[ga a]
 ·intro b a;have:=h.l2 b a;show(if _ then _ else _)=2;rw[d b (h.KE.lt a) (I b 2 this Zd (h.KE.lt a)) λj=>by have:=hF b j;omega];exact this
 ·intro b a;have:=h.l3 b a;show(if _ then _ else _)=3;rw[d b (h.hp.lt b a) (I b 3 this Zd (h.hp.lt b a)) λj=>by have:=hF b j;omega];exact this
 ·intro i b s a;replace a:(if i=P.Av.length then F else Ft i) b:=a;by_cases o:i=P.Av.length
  ·rw[ga o] at a;show(if _ then _ else _)=4+i;rw[fw (O b a),ga a,o]
  ·rw[fw o] at a;have m:i<P.Av.length:=by simp at s;omega
   have z:=h.l4 i b m a;show(if _ then _ else _)=4+i;rw[d b (h.dG m b a) (I b (4+i) z Zo (h.dG m b a)) λj=>by have:=hF b j;have:=h.Nt;omega];exact z
 ·intro b a;show 1000<=(if _ then _ else _);have m:=h.low b a;rw[d b Zo (λe=>(p b e).elim (λe=>by have:=h.l1 b e;omega) λA=>Zo) λj=>by have:=D b j;omega];exact m
 ·show(P.Av++[T]).length<=6;simp;omega
 ·intro b a;by_cases f:F b
  ·exact db (fq f)
  ·by_cases g:w.heap.size<=b
   ·exact db (db g)
   ·refine fq ?_;by_cases q:u.v.ownBlock=some b
    ·rcases p b q with e|e
     ·rw[h.l1 b e];decide
     ·omega
    ·simp only at a;rwa [d b Zo q f] at a
 ·intro b f g q;show 1000<=(if _ then _ else _);rw[d b g (λe=>(p b e).elim (λe=>by have:=h.l1 b e;omega) λA=>Zo) q];exact f
end
