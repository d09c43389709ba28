/- Core: RC, RD, RE, RF, PE, PF, PG. -/
import Derived.Test.YtaipogljokblkaaGreatDoorP17
import Derived.Test.YtaipogljokblkaaGreatDoorP11
set_option linter.all false
set_option maxRecDepth 100000
set_option maxHeartbeats 8000000
namespace Go.Proofs.YtaipogljokblkaaGreatDoor
open Go Go.RowKit
def Cf{w:World}{g:Nat}{R:Xd}(h:Bk w g 171 R.l.toArray)(i:Nat)(u:Value)(e:R.l.toArray[i]?=some u):w.cell? ⟨g,i,none⟩=some u:=(h.cell i).trans e
def tl{w:World}{g:Nat}{R:Xd}(h:Bk w g 171 R.l.toArray):w.cell? ⟨g,98,none⟩=some R.notes.v/\w.cell? ⟨g,4,none⟩=some (.int .i64 R.call.AU.sl)/\w.cell? ⟨g,5,none⟩=some (.int .i64 R.call.AU.gn)/\
  w.cell? ⟨g,6,none⟩=some (.int .i64 R.call.AU.tg)/\w.cell? ⟨g,7,none⟩=some (.int .i64 R.call.AU.nm)/\w.cell? ⟨g,8,none⟩=some (.bool R.call.AU.mark):=
 ⟨Cf h 98 _ Zk,Cf h 4 _ Zk,Cf h 5 _ Zk,Cf h 6 _ Zk,Cf h 7 _ Zk,Cf h 8 _ Zk⟩
def sa(w:World)(g:Nat)(R:Xd)(ns ds:List Xw)(ss:List Xe)(e:Ending)(w':World):Prop:=
 e=.returned (.tuple #[])/\∃a:B5,RB w' g {R with notes:=a} ns ds ss/\Aq (Yn g R) w w'/\(∀b,a.v.ownBlock=some b->R.notes.v.ownBlock=some b\/w.heap.size<=b)
def G0(R:Xd)(u:B5):R.l.toArray.setIfInBounds 98 u.v=({R with notes:=u}:Xd).l.toArray:=Zk
def RB.notes{w w2:World}{g:Nat}{R:Xd}{ns c ds:List Xw}{ss:List Xe}(h:RB w g R ns ds ss){u:B5}(o:Own w2 201 7 u.v c.length (rows Xw.l c))
  (d:w.grownBy w2 R.notes.v.ownBlock)(f:Gi w R.notes.v u.v):RB (w2.setCell ⟨g,98,none⟩ u.v) g {R with notes:=u} c ds ss/\Aq (Yn g R) w (w2.setCell ⟨g,98,none⟩ u.v):=by
 have p:=h.bk.lt
 have q:Bk w2 g 171 R.l.toArray:=h.bk.grown d (λe=>h.gn e.symm)
 have m:u.v.ownBlock≠some g:=λe=>(f g e).elim h.gn (λn=>Zo)
 have r:=h.od.grown d (by cases i:R.Au.v.ownBlock with|none=>exact fq rfl|some b=>exact db (λe=>h.nd b e.symm i))
 have s:=h.os.grown d (by cases i:R.seen.v.ownBlock with|none=>exact fq rfl|some b=>exact db (λe=>h.ns b e.symm i))
 have j:∀{v:Value},v.ownBlock≠some g->v.ownBlock=none\/v.ownBlock≠some g:=λx=>db x
 have a:=X2 w2 g 98 u.v
 refine⟨⟨by rw[←G0];exact q.Ez 98 u.v,o.grown a (j m),r.grown a (j h.gd),s.grown a (j h.gs),m,h.gd,h.gs,λb k=>(f b k).elim (h.nd b) (λn e=>by have:=h.od.lt e;omega),λb k=>(f b k).elim (h.ns b) (λn e=>by have:=h.os.lt e;omega),h.ds⟩,?_⟩
 refine(Aq.Ax (b:=0) d λb e=>Xs.2 (db (fq e))).trans ?_
 exact Aq.Ax (b:=0) a λb e=>Xs.2 (fq (by injection e with e;exact e.symm))
def uk(x:Xe):(Yx x).l.toArray=#[.int .i64 x.sl,.int .i64 x.gn,.int .i64 0,.int .i64 0,.bool false]:=rfl
def VH(w:World)(g:Nat)(R:Xd)(ns ds:List Xw)(ss:List Xe)(h:RB w g R ns ds ss)(L:ns.length<=100000)(j k:Int):
  Kp 93 #[.pointer (some ⟨g,0,none⟩),.int .i64 j,.int .i64 k] w (sa w g R (ns++[⟨Yx R.call.AU,j,k⟩]) ds ss):=by
 have G:=eR h
 have HB:=eR h.bk
 have M:=h.bk.lt
 clear h
 go_enter Tryz.func93,Tryz.ntmps93
 refine Yh (λN=>Bk N g 171 R.l.toArray) 17 Zk HB.out.drew (λd=>?_)
 have H:Hid (RB w.drew g R ns ds ss):=eR (G.out.CJ (F:=[]) (Aq.Ai (fx _ _).drew) (λ_ _=>ic))
 have I:Hid (Aq [] w w.drew):=eR (Aq.Ai (fx _ _).drew)
 clear G HB
 generalize w.drew=T at*
 ((try simp only[ZL]);refine vT (fuel:=7) d [0,1,2,3,4,5,6,7,8,9,10,12,13] ?_;simp only[Yb,Xv,fs];(repeat go_big_quiet_step ((intro p;obtain⟨q,U,V,W,X,Y⟩:=tl p;go_simp;first|done|rfl|exact⟨rfl,rfl⟩)));refine gw ?_;(try dsimp only))
 (refine Xn 11 Zk (λK a=>?_);simp only[Xv,fs])
 go_wp2_with fail
 refine(cW R.call.AU _).mono ?_
 rintro e B ⟨rfl,C⟩
 have c:=eR (H.out.CJ C (λ_ _=>ic))
 have r:=eR (I.out.trans C)
 clear H I C d
 rw[uk]
 go_wp2_with fail
 refine a.out _ _ (λ_=>c.out.bk) ?_
 clear a
 have d:=c.out.bk
 ((try simp only[ZL]);refine vT (fuel:=5) d [14] ?_;simp only[Yb,Xv,fs];(repeat go_big_quiet_step ((intro p;go_simp;first|done|rfl|exact⟨rfl,rfl⟩)));refine gw ?_;(try dsimp only))
 (refine Xn 15 Zk (λK a=>?_);simp only[Xv,fs])
 go_wp2_with fail
 have s:Hid (RB (B.alloc (.cells #[.int .i64 R.call.AU.sl,.int .i64 R.call.AU.gn,.int .i64 0,.int .i64 0,.bool false,.int .i64 j,.int .i64 k] 201)) g R ns ds ss):=eR (c.out.CJ (F:=[]) (Aq.Ai ((fx _ _).alloc (Nat.le_refl _) _)) (λ_ _=>ic))
 have y:Hid (Aq [] w (B.alloc (.cells #[.int .i64 R.call.AU.sl,.int .i64 R.call.AU.gn,.int .i64 0,.int .i64 0,.bool false,.int .i64 j,.int .i64 k] 201))):=eR (r.out.trans (Aq.Ai ((fx _ _).alloc (Nat.le_refl _) _)))
 obtain⟨Z,w5,i,D,E,n⟩:=FE _ R.notes.v ns s.out.on L ⟨Yx R.call.AU,j,k⟩ B.heap.size (Bk.at_ rfl) 64
 obtain⟨O,P,rfl,_,_⟩:=AN D
 have z:=eR (fy (s.out.notes (u:=⟨O,(ns++[(⟨Yx R.call.AU,j,k⟩:Xw)]).length,P⟩) D E n) (fy n (s.out.bk.grown E (λe=>s.out.gn e.symm))))
 have J:=eR i
 refine a.out _ _ (λ_=>s.out.bk) ?_
 clear a d D E n i c r
 generalize(ns++[(⟨Yx R.call.AU,j,k⟩:Xw)]).length=m at*
 (refine Xn 16 Zk (λK a=>?_);simp only[Xv,fs])
 go_wp2_with (at_builtin;refine Yj Zr _ _ _ _ _ _ _ Zr Zr Zr J.out ?_)
 refine a.out _ _ (λ_=>z.out.2.2) ?_
 clear a J
 have d:=z.out.2.2
 have q:=d.cell 98
 have f98:=d.free 98
 rw[show R.l.toArray[98]?=some R.notes.v from Zk] at q
 ((refine Xn 17 Zk (λK a=>?_);simp only[Xv,fs]);go_wp2_with fail;refine a.out _ _ (λh=>absurd h Zo) ?_;clear a)
 ((refine Xn 18 Zk (λK a=>?_);simp only[Xv,fs]);go_wp2_with fail;refine a.out _ _ (λh=>absurd h Zo) ?_;clear a)
 (refine Xn 19 Zk (λK a=>?_);simp only[Xv,fs])
 go_wp2_with fail
 refine a.out _ _ (λh=>absurd h Zo) ?_
 clear a
 refine Yk Zk ?_ _
 go_wp2_with fail
 go_end0
 refine⟨rfl,_,z.out.1.1,(y.out.mono (λx Q=>by cases Q)).trans z.out.1.2,λb S=>(z.out.2.1 b S).imp id (λh=>?_)⟩
 have:=y.out.size
 omega
def Zm(R:Xd)(a b c:B5):Xd:={R with notes:=a,Au:=b,seen:=c}
def Jm(R:Xd):Prop:=1<=R.Ae/\R.Ae<=6
def Ms(f:Xd->Xd):Prop:=∀R a b c,Jm R->f (Zm R a b c)=Zm (f R) a (bif (f R).step==0 then Bz else b) (bif (f R).step==0 then Bz else c)
def BI(w:World)(g:Nat)(F:List Nat)(v:Value)(M:MR)(e:Ending)(w':World):Prop:=
 e=.returned v/\∃a b c:B5,RB w' g (Zm M.R a b c) M.ns M.ds M.ss/\Aq F w w'/\(∀x∈Yn g (Zm M.R a b c),x∈F\/w.heap.size<=x)
def RB.same{w w':World}{g:Nat}{R:Xd}{ns ds:List Xw}{ss:List Xe}(h:RB w g R ns ds ss)(d:Bk w' g 171 R.l.toArray)(e:Aq [g] w w'):RB w' g R ns ds ss:=h.Ar d e rfl (fq ⟨rfl,rfl⟩) (fq ⟨rfl,rfl⟩)
section
variable{w w1 w':World}{g:Nat}{F:List Nat}{R:Xd}{a b c:B5}{ns ds:List Xw}{ss:List Xe}{v:Value}
def I2(h:Aq [g] w w')(d:g∈F):Aq F w w':=h.mono λx e=>fq (by rw[ft.1 e];exact d)
def DZ(n:Jm R)(k:g∈F)(d:Aq F w w1)(h:RB w1 g (Zm R a b c) ns ds ss)(hF:∀x∈Yn g (Zm R a b c),x∈F\/w.heap.size<=x){f:Xd->Xd}(o:Ms f)(e:Bk w' g 171 (f (Zm R a b c)).l.toArray)(i:Aq [g] w1 w'):
  BI w g F v (MR.wrap ⟨R,ns,ds,ss⟩ (f R)) (.returned v) w':=by
 rw[o R a b c n] at e
 unfold MR.wrap
 cases m:((f R).step==0) with
 |true=>
  rw[m] at e
  refine⟨rfl,a,Bz,Bz,h.Ar e i rfl (db ⟨rfl,rfl⟩) (db ⟨rfl,rfl⟩),d.trans (I2 i k),λx j=>hF x ?_⟩
  rcases Xs.1 j with h1|h1|h1|h1
  ·exact Xs.2 (fq h1)
  ·exact Xs.2 (db (fq h1))
  ·cases h1
  ·cases h1
 |false=>
  rw[m] at e
  exact⟨rfl,a,b,c,h.Ar e i rfl (fq ⟨rfl,rfl⟩) (fq ⟨rfl,rfl⟩),d.trans (I2 i k),λx j=>hF x (Xs.2 (Xs.1 j))⟩
end
def Ph(x:Xr):Ms λR=>R.finish x:=λR a b c d=>rfl
def DL:Ms Xd.done:=λR a b c d=>rfl
def Fk{st:Int}(h:(st==0)=false)(a:Bx):Ms λR=>R.ask st a:=λR x y z d=>by
 have e:(R.ask st a).step=st:=rfl;simp only[e,h,gx];rfl
def Fg{st:Int}(h:(st==0)=false)(a:Yc):Ms λR=>R.load st a:=Fk h _
def VZ{st:Int}(h:(st==0)=false):Ms λR=>R.advance st:=λR x y z d=>by
 have e:(R.advance st).step=st:=rfl;simp only[e,h,gx];rfl
def NS{f h:Xd->Xd}{p:Xd->Bool}(e:∀R a b c,p (Zm R a b c)=p R)(i:Ms f)(j:Ms h):Ms λR=>bif p R then f R else h R:=λR a b c d=>by
 simp only[e];cases p R with
 |true=>exact i R a b c d
 |false=>exact j R a b c d
def Kq(R:Xd)(a b c:B5)(n:Int):(Zm R a b c).look n=(Zm (R.look n).1 a b c,(R.look n).2):=by
 unfold Xd.look;show(bif R.AO then _ else _)=_;cases R.AO with
 |true=>
  show(bif decide (wr (R.Ae*9)<=n) then _ else _)=_;cases decide (wr (R.Ae*9)<=n) with
  |true=>rfl
  |false=>rfl
 |false=>
  show(bif decide (R.Ae<=n) then _ else _)=_;cases decide (R.Ae<=n) with
  |true=>rfl
  |false=>rfl
def bY{n:Int}(d:-9223372036854775808<=n)(e:n<9223372036854775808):wr n=n:=IntWalk.i64_in _ ⟨d,Zo⟩
def JF:Ms Xd.scan:=λR a b c d=>by
 obtain⟨f,h⟩:=d;unfold Xd.scan;show(bif R.Aa==1 then _ else _)=_;cases R.Aa==1 with
 |true=>rfl
 |false=>
  show(bif R.Aa==4 then _ else _)=_;cases R.Aa==4 with
  |true=>rfl
  |false=>
   show((Zm R a b c).look 0).1=_;rw[Kq];show Zm (R.look 0).1 a b c=Zm (R.look 0).1 a (bif (R.look 0).1.step==0 then Bz else b) (bif (R.look 0).1.step==0 then Bz else c);have e:(R.look 0).1.step=13:=by
    unfold Xd.look;cases R.AO with
    |true=>
     rw[show decide (wr (R.Ae*9)<=0)=false from gz (by rw[bY Zo Zo];omega)];rfl
    |false=>
     rw[show decide (R.Ae<=0)=false from gz Zo];rfl
   rw[e];rfl
def rQ{w:World}{E:TypeId}{sz:Nat}{s:B5}{n:Nat}{xs:List Value}(h:Own w E sz s.v n xs):s.n=n:=by
 obtain⟨a,c,e,_⟩:=AN h;unfold B5.v at e;injection e
def xI(R:Xd)(ns ds:List Xw)(ss:List Xe)(x:Xr)(d:R.step=10):MR.Ah ⟨R,ns,ds,ss⟩ x=bif R.dating then MR.wrap ⟨{R with clock:=x.word},ns++[⟨Yx R.call.AU,R.word.nm,x.word.nm⟩],ds,ss⟩ (Xd.advance {R with clock:=x.word} 11) else MR.noted ⟨{R with clock:=x.word},ns++[⟨Yx R.call.AU,R.word.nm,x.word.nm⟩],ds,ss⟩:=by
 unfold MR.Ah;simp only[d];rfl
def IV{w:World}{g:Nat}{R:Xd}(h:Bk w g 171 R.l.toArray):w.cell? ⟨g,18,none⟩=some (.int .i64 R.step):=Cf h 18 _ Zk
def M3(w:World)(g:Nat)(R:Xd)(ns ds:List Xw)(ss:List Xe)(x:Xr)(h:RB w g R ns ds ss)(hl:ns.length<=100000)(Z:R.step=10)(ht:Jm R)(he:R.Aa=2\/R.Aa=4):
  Kp 80 #[.pointer (some ⟨g,0,none⟩),.agg x.l.toArray] w (BI w g (Yn g R) (.tuple #[]) (MR.Ah ⟨R,ns,ds,ss⟩ x)):=by
 have E:R.dating=false:=by unfold Xd.dating;simp only[nw,lm];omega
 have G:=IV h.bk
 rw[Z] at G
 obtain⟨⟨k,m,n,j,o⟩,y⟩:=x
 show Kp 80 #[.pointer (some ⟨g,0,none⟩),.agg #[.int .i64 k,.int .i64 m,.int .i64 n,.int .i64 j,.bool o,.bool y]] w _
 have T:Hid (RB (w.alloc (.cells #[.int .i64 k,.int .i64 m,.int .i64 n,.int .i64 j,.bool o,.bool y] 108)) g R ns ds ss):=eR (h.CJ (F:=[]) (Aq.Ai ((fx _ _).alloc (Nat.le_refl _) _)) (λ_ _=>ic))
 have HC:Hid (Aq [] w (w.alloc (.cells #[.int .i64 k,.int .i64 m,.int .i64 n,.int .i64 j,.bool o,.bool y] 108))):=eR (Aq.Ai ((fx _ _).alloc (Nat.le_refl _) _))
 have X0:Bk (w.alloc (.cells #[.int .i64 k,.int .i64 m,.int .i64 n,.int .i64 j,.bool o,.bool y] 108)) w.heap.size 108 #[.int .i64 k,.int .i64 m,.int .i64 n,.int .i64 j,.bool o,.bool y]:=Bk.at_ rfl
 have ab:=h.bk.lt
 have hz:Hid (w.heap.size<(w.alloc (.cells #[.int .i64 k,.int .i64 m,.int .i64 n,.int .i64 j,.bool o,.bool y] 108)).heap.size):=eR Zs
 clear h
 go_enter Tryz.func80,Tryz.ntmps80
 go_wp2_with (refine Y2 Zr _ _ _ Zr g 38 _ Zr Zr _ _ ({R with clock:=⟨k,m,n,j,o⟩}:Xd).l.toArray T.out.bk (j6 Zk) Zk Zr Zk ?_;intro u r)
 obtain⟨d,q⟩:∃d,d=({R with clock:=⟨k,m,n,j,o⟩}:Xd):=⟨_,rfl⟩
 rw[←q] at r
 have U:Hid (d.clock.nm=j/\d.word.nm=R.word.nm/\d.notes=R.notes/\Yn g d=Yn g R/\d.dating=R.dating/\d.call.AU=R.call.AU):=by subst q;exact eR ⟨rfl,rfl,rfl,rfl,rfl,rfl⟩
 have z:Aq [g] (w.alloc (.cells #[.int .i64 k,.int .i64 m,.int .i64 n,.int .i64 j,.bool o,.bool y] 108)) u:=Aq.Ax (b:=0) r.grown (λb e=>by injection e with e;simp[e])
 have P:Hid (RB u g d ns ds ss):=by subst q;exact eR (T.out.Ar r.bk z rfl (fq ⟨rfl,rfl⟩) (fq ⟨rfl,rfl⟩))
 have C2:Hid (Aq (Yn g R) w u):=eR ((HC.out.mono (λx H=>by cases H)).trans (z.mono (λx H=>fq (by rw[ft.1 H];exact Xs.2 (fq rfl)))))
 have I:=eR q
 clear z r T HC X0 hz G q
 have S2:u.cell? ⟨g,36,none⟩=some (.int .i64 d.word.nm)/\u.cell? ⟨g,41,none⟩=some (.int .i64 d.clock.nm):=⟨Cf P.out.bk 36 _ Zk,Cf P.out.bk 41 _ Zk⟩
 refine Yh (λw'=>w'.cell? ⟨g,36,none⟩=some (.int .i64 d.word.nm)/\w'.cell? ⟨g,41,none⟩=some (.int .i64 d.clock.nm)) 14 Zk S2 (λhS=>?_)
 have H3:Hid (RB u.drew g d ns ds ss):=eR (P.out.CJ (F:=[]) (Aq.Ai (fx _ _).drew) (λ_ _=>ic))
 have C3:Hid (Aq (Yn g R) w u.drew):=eR (C2.out.trans (Aq.Ai (fx _ _).drew))
 clear P C2 S2
 generalize u.drew=w3 at*
 ((try simp only[ZL]);refine vT (fuel:=1) hS [0,1,2,3,4,5,6,7,8,9,10,11,12] ?_;simp only[Yb,Xv,fs];(repeat (first|go_big_quiet_skip|(go_big_quiet_want;first|(go_big_quiet_op;go_big_quiet_on)|(apply g7;refine⟨λw' V=>?_,?_⟩;(· (obtain⟨ad,ae⟩:=V;go_simp;first|done|rfl|exact⟨rfl,rfl⟩));go_big_quiet_on;simp only[ZL]))));refine gw ?_;(try dsimp only))
 (refine Xn 13 Zk (λK hK=>?_);simp only[Xv,fs])
 go_wp2_with fail
 refine(VH w3 g d ns ds ss H3.out hl d.word.nm d.clock.nm).mono ?_
 rintro e w4 ⟨rfl,J,p,L,B⟩
 go_wp2_with fail
 refine hK.out _ _ (λ_=>⟨Cf p.bk 36 _ Zk,Cf p.bk 41 _ Zk⟩) ?_
 clear hK hS
 refine Yk Zk ?_ _
 obtain⟨C,s⟩:∃C,C=({d with notes:=J}:Xd):=⟨_,rfl⟩
 rw[←s] at p
 have eN:(⟨Yx d.call.AU,d.word.nm,d.clock.nm⟩:Xw)=⟨Yx R.call.AU,R.word.nm,j⟩:=by rw[I.out]
 rw[eN] at p
 have e4:C=Zm {R with clock:=⟨k,m,n,j,o⟩} J R.Au R.seen:=by rw[s,I.out];rfl
 have HB:=eR p;have M:=eR e4;clear e4;have W:=eR L;have af:=eR B
 have X:C.dating=R.dating:=by rw[s];exact U.out.2.2.2.2.1
 have HF:Hid (∀x∈Yn g (Zm {R with clock:=⟨k,m,n,j,o⟩} J R.Au R.seen),x∈Yn g R\/w.heap.size<=x):=by
  refine eR (λx H=>?_);have hz:=C3.out.size;rcases Xs.1 H with h1|h1|h1|h1
  ·exact fq (Xs.2 (fq h1))
  ·rcases B x h1 with h2|h2
   ·rw[U.out.2.2.1] at h2;exact fq (Xs.2 (db (fq h2)))
   ·right;omega
  ·exact fq (Xs.2 (d2 (fq h1)))
  ·exact fq (Xs.2 (d2 (db h1)))
 clear p s L B H3
 go_wp2_with fail
 refine(Vs C g w4 HB.out.bk).mono ?_
 rintro e Q ⟨rfl,N,D⟩
 have S:=eR (HB.out.same N D);have CC:Hid (Aq (Yn g R) w Q):=eR ((C3.out.trans (U.out.2.2.2.1▸W.out)).trans (I2 D (Xs.2 (fq rfl))))
 clear N D
 simp only
 rw[X,E]
 go_wp2_with fail
 refine(OA C g Q S.out.bk).mono ?_
 rintro e w6 ⟨rfl,i,O⟩
 have Y:=eR i;have C6:=eR O
 clear i O
 go_wp2_with fail
 go_end0
 rw[xI _ _ _ _ _ Z,E]
 show BI w g (Yn g R) _ (bif decide (R.most<=((ns++[(⟨Yx R.call.AU,R.word.nm,j⟩:Xw)]).length:Int)) then _ else _) _ _
 have i:=Y.out
 unfold Xd.noted at i
 rw[rQ S.out.on] at i
 rw[show C.most=R.most from by rw[M.out];rfl] at i
 cases hm:decide (R.most<=((ns++[(⟨Yx R.call.AU,R.word.nm,j⟩:Xw)]).length:Int)) with
 |true=>
  rw[hm] at i
  exact DZ (w1:=Q) (R:={R with clock:=⟨k,m,n,j,o⟩}) (a:=J) (b:=R.Au) (c:=R.seen) ht (Xs.2 (fq rfl)) CC.out (M.out▸S.out) HF.out JF (M.out▸i) C6.out
 |false=>
  rw[hm] at i
  exact DZ (w1:=Q) (R:={R with clock:=⟨k,m,n,j,o⟩}) (a:=J) (b:=R.Au) (c:=R.seen) ht (Xs.2 (fq rfl)) CC.out (M.out▸S.out) HF.out DL (M.out▸i) C6.out
def Aq.seq{w w1 w':World}{F F1:List Nat}(a:Aq F w w1)(hF:∀x∈F1,x∈F\/w.heap.size<=x)(h:Aq F1 w1 w'):Aq F w w':=
 ⟨h.os.trans a.os,h.tape.trans a.tape,h.output.trans a.output,gb a.size h.size,λb c d=>(h.A5 b (ib c a.size) (λe=>(hF b e).elim d (λf=>Zo))).trans (a.A5 b c d)⟩
def BI.after{w w1 w':World}{g:Nat}{F F1:List Nat}{v:Value}{M:MR}{e:Ending}(f:Aq F w w1)(hF:∀x∈F1,x∈F\/w.heap.size<=x)(h:BI w1 g F1 v M e w'):BI w g F v M e w':=by
 obtain⟨i,a,b,c,j,d,k⟩:=h;have m:=f.size;exact⟨i,a,b,c,j,f.seq hF d,λx l=>(k x l).elim (hF x) (λh=>db Zo)⟩
def II{w:World}{g:Nat}{R:Xd}(h:Bk w g 171 R.l.toArray):w.cell? ⟨g,41,none⟩=some (.int .i64 R.clock.nm)/\w.cell? ⟨g,44,none⟩=some R.seen.v/\w.cell? ⟨g,45,none⟩=some R.Au.v/\w.cell? ⟨g,46,none⟩=some (.int .i64 R.Aa)/\w.cell? ⟨g,98,none⟩=some R.notes.v:=
 ⟨Cf h 41 _ Zk,Cf h 44 _ Zk,Cf h 45 _ Zk,Cf h 46 _ Zk,Cf h 98 _ Zk⟩
def Ly(w:World)(g:Nat)(R:Xd)(ns ds:List Xw)(ss:List Xe)(h:RB w g R ns ds ss)(t:Jm R)(G:ds.length<=100000):
  Kp 102 #[.pointer (some ⟨g,0,none⟩)] w (BI w g (Yn g R) (.tuple #[]) (MR.reap ⟨R,ns,ds,ss⟩)):=by
 obtain⟨_,_,i,_,_⟩:=II h.bk
 have l:=eR h
 have u:=h.bk.lt
 cases ds with
 |nil=>
  obtain⟨a,y,e,_⟩:=AN h.od
  rw[e] at i
  clear e h
  simp only[mr] at i
  go_enter Tryz.func102,Tryz.ntmps102
  go_wp2_with fail
  refine(jF R g w l.out.bk).mono ?_
  rintro e m ⟨rfl,j,k⟩
  have HB:=eR j;have n:=eR k
  clear j k
  go_wp2_with fail
  go_end0
  exact DZ (w1:=w) (R:=R) (a:=R.notes) (b:=R.Au) (c:=R.seen) t (Xs.2 (fq rfl)) (Aq.refl _ _) l.out (λx o=>fq o) DL HB.out n.out
 |cons d r=>
  obtain⟨b,z,y,e,p⟩:=Fa h.od Zs
  have q:=h.od
  rw[e] at i q
  have s:=NP Q6 q 0 Zs
  rw[ov,l9] at s
  obtain⟨B,C,D,E,F,_,_⟩:=OE s
  simp only[nf] at B C D E F
  simp only[jb] at i p
  clear q s e h
  have H:¬(r.length+1=0):=Zo
  go_enter Tryz.func102,Tryz.ntmps102
  go_wp2_with fail
  refine(qX R 16 ⟨5,.zero,d.ref,.zero⟩ g w l.out.bk).mono ?_
  rintro e m ⟨rfl,j,k⟩
  have HB:=eR j;have n:=eR k
  clear j k
  go_wp2_with fail
  go_end0
  have:=DZ (v:=.tuple #[]) (w1:=w) (R:=R) (a:=R.notes) (b:=R.Au) (c:=R.seen) t (Xs.2 (fq rfl)) (Aq.refl _ _) l.out (λx o=>fq o) (Fk (st:=16) rfl ⟨5,.zero,d.ref,.zero⟩) HB.out n.out
  exact this
def x6(x:Xe):(Ei x).l.toArray=#[.bool (Ei x).is,.int .i64 (Ei x).low,.int .i64 (Ei x).KS]:=rfl
def yu(w:World)(E:TypeId)(sz:Nat)(n:Nat)(xs:List Value)(e:Ending)(w':World):Prop:=
 ∃v,e=.returned v/\Own w' E sz v n xs/\Below w.heap.size w w'/\∀b,v.ownBlock=some b->w.heap.size<=b
def ME(w:World)(v:Value)(l:List BL)(h:Own w 169 3 v l.length (rows BL.l l))(a:l.length<=100000)(x:BL)(b:Nat)(c:Bk w b 169 x.l.toArray)(t:TypeId):
  ∃v' w',(Builtin.append_ #[213,213] t #[v,.slice (some ⟨b,0,none⟩) 1 1]).run Tryz.prog w=.ok v' w'/\
   Own w' 169 3 v' (l++[x]).length (rows BL.l (l++[x]))/\w.grownBy w' v.ownBlock/\Gi w v v':=
 Cb F4 sone Tryz.underlying213 tF rfl Zd Zd w v l h a x b c t
def map_take{a β:Type}{f:a->β}{l:List a}{k:Nat}(b:k<l.length):(l.take (k+1)).map f=(l.take k).map f++[f l[k]]:=by
 rw[m8,gl b,List.map_append];rfl
def UU(w:World)(g:Nat)(R:Xd)(ns ds:List Xw)(ss:List Xe)(h:RB w g R ns ds ss)(hl:ss.length<=1000):
  Kp 99 #[.pointer (some ⟨g,0,none⟩)] w (yu w 169 3 (ss.map Ei).length (rows BL.l (ss.map Ei))):=by
 obtain⟨_,y,_,_,_⟩:=II h.bk
 obtain⟨a,cp,e,L,_⟩:=AN h.os
 have z:Sl w w.heap.size 5 a ss.length (rows Xe.l ss):=Sl.IL (e▸h.os)
 have M:=h.bk.lt
 rw[e] at y
 clear e h
 go_enter Tryz.func99,Tryz.ntmps99
 go_wp2_with fail
 go_loopw [3,12] (fun v i wr=>∃ k:Nat,k≤ss.length∧i = .int .i64 k∧Below w.heap.size w wr ∧
   Own wr 169 3 v ((ss.take k).map Ei).length (rows BL.l ((ss.take k).map Ei))/\(∀b,v.ownBlock=some b->w.heap.size<=b)) (λ_ i _=>ss.length-(intOf i).toNat)
 case atStart=>exact⟨0,ie _,rfl,fx _ _,Own.nil,by simp[Value.ownBlock]⟩
 case round=>
  obtain⟨k,N,rfl,o,d,B⟩:=hrel
  have O:=o.size
  by_cases p:k<ss.length
  ·obtain⟨b,P,rfl,Q,J⟩:=(z.below o).row Qs k p;obtain⟨q0,q1,q2,q3,q4⟩:=OF J;have S:Bk (wr.alloc (.cells #[.int .i64 0,.int .i64 0,.int .i64 0,.int .i64 0,.bool false] 51)) wr.heap.size 51 #[.int .i64 0,.int .i64 0,.int .i64 0,.int .i64 0,.bool false]:=Bk.at_ rfl;have C:=o.alloc o.size (.cells #[.int .i64 0,.int .i64 0,.int .i64 0,.int .i64 0,.bool false] 51);have T:=d.alloc (.cells #[.int .i64 0,.int .i64 0,.int .i64 0,.int .i64 0,.bool false] 51);have D:∀b,u3.ownBlock=some b->b<wr.heap.size:=λb E=>d.lt E;have HS:=eR z;clear d z J;go_wp2_with (refine vM S ?_;intro U c;have V:=c.bk.cell 0;have W:=c.bk.cell 1;have X:=c.bk.cell 2;have Y:=c.bk.cell 3;have Z:=c.bk.cell 4;simp at V W X Y Z);refine(tJ ss[k] U).mono ?_;rintro e K ⟨rfl,q⟩;rw[x6];have n:=q.below;have m:=c.below C O;have r:=m.trans (n.mono m.size);have F:=(T.grown c.grown (by cases h0:u3.ownBlock with|none=>exact fq rfl|some b=>exact db (λe=>by have:=D b h0;cases e;omega))).below n;have MT:=eR (map_take (f:=Ei) p);obtain⟨v',w5,s,d,x,j⟩:=ME (K.alloc (.cells #[.bool (Ei ss[k]).is,.int .i64 (Ei ss[k]).low,.int .i64 (Ei ss[k]).KS] 169)) u3 ((ss.take k).map Ei) (F.alloc _) (by simp;omega) (Ei ss[k]) K.heap.size (Bk.at_ rfl) 213;rw[←MT.out] at d;have G:=eR (fy d (fy x j));clear d x j q;go_wp2_with (at_builtin;refine Yj Zr _ _ _ _ _ _ _ Zr Zr Zr s ?_);obtain⟨d,x,j⟩:=G.out;have z3:=n.size;have z2:=c.size;simp at z2;have u:=(r.alloc r.size (.cells #[.bool (Ei ss[k]).is,.int .i64 (Ei ss[k]).low,.int .i64 (Ei ss[k]).KS] 169));have H:Below w.heap.size w w5:=u.grown x u.size (λb e=>B b e);go_roundw
   case rel=>exact⟨k+1,Zo,by go_num,H,d,λb E=>(j b E).elim (B b) (λh=>by simp at h;omega)⟩
   case measure=>simp[intOf];omega
  ·have I:k=ss.length:=Zo;subst I;rw[np] at d;have G:=eR d;clear d;go_wp2_with fail;go_ret;exact⟨_,rfl,G.out,o,B⟩
def FQ{w:World}{g z B:Nat}{p:Pl}{fr:B5}{C:Value}(h:PB w g z B p fr C)(a:Bx):
  Kp 61 #[.pointer (some ⟨g,0,none⟩),.agg a.l.toArray] w (QJ (p.valid a) w):=by
 have D:=h.bk.lt
 have q:=eR h
 clear h
 (obtain⟨k,⟨d,i,j⟩,⟨m,r,s,u,v⟩,⟨n0,n1,n2,x,y⟩⟩:=a)
 show Kp 61 #[.pointer (some ⟨g,0,none⟩),.agg #[.int .i64 k,.int .i64 d,.int .i64 i,.int .i64 j,.int .i64 m,.int .i64 r,.int .i64 s,.int .i64 u,.bool v,.int .i64 n0,.int .i64 n1,.int .i64 n2,.int .i64 x,.bool y]] w _
 have b:Below w.heap.size w (w.alloc (.cells #[.int .i64 k,.int .i64 d,.int .i64 i,.int .i64 j,.int .i64 m,.int .i64 r,.int .i64 s,.int .i64 u,.bool v,.int .i64 n0,.int .i64 n1,.int .i64 n2,.int .i64 x,.bool y] 114)):=(fx _ _).alloc (Nat.le_refl _) _
 have n:=eR (Vv (q.out.below b) ⟨d,i,j⟩)
 have E:=eR (J0 (q.out.below b) m)
 unfold Pl.valid
 simp only
 cases F:(k==1) with
 |true=>
  go_enter Tryz.func61,Tryz.ntmps61
  go_wp2_with fail
  refine n.out.mono ?_
  rintro e o ⟨rfl,c⟩
  go_wp2_with fail
  go_ret
  exact⟨rfl,b.trans (c.mono b.size)⟩
 |false=>
 cases G:(k==2) with
 |true=>
  go_enter Tryz.func61,Tryz.ntmps61
  go_wp2_with fail
  refine n.out.mono ?_
  rintro e o ⟨rfl,c⟩
  go_wp2_with fail
  go_ret
  exact⟨rfl,b.trans (c.mono b.size)⟩
 |false=>
 cases H:(k==3) with
 |true=>
  go_enter Tryz.func61,Tryz.ntmps61
  go_wp2_with fail
  refine n.out.mono ?_
  rintro e o ⟨rfl,c⟩
  go_wp2_with fail
  go_ret
  exact⟨rfl,b.trans (c.mono b.size)⟩
 |false=>
 cases I:(k==4) with
 |true=>
  go_enter Tryz.func61,Tryz.ntmps61
  go_wp2_with fail
  go_ret
  exact⟨rfl,vB⟩
 |false=>
 cases J:(k==5) with
 |true=>
  go_enter Tryz.func61,Tryz.ntmps61
  go_wp2_with fail
  refine E.out.mono ?_
  rintro e o ⟨rfl,c⟩
  go_wp2_with fail
  go_ret
  exact⟨rfl,b.trans (c.mono b.size)⟩
 |false=>
  go_enter Tryz.func61,Tryz.ntmps61
  go_wp2_with fail
  go_ret
  exact⟨rfl,vB⟩
def aH{p:Pl}{a:Yc}(h:p.has a=true):a.sl=0\/p.BY a.sl=true:=by
 unfold Pl.has at h;cases b:(a.sl==0) with
 |true=>left;simpa using b
 |false=>
  right;rw[b] at h;simp only[gx,gm] at h;exact h.1
def vO.pre{w a w1:World}{b:Bool}{e:Ending}(h:vO b a e w1)(c:Below w.heap.size w a):vO b w e w1:=⟨h.1,c.trans (h.2.mono c.size)⟩
def FP{w:World}{g J K:Nat}{p:Pl}{fr:B5}{L:Value}(h:PB w g J K p fr L)(x:AT w)(a:Bx)(d:p.valid a=true):
  Kp 62 #[.pointer (some ⟨g,0,none⟩),.agg a.l.toArray] w (vO (p.right a) w):=by
 have M:=h.bk.lt
 have N:=x.lt
 have B:=eR h
 have u:=eR x
 clear h x
 (obtain⟨k,⟨i,n,y⟩,⟨m,v,C,D,E⟩,⟨n0,n1,n2,F,G⟩⟩:=a)
 show Kp 62 #[.pointer (some ⟨g,0,none⟩),.agg #[.int .i64 k,.int .i64 i,.int .i64 n,.int .i64 y,.int .i64 m,.int .i64 v,.int .i64 C,.int .i64 D,.bool E,.int .i64 n0,.int .i64 n1,.int .i64 n2,.int .i64 F,.bool G]] w _
 have b:Below w.heap.size w (w.alloc (.cells #[.int .i64 k,.int .i64 i,.int .i64 n,.int .i64 y,.int .i64 m,.int .i64 v,.int .i64 C,.int .i64 D,.bool E,.int .i64 n0,.int .i64 n1,.int .i64 n2,.int .i64 F,.bool G] 114)):=(fx _ _).alloc (Nat.le_refl _) _
 have l1:6<w.heap.size:=Zo
 have l2:3<w.heap.size:=Zo
 obtain⟨O,P,V⟩:=u.out.tc
 obtain⟨Q,R,W⟩:=u.out.A7
 unfold Pl.right
 simp only
 cases S:(k==4) with
 |true=>
  go_enter Tryz.func62,Tryz.ntmps62
  go_wp2_with fail
  go_ret
  exact⟨rfl,vB⟩
 |false=>
 cases H:(k==5) with
 |true=>
  have o:m=0\/p.BY m=true:=by
   right;have:k=5:=by simpa using H
   subst this;exact d
  have z:=eR (K8 (B.out.below b) (u.out.below b) m v o O P)
  clear d o
  go_enter Tryz.func62,Tryz.ntmps62
  go_wp2_with fail
  refine z.out.mono ?_
  intro e U c
  have r:=eR (c.pre b)
  cases s:p.live m v with
  |true=>
   rw[s] at c
   obtain⟨rfl,j⟩:=c
   clear j
   go_wp2_with fail
   go_ret
   exact r.out
  |false=>
   rw[s] at c
   obtain⟨⟨T,q,rfl⟩,j⟩:=c
   clear j
   go_wp2_with fail
   go_ret
   exact r.out
 |false=>
  have o:i=0\/p.BY i=true:=by
   refine aH (a:=⟨i,n,y⟩) ?_;unfold Pl.valid at d;simp only[S,H] at d;cases I:(k==1||(k==2||k==3)) with
   |true=>rw[I] at d;exact d
   |false=>rw[I] at d;cases d
  have z:=eR (K8 (B.out.below b) (u.out.below b) i n o Q R)
  clear d o
  go_enter Tryz.func62,Tryz.ntmps62
  go_wp2_with fail
  refine z.out.mono ?_
  intro e U c
  have r:=eR (c.pre b)
  cases s:p.live i n with
  |true=>
   rw[s] at c
   obtain⟨rfl,j⟩:=c
   clear j
   go_wp2_with fail
   go_ret
   exact r.out
  |false=>
   rw[s] at c
   obtain⟨⟨T,q,rfl⟩,j⟩:=c
   clear j
   go_wp2_with fail
   go_ret
   exact r.out
def vN(p:Addr)(w:World)(e:Ending)(w':World):Prop:=e=.returned (.pointer (some p))/\Below w.heap.size w w'
def Q3{w:World}{g a b:Nat}{p:Pl}{fr:B5}{c:Value}(h:PB w g a b p fr c)(i:Nat)(gn:Int)(j:i<p.nb):
  Kp 34 #[.pointer (some ⟨g,0,none⟩),.agg #[.int .i64 0,.int .i64 gn,.int .i64 i]] w (vN ⟨a,i*5,none⟩ w):=by
 obtain⟨k,_,_,_,_,_⟩:=h.cells
 have d:=h.bk.lt
 have e:=h.kI
 clear h
 go_enter Tryz.func34,Tryz.ntmps34
 go_wp2_with fail
 go_quiet (fail)
 go_wp2_with fail
 go_ret
 exact⟨rfl,vB⟩
def Qz{w:World}{g b a:Nat}{p:Pl}{fr:B5}{c:Value}(h:PB w g b a p fr c)(i k:Nat)(gn:Int)(l:i<p.ns)(m:k<10):
  Kp 34 #[.pointer (some ⟨g,0,none⟩),.agg #[.int .i64 ((i:Int)+1),.int .i64 gn,.int .i64 k]] w (vN ⟨a,i*52+2+k*5,none⟩ w):=by
 obtain⟨_,n,_,_,_,_⟩:=h.cells
 have d:=h.bk.lt
 have e:=h.WW
 have j:(((i:Int)+1)==0)=false:=by simp;omega
 clear h
 go_enter Tryz.func34,Tryz.ntmps34
 go_wp2_with fail
 go_quiet (fail)
 go_wp2_with fail
 go_ret
 exact⟨rfl,vB⟩
def ys(w:World)(b:Nat)(T:TypeId)(cs:Array Value)(x:Xr)(e:Ending)(w':World):Prop:=e=.returned (.agg x.l.toArray)/\Bk w' b T cs/\Aq [b] w w'
def gJ{w w2 a:World}{c d f:Obj}{b:Nat}{T j:TypeId}{cs g:Array Value}{u:Value}{k:Nat}(l:Gu (((w.alloc c).alloc d).alloc f) b T cs w2)(m:Gu (w2.setCell ⟨w.heap.size+1+1,k,none⟩ u) (w.heap.size+1) j g a)(s:b<w.heap.size):Aq [b] w a:=by
 have n:Aq [b] w (((w.alloc c).alloc d).alloc f):=Aq.Ai vB;have o:Aq [b] (((w.alloc c).alloc d).alloc f) w2:=Aq.Ax (b:=0) l.grown (λi e=>by injection e with e;simp[e]);have p:Aq [w.heap.size+1+1] w2 (w2.setCell ⟨w.heap.size+1+1,k,none⟩ u):=Aq.Ax (b:=0) (X2 _ _ _ _) (λi e=>by injection e with e;simp[e]);have q:Aq [w.heap.size+1] (w2.setCell ⟨w.heap.size+1+1,k,none⟩ u) a:=Aq.Ax (b:=0) m.grown (λi e=>by injection e with e;simp[e]);refine(((n.trans o).seq (F1:=[w.heap.size+1+1]) ?_ p)).seq (F1:=[w.heap.size+1]) ?_ q
 ·intro x h;rw[ft.1 h];right;omega
 ·intro x h;rw[ft.1 h];right;omega
def YD(w:World)(b o:Nat)(T:TypeId)(cs:Array Value)(x:Xe)(a:Bx)(c:Bk w b T cs)(d:w.rangeAt b o x.l)(e:a.kind=1):
  Kp 65 #[.pointer (some ⟨b,o,none⟩),.agg a.l.toArray] w (ys w b T cs ⟨x,true⟩):=by
 have i:=c.lt
 have g:b<w.heap.size+1:=Zo
 have h:b<w.heap.size+1+1:=Zo
 obtain⟨z,B,C,D,E⟩:=OF d
 have HB:=eR c
 clear c d
 (obtain⟨k,⟨j,m,n⟩,⟨p,q,r,s,t⟩,⟨n0,n1,n2,u,y⟩⟩:=a)
 simp only at e
 subst e
 show Kp 65 #[.pointer (some ⟨b,o,none⟩),.agg #[.int .i64 1,.int .i64 j,.int .i64 m,.int .i64 n,.int .i64 p,.int .i64 q,.int .i64 r,.int .i64 s,.bool t,.int .i64 n0,.int .i64 n1,.int .i64 n2,.int .i64 u,.bool y]] w _
 go_enter Tryz.func65,Tryz.ntmps65
 go_wp2_with fail
 refine js (v:=.agg #[.int .i64 x.sl,.int .i64 x.gn,.int .i64 x.tg,.int .i64 x.nm,.bool x.mark,.bool true]) (by simp[results,Tryz.results65,go_sem]) rfl ?_
 exact⟨rfl,((HB.out.alloc _).alloc _).alloc _,Aq.Ai vB⟩
def YC(w:World)(b o:Nat)(T:TypeId)(cs cs':Array Value)(a:Bx)(n:Bk w b T cs)(H:o+5<=cs.size)(s:a.kind=2)(h:cs'.toList=cs.toList.take o++a.new.l++cs.toList.drop (o+5)):
  Kp 65 #[.pointer (some ⟨b,o,none⟩),.agg a.l.toArray] w (ys w b T cs' ⟨.zero,true⟩):=by
 have I:=n.lt
 have u:b<w.heap.size+1:=Zo
 have x:b<w.heap.size+1+1:=Zo
 have y:b<w.heap.size+1+1+1:=Zo
 have HB:=eR n
 clear n
 (obtain⟨k,⟨J,K,L⟩,⟨M,d,i,j,N⟩,⟨n0,n1,n2,O,P⟩⟩:=a)
 simp only at s h
 subst s
 show Kp 65 #[.pointer (some ⟨b,o,none⟩),.agg #[.int .i64 2,.int .i64 J,.int .i64 K,.int .i64 L,.int .i64 M,.int .i64 d,.int .i64 i,.int .i64 j,.bool N,.int .i64 n0,.int .i64 n1,.int .i64 n2,.int .i64 O,.bool P]] w _
 have q:=eR h
 have r:Hid (∀d i j,Bk (((w.alloc d).alloc i).alloc j) b T cs):=eR (λd i j=>((HB.out.alloc d).alloc i).alloc j)
 have Q:Hid (∀d,Bk (((w.alloc d).alloc (.cells #[.int .i64 0,.int .i64 0,.int .i64 0,.int .i64 0,.bool false,.bool false] 108)).alloc (.cells #[.int .i64 0,.int .i64 0,.int .i64 0,.int .i64 0,.bool false,.bool false] 108)) (w.heap.size+1) 108 #[.int .i64 0,.int .i64 0,.int .i64 0,.int .i64 0,.bool false,.bool false]):=eR (λd=>(Bk.at_ Zs).alloc _)
 have R:Hid (∀d,Bk (((w.alloc d).alloc (.cells #[.int .i64 0,.int .i64 0,.int .i64 0,.int .i64 0,.bool false,.bool false] 108)).alloc (.cells #[.int .i64 0,.int .i64 0,.int .i64 0,.int .i64 0,.bool false,.bool false] 108)) (w.heap.size+1+1) 108 #[.int .i64 0,.int .i64 0,.int .i64 0,.int .i64 0,.bool false,.bool false]):=eR (λd=>Bk.at_ Zs)
 clear h
 go_enter Tryz.func65,Tryz.ntmps65
 go_wp2_with (first|(refine Y2 Zr _ _ _ Zr b o _ Zr Zr _ _ cs' (r.out _ _ _) (by exact H) Zk Zr (by exact q.out) ?_;intro w2 e;have g:=e.A5 (R.out _) Zo;have z:=e.A5 (Q.out _) Zo;have S:=g.cell 0;have U:=g.cell 1;have V:=g.cell 2;have W:=g.cell 3;have X:=g.cell 4;have Y:=g.cell 5;have f5:=g.free 5;simp at S U V W X Y;have Z:=eR (z.A5 (p:=⟨w.heap.size+1+1,5,none⟩) Zs (.bool true));have m:=eR e;clear e z g)|(refine vM Z.out ?_;intro w3 c))
 (have B:=c.bk.cell 0;have C:=c.bk.cell 1;have D:=c.bk.cell 2;have E:=c.bk.cell 3;have F:=c.bk.cell 4;have G:=c.bk.cell 5;simp at B C D E F G;refine js (v:=.agg #[.int .i64 0,.int .i64 0,.int .i64 0,.int .i64 0,.bool false,.bool true]) (by simp[results,Tryz.results65,go_sem,B,C,D,E,F,G]) rfl ?_)
 exact⟨rfl,c.A5 (m.out.bk.A5 (p:=⟨w.heap.size+1+1,5,none⟩) (by simp;omega) (.bool true)) Zo,gJ m.out c Zo⟩
