/- Core: PR, CLay, VS. -/
import Derived.Test.YtaipogljokblkaaGreatDoorP30
set_option linter.all false
set_option maxRecDepth 100000
set_option maxHeartbeats 8000000
namespace Go.Proofs.YtaipogljokblkaaGreatDoor
open Go Go.RowKit
namespace Pl
def down(ns k:Nat):List Int:=(List.range k).map λ(i:Nat)=>(ns:Int)-(i:Int)
def fresh(nb ns:Nat):Pl:=⟨nb,ns,λ_=>.zero,λ_=>.zero,down ns ns,0,0,false⟩
def P6(ns k:Nat):(down ns k).length=k:=by simp[down]
def MQ(ns k:Nat):down ns (k+1)=down ns k++[(ns:Int)-(k:Int)]:=by simp[down,pg]
end Pl
def Rw{d:Type}{f:d->List Value}{sz:Nat}(a:∀x,(f x).length=sz)(b:0<sz)(x:d)(z:Array Value)(e:z.toList=f x)(n:Nat):madeCells z (n*sz)=(rows f ((List.range n).map λ_=>x)).toArray:=by
 have c:z.size=sz:=by rw[←mo,e,a]
 apply kx.1;apply ni;intro i;by_cases g:i<n*sz
 ·have j:i/sz<n:=Nat.div_lt_of_lt_mul (by rw[Nat.mul_comm];exact g);have k:i%sz<sz:=oy _ b;have h:=GS a ((List.range n).map λ_=>x) (i/sz) (by simpa using j) (i%sz) ((f x)[i%sz]'(by rw[a];exact k)) (by simp only[List.getElem_map];exact gl _);rw[show i/sz*sz+i%sz=i from by rw[Nat.mul_comm];exact Nat.div_add_mod i sz] at h;simp only[h];unfold madeCells;simp only[ou,Array.toList_range,kf,List.getElem?_range g,j5,c];congr 1;rw[getElem!_pos z (i%sz) Zo];simp only[←e,Array.getElem_toList]
 ·rw[ik (by rw[mo,size_madeCells];omega),ik (by rw[Zb a];simp;omega)]
def bH(nb ns:Nat):madeCells Xe.zero.l.toArray (nb*5)=(Pl.fresh nb ns).B4.toArray:=Rw Qs Zd Xe.zero _ rfl nb
def YV(nb ns:Nat):madeCells (Bp Jg.zero).toArray (ns*52)=(Pl.fresh nb ns).A2.toArray:=Rw By Zd Jg.zero _ rfl ns
def tu{E:TypeId}{z:Value}{n b:Nat}(h:(Tryz.prog.info? E).map (λi=>(i.zero.map (·.cells.toList),i.size,i.bytes))=some (some z.cells.toList,n,b)):∃i c,Tryz.prog.info? E=some i/\i.zero=some c/\c.cells=z.cells/\i.size=n/\i.bytes=b:=by
 obtain⟨i,f,a⟩:=my.1 h;simp only[jd] at a;obtain⟨c,d,e⟩:=my.1 a.1;exact⟨i,c,f,d,kx.1 e,a.2.1,a.2.2⟩
def aC(nb ns:Nat)(h:nb<=200)(w:World):(Instr.makeSlice 103 (.int .i64 (nb:Int)) (.int .i64 (nb:Int))).run Tryz.prog w=.ok (.slice (some ⟨w.heap.size,0,none⟩) nb nb) (w.alloc (.cells (Pl.fresh nb ns).B4.toArray 51)):=by
 obtain⟨i,z,a,c,d,e,f⟩:=tu (E:=51) (z:=.agg Xe.zero.l.toArray) (n:=5) (b:=40) Zk;have g:=run_make (P:=Tryz.prog) w 103 51 i z Tryz.underlying103 a c .i64 .i64 (nb:Int) (nb:Int) Zo Zo (by rw[f];omega) Zo;rw[g,d,e];simp only[kq];rw[show(Value.agg Xe.zero.l.toArray).cells=Xe.zero.l.toArray from rfl,bH nb ns]
def aB(nb ns:Nat)(h:ns<=1024)(w:World):(Instr.makeSlice 104 (.int .i64 (ns:Int)) (.int .i64 (ns:Int))).run Tryz.prog w=.ok (.slice (some ⟨w.heap.size,0,none⟩) ns ns) (w.alloc (.cells (Pl.fresh nb ns).A2.toArray 149)):=by
 obtain⟨i,z,a,c,d,e,f⟩:=tu (E:=149) (z:=.agg (Bp Jg.zero).toArray) (n:=52) (b:=416) Zk;have g:=run_make (P:=Tryz.prog) w 104 149 i z Tryz.underlying104 a c .i64 .i64 (ns:Int) (ns:Int) Zo Zo (by rw[f];omega) Zo;rw[g,d,e];simp only[kq];rw[show(Value.agg (Bp Jg.zero).toArray).cells=(Bp Jg.zero).toArray from rfl,YV nb ns]
def Nn(nb ns:Nat)(h1:nb<=200)(h2:ns<=1024)(w:World):
  Kp 40 #[.int .i64 (ns:Int),.int .i64 (nb:Int)] w λen w'=>∃g F,en=.returned (.tuple #[.pointer (some ⟨g,0,none⟩),.nilIface])/\NG w' g (Pl.fresh nb ns) F/\(∀b∈F,w.heap.size<=b)/\Below w.heap.size w w':=by
 have d1:decide ((ns:Int)<0)=false:=by simp
 have d2:decide (1024<(ns:Int))=false:=by simp;omega
 have d3:decide ((nb:Int)<0)=false:=by simp
 have d4:decide (200<(nb:Int))=false:=by simp;omega
 have O:=aC nb ns h1
 have P:=aB nb ns h2
 go_enter Tryz.func40,Tryz.ntmps40
 go_upto_region 3 with(fail)
 clear d1 d2 d3 d4
 refine Yh (λ_=>True) 7 Zk trivial (λQ=>?_)
 have HB:=eR ((fx w.heap.size w).drew)
 generalize w.drew=a at*
 ((try simp only[ZL]);refine vT (fuel:=5) Q [0,2] ?_;simp only[Yb,Xv,fs];(repeat go_big_quiet_step ((intro x;go_simp;first|done|rfl|exact⟨rfl,rfl⟩)));refine gw ?_;(try dsimp only))
 refine Gz (i:=1) (j:=3) rfl rfl Zk (λK c=>?_) (λK c=>?_)
 ·go_wp2_with fail;refine c.out _ _ ⟨λ_=>trivial,?_⟩;clear c;(refine Xn 3 Zk (λK c=>?_);simp only[Xv,fs]);go_wp2_with fail;refine c.out _ _ (λ_=>trivial) ?_;clear c;((try simp only[ZL]);refine vT (fuel:=2) Q [4] ?_;simp only[Yb,Xv,fs];(repeat go_big_quiet_step ((intro x;go_simp;first|done|rfl|exact⟨rfl,rfl⟩)));refine gw ?_;(try dsimp only));(refine Xn 5 Zk (λK c=>?_);simp only[Xv,fs]);go_wp2_with fail;refine c.out _ _ (λ_=>trivial) ?_;clear c;((try simp only[ZL]);refine vT (fuel:=0) Q [6] ?_;simp only[Yb,Xv,fs];(repeat go_big_quiet_step ((intro x;go_simp;first|done|rfl|exact⟨rfl,rfl⟩)));refine gw ?_;(try dsimp only));refine Yk Zk ?_ _;have R:(a.alloc (.cells (Pl.fresh nb ns).B4.toArray 51)).heap.size=a.heap.size+1:=by simp
  have S:((a.alloc (.cells (Pl.fresh nb ns).B4.toArray 51)).alloc (.cells (Pl.fresh nb ns).A2.toArray 149)).heap.size=a.heap.size+1+1:=by simp
  have T:Bk (((a.alloc (.cells (Pl.fresh nb ns).B4.toArray 51)).alloc (.cells (Pl.fresh nb ns).A2.toArray 149)).alloc (.cells #[.slice (some ⟨a.heap.size,0,none⟩) nb nb,.slice (some ⟨a.heap.size+1,0,none⟩) ns ns,.slice none 0 0,.int .i64 0,.int .i64 0,.nilIface] 106)) (a.heap.size) 51 (Pl.fresh nb ns).B4.toArray:=((Bk.at_ (w:=a) (cs:=(Pl.fresh nb ns).B4.toArray) (t:=51) rfl).alloc _).alloc _;have V:Bk (((a.alloc (.cells (Pl.fresh nb ns).B4.toArray 51)).alloc (.cells (Pl.fresh nb ns).A2.toArray 149)).alloc (.cells #[.slice (some ⟨a.heap.size,0,none⟩) nb nb,.slice (some ⟨a.heap.size+1,0,none⟩) ns ns,.slice none 0 0,.int .i64 0,.int .i64 0,.nilIface] 106)) (a.heap.size+1) 149 (Pl.fresh nb ns).A2.toArray:=R▸((Bk.at_ (w:=(a.alloc (.cells (Pl.fresh nb ns).B4.toArray 51))) (cs:=(Pl.fresh nb ns).A2.toArray) (t:=149) rfl).alloc (.cells #[.slice (some ⟨a.heap.size,0,none⟩) nb nb,.slice (some ⟨a.heap.size+1,0,none⟩) ns ns,.slice none 0 0,.int .i64 0,.int .i64 0,.nilIface] 106));have X:Bk (((a.alloc (.cells (Pl.fresh nb ns).B4.toArray 51)).alloc (.cells (Pl.fresh nb ns).A2.toArray 149)).alloc (.cells #[.slice (some ⟨a.heap.size,0,none⟩) nb nb,.slice (some ⟨a.heap.size+1,0,none⟩) ns ns,.slice none 0 0,.int .i64 0,.int .i64 0,.nilIface] 106)) (a.heap.size+1+1) 106 #[.slice (some ⟨a.heap.size,0,none⟩) nb nb,.slice (some ⟨a.heap.size+1,0,none⟩) ns ns,.slice none 0 0,.int .i64 0,.int .i64 0,.nilIface]:=S▸(Bk.at_ (w:=((a.alloc (.cells (Pl.fresh nb ns).B4.toArray 51)).alloc (.cells (Pl.fresh nb ns).A2.toArray 149))) (cs:=#[.slice (some ⟨a.heap.size,0,none⟩) nb nb,.slice (some ⟨a.heap.size+1,0,none⟩) ns ns,.slice none 0 0,.int .i64 0,.int .i64 0,.nilIface]) (t:=106) rfl);have E:Hid (Below w.heap.size w (((a.alloc (.cells (Pl.fresh nb ns).B4.toArray 51)).alloc (.cells (Pl.fresh nb ns).A2.toArray 149)).alloc (.cells #[.slice (some ⟨a.heap.size,0,none⟩) nb nb,.slice (some ⟨a.heap.size+1,0,none⟩) ns ns,.slice none 0 0,.int .i64 0,.int .i64 0,.nilIface] 106))):=eR (((HB.out.alloc HB.out.size _).alloc (by have:=HB.out.size;omega) _).alloc (by have:=HB.out.size;omega) _);have HP:Hid (PB (((a.alloc (.cells (Pl.fresh nb ns).B4.toArray 51)).alloc (.cells (Pl.fresh nb ns).A2.toArray 149)).alloc (.cells #[.slice (some ⟨a.heap.size,0,none⟩) nb nb,.slice (some ⟨a.heap.size+1,0,none⟩) ns ns,.slice none 0 0,.int .i64 0,.int .i64 0,.nilIface] 106)) (a.heap.size+1+1) (a.heap.size) (a.heap.size+1) {Pl.fresh nb ns with free:=Pl.down ns 0} ⟨none,0,0⟩ .nilIface):=eR ⟨X,T,V,Own.nil,by simp[Pl.fresh],Zo,Zo,Zo,(λh=>by cases h),(λh=>by cases h),(λh=>by cases h),(by show nb<=1000;omega),(by show ns<=2000;omega)⟩;have y:Hid (w.heap.size<=a.heap.size):=eR HB.out.size;clear T V X R S HB;generalize(((a.alloc (.cells (Pl.fresh nb ns).B4.toArray 51)).alloc (.cells (Pl.fresh nb ns).A2.toArray 149)).alloc (.cells #[.slice (some ⟨a.heap.size,0,none⟩) nb nb,.slice (some ⟨a.heap.size+1,0,none⟩) ns ns,.slice none 0 0,.int .i64 0,.int .i64 0,.nilIface] 106))=W at*;have z:=eR (fy (show w.heap.size<=a.heap.size from by have:=y.out;omega) (fy (show w.heap.size<=a.heap.size+1 from by have:=y.out;omega) (show w.heap.size<=a.heap.size+1+1 from by have:=y.out;omega)));clear y;generalize a.heap.size+1+1=g at*;generalize a.heap.size+1=Y at*;generalize a.heap.size=Z at*;clear O P;go_wp2_with fail;go_loopw [7] (λv wr=>∃(k:Nat) (p:B5),k<=ns/\v=.int .i64 ((ns:Int)-k)/\PB wr g Z Y {Pl.fresh nb ns with free:=Pl.down ns k} p .nilIface/\Below w.heap.size w wr/\(∀b,p.v.ownBlock=some b->w.heap.size<=b)) (λv _=>(intOf v).toNat);case atStart=>exact⟨0,_,ie _,by simp,HP.out,E.out,(λb h=>by cases h)⟩
  case round=>
   obtain⟨k,p,hk,rfl,d,q,B⟩:=hrel;by_cases ab:k<ns
   ·have aa:1<=(ns:Int)-(k:Int):=Zo;have C:=eR (d.alloc (.cells #[.int .i64 ((ns:Int)-(k:Int))] 3));have hz:=q.size;have m:=q.alloc hz (.cells #[.int .i64 ((ns:Int)-(k:Int))] 3);have ad:=d.cells.2.2.1;obtain⟨v',w7,r,G,D,n⟩:=FF _ p.v (Pl.down ns k) C.out.fo (by rw[Pl.P6];omega) ((ns:Int)-(k:Int)) wr.heap.size (Bk.at_ rfl) 45;obtain⟨va,vc,rfl,_⟩:=AN G;have H:=eR (C.out.A7 (l:=Pl.down ns k++[(ns:Int)-(k:Int)]) (u:=⟨va,_,vc⟩) G D n);have I:=eR n;have s:=eR (m.grown D m.size B);have J:Bk w7 g 106 _:=C.out.bk.grown D (λe=>C.out.f1 e.symm);have c2:=J.cell 2;have f2:=J.free 2;simp at c2;clear G D n J d q m;generalize(Pl.down ns k++[(ns:Int)-(k:Int)]).length=fl at*;go_wp2_with (at_builtin;refine Yj Zr _ _ _ _ _ _ _ Zr Zr Zr r ?_);refine⟨⟨k+1,⟨va,fl,vc⟩,Zo,by rw[show((ns:Int)-(k:Int)-1)=(ns:Int)-((k+1:Nat):Int) from Zo],?_,s.out.grown (X2 w7 g 2 _) s.out.size (λb e=>by cases e;exact z.out.2.2),λb L=>(I.out b L).elim (B b) (λh=>by simp at h;omega)⟩,by simp[intOf];omega⟩;have d:=H.out.1;rw[←Pl.MQ] at d;exact d
   ·have M:k=ns:=Zo;subst M;have hn:¬(1<=(k:Int)-(k:Int)):=Zo;have N:=eR (fy d (fy q B));clear d q B;go_wp2_with fail;go_ret2;refine⟨g,rfl,_,⟨Z,Y,p,.nilIface,N.out.1,rfl⟩,λb L=>?_,N.out.2.1⟩;rcases Ya.1 L with rfl|rfl|rfl|h
    ·exact z.out.2.2
    ·exact z.out.1
    ·exact z.out.2.1
    ·exact N.out.2.2 b h
 ·go_wp2_with fail;refine c.out _ _ ⟨λ_=>trivial,?_⟩;clear c;(refine Xn 1 Zk (λK c=>?_);simp only[Xv,fs]);go_wp2_with fail;refine c.out _ _ (λ_=>trivial) ?_;clear c;((try simp only[ZL]);refine vT (fuel:=2) Q [4] ?_;simp only[Yb,Xv,fs];(repeat go_big_quiet_step ((intro x;go_simp;first|done|rfl|exact⟨rfl,rfl⟩)));refine gw ?_;(try dsimp only));(refine Xn 5 Zk (λK c=>?_);simp only[Xv,fs]);go_wp2_with fail;refine c.out _ _ (λ_=>trivial) ?_;clear c;((try simp only[ZL]);refine vT (fuel:=0) Q [6] ?_;simp only[Yb,Xv,fs];(repeat go_big_quiet_step ((intro x;go_simp;first|done|rfl|exact⟨rfl,rfl⟩)));refine gw ?_;(try dsimp only));refine Yk Zk ?_ _;have R:(a.alloc (.cells (Pl.fresh nb ns).A2.toArray 149)).heap.size=a.heap.size+1:=by simp
  have S:((a.alloc (.cells (Pl.fresh nb ns).A2.toArray 149)).alloc (.cells (Pl.fresh nb ns).B4.toArray 51)).heap.size=a.heap.size+1+1:=by simp
  have T:Bk (((a.alloc (.cells (Pl.fresh nb ns).A2.toArray 149)).alloc (.cells (Pl.fresh nb ns).B4.toArray 51)).alloc (.cells #[.slice (some ⟨a.heap.size+1,0,none⟩) nb nb,.slice (some ⟨a.heap.size,0,none⟩) ns ns,.slice none 0 0,.int .i64 0,.int .i64 0,.nilIface] 106)) (a.heap.size) 149 (Pl.fresh nb ns).A2.toArray:=((Bk.at_ (w:=a) (cs:=(Pl.fresh nb ns).A2.toArray) (t:=149) rfl).alloc _).alloc _;have V:Bk (((a.alloc (.cells (Pl.fresh nb ns).A2.toArray 149)).alloc (.cells (Pl.fresh nb ns).B4.toArray 51)).alloc (.cells #[.slice (some ⟨a.heap.size+1,0,none⟩) nb nb,.slice (some ⟨a.heap.size,0,none⟩) ns ns,.slice none 0 0,.int .i64 0,.int .i64 0,.nilIface] 106)) (a.heap.size+1) 51 (Pl.fresh nb ns).B4.toArray:=R▸((Bk.at_ (w:=(a.alloc (.cells (Pl.fresh nb ns).A2.toArray 149))) (cs:=(Pl.fresh nb ns).B4.toArray) (t:=51) rfl).alloc (.cells #[.slice (some ⟨a.heap.size+1,0,none⟩) nb nb,.slice (some ⟨a.heap.size,0,none⟩) ns ns,.slice none 0 0,.int .i64 0,.int .i64 0,.nilIface] 106));have X:Bk (((a.alloc (.cells (Pl.fresh nb ns).A2.toArray 149)).alloc (.cells (Pl.fresh nb ns).B4.toArray 51)).alloc (.cells #[.slice (some ⟨a.heap.size+1,0,none⟩) nb nb,.slice (some ⟨a.heap.size,0,none⟩) ns ns,.slice none 0 0,.int .i64 0,.int .i64 0,.nilIface] 106)) (a.heap.size+1+1) 106 #[.slice (some ⟨a.heap.size+1,0,none⟩) nb nb,.slice (some ⟨a.heap.size,0,none⟩) ns ns,.slice none 0 0,.int .i64 0,.int .i64 0,.nilIface]:=S▸(Bk.at_ (w:=((a.alloc (.cells (Pl.fresh nb ns).A2.toArray 149)).alloc (.cells (Pl.fresh nb ns).B4.toArray 51))) (cs:=#[.slice (some ⟨a.heap.size+1,0,none⟩) nb nb,.slice (some ⟨a.heap.size,0,none⟩) ns ns,.slice none 0 0,.int .i64 0,.int .i64 0,.nilIface]) (t:=106) rfl);have E:Hid (Below w.heap.size w (((a.alloc (.cells (Pl.fresh nb ns).A2.toArray 149)).alloc (.cells (Pl.fresh nb ns).B4.toArray 51)).alloc (.cells #[.slice (some ⟨a.heap.size+1,0,none⟩) nb nb,.slice (some ⟨a.heap.size,0,none⟩) ns ns,.slice none 0 0,.int .i64 0,.int .i64 0,.nilIface] 106))):=eR (((HB.out.alloc HB.out.size _).alloc (by have:=HB.out.size;omega) _).alloc (by have:=HB.out.size;omega) _);have HP:Hid (PB (((a.alloc (.cells (Pl.fresh nb ns).A2.toArray 149)).alloc (.cells (Pl.fresh nb ns).B4.toArray 51)).alloc (.cells #[.slice (some ⟨a.heap.size+1,0,none⟩) nb nb,.slice (some ⟨a.heap.size,0,none⟩) ns ns,.slice none 0 0,.int .i64 0,.int .i64 0,.nilIface] 106)) (a.heap.size+1+1) (a.heap.size+1) (a.heap.size) {Pl.fresh nb ns with free:=Pl.down ns 0} ⟨none,0,0⟩ .nilIface):=eR ⟨X,V,T,Own.nil,by simp[Pl.fresh],Zo,Zo,Zo,(λh=>by cases h),(λh=>by cases h),(λh=>by cases h),(by show nb<=1000;omega),(by show ns<=2000;omega)⟩;have y:Hid (w.heap.size<=a.heap.size):=eR HB.out.size;clear T V X R S HB;generalize(((a.alloc (.cells (Pl.fresh nb ns).A2.toArray 149)).alloc (.cells (Pl.fresh nb ns).B4.toArray 51)).alloc (.cells #[.slice (some ⟨a.heap.size+1,0,none⟩) nb nb,.slice (some ⟨a.heap.size,0,none⟩) ns ns,.slice none 0 0,.int .i64 0,.int .i64 0,.nilIface] 106))=W at*;have z:=eR (fy (show w.heap.size<=a.heap.size+1 from by have:=y.out;omega) (fy (show w.heap.size<=a.heap.size from by have:=y.out;omega) (show w.heap.size<=a.heap.size+1+1 from by have:=y.out;omega)));clear y;generalize a.heap.size+1+1=g at*;generalize a.heap.size+1=Z at*;generalize a.heap.size=Y at*;clear O P;go_wp2_with fail;go_loopw [7] (λv wr=>∃(k:Nat) (p:B5),k<=ns/\v=.int .i64 ((ns:Int)-k)/\PB wr g Z Y {Pl.fresh nb ns with free:=Pl.down ns k} p .nilIface/\Below w.heap.size w wr/\(∀b,p.v.ownBlock=some b->w.heap.size<=b)) (λv _=>(intOf v).toNat);case atStart=>exact⟨0,_,ie _,by simp,HP.out,E.out,(λb h=>by cases h)⟩
  case round=>
   obtain⟨k,p,hk,rfl,d,q,B⟩:=hrel;by_cases ab:k<ns
   ·have aa:1<=(ns:Int)-(k:Int):=Zo;have C:=eR (d.alloc (.cells #[.int .i64 ((ns:Int)-(k:Int))] 3));have hz:=q.size;have m:=q.alloc hz (.cells #[.int .i64 ((ns:Int)-(k:Int))] 3);have ad:=d.cells.2.2.1;obtain⟨v',w7,r,G,D,n⟩:=FF _ p.v (Pl.down ns k) C.out.fo (by rw[Pl.P6];omega) ((ns:Int)-(k:Int)) wr.heap.size (Bk.at_ rfl) 45;obtain⟨va,vc,rfl,_⟩:=AN G;have H:=eR (C.out.A7 (l:=Pl.down ns k++[(ns:Int)-(k:Int)]) (u:=⟨va,_,vc⟩) G D n);have I:=eR n;have s:=eR (m.grown D m.size B);have J:Bk w7 g 106 _:=C.out.bk.grown D (λe=>C.out.f1 e.symm);have c2:=J.cell 2;have f2:=J.free 2;simp at c2;clear G D n J d q m;generalize(Pl.down ns k++[(ns:Int)-(k:Int)]).length=fl at*;go_wp2_with (at_builtin;refine Yj Zr _ _ _ _ _ _ _ Zr Zr Zr r ?_);refine⟨⟨k+1,⟨va,fl,vc⟩,Zo,by rw[show((ns:Int)-(k:Int)-1)=(ns:Int)-((k+1:Nat):Int) from Zo],?_,s.out.grown (X2 w7 g 2 _) s.out.size (λb e=>by cases e;exact z.out.2.2),λb L=>(I.out b L).elim (B b) (λh=>by simp at h;omega)⟩,by simp[intOf];omega⟩;have d:=H.out.1;rw[←Pl.MQ] at d;exact d
   ·have M:k=ns:=Zo;subst M;have hn:¬(1<=(k:Int)-(k:Int)):=Zo;have N:=eR (fy d (fy q B));clear d q B;go_wp2_with fail;go_ret2;refine⟨g,rfl,_,⟨Z,Y,p,.nilIface,N.out.1,rfl⟩,λb L=>?_,N.out.2.1⟩;rcases Ya.1 L with rfl|rfl|rfl|h
    ·exact z.out.2.2
    ·exact z.out.1
    ·exact z.out.2.1
    ·exact N.out.2.2 b h
def Og(x:Xe)(p:Go.Addr):Env:=⟨λi=>([x.sl,x.gn,x.tg,x.nm]:List Int).getD i 0,λi=>([x.mark]:List Bool).getD i false,λi=>([.pointer (some p)]:List Value).getD i .nilIface,λi=>by rcases i with _|i<;>rfl⟩
def cC:St:=⟨[],[],[(.nil 0,false)],10,0⟩
def QQ:List SV:=[.c (.Ba 0)]
def XH:List X8:=[⟨false,42,101,[],[.c (.Ba 0),.agg ([.int (.lit 4),.int (.lit 0),.int (.lit 0),.int (.lit 0)]++zs 4++[.bool (.lit false),.int (.lit 0),.int (.lit 0),.int (.lit 0),.int (.lit 0),.bool (.lit false)])],.Jt [(true,[.iV 0,.iV 1,.iV 2,.iV 3,.bV 0,.bool (.lit true)]),(false,[.lit .nilIface])],[]⟩,⟨false,42,202,[],[.c (.Ba 0),.agg ([.int (.lit 2),.int (.lit 0),.int (.lit 0),.int (.lit 8)]++zs 4++[.bool (.lit false),.iV 0,.iV 1,.int (.lit 0),.int (.lit 0),.bool (.lit false)])],.Jt [(true,zs 4++[.bool (.lit false),.bool (.lit true)]),(false,[.lit .nilIface])],[]⟩,⟨false,42,303,[],[.c (.Ba 0),.agg ([.int (.lit 2),.int (.lit 0),.int (.lit 0),.int (.lit 16)]++zs 4++[.bool (.lit false),.int (.lit 0),.int (.lit 0),.int (.lit 0),.int (.lit 1),.bool (.lit false)])],.Jt [(true,zs 4++[.bool (.lit false),.bool (.lit true)]),(false,[.lit .nilIface])],[]⟩]
def Sk:SV × Nat × Heap:=((.c (.lit .nilIface)),3,[])
def fB:Ro (exec Tryz.prog XH 200 (.call 46 QQ) cC)=.leaf Sk:=Zk
def fC{Φ:Hg}(x:Xe)(p:Go.Addr)(j:∀w F,Φ.P 0 w F->(∀b,F b->b<w.heap.size)->Kp 42 #[.pointer (some p),.agg (⟨4,.zero,.zero,.zero⟩:Bx).l.toArray] w λc w'=>c=.returned (.tuple #[.agg (⟨x,true⟩:Xr).l.toArray,.nilIface])/\Fx Φ 1 F none w w')(k:∀w F,Φ.P 1 w F->(∀b,F b->b<w.heap.size)->Kp 42 #[.pointer (some p),.agg (⟨2,root 8,.zero,Yx x⟩:Bx).l.toArray] w λc w'=>c=.returned (.tuple #[.agg (⟨.zero,true⟩:Xr).l.toArray,.nilIface])/\Fx Φ 2 F none w w')(m:∀w F,Φ.P 2 w F->(∀b,F b->b<w.heap.size)->Kp 42 #[.pointer (some p),.agg (⟨2,root 16,.zero,Y6 1⟩:Bx).l.toArray] w λc w'=>c=.returned (.tuple #[.agg (⟨.zero,true⟩:Xr).l.toArray,.nilIface])/\Fx Φ 3 F none w w'):DE Tryz.prog (Og x p) Φ XH:=by
 intro s hs;rcases gf.1 hs with rfl|hs
 ·unfold Fs;rw[show GO _=none from rfl];simp only;rw[ga Zd];intro i w F d e a ha;have g:a=#[.pointer (some p),.agg (⟨4,.zero,.zero,.zero⟩:Bx).l.toArray]:=ha.trans Zk;subst g;exact AY.fn Zd ⟨Dh Tryz.func42 Zk Zk _ _,(j w F d e).mono λc w' h=>⟨h.1.trans Zk,h.2⟩⟩
 rcases gf.1 hs with rfl|hs
 ·unfold Fs;rw[show GO _=none from rfl];simp only;rw[ga Zd];intro i w F d e a ha;have g:a=#[.pointer (some p),.agg (⟨2,root 8,.zero,Yx x⟩:Bx).l.toArray]:=ha.trans Zk;subst g;exact AY.fn Zd ⟨Dh Tryz.func42 Zk Zk _ _,(k w F d e).mono λc w' h=>⟨h.1.trans Zk,h.2⟩⟩
 rcases gf.1 hs with rfl|hs
 ·unfold Fs;rw[show GO _=none from rfl];simp only;rw[ga Zd];intro i w F d e a ha;have g:a=#[.pointer (some p),.agg (⟨2,root 16,.zero,Y6 1⟩:Bx).l.toArray]:=ha.trans Zk;subst g;exact AY.fn Zd ⟨Dh Tryz.func42 Zk Zk _ _,(m w F d e).mono λc w' h=>⟨h.1.trans Zk,h.2⟩⟩
 cases hs
def nE{Φ:Hg}{F:Nat->Prop}(x:Xe)(p:Go.Addr)(w:World)(g:∀w F,Φ.P 0 w F->(∀b,F b->b<w.heap.size)->Kp 42 #[.pointer (some p),.agg (⟨4,.zero,.zero,.zero⟩:Bx).l.toArray] w λa w'=>a=.returned (.tuple #[.agg (⟨x,true⟩:Xr).l.toArray,.nilIface])/\Fx Φ 1 F none w w')(h:∀w F,Φ.P 1 w F->(∀b,F b->b<w.heap.size)->Kp 42 #[.pointer (some p),.agg (⟨2,root 8,.zero,Yx x⟩:Bx).l.toArray] w λa w'=>a=.returned (.tuple #[.agg (⟨.zero,true⟩:Xr).l.toArray,.nilIface])/\Fx Φ 2 F none w w')(i:∀w F,Φ.P 2 w F->(∀b,F b->b<w.heap.size)->Kp 42 #[.pointer (some p),.agg (⟨2,root 16,.zero,Y6 1⟩:Bx).l.toArray] w λa w'=>a=.returned (.tuple #[.agg (⟨.zero,true⟩:Xr).l.toArray,.nilIface])/\Fx Φ 3 F none w w')(f1:Φ.P 0 w F)(f3:∀b,F b->b<w.heap.size):Kp 46 #[.pointer (some p)] w λa w'=>TX Φ 3 F .nilIface w a w':=by
 refine(QZ (S:=XH) (e:=(Og x p)) (st:=cC) (args:=QQ) (k:=DF []) mixed (fC x p g h i) (v:=Sk.1) (ph:=Sk.2.1) (hp':=Sk.2.2) (by rw[fB];rfl) (Ds (show BT.den (Og x p) (.nil 0)=false from rfl) (Ht rfl)) (Db []) (λz c=>by cases c) Zk Zk (λz c=>by cases c) Zk f1 (λz c=>by cases c) f3).mono λa w' d=>?_;obtain⟨n,d⟩:=d;exact x8 d Zk Zk
def PH(wb:World)(gh:Nat)(p:Pl)(w:World)(F:Nat->Prop):Prop:=(AT w/\sh wb w)/\∃a,NG w gh p a/\(∀b∈a,7<=b)/\∀b,F b↔b∈a\/b<7
structure K2(p:Pl):Prop where
 ex:∀x∈p.free,p.BY x=true
 len:p.free.length<=5000
section
variable{wb:World}{x:Xr}{gh:Nat}{p p':Pl}{w w':World}{F:Nat->Prop}
def PH.lt(h:PH wb gh p w F):∀b,F b->b<w.heap.size:=by
 obtain⟨⟨c,_⟩,f,d,g,e⟩:=h;intro b a;rcases(e b).1 a with a|a
 ·exact d.lt b a
 ·exact ib a c.lt
def PH.AL(h:PH wb gh p w F)(e:∀b,F b->w'.heap[b]?=w.heap[b]?):PH wb gh p w' F:=by
 obtain⟨⟨k,f⟩,g,i,j,d⟩:=h;have a:NG w' gh p g:=i.same λb c=>e b ((d b).2 (fq c));have:=a.lt gh a.mem;have:=j gh i.mem;exact⟨⟨k.low (λb c=>e b ((d b).2 (db c))) Zo,f.trans λb c=>e b ((d b).2 (db c))⟩,g,a,j,d⟩
def dC(h:PH wb gh p w F)(ok:K2 p)(a:Bx)(t:p.valid a=true)(u:p.act a=(p',x))(Φ:Hg)(j:Nat)(v:∀w F,PH wb gh p' w F->Φ.P j w F):
  Kp 42 #[.pointer (some ⟨gh,0,none⟩),.agg a.l.toArray] w λm w'=>m=.returned (.tuple #[.agg x.l.toArray,.nilIface])/\Fx Φ j F none w w':=by
 obtain⟨⟨e,g⟩,A,n,d,i⟩:=h
 refine(Vx n e (d gh n.mem) a t ok.ex ok.len).mono λm w' o=>?_
 rw[u] at o
 obtain⟨q,p1,r,s,O⟩:=o
 have k:=e.CJ O d
 have B:=e.lt
 have y:w.heap.size<=w'.heap.size:=O.size
 refine⟨p1,O.os,O.tape,O.output,O.size,λb c _ z=>O.A5 b c λh=>z ((i b).2 (fq h)),λb=>b∈q\/b<7,v _ _ ⟨⟨k,g.trans λb c=>O.A5 b Zo λh=>by have:=d b h;omega⟩,q,r,λb c=>?_,λb=>j3⟩,λb c=>?_,λb c=>?_⟩
 ·rcases s b c with h|h
  ·exact d b h
  ·omega
 ·rcases c with c|c
  ·exact(s b c).imp (λh=>(i b).2 (fq h)) id
  ·exact fq ((i b).2 (db c))
 ·rcases c with c|c
  ·exact r.lt b c
  ·omega
end
namespace Pl
def A1:Bx:=⟨4,.zero,.zero,.zero⟩
def store(a:Int)(y:Xe):Bx:=⟨2,root a,.zero,y⟩
def stored(p:Pl)(a:Int)(y:Xe):Pl:={p with steps:=wr (p.steps+1),board:=Ar p.board a y}
def Pa(p:Pl):Pl:=((p.act A1).1.stored 8 (Yx (p.act A1).2.word)).stored 16 (Y6 1)
def IP(p:Pl):Pl:=((p.act A1).1.stored 0 (Yx (p.act A1).2.word)).stored 1 (Yx (p.act A1).2.word)
def MY(p:Pl)(a:Int)(y:Xe):p.act (store a y)=(p.stored a y,⟨.zero,true⟩):=rfl
def Js(p:Pl)(a:Int)(y:Xe)(b:0<=a)(c:a<(p.nb:Int)):p.valid (store a y)=true:=by
 simp[valid,store,has,root,b,c]
def mE{p:Pl}{l:List Int}{n:Int}(h:p.free=l++[n]):∃x,p.act A1=({p with steps:=wr (p.steps+1),free:=l,slot:=Ar p.slot n ⟨wr ((p.slot n).AB+1),true,Ar (λ_=>.zero) 9 (Y6 0)⟩,made:=wr (p.made+1)},⟨x,true⟩):=by
 refine⟨⟨n,wr ((p.slot n).AB+1),0,0,false⟩,?_⟩;have a:p.free.getLast?=some n:=by rw[h];simp
 have b:p.free.dropLast=l:=by rw[h];simp
 show Pl.alloc {p with steps:=wr (p.steps+1)} 0=_;unfold Pl.alloc;simp only[a,b]
end Pl
def K2.alloc{p:Pl}(ok:K2 p){l:List Int}{n:Int}(h:p.free=l++[n]):K2 (p.act Pl.A1).1/\(p.act Pl.A1).1.nb=p.nb/\(p.act Pl.A1).2=⟨(p.act Pl.A1).2.word,true⟩:=by
 obtain⟨x,e⟩:=Pl.mE h;rw[e];refine⟨⟨λy a=>ok.ex y (by rw[h];exact g8 _ a),?_⟩,rfl,rfl⟩;have:=ok.len;rw[h] at this;simp at this;show l.length<=5000;omega
def K2.stored{p:Pl}(ok:K2 p)(a:Int)(y:Xe):K2 (p.stored a y):=⟨ok.ex,ok.len⟩
def Sm{wb:World}{gh:Nat}{p:Pl}{w:World}{F:Nat->Prop}(h:PH wb gh p w F)(ok:K2 p)(j:24<=p.nb){l:List Int}{n:Int}(k:p.free=l++[n]):
  Kp 46 #[.pointer (some ⟨gh,0,none⟩)] w (TX ⟨λ_ w F=>PH wb gh p.Pa w F,λ_ _ _ _ h a=>h.AL a⟩ 0 F .nilIface w):=by
 obtain⟨VG,m,g⟩:=ok.alloc k
 have o:p.act Pl.A1=((p.act Pl.A1).1,⟨(p.act Pl.A1).2.word,true⟩):=pn rfl g
 have el:p.Pa=((p.act Pl.A1).1.stored 8 (Yx (p.act Pl.A1).2.word)).stored 16 (Y6 1):=rfl
 rw[el]
 clear el g
 generalize(p.act Pl.A1).1=p1 at*
 generalize(p.act Pl.A1).2.word=x at*
 have q:=nE (Φ:=⟨fun i w F=>if i = 0 then PH wb gh p w F else if i = 1 then PH wb gh p1 w F else if i = 2 then PH wb gh (p1.stored 8 (Yx x)) w F else PH wb gh ((p1.stored 8 (Yx x)).stored 16 (Y6 1)) w F,
  λi w w' F h a=>by
   split at h
   ·rename_i c;rw[ga c];exact h.AL a
   ·rename_i c;rw[fw c];split at h
    ·rename_i d;rw[ga d];exact h.AL a
    ·rename_i d;rw[fw d];split at h
     ·rename_i e;rw[ga e];exact h.AL a
     ·rename_i e;rw[fw e];exact h.AL a⟩) (F:=F) x ⟨gh,0,none⟩ w
  (λw F b _=>dC (p:=p) b ok Pl.A1 rfl o _ 1 λw F h=>h)
  (λw F b _=>dC (p:=p1) b VG (Pl.store 8 _) (Pl.Js _ _ _ Zd Zo) (Pl.MY _ _ _) _ 2 λw F h=>h)
  (λw F b _=>dC (p:=p1.stored 8 (Yx x)) b (VG.stored _ _) (Pl.store 16 _) (Pl.Js _ _ _ Zd (by show(16:Int)<((p1.nb:Nat):Int);omega)) (Pl.MY _ _ _) _ 3 λw F h=>h)
  h h.lt
 exact q.mono λt w' r=>r
