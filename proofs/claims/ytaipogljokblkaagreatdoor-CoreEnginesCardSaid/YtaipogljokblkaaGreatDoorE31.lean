/- Core: PR, CLay, VS. -/
import Derived.Test.YtaipogljokblkaaGreatDoorE29
import Derived.Test.YtaipogljokblkaaGreatDoorE01
import Derived.Test.YtaipogljokblkaaGreatDoorE12
import Derived.Test.YtaipogljokblkaaGreatDoorE07
set_option linter.all false
set_option maxRecDepth 100000
set_option maxHeartbeats 8000000
namespace Go.Proofs.YtaipogljokblkaaGreatDoor
open Go Go.RowKit
set_option linter.unusedSimpArgs false
set_option linter.unusedVariables false
set_option linter.unusedSectionVars false
namespace Pl
def down(ns k:Nat):List Int:=(List.range k).map λ(i:Nat)=>(ns:Int)-(i:Int)
def fresh(nb ns:Nat):Pl:=⟨nb,ns,λ_=>.zero,λ_=>.zero,down ns ns,0,0,false⟩
theorem Lc(ns k:Nat):(down ns k).length=k:=by simp[down]
theorem JQ(ns k:Nat):down ns (k+1)=down ns k++[(ns:Int)-(k:Int)]:=by simp[down,List.range_succ]
end Pl
theorem Qa{α:Type}{f:α->List Value}{sz:Nat}(hf:∀x,(f x).length=sz)(hsz:0<sz)(x:α)(z:Array Value)(hz:z.toList=f x)(n:Nat):madeCells z (n*sz)=(rows f ((List.range n).map λ_=>x)).toArray:=by
 have hzs:z.size=sz:=by rw[←Array.length_toList,hz,hf]
 apply Array.toList_inj.1;apply List.ext_getElem?;intro i;by_cases hi:i<n*sz
 ·have hk:i/sz<n:=Nat.div_lt_of_lt_mul (by rw[Nat.mul_comm];exact hi);have hj:i%sz<sz:=Nat.mod_lt _ hsz;have h1:=Ez hf ((List.range n).map λ_=>x) (i/sz) (by simpa using hk) (i%sz) ((f x)[i%sz]'(by rw[hf];exact hj)) (by simp only[List.getElem_map];exact List.getElem?_eq_getElem _);rw[show i/sz*sz+i%sz=i from by rw[Nat.mul_comm];exact Nat.div_add_mod i sz] at h1;simp only[h1];unfold madeCells;simp only[Array.toList_map,Array.toList_range,List.getElem?_map,List.getElem?_range hi,Option.map_some,hzs];congr 1;rw[getElem!_pos z (i%sz) Zo];simp only[←hz,Array.getElem_toList]
 ·rw[List.getElem?_eq_none (by rw[Array.length_toList,size_madeCells];omega),List.getElem?_eq_none (by rw[Y0 hf];simp;omega)]
theorem XY(nb ns:Nat):madeCells Xe.zero.l.toArray (nb*5)=(Pl.fresh nb ns).Br.toArray:=Qa Ng Zd Xe.zero _ rfl nb
theorem VY(nb ns:Nat):madeCells (Bg IK.zero).toArray (ns*52)=(Pl.fresh nb ns).Az.toArray:=Qa Bo Zd IK.zero _ rfl ns
theorem xB{E:TypeId}{z:Value}{n b:Nat}(h:(Tryz.prog.info? E).map (λi=>(i.zero.map (·.cells.toList),i.size,i.bytes))=some (some z.cells.toList,n,b)):∃i z',Tryz.prog.info? E=some i/\i.zero=some z'/\z'.cells=z.cells/\i.size=n/\i.bytes=b:=by
 obtain⟨i,hi,hzz⟩:=Option.map_eq_some_iff.1 h;simp only[Prod.mk.injEq] at hzz;obtain⟨z',hz',e⟩:=Option.map_eq_some_iff.1 hzz.1;exact⟨i,z',hi,hz',Array.toList_inj.1 e,hzz.2.1,hzz.2.2⟩
theorem WN(nb ns:Nat)(h:nb<=200)(w:World):(Instr.makeSlice 103 (.int .i64 (nb:Int)) (.int .i64 (nb:Int))).run Tryz.prog w=.ok (.slice (some ⟨w.heap.size,0,none⟩) nb nb) (w.alloc (.cells (Pl.fresh nb ns).Br.toArray 51)):=by
 obtain⟨i,z,h1,h2,h3,h4,h5⟩:=xB (E:=51) (z:=.agg Xe.zero.l.toArray) (n:=5) (b:=40) Zk;have hr:=run_make (P:=Tryz.prog) w 103 51 i z Tryz.underlying103 h1 h2 .i64 .i64 (nb:Int) (nb:Int) Zo Zo (by rw[h5];omega) Zo;rw[hr,h3,h4];simp only[Int.toNat_natCast];rw[show(Value.agg Xe.zero.l.toArray).cells=Xe.zero.l.toArray from rfl,XY nb ns]
theorem WM(nb ns:Nat)(h:ns<=1024)(w:World):(Instr.makeSlice 104 (.int .i64 (ns:Int)) (.int .i64 (ns:Int))).run Tryz.prog w=.ok (.slice (some ⟨w.heap.size,0,none⟩) ns ns) (w.alloc (.cells (Pl.fresh nb ns).Az.toArray 149)):=by
 obtain⟨i,z,h1,h2,h3,h4,h5⟩:=xB (E:=149) (z:=.agg (Bg IK.zero).toArray) (n:=52) (b:=416) Zk;have hr:=run_make (P:=Tryz.prog) w 104 149 i z Tryz.underlying104 h1 h2 .i64 .i64 (ns:Int) (ns:Int) Zo Zo (by rw[h5];omega) Zo;rw[hr,h3,h4];simp only[Int.toNat_natCast];rw[show(Value.agg (Bg IK.zero).toArray).cells=(Bg IK.zero).toArray from rfl,VY nb ns]
theorem TS(nb ns:Nat)(h1:nb<=200)(h2:ns<=1024)(w:World):
  Calls Tryz.prog 40 #[.int .i64 (ns:Int),.int .i64 (nb:Int)] w λen w'=>∃g F,en=.returned (.tuple #[.pointer (some ⟨g,0,none⟩),.nilIface])/\OL w' g (Pl.fresh nb ns) F/\(∀b∈F,w.heap.size<=b)/\Below w.heap.size w w':=by
 have d1:decide ((ns:Int)<0)=false:=by simp
 have d2:decide (1024<(ns:Int))=false:=by simp;omega
 have d3:decide ((nb:Int)<0)=false:=by simp
 have d4:decide (200<(nb:Int))=false:=by simp;omega
 have hmB:=WN nb ns h1
 have hmS:=WM nb ns h2
 go_enter Tryz.func40,Tryz.ntmps40
 go_upto_region 3 with(fail)
 clear d1 d2 d3 d4
 refine X8 (λ_=>True) 7 Zk trivial (λhS=>?_)
 have HB:=Zh ((Below.refl w.heap.size w).drew)
 generalize w.drew=w0 at*
 ((try simp only[ZL]);refine vT (fuel:=5) hS [0,2] ?_;simp only[Xy,Xr,List.toList_toArray];(repeat (first|go_big_quiet_skip|(go_big_quiet_want;first|(go_big_quiet_op;go_big_quiet_on)|(apply Exists.intro;refine⟨λw' hS'=>?_,?_⟩;(· (skip;go_simp;first|done|rfl|exact⟨rfl,rfl⟩));go_big_quiet_on;simp only[ZL]))));refine wpQuiet_nil ?_;(try dsimp only))
 refine GK (i:=1) (j:=3) rfl rfl Zk (λK hK=>?_) (λK hK=>?_)
 ·go_wp2_with fail;refine hK.out _ _ ⟨λ_=>trivial,?_⟩;clear hK;(refine Xi 3 Zk (λK hK=>?_);simp only[Xr,List.toList_toArray]);go_wp2_with fail;refine hK.out _ _ (λ_=>trivial) ?_;clear hK;((try simp only[ZL]);refine vT (fuel:=2) hS [4] ?_;simp only[Xy,Xr,List.toList_toArray];(repeat (first|go_big_quiet_skip|(go_big_quiet_want;first|(go_big_quiet_op;go_big_quiet_on)|(apply Exists.intro;refine⟨λw' hS'=>?_,?_⟩;(· (skip;go_simp;first|done|rfl|exact⟨rfl,rfl⟩));go_big_quiet_on;simp only[ZL]))));refine wpQuiet_nil ?_;(try dsimp only));(refine Xi 5 Zk (λK hK=>?_);simp only[Xr,List.toList_toArray]);go_wp2_with fail;refine hK.out _ _ (λ_=>trivial) ?_;clear hK;((try simp only[ZL]);refine vT (fuel:=0) hS [6] ?_;simp only[Xy,Xr,List.toList_toArray];(repeat (first|go_big_quiet_skip|(go_big_quiet_want;first|(go_big_quiet_op;go_big_quiet_on)|(apply Exists.intro;refine⟨λw' hS'=>?_,?_⟩;(· (skip;go_simp;first|done|rfl|exact⟨rfl,rfl⟩));go_big_quiet_on;simp only[ZL]))));refine wpQuiet_nil ?_;(try dsimp only));refine Ye Zk ?_ _;have e1:(w0.alloc (.cells (Pl.fresh nb ns).Br.toArray 51)).heap.size=w0.heap.size+1:=by simp
  have e2:((w0.alloc (.cells (Pl.fresh nb ns).Br.toArray 51)).alloc (.cells (Pl.fresh nb ns).Az.toArray 149)).heap.size=w0.heap.size+1+1:=by simp
  have q1:Bk (((w0.alloc (.cells (Pl.fresh nb ns).Br.toArray 51)).alloc (.cells (Pl.fresh nb ns).Az.toArray 149)).alloc (.cells #[.slice (some ⟨w0.heap.size,0,none⟩) nb nb,.slice (some ⟨w0.heap.size+1,0,none⟩) ns ns,.slice none 0 0,.int .i64 0,.int .i64 0,.nilIface] 106)) (w0.heap.size) 51 (Pl.fresh nb ns).Br.toArray:=((Bk.at_ (w:=w0) (cs:=(Pl.fresh nb ns).Br.toArray) (t:=51) rfl).alloc _).alloc _;have q2:Bk (((w0.alloc (.cells (Pl.fresh nb ns).Br.toArray 51)).alloc (.cells (Pl.fresh nb ns).Az.toArray 149)).alloc (.cells #[.slice (some ⟨w0.heap.size,0,none⟩) nb nb,.slice (some ⟨w0.heap.size+1,0,none⟩) ns ns,.slice none 0 0,.int .i64 0,.int .i64 0,.nilIface] 106)) (w0.heap.size+1) 149 (Pl.fresh nb ns).Az.toArray:=e1▸((Bk.at_ (w:=(w0.alloc (.cells (Pl.fresh nb ns).Br.toArray 51))) (cs:=(Pl.fresh nb ns).Az.toArray) (t:=149) rfl).alloc (.cells #[.slice (some ⟨w0.heap.size,0,none⟩) nb nb,.slice (some ⟨w0.heap.size+1,0,none⟩) ns ns,.slice none 0 0,.int .i64 0,.int .i64 0,.nilIface] 106));have q3:Bk (((w0.alloc (.cells (Pl.fresh nb ns).Br.toArray 51)).alloc (.cells (Pl.fresh nb ns).Az.toArray 149)).alloc (.cells #[.slice (some ⟨w0.heap.size,0,none⟩) nb nb,.slice (some ⟨w0.heap.size+1,0,none⟩) ns ns,.slice none 0 0,.int .i64 0,.int .i64 0,.nilIface] 106)) (w0.heap.size+1+1) 106 #[.slice (some ⟨w0.heap.size,0,none⟩) nb nb,.slice (some ⟨w0.heap.size+1,0,none⟩) ns ns,.slice none 0 0,.int .i64 0,.int .i64 0,.nilIface]:=e2▸(Bk.at_ (w:=((w0.alloc (.cells (Pl.fresh nb ns).Br.toArray 51)).alloc (.cells (Pl.fresh nb ns).Az.toArray 149))) (cs:=#[.slice (some ⟨w0.heap.size,0,none⟩) nb nb,.slice (some ⟨w0.heap.size+1,0,none⟩) ns ns,.slice none 0 0,.int .i64 0,.int .i64 0,.nilIface]) (t:=106) rfl);have HB2:Hid (Below w.heap.size w (((w0.alloc (.cells (Pl.fresh nb ns).Br.toArray 51)).alloc (.cells (Pl.fresh nb ns).Az.toArray 149)).alloc (.cells #[.slice (some ⟨w0.heap.size,0,none⟩) nb nb,.slice (some ⟨w0.heap.size+1,0,none⟩) ns ns,.slice none 0 0,.int .i64 0,.int .i64 0,.nilIface] 106))):=Zh (((HB.out.alloc HB.out.size _).alloc (by have:=HB.out.size;omega) _).alloc (by have:=HB.out.size;omega) _);have HP:Hid (PB (((w0.alloc (.cells (Pl.fresh nb ns).Br.toArray 51)).alloc (.cells (Pl.fresh nb ns).Az.toArray 149)).alloc (.cells #[.slice (some ⟨w0.heap.size,0,none⟩) nb nb,.slice (some ⟨w0.heap.size+1,0,none⟩) ns ns,.slice none 0 0,.int .i64 0,.int .i64 0,.nilIface] 106)) (w0.heap.size+1+1) (w0.heap.size) (w0.heap.size+1) {Pl.fresh nb ns with free:=Pl.down ns 0} ⟨none,0,0⟩ .nilIface):=Zh ⟨q3,q1,q2,Own.nil,by simp[Pl.fresh],by omega,by omega,by omega,(λh=>by cases h),(λh=>by cases h),(λh=>by cases h),(by show nb<=1000;omega),(by show ns<=2000;omega)⟩;have HZ:Hid (w.heap.size<=w0.heap.size):=Zh HB.out.size;clear q1 q2 q3 e1 e2 HB;generalize(((w0.alloc (.cells (Pl.fresh nb ns).Br.toArray 51)).alloc (.cells (Pl.fresh nb ns).Az.toArray 149)).alloc (.cells #[.slice (some ⟨w0.heap.size,0,none⟩) nb nb,.slice (some ⟨w0.heap.size+1,0,none⟩) ns ns,.slice none 0 0,.int .i64 0,.int .i64 0,.nilIface] 106))=W at*;have HQ:=Zh (And.intro (show w.heap.size<=w0.heap.size from by have:=HZ.out;omega) (And.intro (show w.heap.size<=w0.heap.size+1 from by have:=HZ.out;omega) (show w.heap.size<=w0.heap.size+1+1 from by have:=HZ.out;omega)));clear HZ;generalize w0.heap.size+1+1=g at*;generalize w0.heap.size+1=sb at*;generalize w0.heap.size=bb at*;clear hmB hmS;go_wp2_with fail;go_loopw [7] (λv wr=>∃(k:Nat) (fr:BA),k<=ns/\v=.int .i64 ((ns:Int)-k)/\PB wr g bb sb {Pl.fresh nb ns with free:=Pl.down ns k} fr .nilIface/\Below w.heap.size w wr/\(∀b,fr.v.ownBlock=some b->w.heap.size<=b)) (λv _=>(intOf v).toNat);case atStart=>exact⟨0,_,Nat.zero_le _,by simp,HP.out,HB2.out,(λb h=>by cases h)⟩
  case round=>
   obtain⟨k,fr,hk,rfl,hp,hB,hf⟩:=hrel;by_cases hlt:k<ns
   ·have hlt2:1<=(ns:Int)-(k:Int):=Zo;have H6:=Zh (hp.alloc (.cells #[.int .i64 ((ns:Int)-(k:Int))] 3));have hz:=hB.size;have hB6:=hB.alloc hz (.cells #[.int .i64 ((ns:Int)-(k:Int))] 3);have c2':=hp.cells.2.2.1;obtain⟨v',w7,hrun,ho,hg,hfr⟩:=EY _ fr.v (Pl.down ns k) H6.out.fo (by rw[Pl.Lc];omega) ((ns:Int)-(k:Int)) wr.heap.size (Bk.at_ rfl) 45;obtain⟨va,vc,rfl,_⟩:=Yq ho;have HP8:=Zh (H6.out.Be (l:=Pl.down ns k++[(ns:Int)-(k:Int)]) (u:=⟨va,_,vc⟩) ho hg hfr);have HFR:=Zh hfr;have HB7:=Zh (hB6.grown hg hB6.size hf);have b7:Bk w7 g 106 _:=H6.out.bk.grown hg (λe=>H6.out.f1 e.symm);have c2:=b7.cell 2;have f2:=b7.free 2;simp at c2;clear ho hg hfr b7 hp hB hB6;generalize(Pl.down ns k++[(ns:Int)-(k:Int)]).length=fl at*;go_wp2_with (at_builtin;refine Ya Zr _ _ _ _ _ _ _ Zr Zr Zr hrun ?_);refine⟨⟨k+1,⟨va,fl,vc⟩,by omega,by rw[show((ns:Int)-(k:Int)-1)=(ns:Int)-((k+1:Nat):Int) from by omega],?_,HB7.out.grown (Xs w7 g 2 _) HB7.out.size (λb e=>by cases e;exact HQ.out.2.2),λb hb=>(HFR.out b hb).elim (hf b) (λh=>by simp at h;omega)⟩,by simp[intOf];omega⟩;have hp:=HP8.out.1;rw[←Pl.JQ] at hp;exact hp
   ·have hke:k=ns:=Zo;subst hke;have hn:¬(1<=(k:Int)-(k:Int)):=Zo;have HO:=Zh (And.intro hp (And.intro hB hf));clear hp hB hf;go_wp2_with fail;go_ret2;refine⟨g,rfl,_,⟨bb,sb,fr,.nilIface,HO.out.1,rfl⟩,λb hb=>?_,HO.out.2.1⟩;rcases Xw.1 hb with rfl|rfl|rfl|h
    ·exact HQ.out.2.2
    ·exact HQ.out.1
    ·exact HQ.out.2.1
    ·exact HO.out.2.2 b h
 ·go_wp2_with fail;refine hK.out _ _ ⟨λ_=>trivial,?_⟩;clear hK;(refine Xi 1 Zk (λK hK=>?_);simp only[Xr,List.toList_toArray]);go_wp2_with fail;refine hK.out _ _ (λ_=>trivial) ?_;clear hK;((try simp only[ZL]);refine vT (fuel:=2) hS [4] ?_;simp only[Xy,Xr,List.toList_toArray];(repeat (first|go_big_quiet_skip|(go_big_quiet_want;first|(go_big_quiet_op;go_big_quiet_on)|(apply Exists.intro;refine⟨λw' hS'=>?_,?_⟩;(· (skip;go_simp;first|done|rfl|exact⟨rfl,rfl⟩));go_big_quiet_on;simp only[ZL]))));refine wpQuiet_nil ?_;(try dsimp only));(refine Xi 5 Zk (λK hK=>?_);simp only[Xr,List.toList_toArray]);go_wp2_with fail;refine hK.out _ _ (λ_=>trivial) ?_;clear hK;((try simp only[ZL]);refine vT (fuel:=0) hS [6] ?_;simp only[Xy,Xr,List.toList_toArray];(repeat (first|go_big_quiet_skip|(go_big_quiet_want;first|(go_big_quiet_op;go_big_quiet_on)|(apply Exists.intro;refine⟨λw' hS'=>?_,?_⟩;(· (skip;go_simp;first|done|rfl|exact⟨rfl,rfl⟩));go_big_quiet_on;simp only[ZL]))));refine wpQuiet_nil ?_;(try dsimp only));refine Ye Zk ?_ _;have e1:(w0.alloc (.cells (Pl.fresh nb ns).Az.toArray 149)).heap.size=w0.heap.size+1:=by simp
  have e2:((w0.alloc (.cells (Pl.fresh nb ns).Az.toArray 149)).alloc (.cells (Pl.fresh nb ns).Br.toArray 51)).heap.size=w0.heap.size+1+1:=by simp
  have q1:Bk (((w0.alloc (.cells (Pl.fresh nb ns).Az.toArray 149)).alloc (.cells (Pl.fresh nb ns).Br.toArray 51)).alloc (.cells #[.slice (some ⟨w0.heap.size+1,0,none⟩) nb nb,.slice (some ⟨w0.heap.size,0,none⟩) ns ns,.slice none 0 0,.int .i64 0,.int .i64 0,.nilIface] 106)) (w0.heap.size) 149 (Pl.fresh nb ns).Az.toArray:=((Bk.at_ (w:=w0) (cs:=(Pl.fresh nb ns).Az.toArray) (t:=149) rfl).alloc _).alloc _;have q2:Bk (((w0.alloc (.cells (Pl.fresh nb ns).Az.toArray 149)).alloc (.cells (Pl.fresh nb ns).Br.toArray 51)).alloc (.cells #[.slice (some ⟨w0.heap.size+1,0,none⟩) nb nb,.slice (some ⟨w0.heap.size,0,none⟩) ns ns,.slice none 0 0,.int .i64 0,.int .i64 0,.nilIface] 106)) (w0.heap.size+1) 51 (Pl.fresh nb ns).Br.toArray:=e1▸((Bk.at_ (w:=(w0.alloc (.cells (Pl.fresh nb ns).Az.toArray 149))) (cs:=(Pl.fresh nb ns).Br.toArray) (t:=51) rfl).alloc (.cells #[.slice (some ⟨w0.heap.size+1,0,none⟩) nb nb,.slice (some ⟨w0.heap.size,0,none⟩) ns ns,.slice none 0 0,.int .i64 0,.int .i64 0,.nilIface] 106));have q3:Bk (((w0.alloc (.cells (Pl.fresh nb ns).Az.toArray 149)).alloc (.cells (Pl.fresh nb ns).Br.toArray 51)).alloc (.cells #[.slice (some ⟨w0.heap.size+1,0,none⟩) nb nb,.slice (some ⟨w0.heap.size,0,none⟩) ns ns,.slice none 0 0,.int .i64 0,.int .i64 0,.nilIface] 106)) (w0.heap.size+1+1) 106 #[.slice (some ⟨w0.heap.size+1,0,none⟩) nb nb,.slice (some ⟨w0.heap.size,0,none⟩) ns ns,.slice none 0 0,.int .i64 0,.int .i64 0,.nilIface]:=e2▸(Bk.at_ (w:=((w0.alloc (.cells (Pl.fresh nb ns).Az.toArray 149)).alloc (.cells (Pl.fresh nb ns).Br.toArray 51))) (cs:=#[.slice (some ⟨w0.heap.size+1,0,none⟩) nb nb,.slice (some ⟨w0.heap.size,0,none⟩) ns ns,.slice none 0 0,.int .i64 0,.int .i64 0,.nilIface]) (t:=106) rfl);have HB2:Hid (Below w.heap.size w (((w0.alloc (.cells (Pl.fresh nb ns).Az.toArray 149)).alloc (.cells (Pl.fresh nb ns).Br.toArray 51)).alloc (.cells #[.slice (some ⟨w0.heap.size+1,0,none⟩) nb nb,.slice (some ⟨w0.heap.size,0,none⟩) ns ns,.slice none 0 0,.int .i64 0,.int .i64 0,.nilIface] 106))):=Zh (((HB.out.alloc HB.out.size _).alloc (by have:=HB.out.size;omega) _).alloc (by have:=HB.out.size;omega) _);have HP:Hid (PB (((w0.alloc (.cells (Pl.fresh nb ns).Az.toArray 149)).alloc (.cells (Pl.fresh nb ns).Br.toArray 51)).alloc (.cells #[.slice (some ⟨w0.heap.size+1,0,none⟩) nb nb,.slice (some ⟨w0.heap.size,0,none⟩) ns ns,.slice none 0 0,.int .i64 0,.int .i64 0,.nilIface] 106)) (w0.heap.size+1+1) (w0.heap.size+1) (w0.heap.size) {Pl.fresh nb ns with free:=Pl.down ns 0} ⟨none,0,0⟩ .nilIface):=Zh ⟨q3,q2,q1,Own.nil,by simp[Pl.fresh],by omega,by omega,by omega,(λh=>by cases h),(λh=>by cases h),(λh=>by cases h),(by show nb<=1000;omega),(by show ns<=2000;omega)⟩;have HZ:Hid (w.heap.size<=w0.heap.size):=Zh HB.out.size;clear q1 q2 q3 e1 e2 HB;generalize(((w0.alloc (.cells (Pl.fresh nb ns).Az.toArray 149)).alloc (.cells (Pl.fresh nb ns).Br.toArray 51)).alloc (.cells #[.slice (some ⟨w0.heap.size+1,0,none⟩) nb nb,.slice (some ⟨w0.heap.size,0,none⟩) ns ns,.slice none 0 0,.int .i64 0,.int .i64 0,.nilIface] 106))=W at*;have HQ:=Zh (And.intro (show w.heap.size<=w0.heap.size+1 from by have:=HZ.out;omega) (And.intro (show w.heap.size<=w0.heap.size from by have:=HZ.out;omega) (show w.heap.size<=w0.heap.size+1+1 from by have:=HZ.out;omega)));clear HZ;generalize w0.heap.size+1+1=g at*;generalize w0.heap.size+1=bb at*;generalize w0.heap.size=sb at*;clear hmB hmS;go_wp2_with fail;go_loopw [7] (λv wr=>∃(k:Nat) (fr:BA),k<=ns/\v=.int .i64 ((ns:Int)-k)/\PB wr g bb sb {Pl.fresh nb ns with free:=Pl.down ns k} fr .nilIface/\Below w.heap.size w wr/\(∀b,fr.v.ownBlock=some b->w.heap.size<=b)) (λv _=>(intOf v).toNat);case atStart=>exact⟨0,_,Nat.zero_le _,by simp,HP.out,HB2.out,(λb h=>by cases h)⟩
  case round=>
   obtain⟨k,fr,hk,rfl,hp,hB,hf⟩:=hrel;by_cases hlt:k<ns
   ·have hlt2:1<=(ns:Int)-(k:Int):=Zo;have H6:=Zh (hp.alloc (.cells #[.int .i64 ((ns:Int)-(k:Int))] 3));have hz:=hB.size;have hB6:=hB.alloc hz (.cells #[.int .i64 ((ns:Int)-(k:Int))] 3);have c2':=hp.cells.2.2.1;obtain⟨v',w7,hrun,ho,hg,hfr⟩:=EY _ fr.v (Pl.down ns k) H6.out.fo (by rw[Pl.Lc];omega) ((ns:Int)-(k:Int)) wr.heap.size (Bk.at_ rfl) 45;obtain⟨va,vc,rfl,_⟩:=Yq ho;have HP8:=Zh (H6.out.Be (l:=Pl.down ns k++[(ns:Int)-(k:Int)]) (u:=⟨va,_,vc⟩) ho hg hfr);have HFR:=Zh hfr;have HB7:=Zh (hB6.grown hg hB6.size hf);have b7:Bk w7 g 106 _:=H6.out.bk.grown hg (λe=>H6.out.f1 e.symm);have c2:=b7.cell 2;have f2:=b7.free 2;simp at c2;clear ho hg hfr b7 hp hB hB6;generalize(Pl.down ns k++[(ns:Int)-(k:Int)]).length=fl at*;go_wp2_with (at_builtin;refine Ya Zr _ _ _ _ _ _ _ Zr Zr Zr hrun ?_);refine⟨⟨k+1,⟨va,fl,vc⟩,by omega,by rw[show((ns:Int)-(k:Int)-1)=(ns:Int)-((k+1:Nat):Int) from by omega],?_,HB7.out.grown (Xs w7 g 2 _) HB7.out.size (λb e=>by cases e;exact HQ.out.2.2),λb hb=>(HFR.out b hb).elim (hf b) (λh=>by simp at h;omega)⟩,by simp[intOf];omega⟩;have hp:=HP8.out.1;rw[←Pl.JQ] at hp;exact hp
   ·have hke:k=ns:=Zo;subst hke;have hn:¬(1<=(k:Int)-(k:Int)):=Zo;have HO:=Zh (And.intro hp (And.intro hB hf));clear hp hB hf;go_wp2_with fail;go_ret2;refine⟨g,rfl,_,⟨bb,sb,fr,.nilIface,HO.out.1,rfl⟩,λb hb=>?_,HO.out.2.1⟩;rcases Xw.1 hb with rfl|rfl|rfl|h
    ·exact HQ.out.2.2
    ·exact HQ.out.1
    ·exact HQ.out.2.1
    ·exact HO.out.2.2 b h
def Nh(x:Xe)(p:Go.Addr):Env:=⟨λi=>([x.sl,x.gn,x.tg,x.nm]:List Int).getD i 0,λi=>([x.mark]:List Bool).getD i false,λi=>([.pointer (some p)]:List Value).getD i .nilIface,λi=>by rcases i with _|i<;>rfl⟩
def YM:St:=⟨[],[],[(.nil 0,false)],10,0⟩
def Pv:List SV:=[.c (.AN 0)]
def Vo:List Xv:=[⟨false,42,101,[],[.c (.AN 0),.agg ([.int (.lit 4),.int (.lit 0),.int (.lit 0),.int (.lit 0)]++zs 4++[.bool (.lit false),.int (.lit 0),.int (.lit 0),.int (.lit 0),.int (.lit 0),.bool (.lit false)])],.IU [(true,[.int (.var 0),.int (.var 1),.int (.var 2),.int (.var 3),.bool (.var 0),.bool (.lit true)]),(false,[.lit .nilIface])],[]⟩,⟨false,42,202,[],[.c (.AN 0),.agg ([.int (.lit 2),.int (.lit 0),.int (.lit 0),.int (.lit 8)]++zs 4++[.bool (.lit false),.int (.var 0),.int (.var 1),.int (.lit 0),.int (.lit 0),.bool (.lit false)])],.IU [(true,zs 4++[.bool (.lit false),.bool (.lit true)]),(false,[.lit .nilIface])],[]⟩,⟨false,42,303,[],[.c (.AN 0),.agg ([.int (.lit 2),.int (.lit 0),.int (.lit 0),.int (.lit 16)]++zs 4++[.bool (.lit false),.int (.lit 0),.int (.lit 0),.int (.lit 0),.int (.lit 1),.bool (.lit false)])],.IU [(true,zs 4++[.bool (.lit false),.bool (.lit true)]),(false,[.lit .nilIface])],[]⟩]
def QJ:SV × Nat × Yh:=((.c (.lit .nilIface)),3,[])
theorem aP:PQ (exec Tryz.prog Vo 200 (.call 46 Pv) YM)=.leaf QJ:=Zk
theorem aQ{Φ:GF}(x:Xe)(p:Go.Addr)(H0:∀w F,Φ.P 0 w F->(∀b,F b->b<w.heap.size)->Calls Tryz.prog 42 #[.pointer (some p),.agg (⟨4,.zero,.zero,.zero⟩:Bn).l.toArray] w λen w'=>en=.returned (.tuple #[.agg (⟨x,true⟩:Xj).l.toArray,.nilIface])/\EH Φ 1 F none w w')(H1:∀w F,Φ.P 1 w F->(∀b,F b->b<w.heap.size)->Calls Tryz.prog 42 #[.pointer (some p),.agg (⟨2,root 8,.zero,Yt x⟩:Bn).l.toArray] w λen w'=>en=.returned (.tuple #[.agg (⟨.zero,true⟩:Xj).l.toArray,.nilIface])/\EH Φ 2 F none w w')(H2:∀w F,Φ.P 2 w F->(∀b,F b->b<w.heap.size)->Calls Tryz.prog 42 #[.pointer (some p),.agg (⟨2,root 16,.zero,Yy 1⟩:Bn).l.toArray] w λen w'=>en=.returned (.tuple #[.agg (⟨.zero,true⟩:Xj).l.toArray,.nilIface])/\EH Φ 3 F none w w'):Di Tryz.prog (Nh x p) Φ Vo:=by
 intro s hs;rcases List.mem_cons.1 hs with rfl|hs
 ·unfold EG;rw[show Gr _=none from rfl];simp only;rw[if_pos Zd];intro hq w F hP hb args' ha;have ea:args'=#[.pointer (some p),.agg (⟨4,.zero,.zero,.zero⟩:Bn).l.toArray]:=ha.trans Zk;subst ea;exact AI.fn Zd ⟨CF Tryz.func42 Zk Zk _ _,(H0 w F hP hb).mono λen w' h=>⟨h.1.trans Zk,h.2⟩⟩
 rcases List.mem_cons.1 hs with rfl|hs
 ·unfold EG;rw[show Gr _=none from rfl];simp only;rw[if_pos Zd];intro hq w F hP hb args' ha;have ea:args'=#[.pointer (some p),.agg (⟨2,root 8,.zero,Yt x⟩:Bn).l.toArray]:=ha.trans Zk;subst ea;exact AI.fn Zd ⟨CF Tryz.func42 Zk Zk _ _,(H1 w F hP hb).mono λen w' h=>⟨h.1.trans Zk,h.2⟩⟩
 rcases List.mem_cons.1 hs with rfl|hs
 ·unfold EG;rw[show Gr _=none from rfl];simp only;rw[if_pos Zd];intro hq w F hP hb args' ha;have ea:args'=#[.pointer (some p),.agg (⟨2,root 16,.zero,Yy 1⟩:Bn).l.toArray]:=ha.trans Zk;subst ea;exact AI.fn Zd ⟨CF Tryz.func42 Zk Zk _ _,(H2 w F hP hb).mono λen w' h=>⟨h.1.trans Zk,h.2⟩⟩
 cases hs
theorem iS{Φ:GF}{F:Nat->Prop}(x:Xe)(p:Go.Addr)(w:World)(H0:∀w F,Φ.P 0 w F->(∀b,F b->b<w.heap.size)->Calls Tryz.prog 42 #[.pointer (some p),.agg (⟨4,.zero,.zero,.zero⟩:Bn).l.toArray] w λen w'=>en=.returned (.tuple #[.agg (⟨x,true⟩:Xj).l.toArray,.nilIface])/\EH Φ 1 F none w w')(H1:∀w F,Φ.P 1 w F->(∀b,F b->b<w.heap.size)->Calls Tryz.prog 42 #[.pointer (some p),.agg (⟨2,root 8,.zero,Yt x⟩:Bn).l.toArray] w λen w'=>en=.returned (.tuple #[.agg (⟨.zero,true⟩:Xj).l.toArray,.nilIface])/\EH Φ 2 F none w w')(H2:∀w F,Φ.P 2 w F->(∀b,F b->b<w.heap.size)->Calls Tryz.prog 42 #[.pointer (some p),.agg (⟨2,root 16,.zero,Yy 1⟩:Bn).l.toArray] w λen w'=>en=.returned (.tuple #[.agg (⟨.zero,true⟩:Xj).l.toArray,.nilIface])/\EH Φ 3 F none w w')(f1:Φ.P 0 w F)(f3:∀b,F b->b<w.heap.size):Calls Tryz.prog 46 #[.pointer (some p)] w λen w'=>Sp Φ 3 F .nilIface w en w':=by
 refine(P0 (S:=Vo) (e:=(Nh x p)) (st:=YM) (args:=Pv) (k:=Dk []) mixed (aQ x p H0 H1 H2) (v:=QJ.1) (ph:=QJ.2.1) (hp':=QJ.2.2) (by rw[aP];rfl) (CT (show BT.den (Nh x p) (.nil 0)=false from rfl) (GY rfl)) (Cv []) (λz hz=>by cases hz) Zk Zk (λz hz=>by cases hz) Zk f1 (λz hz=>by cases hz) f3).mono λen w' hp=>?_;obtain⟨k',hp⟩:=hp;exact fin_E0 hp Zk Zk
def PH(wb:World)(gh:Nat)(p:Pl)(w:World)(F:Nat->Prop):Prop:=(AQ w/\wM wb w)/\∃Fh,OL w gh p Fh/\(∀b∈Fh,7<=b)/\∀b,F b↔b∈Fh\/b<7
structure Lr(p:Pl):Prop where
 ex:∀x∈p.free,p.BD x=true
 len:p.free.length<=5000
section
variable{wb:World}{x:Xj}{gh:Nat}{p p':Pl}{w w':World}{F:Nat->Prop}
theorem PH.lt(h:PH wb gh p w F):∀b,F b->b<w.heap.size:=by
 obtain⟨⟨he,_⟩,Fh,h1,h2,h3⟩:=h;intro b hb;rcases(h3 b).1 hb with hb|hb
 ·exact h1.lt b hb
 ·exact Nat.lt_of_lt_of_le hb he.lt
theorem PH.AG(h:PH wb gh p w F)(hs:∀b,F b->w'.heap[b]?=w.heap[b]?):PH wb gh p w' F:=by
 obtain⟨⟨he,hlw⟩,Fh,h1,h2,h3⟩:=h;have h1':OL w' gh p Fh:=h1.same λb hb=>hs b ((h3 b).2 (Or.inl hb));have:=h1'.lt gh h1'.mem;have:=h2 gh h1.mem;exact⟨⟨he.low (λb hb=>hs b ((h3 b).2 (Or.inr hb))) Zo,hlw.trans λb hb=>hs b ((h3 b).2 (Or.inr hb))⟩,Fh,h1',h2,h3⟩
theorem Z1(h:PH wb gh p w F)(ok:Lr p)(a:Bn)(hv:p.valid a=true)(he:p.act a=(p',x))(Φ:GF)(j:Nat)(hj:∀w F,PH wb gh p' w F->Φ.P j w F):
  Calls Tryz.prog 42 #[.pointer (some ⟨gh,0,none⟩),.agg a.l.toArray] w λen w'=>en=.returned (.tuple #[.agg x.l.toArray,.nilIface])/\EH Φ j F none w w':=by
 obtain⟨⟨hE,hlw⟩,Fh,h1,h2,h3⟩:=h
 refine(TU h1 hE (h2 gh h1.mem) a hv ok.ex ok.len).mono λen w' hq=>?_
 rw[he] at hq
 obtain⟨F',p1,q1,q2,O⟩:=hq
 have hE':=hE.BV O h2
 have hz:=hE.lt
 have hsz:w.heap.size<=w'.heap.size:=O.size
 refine⟨p1,O.os,O.tape,O.output,O.size,λb hb _ hf=>O.Ax b hb λh=>hf ((h3 b).2 (Or.inl h)),λb=>b∈F'\/b<7,hj _ _ ⟨⟨hE',hlw.trans λb hb=>O.Ax b Zo λh=>by have:=h2 b h;omega⟩,F',q1,λb hb=>?_,λb=>Iff.rfl⟩,λb hb=>?_,λb hb=>?_⟩
 ·rcases q2 b hb with h|h
  ·exact h2 b h
  ·omega
 ·rcases hb with hb|hb
  ·exact(q2 b hb).imp (λh=>(h3 b).2 (Or.inl h)) id
  ·exact Or.inl ((h3 b).2 (Or.inr hb))
 ·rcases hb with hb|hb
  ·exact q1.lt b hb
  ·omega
end
namespace Pl
def A7:Bn:=⟨4,.zero,.zero,.zero⟩
def store(fd:Int)(y:Xe):Bn:=⟨2,root fd,.zero,y⟩
def stored(p:Pl)(fd:Int)(y:Xe):Pl:={p with steps:=wr (p.steps+1),board:=Ap p.board fd y}
def Jm(p:Pl):Pl:=((p.act A7).1.stored 8 (Yt (p.act A7).2.word)).stored 16 (Yy 1)
def Gb(p:Pl):Pl:=((p.act A7).1.stored 0 (Yt (p.act A7).2.word)).stored 1 (Yt (p.act A7).2.word)
theorem Ma(p:Pl)(fd:Int)(y:Xe):p.act (store fd y)=(p.stored fd y,⟨.zero,true⟩):=rfl
theorem IS(p:Pl)(fd:Int)(y:Xe)(h0:0<=fd)(h1:fd<(p.nb:Int)):p.valid (store fd y)=true:=by
 simp[valid,store,has,root,h0,h1]
theorem iC{p:Pl}{l:List Int}{n:Int}(h:p.free=l++[n]):∃x,p.act A7=({p with steps:=wr (p.steps+1),free:=l,slot:=Ap p.slot n ⟨wr ((p.slot n).As+1),true,Ap (λ_=>.zero) 9 (Yy 0)⟩,made:=wr (p.made+1)},⟨x,true⟩):=by
 refine⟨⟨n,wr ((p.slot n).As+1),0,0,false⟩,?_⟩;have e1:p.free.getLast?=some n:=by rw[h];simp
 have e2:p.free.dropLast=l:=by rw[h];simp
 show Pl.alloc {p with steps:=wr (p.steps+1)} 0=_;unfold Pl.alloc;simp only[e1,e2]
end Pl
theorem Lr.alloc{p:Pl}(ok:Lr p){l:List Int}{n:Int}(h:p.free=l++[n]):Lr (p.act Pl.A7).1/\(p.act Pl.A7).1.nb=p.nb/\(p.act Pl.A7).2=⟨(p.act Pl.A7).2.word,true⟩:=by
 obtain⟨x,e⟩:=Pl.iC h;rw[e];refine⟨⟨λy hy=>ok.ex y (by rw[h];exact List.mem_append_left _ hy),?_⟩,rfl,rfl⟩;have:=ok.len;rw[h] at this;simp at this;show l.length<=5000;omega
theorem Lr.stored{p:Pl}(ok:Lr p)(fd:Int)(y:Xe):Lr (p.stored fd y):=⟨ok.ex,ok.len⟩
theorem QK{wb:World}{gh:Nat}{p:Pl}{w:World}{F:Nat->Prop}(h:PH wb gh p w F)(ok:Lr p)(hnb:24<=p.nb){l:List Int}{n:Int}(hf:p.free=l++[n]):
  Calls Tryz.prog 46 #[.pointer (some ⟨gh,0,none⟩)] w (Sp ⟨λ_ w F=>PH wb gh p.Jm w F,λ_ _ _ _ h hs=>h.AG hs⟩ 0 F .nilIface w):=by
 obtain⟨Uh,nb1,e1⟩:=ok.alloc hf
 have e0:p.act Pl.A7=((p.act Pl.A7).1,⟨(p.act Pl.A7).2.word,true⟩):=Prod.ext rfl e1
 have el:p.Jm=((p.act Pl.A7).1.stored 8 (Yt (p.act Pl.A7).2.word)).stored 16 (Yy 1):=rfl
 rw[el]
 clear el e1
 generalize(p.act Pl.A7).1=p1 at*
 generalize(p.act Pl.A7).2.word=x at*
 have hq:=iS (Φ:=⟨fun i w F=>if i = 0 then PH wb gh p w F else if i = 1 then PH wb gh p1 w F else if i = 2 then PH wb gh (p1.stored 8 (Yt x)) w F else PH wb gh ((p1.stored 8 (Yt x)).stored 16 (Yy 1)) w F,
  λi w w' F h hs=>by
   split at h
   ·rename_i h0;rw[if_pos h0];exact h.AG hs
   ·rename_i h0;rw[if_neg h0];split at h
    ·rename_i h1;rw[if_pos h1];exact h.AG hs
    ·rename_i h1;rw[if_neg h1];split at h
     ·rename_i h2;rw[if_pos h2];exact h.AG hs
     ·rename_i h2;rw[if_neg h2];exact h.AG hs⟩) (F:=F) x ⟨gh,0,none⟩ w
  (λw F hP _=>Z1 (p:=p) hP ok Pl.A7 rfl e0 _ 1 λw F h=>h)
  (λw F hP _=>Z1 (p:=p1) hP Uh (Pl.store 8 _) (Pl.IS _ _ _ Zd Zo) (Pl.Ma _ _ _) _ 2 λw F h=>h)
  (λw F hP _=>Z1 (p:=p1.stored 8 (Yt x)) hP (Uh.stored _ _) (Pl.store 16 _) (Pl.IS _ _ _ Zd (by show(16:Int)<((p1.nb:Nat):Int);omega)) (Pl.Ma _ _ _) _ 3 λw F h=>h)
  h h.lt
 exact hq.mono λen w' hp=>hp
end Go.Proofs.YtaipogljokblkaaGreatDoor
