/- Core: PH, PI. -/
import Derived.Test.YtaipogljokblkaaGreatDoorZ18
import Derived.Test.YtaipogljokblkaaGreatDoorZ09
set_option linter.all false
set_option maxRecDepth 100000
set_option maxHeartbeats 8000000
namespace Go.Proofs.YtaipogljokblkaaGreatDoor
open Go Go.RowKit
set_option linter.unusedSimpArgs false
set_option linter.unusedVariables false
set_option linter.unusedSectionVars false
def SwS (w1:World) (b o r:Nat) (x:Xf) (o0 o1 o2 o3:Int) (o4:Bool):Prop:=(w1.cell? ⟨b,o,none⟩ = some (.int .i64 x.sl)∧w1.cell? ⟨b,o+1,none⟩ = some (.int .i64 x.gn)∧w1.cell? ⟨b,o+2,none⟩ = some (.int .i64 x.tg)∧w1.cell? ⟨b,o+3,none⟩ = some (.int .i64 x.nm)∧w1.cell? ⟨b,o+4,none⟩ = some (.bool x.mark))∧(w1.cell? ⟨r,4,none⟩ = some (.int .i64 o0)∧w1.cell? ⟨r,5,none⟩ = some (.int .i64 o1)∧w1.cell? ⟨r,6,none⟩ = some (.int .i64 o2)∧w1.cell? ⟨r,7,none⟩ = some (.int .i64 o3)∧w1.cell? ⟨r,8,none⟩ = some (.bool o4))
theorem SwS.below {w1 w2:World} {b o r:Nat} {x:Xf} {o0 o1 o2 o3:Int} {o4:Bool} (h:SwS w1 b o r x o0 o1 o2 o3 o4) (hb:Below w1.heap.size w1 w2) (h1:b < w1.heap.size) (h2:r < w1.heap.size):SwS w2 b o r x o0 o1 o2 o3 o4:=by
 obtain ⟨⟨a0,a1,a2,a3,a4⟩,c0,c1,c2,c3,c4⟩:=h
 have K:=(bcell hb).1
 exact ⟨⟨(K b _ h1).trans a0,(K b _ h1).trans a1,(K b _ h1).trans a2,(K b _ h1).trans a3,(K b _ h1).trans a4⟩,(K r _ h2).trans c0,(K r _ h2).trans c1,(K r _ h2).trans c2,(K r _ h2).trans c3,(K r _ h2).trans c4⟩
def RetSw (w:World) (b:Nat) (T:TypeId) (cs cs':Array Value) (x y:Xf) (e:Ending) (w':World):Prop:=RetT w b T (bif wsame x y then cs' else cs) ⟨x,wsame x y⟩ e w'
theorem touch_chg2 {w w1 w2 w3:World} {b:Nat} {T T2:TypeId} {cs cs2:Array Value} {u:Value} {k:Nat} (h0:Below w.heap.size w w1) (h1:Stored w1 b T cs w2) (h3:Stored (w2.setCell ⟨w.heap.size+1+1,k,none⟩ u) (w.heap.size+1) T2 cs2 w3) (hb:b < w.heap.size):Chg [b] w w3:=by
 have c0:Chg [b] w w1:=Chg.of_below h0
 have c1:Chg [b] w1 w2:=Chg.of_grown (b:=0) h1.grown (fun b' e=>by injection e with e;simp [e])
 have c2:Chg [w.heap.size+1+1] w2 (w2.setCell ⟨w.heap.size+1+1,k,none⟩ u):=Chg.of_grown (b:=0) (Xq _ _ _ _) (fun b' e=>by injection e with e;simp [e])
 have c3:Chg [w.heap.size+1] (w2.setCell ⟨w.heap.size+1+1,k,none⟩ u) w3:=Chg.of_grown (b:=0) h3.grown (fun b' e=>by injection e with e;simp [e])
 refine (((c0.trans c1).seq (F1:=[w.heap.size+1+1]) ?_ c2)).seq (F1:=[w.heap.size+1]) ?_ c3
 ·intro x hx;rw [List.mem_singleton.1 hx];right;omega
 ·intro x hx;rw [List.mem_singleton.1 hx];right;omega
theorem touch3_any (w:World) (b o:Nat) (T:TypeId) (cs cs':Array Value) (x:Xf) (a:GAcc) (hb:Bk w b T cs) (hx:w.rangeAt b o x.l) (ho:o+5≤cs.size) (hk:a.kind = 3) (hcs:cs'.toList = cs.toList.take o++a.new.l++cs.toList.drop (o+5)) :
  Calls Tryz.prog 65 #[.pointer (some ⟨b,o,none⟩),.agg a.l.toArray] w (RetSw w b T cs cs' x a.old):=by
 have hgl:=hb.lt
 have hgl1:b < w.heap.size+1:=by omega
 have hgl2:b < w.heap.size+1+1:=by omega
 have hgl3:b < w.heap.size+1+1+1:=by omega
 obtain ⟨q0,q1,q2,q3,q4⟩:=range5 hx
 have HB:=Lib.hid hb
 have HXX:=Lib.hid hx
 clear hb hx
 (obtain ⟨k,⟨a0,a1,a2⟩,⟨o0,o1,o2,o3,o4⟩,⟨n0,n1,n2,n3,n4⟩⟩:=a)
 simp only at hk hcs
 subst hk
 show Calls Tryz.prog 65 #[.pointer (some ⟨b,o,none⟩),.agg #[.int .i64 3,.int .i64 a0,.int .i64 a1,.int .i64 a2,.int .i64 o0,.int .i64 o1,.int .i64 o2,.int .i64 o3,.bool o4,.int .i64 n0,.int .i64 n1,.int .i64 n2,.int .i64 n3,.bool n4]] w _
 have HCS:=Lib.hid hcs
 clear hcs
 obtain ⟨A,hA⟩:∃ A,A = Obj.cells #[.int .i64 3,.int .i64 a0,.int .i64 a1,.int .i64 a2,.int .i64 o0,.int .i64 o1,.int .i64 o2,.int .i64 o3,.bool o4,.int .i64 n0,.int .i64 n1,.int .i64 n2,.int .i64 n3,.bool n4] 114:=⟨_,rfl⟩
 have XA:Bk (((w.alloc A).alloc (.cells #[.int .i64 0,.int .i64 0,.int .i64 0,.int .i64 0,.bool false,.bool false] 108)).alloc (.cells #[.int .i64 x.sl,.int .i64 x.gn,.int .i64 x.tg,.int .i64 x.nm,.bool x.mark,.bool false] 108)) w.heap.size 114 #[.int .i64 3,.int .i64 a0,.int .i64 a1,.int .i64 a2,.int .i64 o0,.int .i64 o1,.int .i64 o2,.int .i64 o3,.bool o4,.int .i64 n0,.int .i64 n1,.int .i64 n2,.int .i64 n3,.bool n4]:=by subst hA;exact ((Bk.at_ rfl).alloc _).alloc _
 have X4:Bk (((w.alloc A).alloc (.cells #[.int .i64 0,.int .i64 0,.int .i64 0,.int .i64 0,.bool false,.bool false] 108)).alloc (.cells #[.int .i64 x.sl,.int .i64 x.gn,.int .i64 x.tg,.int .i64 x.nm,.bool x.mark,.bool false] 108)) (w.heap.size+1) 108 #[.int .i64 0,.int .i64 0,.int .i64 0,.int .i64 0,.bool false,.bool false]:=(Bk.at_ (by simp)).alloc _
 have X5:Bk (((w.alloc A).alloc (.cells #[.int .i64 0,.int .i64 0,.int .i64 0,.int .i64 0,.bool false,.bool false] 108)).alloc (.cells #[.int .i64 x.sl,.int .i64 x.gn,.int .i64 x.tg,.int .i64 x.nm,.bool x.mark,.bool false] 108)) (w.heap.size+1+1) 108 #[.int .i64 x.sl,.int .i64 x.gn,.int .i64 x.tg,.int .i64 x.nm,.bool x.mark,.bool false]:=Bk.at_ (by simp)
 have XB:=((HB.out.alloc A).alloc (.cells #[.int .i64 0,.int .i64 0,.int .i64 0,.int .i64 0,.bool false,.bool false] 108)).alloc (.cells #[.int .i64 x.sl,.int .i64 x.gn,.int .i64 x.tg,.int .i64 x.nm,.bool x.mark,.bool false] 108)
 have CW:Hid (Below w.heap.size w (((w.alloc A).alloc (.cells #[.int .i64 0,.int .i64 0,.int .i64 0,.int .i64 0,.bool false,.bool false] 108)).alloc (.cells #[.int .i64 x.sl,.int .i64 x.gn,.int .i64 x.tg,.int .i64 x.nm,.bool x.mark,.bool false] 108))):=Lib.hid vB
 have HX:=Lib.hid (And.intro XA (And.intro X4 (And.intro X5 XB)))
 subst hA
 clear XA X4 X5 XB
 go_enter Tryz.func65,Tryz.ntmps65
 go_upto_region 8 with (fail)
 have QX:Hid (∀ j u,x.l[j]? = some u→(((w.alloc (.cells #[.int .i64 3,.int .i64 a0,.int .i64 a1,.int .i64 a2,.int .i64 o0,.int .i64 o1,.int .i64 o2,.int .i64 o3,.bool o4,.int .i64 n0,.int .i64 n1,.int .i64 n2,.int .i64 n3,.bool n4] 114)).alloc (.cells #[.int .i64 0,.int .i64 0,.int .i64 0,.int .i64 0,.bool false,.bool false] 108)).alloc (.cells #[.int .i64 x.sl,.int .i64 x.gn,.int .i64 x.tg,.int .i64 x.nm,.bool x.mark,.bool false] 108)).cell? ⟨b,o+j,none⟩ = some u):=Lib.hid (fun j u hu=>by rw [(bcell CW.out).1 b _ hgl];exact HXX.out j u hu)
 generalize (((w.alloc (.cells #[.int .i64 3,.int .i64 a0,.int .i64 a1,.int .i64 a2,.int .i64 o0,.int .i64 o1,.int .i64 o2,.int .i64 o3,.bool o4,.int .i64 n0,.int .i64 n1,.int .i64 n2,.int .i64 n3,.bool n4] 114)).alloc (.cells #[.int .i64 0,.int .i64 0,.int .i64 0,.int .i64 0,.bool false,.bool false] 108)).alloc (.cells #[.int .i64 x.sl,.int .i64 x.gn,.int .i64 x.tg,.int .i64 x.nm,.bool x.mark,.bool false] 108)) = w1 at *
 clear q0 q1 q2 q3 q4
 have hS0:SwS w1 b o w.heap.size x o0 o1 o2 o3 o4:=⟨range5 QX.out,HX.out.1.cell 4,HX.out.1.cell 5,HX.out.1.cell 6,HX.out.1.cell 7,HX.out.1.cell 8⟩
 refine X2 (fun w1=>SwS w1 b o w.heap.size x o0 o1 o2 o3 o4) 7 (by kernel_rfl) hS0 (fun hS=>?_)
 clear hS0
 have D1:Hid (Below w.heap.size w w1.drew):=Lib.hid (CW.out.drew)
 have E1:Hid (Below w1.heap.size w1 w1.drew):=Lib.hid ((Below.refl _ _).drew)
 have HX1:Hid (Bk w1.drew w.heap.size 114 _∧Bk w1.drew (w.heap.size+1) 108 _∧Bk w1.drew (w.heap.size+1+1) 108 _∧Bk w1.drew b T cs):=Lib.hid ⟨HX.out.1.drew,HX.out.2.1.drew,HX.out.2.2.1.drew,HX.out.2.2.2.drew⟩
 clear HX QX CW E1
 generalize w1.drew = w2 at *
 ((try simp only [Act.put,List.setIfInBounds_toArray,List.set_cons_succ,List.set_cons_zero]);refine vT (fuel:=2) hS [0,1,2,3,4] ?_;simp only [Xu,Xj,List.toList_toArray];(repeat (first | go_big_quiet_skip | (go_big_quiet_want;first | (go_big_quiet_op;go_big_quiet_on) | (apply Exists.intro;refine ⟨fun w' hS'=>?_,?_⟩;(· (obtain ⟨⟨q0,q1,q2,q3,q4⟩,p0,p1,p2,p3,p4⟩:=hS';go_simp;first | done | rfl | exact ⟨rfl,rfl⟩));go_big_quiet_on;simp only [Act.put,List.setIfInBounds_toArray,List.set_cons_succ,List.set_cons_zero]))));refine wpQuiet_nil ?_;(try dsimp only))
 (refine Xh 5 (by kernel_rfl) (fun K hK=>?_);simp only [Xj,List.toList_toArray])
 go_wp2_with fail
 refine (same_any x ⟨o0,o1,o2,o3,o4⟩ w2).mono ?_
 rintro e w3 ⟨rfl,hc⟩
 have hb3:=hc.below
 have D3:Hid (Below w.heap.size w w3):=Lib.hid (D1.out.trans (hb3.mono D1.out.size))
 have HX3:=Lib.hid (And.intro (HX1.out.1.belowAll hb3) (And.intro (HX1.out.2.1.belowAll hb3) (And.intro (HX1.out.2.2.1.belowAll hb3) (HX1.out.2.2.2.belowAll hb3))))
 have hS3:SwS w3 b o w.heap.size x o0 o1 o2 o3 o4:=hS.below hb3 HX1.out.2.2.2.lt HX1.out.1.lt
 clear hc hb3 HX1 D1
 go_wp2_with fail
 refine hK.out _ _ (fun _=>hS3) ?_
 clear hK hS
 have hS:=hS3
 ((try simp only [Act.put,List.setIfInBounds_toArray,List.set_cons_succ,List.set_cons_zero]);refine vT (fuel:=0) hS [6] ?_;simp only [Xu,Xj,List.toList_toArray];(repeat (first | go_big_quiet_skip | (go_big_quiet_want;first | (go_big_quiet_op;go_big_quiet_on) | (apply Exists.intro;refine ⟨fun w' hS'=>?_,?_⟩;(· (skip;go_simp;first | done | rfl | exact ⟨rfl,rfl⟩));go_big_quiet_on;simp only [Act.put,List.setIfInBounds_toArray,List.set_cons_succ,List.set_cons_zero]))));refine wpQuiet_nil ?_;(try dsimp only))
 clear hS hS3
 refine X9 (by kernel_rfl) ?_ _
 obtain ⟨XA,X4,X5,XB⟩:=HX3.out
 have y9:=XA.cell 9;have y10:=XA.cell 10;have y11:=XA.cell 11;have y12:=XA.cell 12;have y13:=XA.cell 13
 have z0:=X5.cell 0;have z1:=X5.cell 1;have z2:=X5.cell 2;have z3:=X5.cell 3;have z4:=X5.cell 4;have z5:=X5.cell 5
 simp at y9 y10 y11 y12 y13 z0 z1 z2 z3 z4 z5
 have hw3:=D3.out.size
 cases hsm:wsame x ⟨o0,o1,o2,o3,o4⟩ with
 | true =>
  have XBH:=Lib.hid XB
  have R5:=Lib.hid X5
  have R4:=Lib.hid X4
  clear XA X4 X5 XB HB HX3
  have HSM:=Lib.hid hsm
  go_wp2_with (first | (refine Ym (by rfl) _ _ _ (by rfl) b o _ (by rfl) (by rfl) _ _ cs' XBH.out (by exact ho) (by kernel_rfl) (by rfl) (by exact HCS.out) ?_;intro w4 hst;have v5:=hst.far R5.out (by omega);have v4:=hst.far R4.out (by omega);have q0:=v5.cell 0;have q1:=v5.cell 1;have q2:=v5.cell 2;have q3:=v5.cell 3;have q4:=v5.cell 4;have q5:=v5.cell 5;have f5:=v5.free 5;simp at q0 q1 q2 q3 q4 q5;have Y4:=Lib.hid (v4.far (p:=⟨w.heap.size+1+1,5,none⟩) (by simp) (.bool true));have HST:=Lib.hid hst;clear hst v4 v5) | (refine vM Y4.out ?_;intro w5 hst3))
  (have r0:=hst3.bk.cell 0;have r1:=hst3.bk.cell 1;have r2:=hst3.bk.cell 2;have r3:=hst3.bk.cell 3;have r4:=hst3.bk.cell 4;have r5:=hst3.bk.cell 5;simp at r0 r1 r2 r3 r4 r5;refine bodyPost_ret (v:=.agg #[.int .i64 x.sl,.int .i64 x.gn,.int .i64 x.tg,.int .i64 x.nm,.bool x.mark,.bool true]) (by simp [results,Tryz.results65,go_sem,r0,r1,r2,r3,r4,r5]) rfl ?_)
  unfold RetSw
  rw [HSM.out]
  exact ⟨rfl,hst3.far (HST.out.bk.far (p:=⟨w.heap.size+1+1,5,none⟩) (by simp;omega) (.bool true)) (by omega),touch_chg2 D3.out HST.out hst3 (by omega)⟩
 | false =>
  have XBH:=Lib.hid XB
  have R4:=Lib.hid X4
  clear XA X4 X5 XB HB HX3
  have HSM:=Lib.hid hsm
  go_wp2_with (refine vM R4.out ?_;intro w5 hst3)
  (have r0:=hst3.bk.cell 0;have r1:=hst3.bk.cell 1;have r2:=hst3.bk.cell 2;have r3:=hst3.bk.cell 3;have r4:=hst3.bk.cell 4;have r5:=hst3.bk.cell 5;simp at r0 r1 r2 r3 r4 r5;refine bodyPost_ret (v:=.agg #[.int .i64 x.sl,.int .i64 x.gn,.int .i64 x.tg,.int .i64 x.nm,.bool x.mark,.bool false]) (by simp [results,Tryz.results65,go_sem,r0,r1,r2,r3,r4,r5]) rfl ?_)
  unfold RetSw
  rw [HSM.out]
  refine ⟨rfl,hst3.far XBH.out (by omega),?_⟩
  exact (Chg.of_below (F:=[b]) D3.out).seq (F1:=[w.heap.size+1]) (fun x hx=>by rw [List.mem_singleton.1 hx];right;omega) (Chg.of_grown (b:=0) hst3.grown (fun b' e=>by injection e with e;simp [e]))
theorem icells_append (l m:List Int):icells (l++m) = icells l++icells m:=by simp [icells]
theorem last_split {l:List Int} {n:Int} (h:l.getLast? = some n):l = l.dropLast++[n]:=by
 have hne:l≠[]:=by intro e;subst e;simp at h
 rw [List.getLast?_eq_some_getLast hne] at h
 injection h with h
 rw [← h,List.dropLast_concat_getLast]
theorem own_init {w:World} {g off cap:Nat} {l:List Int} {n:Int} (h:Own w 3 1 (.slice (some ⟨g,off,none⟩) (l++[n]).length cap) (l++[n]).length (icells (l++[n]))) :
  Own w 3 1 (.slice (some ⟨g,off,none⟩) l.length cap) l.length (icells l):=by
 rcases h.2 with ⟨h',_⟩ | ⟨g',off',cap',A,R,hv,hk,rfl,hn,hm,hs⟩
 ·cases h'
 ·cases hv
  rw [List.length_append] at hn
  simp only [List.length_cons,List.length_nil] at hn
  refine ⟨by rw [icells_length,Nat.mul_one],.inr ⟨g,A.length,cap,A,icells [n]++R,rfl,?_,rfl,by omega,hm,?_⟩⟩
  ·rw [icells_append] at hk
   simp only [List.append_assoc] at hk
   exact hk
  ·rw [icells_length] at hs ⊢
   simp only [List.length_append,List.length_cons,List.length_nil,icells_length] at hs ⊢
   omega
theorem own_last {w:World} {g off cap:Nat} {l:List Int} {n:Int} (h:Own w 3 1 (.slice (some ⟨g,off,none⟩) (l++[n]).length cap) (l++[n]).length (icells (l++[n]))):w.cell? ⟨g,off+l.length,none⟩ = some (.int .i64 n) :=
 own_cells h l.length _ (by rw [icells_append,List.getElem?_append_right (by rw [icells_length];omega),icells_length];simp [icells])
theorem allocNone_any {w:World} {g bb sb:Nat} {p:Pl} {fr:GSl} {fv:Value} (h:PB w g bb sb p fr fv) (birth:Int) (hf:p.free = []) :
  Calls Tryz.prog 64 #[.pointer (some ⟨g,0,none⟩),.int .i64 birth] w (fun e w'=>e = .returned (.agg #[.int .i64 0,.int .i64 0,.int .i64 0,.int .i64 0,.bool false,.bool false])∧Below w.heap.size w w'):=by
 obtain ⟨_,_,c2,_,_,_⟩:=h.cells
 obtain ⟨a,c,e,_⟩:=Yq h.fo
 rw [e,hf] at c2
 have hgl:=h.bk.lt
 clear h e
 simp only [List.length_nil] at c2
 go_enter Tryz.func64,Tryz.ntmps64
 go_wp2_with fail
 refine bodyPost_ret (v:=.agg #[.int .i64 0,.int .i64 0,.int .i64 0,.int .i64 0,.bool false,.bool false]) (by simp [results,Tryz.results64,go_sem]) rfl ?_
 exact ⟨rfl,vB⟩
theorem set2 (p:Pl) (bb sb:Nat) (fr u:GSl) (fv:Value):(#[.slice (some ⟨bb,0,none⟩) p.nb p.nb,.slice (some ⟨sb,0,none⟩) p.ns p.ns,fr.v,.int .i64 p.steps,.int .i64 p.made,fv]:Array Value).setIfInBounds 2 u.v = #[.slice (some ⟨bb,0,none⟩) p.nb p.nb,.slice (some ⟨sb,0,none⟩) p.ns p.ns,u.v,.int .i64 p.steps,.int .i64 p.made,fv]:=rfl
theorem PB.frees {w:World} {g bb sb:Nat} {p:Pl} {fr u:GSl} {fv:Value} (h:PB w g bb sb p fr fv) {l:List Int} (ho:Own w 3 1 u.v l.length (icells l)) (hu:u.v.ownBlock = fr.v.ownBlock) :
  PB (w.setCell ⟨g,2,none⟩ u.v) g bb sb { p with free:=l } u fv:=by
 have hg2:=Xq w g 2 u.v
 exact ⟨by rw [← set2 p bb sb fr u fv];exact h.bk.set_ 2 u.v,h.bo.far (p:=⟨g,2,none⟩) (Ne.symm h.n1) _,h.so.far (p:=⟨g,2,none⟩) (Ne.symm h.n2) _,ho.grown hg2 (Or.inr (by rw [hu];exact h.f1)),h.fau,h.n1,h.n2,h.n3,by rw [hu];exact h.f1,by rw [hu];exact h.f2,by rw [hu];exact h.f3,h.nbm,h.nsm⟩
def newSlot (p:Pl) (n birth:Int):GSlot:=⟨wr ((p.slot n).gen+1),true,upd (fun _=>.zero) 9 (wnum birth)⟩
def newCells (birth:Int):List Value:=rows Xf.l ((List.range 10).map fun (j:Nat)=>upd (fun _=>Xf.zero) 9 (wnum birth) (j:Int))
theorem slotRow_new (p:Pl) (n birth:Int):slotRow (newSlot p n birth) = .int .i64 (wr ((p.slot n).gen+1)) :: .bool true :: newCells birth:=rfl
theorem slots_new (p:Pl) (i:Nat) (birth:Int) (hi:i < p.ns) :
  ({ p with slot:=upd p.slot ((i:Int)+1) (newSlot p ((i:Int)+1) birth) }:Pl).slotsL.toArray.toList =
   ((p.slotsL.toArray.setIfInBounds (i*52) (.int .i64 (wr ((p.slot ((i:Int)+1)).gen+1)))).setIfInBounds (i*52+1) (.bool true)).toList.take (i*52+2)++newCells birth ++
   ((p.slotsL.toArray.setIfInBounds (i*52) (.int .i64 (wr ((p.slot ((i:Int)+1)).gen+1)))).setIfInBounds (i*52+1) (.bool true)).toList.drop (i*52+2+50):=by
 have h1:({ p with slot:=upd p.slot ((i:Int)+1) (newSlot p ((i:Int)+1) birth) }:Pl).slotsL = p.slotsL.take (i*52)++slotRow (newSlot p ((i:Int)+1) birth)++p.slotsL.drop (i*52+52):=by
  have h2:=rows_set slotRow_len (fun (j:Nat)=>p.slot ((j:Int)+1)) (fun (j:Nat)=>upd p.slot ((i:Int)+1) (newSlot p ((i:Int)+1) birth) ((j:Int)+1)) p.ns i hi (fun j hj=>upd_far _ _ (by omega))
  simp only [upd_same] at h2
  exact h2
 have hl:i*52+52≤p.slotsL.length:=by rw [p.slotsL_len];omega
 show ({ p with slot:=upd p.slot ((i:Int)+1) (newSlot p ((i:Int)+1) birth) }:Pl).slotsL = _
 rw [h1,slotRow_new]
 simp only [Array.toList_setIfInBounds]
 generalize p.slotsL = L at *
 have hA:(L.take (i*52)).length = i*52:=by rw [List.length_take];omega
 have e:L = L.take (i*52)++(L.drop (i*52)):=(List.take_append_drop _ _).symm
 obtain ⟨a,b,r,hr⟩:∃ a b r,L.drop (i*52) = a :: b :: r:=by
  match hd:L.drop (i*52) with
  | []=>have:=congrArg List.length hd;rw [List.length_drop] at this;simp at this;omega
  | [a]=>have:=congrArg List.length hd;rw [List.length_drop] at this;simp at this;omega
  | a :: b :: r=>exact ⟨a,b,r,rfl⟩
 generalize L.take (i*52) = A at *
 rw [hr] at e
 subst e
 rw [← hA]
 have s1:∀ u v:Value,((A++a :: b :: r).set A.length u).set (A.length+1) v = A++u :: v :: r:=fun u v=>by
  have t1:∀ (x y z:Value),(A++x :: y :: r).set A.length z = A++z :: y :: r:=fun x y z=>by rw [List.set_append];simp
  have t2:∀ (x y z:Value),(A++x :: y :: r).set (A.length+1) z = A++x :: z :: r:=fun x y z=>by rw [List.set_append];simp;intro h;omega
  rw [t1,t2]
 rw [s1]
 have s2:∀ u v:Value,(A++u :: v :: r).take (A.length+2) = A++[u,v]:=fun u v=>by rw [take_add];rfl
 have s3:∀ u v:Value,(A++u :: v :: r).drop (A.length+2+50) = r.drop 50:=fun u v=>by rw [Nat.add_assoc,drop_add];rfl
 rw [s2,s3,s3]
 simp
theorem set4 (p:Pl) (bb sb:Nat) (fr:GSl) (fv:Value) (m:Int):(#[.slice (some ⟨bb,0,none⟩) p.nb p.nb,.slice (some ⟨sb,0,none⟩) p.ns p.ns,fr.v,.int .i64 p.steps,.int .i64 p.made,fv]:Array Value).setIfInBounds 4 (.int .i64 m) = #[.slice (some ⟨bb,0,none⟩) p.nb p.nb,.slice (some ⟨sb,0,none⟩) p.ns p.ns,fr.v,.int .i64 p.steps,.int .i64 m,fv]:=rfl
theorem PB.mades {w:World} {g bb sb:Nat} {p:Pl} {fr:GSl} {fv:Value} (h:PB w g bb sb p fr fv) (m:Int):PB (w.setCell ⟨g,4,none⟩ (.int .i64 m)) g bb sb { p with made:=m } fr fv:=by
 have hg2:=Xq w g 4 (.int .i64 m)
 exact ⟨by rw [← set4 p bb sb fr fv m];exact h.bk.set_ 4 _,h.bo.far (p:=⟨g,4,none⟩) (Ne.symm h.n1) _,h.so.far (p:=⟨g,4,none⟩) (Ne.symm h.n2) _,h.fo.grown hg2 (Or.inr h.f1),h.fau,h.n1,h.n2,h.n3,h.f1,h.f2,h.f3,h.nbm,h.nsm⟩
def RetAl (w:World) (g bb sb:Nat) (p:Pl) (u:GSl) (fv:Value) (birth:Int) (l:List Int) (n:Int) (F:List Nat) (e:Ending) (w':World):Prop :=
 e = .returned (.agg (⟨⟨n,wr ((p.slot n).gen+1),0,0,false⟩,true⟩:Xi).l.toArray)∧PB w' g bb sb { p with free:=l,slot:=upd p.slot n (newSlot p n birth),made:=wr (p.made+1) } u fv∧Chg F w w'
theorem allocSome_any {w:World} {g bb sb:Nat} {p:Pl} {fr:GSl} {fv:Value} (h:PB w g bb sb p fr fv) (birth:Int) (l:List Int) (i:Nat) (hf:p.free = l++[(i:Int)+1]) (hi:i < p.ns) (hl:l.length≤5000) (fb off cp:Nat) (e:fr.v = .slice (some ⟨fb,off,none⟩) p.free.length cp) (hcp:p.free.length≤cp) :
  Calls Tryz.prog 64 #[.pointer (some ⟨g,0,none⟩),.int .i64 birth] w (RetAl w g bb sb p ⟨some ⟨fb,off,none⟩,l.length,cp⟩ fv birth l ((i:Int)+1) (Yx g bb sb fr)):=by
 obtain ⟨_,c1,c2,_,c4,_⟩:=h.cells
 have ho:=h.fo
 rw [e,hf] at ho
 have hla:=own_last ho
 have HIN:=Lib.hid (own_init ho)
 rw [e,hf] at c2
 rw [hf] at hcp
 have hlen:(l++[(i:Int)+1]).length = l.length+1:=by simp
 rw [hlen] at c2 hcp
 obtain ⟨q0,q1⟩:=h.two hi
 have HH:=Lib.hid h
 have hgl:=h.bk.lt
 have hsl:=h.so.lt
 have hfl:fb < w.heap.size:=h.fo.lt (by rw [e];rfl)
 have hns:=h.nsm
 have E:=Lib.hid e;have HF:=Lib.hid hf
 clear h ho e hf hlen
 go_enter Tryz.func64,Tryz.ntmps64
 go_wp2_with fail
 go_quiet (fail)
 have W1:Below w.heap.size w ((w.alloc (.cells #[.int .i64 0,.int .i64 0,.int .i64 0,.int .i64 0,.bool false,.bool false] 108)).drewN nq):=below_drewN ((Below.refl _ _).alloc (Nat.le_refl _) _) _
 have Z4:Bk ((w.alloc (.cells #[.int .i64 0,.int .i64 0,.int .i64 0,.int .i64 0,.bool false,.bool false] 108)).drewN nq) w.heap.size 108 #[.int .i64 0,.int .i64 0,.int .i64 0,.int .i64 0,.bool false,.bool false]:=(Bk.at_ (g:=w.heap.size) (w:=w) rfl).drewN nq
 generalize (w.alloc (.cells #[.int .i64 0,.int .i64 0,.int .i64 0,.int .i64 0,.bool false,.bool false] 108)).drewN nq = w1 at *
 have W2:Below w.heap.size w w1.drew:=W1.drew
 have Z5:=Z4.drew
 clear W1 Z4
 go_upto_region 4 with (fail)
 have k1:=(bcell W2).1
 refine X2 (fun w'=>w'.cell? ⟨g,2,none⟩ = some (.slice (some ⟨fb,off,none⟩) (l.length+1) cp)) 12 (by kernel_rfl) ((k1 g 2 hgl).trans c2) (fun hS=>?_)
 have c2:=hS
 have P2:Hid (PB w1.drew g bb sb p fr fv):=Lib.hid (HH.out.below W2)
 have hz:=W2.size
 have HW:=Lib.hid W2
 have f2:=P2.out.bk.free 2
 clear k1 W2
 generalize w1.drew = w2 at *
 ((try simp only [Act.put,List.setIfInBounds_toArray,List.set_cons_succ,List.set_cons_zero]);refine vT (fuel:=5) hS [0,1,2,3,4,5,6,7,8,9] ?_;simp only [Xu,Xj,List.toList_toArray];(repeat (first | go_big_quiet_skip | (go_big_quiet_want;first | (go_big_quiet_op;go_big_quiet_on) | (apply Exists.intro;refine ⟨fun w' hS'=>?_,?_⟩;(· (have c2:=hS';go_simp;first | done | rfl | exact ⟨rfl,rfl⟩));go_big_quiet_on;simp only [Act.put,List.setIfInBounds_toArray,List.set_cons_succ,List.set_cons_zero]))));refine wpQuiet_nil ?_;(try dsimp only))
 (refine Xh 10 (by kernel_rfl) (fun K hK=>?_);simp only [Xj,List.toList_toArray])
 go_wp2_with fail
 refine hK.out _ _ (fun _=>hS) ?_
 clear hK
 (refine Xh 11 (by kernel_rfl) (fun K hK=>?_);simp only [Xj,List.toList_toArray])
 go_wp2_with fail
 refine hK.out _ _ (fun _=>hS) ?_
 clear hK hS
 ((refine Xh 12 (by kernel_rfl) (fun K hK=>?_);simp only [Xj,List.toList_toArray]);go_wp2_with fail;refine hK.out _ _ (fun h=>absurd h (by omega)) ?_;clear hK)
 ((refine Xh 13 (by kernel_rfl) (fun K hK=>?_);simp only [Xj,List.toList_toArray]);go_wp2_with fail;refine hK.out _ _ (fun h=>absurd h (by omega)) ?_;clear hK)
 (refine Xh 14 (by kernel_rfl) (fun K hK=>?_);simp only [Xj,List.toList_toArray])
 go_wp2_with fail
 refine hK.out _ _ (fun h=>absurd h (by omega)) ?_
 clear hK
 refine X9 (by kernel_rfl) ?_ _
 have HIN2:Hid (Own w2 3 1 (.slice (some ⟨fb,off,none⟩) l.length cp) l.length (icells l)):=Lib.hid (HIN.out.kept fun b hb=>HW.out.block b (by have:=HIN.out.lt hb;exact this))
 have P3:=P2.out.frees (u:=⟨some ⟨fb,off,none⟩,l.length,cp⟩) HIN2.out (by rw [E.out];rfl)
 have Z6:Bk (w2.setCell ⟨g,2,none⟩ (.slice (some ⟨fb,off,none⟩) l.length cp)) w.heap.size 108 #[.int .i64 0,.int .i64 0,.int .i64 0,.int .i64 0,.bool false,.bool false]:=Z5.far (p:=⟨g,2,none⟩) (by simp;omega) _
 have HW3:Hid (Chg (Yx g bb sb fr) w (w2.setCell ⟨g,2,none⟩ (.slice (some ⟨fb,off,none⟩) l.length cp))):=Lib.hid ((Chg.of_below HW.out).trans (Chg.of_grown (b:=0) (Xq _ _ _ _) (fun b e=>by injection e with e;exact Xw.2 (Or.inl e.symm))))
 have P3:=Lib.hid (show PB (w2.setCell ⟨g,2,none⟩ (.slice (some ⟨fb,off,none⟩) l.length cp)) g bb sb { p with free:=l } ⟨some ⟨fb,off,none⟩,l.length,cp⟩ fv from P3)
 clear HIN2 P2 Z5 f2 c2
 generalize w2.setCell ⟨g,2,none⟩ (.slice (some ⟨fb,off,none⟩) l.length cp) = w3 at *
 have hz3:w.heap.size≤w3.heap.size:=HW3.out.size
 have k1:=P3.out.cells.2.1
 have k4:=P3.out.cells.2.2.2.2.1
 have k5:=P3.out.bk.free 4
 have u0:=P3.out.two hi
 have v0:=u0.1;have v1:=u0.2
 have f0:=P3.out.so.free (i*52)
 have f1:=P3.out.so.free (i*52+1)
 simp only at k1 k4 v0 v1
 have hgl3:=P3.out.bk.lt
 have hsl3:=P3.out.so.lt
 have n2:=P3.out.n2
 clear u0 c1 c4 q0 q1 hla
 go_wp2_with fail
 refine (num_any birth _).mono ?_
 rintro e w4 ⟨rfl,hc4⟩
 rw [show (wnum birth).l.toArray = #[.int .i64 0,.int .i64 0,.int .i64 0,.int .i64 birth,.bool false] from rfl]
 have S3:=((P3.out.so.set_ (i*52) (.int .i64 (wr ((p.slot ((i:Int)+1)).gen+1)))).set_ (i*52+1) (.bool true))
 rw [wr_is] at S3
 have S4:=Lib.hid (S3.belowAll hc4.below)
 have G4:=Lib.hid (((P3.out.bk.far (p:=⟨sb,i*52,none⟩) n2 (.int .i64 (wrap64 ((p.slot ((i:Int)+1)).gen+1)))).far (p:=⟨sb,i*52+1,none⟩) n2 (.bool true)).belowAll hc4.below)
 have Z7:=Lib.hid (((Z6.far (p:=⟨sb,i*52,none⟩) (by simp;omega) (.int .i64 (wrap64 ((p.slot ((i:Int)+1)).gen+1)))).far (p:=⟨sb,i*52+1,none⟩) (by simp;omega) (.bool true)).belowAll hc4.below)
 have HSN:Hid _:=Lib.hid (slots_new { p with free:=l } i birth hi)
 simp only [wr_is] at HSN
 have hsz:Hid (i*52+2+50≤((p.slotsL.toArray.setIfInBounds (i*52) (.int .i64 (wrap64 ((p.slot ((i:Int)+1)).gen+1)))).setIfInBounds (i*52+1) (.bool true)).size):=Lib.hid (by simp [p.slotsL_len];omega)
 have C4:=Lib.hid hc4
 have BO4:=Lib.hid (((P3.out.bo.far (p:=⟨sb,i*52,none⟩) P3.out.n3 (.int .i64 (wrap64 ((p.slot ((i:Int)+1)).gen+1)))).far (p:=⟨sb,i*52+1,none⟩) P3.out.n3 (.bool true)).belowAll hc4.below)
 have FO4:=Lib.hid (((P3.out.fo.grown (Xq w3 sb (i*52) (.int .i64 (wrap64 ((p.slot ((i:Int)+1)).gen+1)))) (Or.inr P3.out.f3)).grown (Xq _ sb (i*52+1) (.bool true)) (Or.inr P3.out.f3)).below hc4.below)
 have hgz:Hid (w3.heap.size≤w4.heap.size):=Lib.hid (by have:=hc4.size;simpa [World.setCell] using this)
 clear hc4 S3 v0 v1 f0 f1 Z6
 go_wp2_with (first | (refine Ym (by rfl) _ _ _ (by rfl) sb (i*52+2) _ (by rfl) (by rfl) _ _ (({ p with free:=l,slot:=upd p.slot ((i:Int)+1) (newSlot p ((i:Int)+1) birth) }:Pl).slotsL.toArray) S4.out (by exact hsz.out) (by kernel_rfl) (by rfl) (by exact HSN.out) ?_;intro w5 hst;have P5:PB w5 g bb sb { p with free:=l,slot:=upd p.slot ((i:Int)+1) (newSlot p ((i:Int)+1) birth) } ⟨some ⟨fb,off,none⟩,l.length,cp⟩ fv:=⟨hst.far G4.out n2,hst.far BO4.out P3.out.n3,hst.bk,FO4.out.grown hst.grown (Or.inr P3.out.f3),P3.out.fau,P3.out.n1,n2,P3.out.n3,P3.out.f1,P3.out.f2,P3.out.f3,P3.out.nbm,P3.out.nsm⟩;have j4:=P5.cells.2.2.2.2.1;have jf:=P5.bk.free 4;have jg:=(P5.two hi).1;simp only [upd_same] at j4 jg;have Z8:=Lib.hid (hst.far Z7.out (by omega));have HST:=Lib.hid hst;have HP5:=Lib.hid P5;have hsl5:=P5.so.lt;clear hst P5) | (refine wpList_store_bk (by rfl) _ _ _ (by rfl) w.heap.size _ (by rfl) (by rfl) _ _ (Z8.out.far (p:=⟨g,4,none⟩) (by simp;omega) _) (by rfl) (by kernel_rfl) (by rfl) ?_;intro w6 hst3))
 have r0:=hst3.bk.cell 0;have r1:=hst3.bk.cell 1;have r2:=hst3.bk.cell 2;have r3:=hst3.bk.cell 3;have r4:=hst3.bk.cell 4;have r5:=hst3.bk.cell 5
 simp at r0 r1 r2 r3 r4 r5
 refine bodyPost_ret (v:=.agg #[.int .i64 ((i:Int)+1),.int .i64 (newSlot p ((i:Int)+1) birth).gen,.int .i64 0,.int .i64 0,.bool false,.bool true]) (by simp [results,Tryz.results64,go_sem,r0,r1,r2,r3,r4,r5]) rfl ?_
 have PM:=HP5.out.mades (wr (p.made+1))
 rw [wr_is] at PM
 have hlt:=HH.out.lt
 have c6:Chg [w.heap.size] _ w6:=Chg.of_grown (b:=0) hst3.grown (fun b' e=>by injection e with e;simp [e])
 have ef:fr.v.ownBlock = some fb:=by rw [E.out];rfl
 have PM6:=PM.chg c6 (fun b hb hx=>by
  have:b < w.heap.size:=hlt b (by rcases Xw.1 hb with h | h | h | h;exact Xw.2 (Or.inl h);exact Xw.2 (Or.inr (Or.inl h));exact Xw.2 (Or.inr (Or.inr (Or.inl h)));exact Xw.2 (Or.inr (Or.inr (Or.inr (by rw [ef];exact h)))))
  rw [List.mem_singleton.1 hx] at this
  omega)
 have ms:sb∈Yx g bb sb fr:=Xw.2 (Or.inr (Or.inr (Or.inl rfl)))
 have mg:g∈Yx g bb sb fr:=Xw.2 (Or.inl rfl)
 have cs1:Chg (Yx g bb sb fr) w3 (w3.setCell ⟨sb,i*52,none⟩ (.int .i64 (wrap64 ((p.slot ((i:Int)+1)).gen+1)))):=Chg.of_grown (b:=0) (Xq _ _ _ _) (fun b e=>by injection e with e;rw [← e];exact ms)
 have cs2:Chg (Yx g bb sb fr) (w3.setCell ⟨sb,i*52,none⟩ (.int .i64 (wrap64 ((p.slot ((i:Int)+1)).gen+1)))) _:=Chg.of_grown (b:=0) (Xq _ sb (i*52+1) (.bool true)) (fun b e=>by injection e with e;rw [← e];exact ms)
 have cs3:Chg (Yx g bb sb fr) w4 w5:=Chg.of_grown (b:=0) HST.out.grown (fun b e=>by injection e with e;rw [← e];exact ms)
 have cs4:Chg (Yx g bb sb fr) w5 _:=Chg.of_grown (b:=0) (Xq w5 g 4 (.int .i64 (wrap64 (p.made+1)))) (fun b e=>by injection e with e;rw [← e];exact mg)
 have call:=((((HW3.out.trans cs1).trans cs2).trans (C4.out.mono (fun x hx=>by cases hx))).trans cs3).trans cs4
 refine ⟨rfl,by rw [wr_is];exact PM6,call.seq (F1:=[w.heap.size]) (fun x hx=>by rw [List.mem_singleton.1 hx];right;omega) c6⟩
end Go.Proofs.YtaipogljokblkaaGreatDoor
