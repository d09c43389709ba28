/- Core: RR, VP, VU, PA, QA. -/
import Derived.Test.YtaipogljokblkaaGreatDoorZ25
import Derived.Test.YtaipogljokblkaaGreatDoorZ09
import Derived.Test.YtaipogljokblkaaGreatDoorZ31
import Derived.Test.YtaipogljokblkaaGreatDoorZ38
import Derived.Test.YtaipogljokblkaaGreatDoorZ15
import Derived.Test.YtaipogljokblkaaGreatDoorZ36
set_option linter.all false
set_option maxRecDepth 100000
set_option maxHeartbeats 8000000
namespace Go.Proofs.YtaipogljokblkaaGreatDoor
open Go Go.RowKit
set_option linter.unusedSimpArgs false
set_option linter.unusedVariables false
set_option linter.unusedSectionVars false
def Xa.fresh (engine me threads notes:Int):Xa:={ Xa.zero with engine:=engine,me:=me,threads:=threads,most:=notes }
theorem riteNew_any (engine me threads notes:Int) (w:World) (h1:1≤engine) (h2:engine≤5) (h3:1≤threads) (h4:threads≤6) (h5:0≤me) (h6:me < threads) (h7:1≤notes) (h8:notes≤64) :
  Calls Tryz.prog 47 #[.int .i64 engine,.int .i64 me,.int .i64 threads,.int .i64 notes] w (fun e w'=>e = .returned (.tuple #[.pointer (some ⟨w.heap.size,0,none⟩),.nilIface])∧RB w' w.heap.size (Xa.fresh engine me threads notes) [] [] []∧Below w.heap.size w w'):=by
 have d1:decide (engine < 1) = false:=by simp;omega
 have d2:decide (5 < engine) = false:=by simp;omega
 have d3:decide (threads < 1) = false:=by simp;omega
 have d4:decide (6 < threads) = false:=by simp;omega
 have d5:decide (me < 0) = false:=by simp;omega
 have d6:decide (threads≤me) = false:=by simp;omega
 have d7:decide (notes < 1) = false:=by simp;omega
 have d8:decide (64 < notes) = false:=by simp;omega
 clear h1 h2 h3 h4 h5 h6 h7 h8
 go_enter Tryz.func47,Tryz.ntmps47
 go_wp2_with fail
 go_ret2
 exact ⟨rfl,⟨Yb (Bk.at_ rfl) (by kernel_rfl),Own.nil,Own.nil,Own.nil,(fun h=>by cases h),(fun h=>by cases h),(fun h=>by cases h),(fun b h=>by cases h),(fun b h=>by cases h),(fun b h=>by cases h)⟩,vB⟩
def MR.fresh (engine me threads most:Int):MR:=⟨Xa.fresh engine me threads most,[],[],[]⟩
def MV.fresh (st engine me threads most:Int):MV:=⟨st,engine,0,.zero,.zero,none,.zero,MR.fresh engine me threads most⟩
theorem RBx.of {w:World} {g:Nat} {R:Xa} {ns ds:List Xp} {ss:List Xf} (h:RB w g R ns ds ss):RBx w g ⟨R,ns,ds,ss⟩ (Yc g R):=⟨R.notes,R.doomed,R.seen,h,rfl⟩
theorem rfoot_fresh (g:Nat) (e me th mo:Int):∀ b∈Yc g (Xa.fresh e me th mo),b = g:=by
 intro b hb
 rcases Xk.1 hb with h | h | h | h
 ·exact h
 all_goals cases h
theorem vnew_any (st engine me threads most:Int) (w:World) (s1:1≤st) (s2:st≤5) (h1:1≤engine) (h2:engine≤5) (h3:1≤threads) (h4:threads≤6) (h5:0≤me) (h6:me < threads) (h7:1≤most) (h8:most≤64) :
  Calls Tryz.prog 23 #[.int .i64 st,.int .i64 engine,.int .i64 me,.int .i64 threads,.int .i64 most] w fun en w'=>∃ gv gr,en = .returned (.tuple #[.pointer (some ⟨gv,0,none⟩),.nilIface]) ∧
   Bk w' gv 126 ((ver (MV.fresh st engine me threads most)).l (.pointer (some ⟨gr,0,none⟩)) .nilIface).toArray∧RJo gr .nilIface (MR.fresh engine me threads most) none w' (fun b=>b = gr)∧w.heap.size≤gr∧gr≠gv∧w.heap.size≤gv∧Below w.heap.size w w':=by
 have d1:decide (st < 1) = false:=by simp;omega
 have d2:decide (5 < st) = false:=by simp;omega
 have hq:=riteNew_any engine me threads most w h1 h2 h3 h4 h5 h6 h7 h8
 clear h1 h2 h3 h4 h5 h6 h7 h8 s1 s2
 go_enter Tryz.func23,Tryz.ntmps23
 go_wp2_with fail
 refine hq.mono ?_
 rintro e w1 ⟨rfl,hr,hb⟩
 have HR:=Lib.hid hr
 have hz1:w.heap.size < w1.heap.size:=hr.bk.lt
 have HB:=Lib.hid hb
 clear hq hr hb
 go_wp2_with fail
 go_ret2
 have hx:RBx w1 w.heap.size (MR.fresh engine me threads most) _:=RBx.of HR.out
 refine ⟨w1.heap.size,w.heap.size,rfl,Yb (Bk.at_ rfl) (by kernel_rfl),⟨rfl,_,hx.same fun b hb=>Below.heap_alloc w1 _ b (hx.lt b hb),fun b=>⟨?_,fun h=>rfoot_fresh _ engine me threads most b h⟩⟩,Nat.le_refl _,by omega,by omega,HB.out.trans (((Below.refl w1.heap.size w1).alloc (Nat.le_refl _) _).mono HB.out.size)⟩
 rintro rfl
 exact Xk.2 (Or.inl rfl)
def Pl.begun (ns:Nat):Pl:=(Pl.fresh 85 ns).stored 24 (wnum 1)
def Pl.laid (st:Int) (ns:Nat):Pl:=bif st==2 then (Pl.begun ns).layCort else bif st==4 then (Pl.begun ns).layVault else Pl.begun ns
def RetHeap (p:Pl) (w:World) (en:Ending) (w':World):Prop :=
 ∃ gh Fh,en = .returned (.tuple #[.pointer (some ⟨gh,0,none⟩),.nilIface])∧PBx w' gh p Fh∧(∀ b∈Fh,w.heap.size≤b)∧Below w.heap.size w w'
theorem PH.start {wb:World} {gh:Nat} {p:Pl} {w:World} {Fh:List Nat} (he:ErrOk w) (hl:Low wb w) (h:PBx w gh p Fh) (h40:∀ b∈Fh,7≤b):PH wb gh p w (fun b=>b∈Fh∨b < 7):=⟨⟨he,hl⟩,Fh,h,h40,fun _=>Iff.rfl⟩
theorem lay_fin {gh:Nat} {p:Pl} {w w':World} {F:Nat→Prop} (P:PH w gh p w' F) (c:ChgP (fun b=>b < 7) w w') (f:∀ b,F b→b < 7∨w.heap.size≤b):∃ Fh,PBx w' gh p Fh∧(∀ b∈Fh,w.heap.size≤b)∧Below w.heap.size w w':=by
 obtain ⟨⟨_,hl⟩,Fh,h1,h2,h3⟩:=P
 refine ⟨Fh,h1,fun b hb=>(f b ((h3 b).2 (Or.inl hb))).elim (fun h=>by have:=h2 b hb;omega) id,c.os,c.tape,c.output,c.size,fun k hk=>?_⟩
 by_cases h:k < 7
 ·exact hl k h
 ·exact c.far k hk h
theorem fresh_ok (ns:Nat) (h:ns≤1024):PlOk (Pl.fresh 85 ns):=by
 refine ⟨fun x hx=>?_,?_⟩
 ·have hx:x∈Pl.down ns ns:=hx
  obtain ⟨i,hi,rfl⟩:=List.mem_map.1 hx
  have hi:=List.mem_range.1 hi
  show (decide (1≤(ns:Int) - (i:Int)) && decide ((ns:Int) - (i:Int)≤(ns:Int))) = true
  simp;omega
 ·show (Pl.down ns ns).length≤5000
  rw [Pl.down_len];omega
theorem begun_ok (ns:Nat) (h:ns≤1024):PlOk (Pl.begun ns):=(fresh_ok ns h).stored _ _
theorem begun_free (ns:Nat) (h:1≤ns):∃ l n,(Pl.begun ns).free = l++[n]:=by
 obtain ⟨k,rfl⟩:∃ k,ns = k+1:=⟨ns - 1,by omega⟩
 exact ⟨Pl.down (k+1) k,((k+1:Nat):Int) - (k:Int),Pl.down_succ _ _⟩
theorem parLay_any (st:Int) (ns:Nat) (w:World) (he:ErrOk w) (h:ns≤1024) (hs:st = 2∨st = 4→1≤ns):Calls Tryz.prog 22 #[.int .i64 st,.int .i64 (ns:Int)] w (RetHeap (Pl.laid st ns) w):=by
 have hz:=he.lt
 go_enter Tryz.func22,Tryz.ntmps22
 go_wp2_with fail
 refine (bcells_any _).mono ?_
 rintro e w1 ⟨rfl,hc⟩
 have HB:=Lib.hid hc.below
 have HE:=Lib.hid (he.below hc.below)
 clear hc he
 go_wp2_with fail
 refine (plotNew_any 85 ns (by decide) h _).mono ?_
 rintro e w2 ⟨gh,Fh,rfl,hp,hF,hb⟩
 replace HE:=Lib.hid (HE.out.below hb)
 have hz1:w.heap.size≤w1.heap.size:=HB.out.size
 replace HB:=Lib.hid (HB.out.trans (hb.mono HB.out.size))
 have HP:=Lib.hid (PH.start (wb:=w) HE.out (fun b hx=>HB.out.block b (by omega)) hp fun b hb=>by have:=hF b hb;omega)
 have HF:=Lib.hid (fun b (hx:b∈Fh)=>Nat.le_trans hz1 (hF b hx))
 clear hb hp HE hF hz1
 go_wp2_with fail
 refine (bera_any _).mono ?_
 rintro e w3 ⟨rfl,hc⟩
 replace HB:=Lib.hid (HB.out.trans (hc.below.mono HB.out.size))
 replace HP:=Lib.hid (HP.out.keep fun b hx=>hc.below.block b (HP.out.lt b hx))
 clear hc
 go_wp2_with fail
 refine (gnum1_any _).mono ?_
 rintro e w4 ⟨rfl,hc⟩
 replace HB:=Lib.hid (HB.out.trans (hc.below.mono HB.out.size))
 replace HP:=Lib.hid (HP.out.keep fun b hx=>hc.below.block b (HP.out.lt b hx))
 clear hc
 go_wp2_with fail
 refine (store_c 24 0 0 1 HP.out (fresh_ok ns h) (by decide) (by show (24:Int) < ((85:Nat):Int);decide)).mono ?_
 rintro e w5 ⟨rfl,c5,F5,P5,a5⟩
 have hz4:w.heap.size≤w4.heap.size:=HB.out.size
 have HC:Hid (ChgP (fun b=>b < 7) w w5):=Lib.hid (chgP_seq (chgP_below HB.out) c5 fun b hx=>hx.elim (fun h=>Or.inr (HF.out b h)) Or.inl)
 replace HF:Hid (∀ b,F5 b→b < 7∨w.heap.size≤b):=Lib.hid fun b hx=>(a5 b hx).elim (fun h=>h.elim (fun h=>Or.inr (HF.out b h)) Or.inl) fun h=>Or.inr (by omega)
 replace HP:Hid (PH w gh (Pl.begun ns) w5 F5):=Lib.hid P5
 have hz5:w.heap.size≤w5.heap.size:=HC.out.size
 have X5:Bk (w5.alloc (.cells #[.int .i64 0,.int .i64 0,.int .i64 0,.int .i64 0,.bool false,.bool false] 108)) w5.heap.size 108 #[.int .i64 0,.int .i64 0,.int .i64 0,.int .i64 0,.bool false,.bool false]:=Bk.at_ rfl
 have hB5:=(Below.refl w5.heap.size w5).alloc (Nat.le_refl _) (.cells #[.int .i64 0,.int .i64 0,.int .i64 0,.int .i64 0,.bool false,.bool false] 108)
 clear c5 P5 a5 HB hz4
 by_cases s2:st = 2
 ·subst s2
  go_wp2_with (refine vM X5 ?_;intro w6 hst;have HL6:=Lib.hid (And.intro hst.grown hst.size);clear hst)
  have HP6:Hid (PH w gh (Pl.begun ns) w6 F5):=Lib.hid (HP.out.keep fun b hb=>(HL6.out.1.block b (by have:=HP.out.lt b hb;have:=hB5.size;omega) (fun e=>by cases e;have:=HP.out.lt _ hb;omega)).trans (hB5.block b (HP.out.lt b hb)))
  have HC6:Hid (ChgP (fun b=>b < 7) w w6):=Lib.hid (chgP_seq (chgP_seq HC.out (chgP_below (F:=fun _=>False) hB5) (fun _ h=>h.elim)) (F1:=fun b=>b = w5.heap.size) ⟨HL6.out.1.os,HL6.out.1.tape,HL6.out.1.output,HL6.out.1.size,fun b hb hf=>HL6.out.1.block b hb (fun e=>hf (by cases e;rfl))⟩ (fun b e=>by rw [e];exact Or.inr hz5))
  obtain ⟨l,n,hfr⟩:=begun_free ns (hs (by decide))
  refine (cortLay_mem HP6.out (begun_ok ns h) (by show 24≤85;decide) hfr).mono ?_
  rintro e w7 ⟨rfl,c7,F7,P7,l7,a7⟩
  have HP7:=Lib.hid P7
  have HC7:Hid (ChgP (fun b=>b < 7) w w7):=Lib.hid (chgP_seq HC6.out c7 HF.out)
  have HF7:Hid (∀ b,F7 b→b < 7∨w.heap.size≤b):=Lib.hid fun b hx=>(a7 b hx).elim (HF.out b) fun h=>Or.inr (by have:=HC6.out.size;omega)
  clear P7 c7 a7 l7 HP6 HC6 HF HP HC hfr
  go_wp2_with fail
  go_ret2
  obtain ⟨Fh',p1,p2,p3⟩:=lay_fin (p:=Pl.laid 2 ns) HP7.out HC7.out HF7.out
  exact ⟨gh,Fh',rfl,p1,p2,p3⟩
 by_cases s4:st = 4
 ·subst s4
  go_wp2_with (refine vM X5 ?_;intro w6 hst;have HL6:=Lib.hid (And.intro hst.grown hst.size);clear hst)
  have HP6:Hid (PH w gh (Pl.begun ns) w6 F5):=Lib.hid (HP.out.keep fun b hb=>(HL6.out.1.block b (by have:=HP.out.lt b hb;have:=hB5.size;omega) (fun e=>by cases e;have:=HP.out.lt _ hb;omega)).trans (hB5.block b (HP.out.lt b hb)))
  have HC6:Hid (ChgP (fun b=>b < 7) w w6):=Lib.hid (chgP_seq (chgP_seq HC.out (chgP_below (F:=fun _=>False) hB5) (fun _ h=>h.elim)) (F1:=fun b=>b = w5.heap.size) ⟨HL6.out.1.os,HL6.out.1.tape,HL6.out.1.output,HL6.out.1.size,fun b hb hf=>HL6.out.1.block b hb (fun e=>hf (by cases e;rfl))⟩ (fun b e=>by rw [e];exact Or.inr hz5))
  obtain ⟨l,n,hfr⟩:=begun_free ns (hs (by decide))
  refine (vaultLay_mem HP6.out (begun_ok ns h) (by show 24≤85;decide) hfr).mono ?_
  rintro e w7 ⟨rfl,c7,F7,P7,l7,a7⟩
  have HP7:=Lib.hid P7
  have HC7:Hid (ChgP (fun b=>b < 7) w w7):=Lib.hid (chgP_seq HC6.out c7 HF.out)
  have HF7:Hid (∀ b,F7 b→b < 7∨w.heap.size≤b):=Lib.hid fun b hx=>(a7 b hx).elim (HF.out b) fun h=>Or.inr (by have:=HC6.out.size;omega)
  clear P7 c7 a7 l7 HP6 HC6 HF HP HC hfr
  go_wp2_with fail
  go_ret2
  obtain ⟨Fh',p1,p2,p3⟩:=lay_fin (p:=Pl.laid 4 ns) HP7.out HC7.out HF7.out
  exact ⟨gh,Fh',rfl,p1,p2,p3⟩
 ·have q2:(st==2) = false:=by simp [s2]
  have q4:(st==4) = false:=by simp [s4]
  have ep:Pl.laid st ns = Pl.begun ns:=by unfold Pl.laid;rw [q2,q4];rfl
  go_wp2_with (refine vM X5 ?_;intro w6 hst;have HL6:=Lib.hid (And.intro hst.grown hst.size);clear hst)
  have HP6:Hid (PH w gh (Pl.begun ns) w6 F5):=Lib.hid (HP.out.keep fun b hb=>(HL6.out.1.block b (by have:=HP.out.lt b hb;have:=hB5.size;omega) (fun e=>by cases e;have:=HP.out.lt _ hb;omega)).trans (hB5.block b (HP.out.lt b hb)))
  have HC6:Hid (ChgP (fun b=>b < 7) w w6):=Lib.hid (chgP_seq (chgP_seq HC.out (chgP_below (F:=fun _=>False) hB5) (fun _ h=>h.elim)) (F1:=fun b=>b = w5.heap.size) ⟨HL6.out.1.os,HL6.out.1.tape,HL6.out.1.output,HL6.out.1.size,fun b hb hf=>HL6.out.1.block b hb (fun e=>hf (by cases e;rfl))⟩ (fun b e=>by rw [e];exact Or.inr hz5))
  go_ret2
  obtain ⟨Fh',p1,p2,p3⟩:=lay_fin (p:=Pl.begun ns) HP6.out HC6.out HF.out
  exact ⟨gh,Fh',rfl,by rw [ep];exact p1,p2,p3⟩
structure GRo where
 gv:Nat
 q:GSl
 given:Int
 last:Int
def GRo.l (x:GRo):List Value:=[.pointer (some ⟨x.gv,0,none⟩)]++[x.q.v]++[.int .i64 x.given]++[.int .i64 x.last]
theorem rolen (x:GRo):x.l.length = 4:=rfl
theorem roone (x:GRo):∀ u∈x.l,u.oneCell' = true:=by intro u hu;simp [GRo.l] at hu;rcases hu with rfl | rfl | rfl | rfl <;> rfl
theorem oplen (x:GOp):x.l.length = 4:=rfl
theorem opone (x:GOp):∀ u∈x.l,u.oneCell' = true:=by intro u hu;simp [GOp.l] at hu;rcases hu with rfl | rfl | rfl | rfl <;> rfl
theorem belen (x:Yh):x.l.length = 10:=rfl
theorem beone (x:Yh):∀ u∈x.l,u.oneCell' = true:=by intro u hu;simp [Yh.l,GOp.l,GAns.l] at hu;rcases hu with rfl | rfl | rfl | rfl | rfl | rfl | rfl | rfl | rfl | rfl <;> rfl
theorem infoRo:(Tryz.prog.info? 79).map (fun i=>(i.zero,i.size,i.bytes)) = some (some (.agg #[.pointer none,.slice none 0 0,.int .i64 0,.int .i64 0]),4,48):=by kernel_rfl
theorem infoOp:(Tryz.prog.info? 35).map (fun i=>(i.zero,i.size,i.bytes)) = some (some (.agg #[.int .i64 0,.int .i64 0,.int .i64 0,.int .i64 0]),4,32):=by kernel_rfl
theorem infoBeat:(Tryz.prog.info? 42).map (fun i=>(i.zero,i.size,i.bytes)) = some (some (.agg #[.int .i64 0,.bool false,.int .i64 0,.int .i64 0,.int .i64 0,.int .i64 0,.bool false,.bool false,.int .i64 0,.int .i64 0]),10,72):=by kernel_rfl
theorem own_ros_append (w:World) (v:Value) (l:List GRo) (h:Own w 79 4 v l.length (rows GRo.l l)) (hl:l.length≤100000) (x:GRo) (b:Nat) (hb:Bk w b 79 x.l.toArray) (t:TypeId) :
  ∃ v' w',(Builtin.append_ #[72,72] t #[v,.slice (some ⟨b,0,none⟩) 1 1]).run Tryz.prog w = .ok v' w' ∧
   Own w' 79 4 v' (l++[x]).length (rows GRo.l (l++[x]))∧w.grownBy w' v.ownBlock∧Fresh w v v' :=
 own_rows_append rolen roone Tryz.underlying72 infoRo rfl (by decide) (by decide) w v l h hl x b hb t
theorem own_ops_append (w:World) (v:Value) (l:List GOp) (h:Own w 35 4 v l.length (rows GOp.l l)) (hl:l.length≤100000) (x:GOp) (b:Nat) (hb:Bk w b 35 x.l.toArray) (t:TypeId) :
  ∃ v' w',(Builtin.append_ #[22,22] t #[v,.slice (some ⟨b,0,none⟩) 1 1]).run Tryz.prog w = .ok v' w' ∧
   Own w' 35 4 v' (l++[x]).length (rows GOp.l (l++[x]))∧w.grownBy w' v.ownBlock∧Fresh w v v' :=
 own_rows_append oplen opone Tryz.underlying22 infoOp rfl (by decide) (by decide) w v l h hl x b hb t
theorem own_beats_append (w:World) (v:Value) (l:List Yh) (h:Own w 42 10 v l.length (rows Yh.l l)) (hl:l.length≤100000) (x:Yh) (b:Nat) (hb:Bk w b 42 x.l.toArray) (t:TypeId) :
  ∃ v' w',(Builtin.append_ #[37,37] t #[v,.slice (some ⟨b,0,none⟩) 1 1]).run Tryz.prog w = .ok v' w' ∧
   Own w' 42 10 v' (l++[x]).length (rows Yh.l (l++[x]))∧w.grownBy w' v.ownBlock∧Fresh w v v' :=
 own_rows_append belen beone Tryz.underlying37 infoBeat rfl (by decide) (by decide) w v l h hl x b hb t
def ThB (w:World) (r:GRo) (T:MT) (F:Nat→Prop):Prop :=
 r.given = T.given∧r.last = T.last∧∃ Fv:Nat→Prop,VB w r.gv T.V Fv∧Own w 35 4 r.q.v T.queue.length (rows GOp.l T.queue)∧(∀ b,Fv b→r.q.v.ownBlock≠some b)∧∀ b,F b↔Fv b∨r.q.v.ownBlock = some b
section
variable {w w':World} {r:GRo} {T:MT} {F:Nat→Prop}
theorem ThB.keep (h:ThB w r T F) (hs:∀ b,F b→w'.heap[b]? = w.heap[b]?):ThB w' r T F:=by
 obtain ⟨h1,h2,Fv,h3,h4,h5,h6⟩:=h
 exact ⟨h1,h2,Fv,h3.keep fun b hb=>hs b ((h6 b).2 (Or.inl hb)),h4.kept fun b hb=>hs b ((h6 b).2 (Or.inr hb)),h5,h6⟩
theorem ThB.lt (h:ThB w r T F):∀ b,F b→b < w.heap.size:=by
 obtain ⟨h1,h2,Fv,h3,h4,h5,h6⟩:=h
 intro b hb
 rcases (h6 b).1 hb with hb | hb
 ·exact h3.lt b hb
 ·exact h4.lt hb
end
structure PaB (w:World) (gp gh:Nat) (P:MPa) (tv bv:GSl) (ro:List GRo) (Fh:List Nat) (Ft:Nat→Nat→Prop) (lab:Nat→Nat):Prop where
 bk:Bk w gp 74 #[.int .i64 P.st,.pointer (some ⟨gh,0,none⟩),tv.v,bv.v]
 tho:Own w 79 4 tv.v ro.length (rows GRo.l ro)
 beo:Own w 42 10 bv.v P.beats.length (rows Yh.l P.beats)
 hp:PBx w gh P.heap Fh
 len:ro.length = P.ths.length
 th:∀ i r T,ro[i]? = some r→P.ths[i]? = some T→ThB w r T (Ft i)
 l0:lab gp = 0
 l1:∀ b,tv.v.ownBlock = some b→lab b = 1
 l2:∀ b,bv.v.ownBlock = some b→lab b = 2
 l3:∀ b∈Fh,lab b = 3
 l4:∀ i b,i < P.ths.length→Ft i b→lab b = 4+i
 low:∀ b,b < 7→1000≤lab b
 few:P.ths.length≤6
section
variable {w w':World} {gp gh:Nat} {P:MPa} {tv bv:GSl} {ro:List GRo} {Fh:List Nat} {Ft:Nat→Nat→Prop} {lab:Nat→Nat}
theorem PaB.ltF (h:PaB w gp gh P tv bv ro Fh Ft lab) {i:Nat} (hi:i < P.ths.length):∀ b,Ft i b→b < w.heap.size:=by
 have hi':i < ro.length:=by rw [h.len];exact hi
 exact (h.th i ro[i] P.ths[i] (List.getElem?_eq_getElem hi') (List.getElem?_eq_getElem hi)).lt
theorem PaB.below (h:PaB w gp gh P tv bv ro Fh Ft lab) (hb:Below w.heap.size w w'):PaB w' gp gh P tv bv ro Fh Ft lab :=
 ⟨h.bk.belowAll hb,h.tho.below hb,h.beo.below hb,h.hp.same fun b hx=>hb.block b (h.hp.lt b hx),h.len,fun i r T h1 h2=>(h.th i r T h1 h2).keep fun b hx=>hb.block b ((h.th i r T h1 h2).lt b hx),h.l0,h.l1,h.l2,h.l3,h.l4,h.low,h.few⟩
open Classical in
theorem PaB.add {w2:World} {u:GSl} {r:GRo} {T:MT} {F:Nat→Prop} (h:PaB w gp gh P tv bv ro Fh Ft lab) (ho:Own w2 79 4 u.v (ro++[r]).length (rows GRo.l (ro++[r]))) (hg:w.grownBy w2 tv.v.ownBlock) (hf:Fresh w tv.v u.v)
  (ht:ThB w r T F) (hF:∀ b,F b→1000≤lab b) (h40:∀ b,F b→7≤b) (hz:7≤w.heap.size) (hn:P.ths.length < 6):∃ Ft' lab',PaB (w2.setCell ⟨gp,2,none⟩ u.v) gp gh { P with ths:=P.ths++[T] } u bv (ro++[r]) Fh Ft' lab' ∧
   (∀ b,lab' b < 1000→lab b < 1000∨F b∨w.heap.size≤b)∧∀ b,1000≤lab b→b < w.heap.size→¬ F b→1000≤lab' b:=by
 have lgp:=h.bk.lt
 have gtv:tv.v.ownBlock≠some gp:=fun e=>by have:=h.l1 gp e;rw [h.l0] at this;omega
 have gu:u.v.ownBlock≠some gp:=fun e=>(hf gp e).elim gtv fun h'=>by omega
 have uF:∀ b,F b→u.v.ownBlock≠some b:=fun b hb e=>(hf b e).elim (fun e=>by have:=h.l1 b e;have:=hF b hb;omega) fun h'=>by have:=ht.lt b hb;omega
 have same:∀ b,b < w.heap.size→tv.v.ownBlock≠some b→b≠gp→(w2.setCell ⟨gp,2,none⟩ u.v).heap[b]? = w.heap[b]?:=fun b hb h1 h2 =>
  ((Xq w2 gp 2 u.v).block b (Nat.lt_of_lt_of_le hb hg.size) (fun e=>h2 (by cases e;rfl))).trans (hg.block b hb fun e=>h1 e.symm)
 have lb:∀ b c,lab b = c→c≠0→c≠1→b < w.heap.size→(w2.setCell ⟨gp,2,none⟩ u.v).heap[b]? = w.heap[b]?:=fun b c e h0 h1 hb=>same b hb (fun e'=>h1 (by rw [← e];exact h.l1 b e')) fun e'=>h0 (by rw [← e,e'];exact h.l0)
 have hlab:∀ b,b < w.heap.size→u.v.ownBlock≠some b→¬ F b→(if u.v.ownBlock = some b then 1 else if F b then 4+P.ths.length else if w.heap.size≤b then 1000 else lab b) = lab b:=fun b h1 h2 h3=>by rw [if_neg h2,if_neg h3,if_neg (by omega)]
 have uo:∀ b c,lab b = c→c≠1→b < w.heap.size→u.v.ownBlock≠some b:=fun b c e h1 hb e'=>(hf b e').elim (fun e2=>h1 (by rw [← e];exact h.l1 b e2)) fun h'=>by omega
 refine ⟨fun i=>if i = P.ths.length then F else Ft i,fun b=>if u.v.ownBlock = some b then 1 else if F b then 4+P.ths.length else if w.heap.size≤b then 1000 else lab b,⟨?_,?_,?_,?_,?_,?_,?_,?_,?_,?_,?_,?_,?_⟩,?_,?_⟩
 ·exact Yb ((h.bk.grown hg (fun e=>gtv e.symm)).set_ 2 u.v) (by kernel_rfl)
 ·exact ho.grown (Xq w2 gp 2 u.v) (Or.inr gu)
 ·exact h.beo.kept fun b hb=>lb b 2 (h.l2 b hb) (by decide) (by decide) (h.beo.lt hb)
 ·exact h.hp.same fun b hb=>lb b 3 (h.l3 b hb) (by decide) (by decide) (h.hp.lt b hb)
 ·simp [h.len]
 ·intro i r' T' h1 h2
  by_cases hi:i = P.ths.length
  ·rw [if_pos hi]
   have e1:r' = r:=by rw [hi,← h.len,List.getElem?_append_right (Nat.le_refl _)] at h1;simpa using h1.symm
   have e2:T' = T:=by rw [hi] at h2;simp only [List.getElem?_append_right (Nat.le_refl _)] at h2;simpa using h2.symm
   rw [e1,e2]
   exact ht.keep fun b hb=>same b (ht.lt b hb) (fun e=>by have:=h.l1 b e;have:=hF b hb;omega) fun e=>by have:=h.l0;have:=hF b hb;rw [e] at this;omega
  ·rw [if_neg hi]
   have hl:i < P.ths.length:=by
    rcases Nat.lt_or_ge i (P.ths.length+1) with hx | hx
    ·omega
    ·rw [List.getElem?_eq_none (by simpa using hx)] at h2;cases h2
   rw [List.getElem?_append_left (by rw [h.len];exact hl)] at h1
   simp only [List.getElem?_append_left hl] at h2
   exact (h.th i r' T' h1 h2).keep fun b hb=>lb b (4+i) (h.l4 i b hl hb) (by omega) (by omega) (h.ltF hl b hb)
 ·show (if _ then _ else _) = 0
  rw [hlab gp lgp gu fun hx=>by have:=hF gp hx;rw [h.l0] at this;omega]
  exact h.l0
 ·intro b hb;show (if _ then _ else _) = 1;rw [if_pos hb]
 ·intro b hb
  have:=h.l2 b hb
  show (if _ then _ else _) = 2
  rw [hlab b (h.beo.lt hb) (uo b 2 this (by decide) (h.beo.lt hb)) fun hx=>by have:=hF b hx;omega]
  exact this
 ·intro b hb
  have:=h.l3 b hb
  show (if _ then _ else _) = 3
  rw [hlab b (h.hp.lt b hb) (uo b 3 this (by decide) (h.hp.lt b hb)) fun hx=>by have:=hF b hx;omega]
  exact this
 ·intro i b hi hb
  replace hb:(if i = P.ths.length then F else Ft i) b:=hb
  by_cases hi':i = P.ths.length
  ·rw [if_pos hi'] at hb
   show (if _ then _ else _) = 4+i
   rw [if_neg (uF b hb),if_pos hb,hi']
  ·rw [if_neg hi'] at hb
   have hl:i < P.ths.length:=by simp at hi;omega
   have hlb:=h.l4 i b hl hb
   show (if _ then _ else _) = 4+i
   rw [hlab b (h.ltF hl b hb) (uo b (4+i) hlb (by omega) (h.ltF hl b hb)) fun hx=>by have:=hF b hx;have:=h.few;omega]
   exact hlb
 ·intro b hb
  show 1000≤(if _ then _ else _)
  have hl:=h.low b hb
  rw [hlab b (by omega) (fun e=>(hf b e).elim (fun e=>by have:=h.l1 b e;omega) fun h'=>by omega) fun hx=>by have:=h40 b hx;omega]
  exact hl
 ·show (P.ths++[T]).length≤6
  simp;omega
 ·intro b hb
  by_cases h1:F b
  ·exact Or.inr (Or.inl h1)
  ·by_cases h2:w.heap.size≤b
   ·exact Or.inr (Or.inr h2)
   ·refine Or.inl ?_
    by_cases h3:u.v.ownBlock = some b
    ·rcases hf b h3 with e | e
     ·rw [h.l1 b e];decide
     ·omega
    ·simp only at hb
     rwa [hlab b (by omega) h3 h1] at hb
 ·intro b h1 h2 h3
  show 1000≤(if _ then _ else _)
  rw [hlab b h2 (fun e=>(hf b e).elim (fun e=>by have:=h.l1 b e;omega) fun h'=>by omega) h3]
  exact h1
end
end Go.Proofs.YtaipogljokblkaaGreatDoor
