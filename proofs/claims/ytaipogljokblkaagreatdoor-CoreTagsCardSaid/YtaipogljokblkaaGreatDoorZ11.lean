/- Core: SvB, SvD. -/
import Derived.Test.YtaipogljokblkaaGreatDoorZ10
set_option linter.all false
set_option maxRecDepth 100000
set_option maxHeartbeats 8000000
namespace Go.Proofs.YtaipogljokblkaaGreatDoor
open Go Go.RowKit
set_option linter.unusedSimpArgs false
set_option linter.unusedVariables false
set_option linter.unusedSectionVars false
def spanHits (n5 n6:Int) (x:GSpan):Bool:=x.is && (decide (x.low≤n6) && decide (n5≤x.high))
def spansKept (kept:List GSpan) (n:Xp):Bool:=kept.any (spanHits n.birth n.death)
theorem spans1_any (n:Xp) (gk:Nat) (a:Option Addr) (c:Nat) (kept:List GSpan) (w:World) (hk:Bk w gk 213 #[.slice a kept.length c]) (hs:Sl w w.heap.size 3 a kept.length (rows GSpan.l kept)) (hl:kept.length≤100000) :
  Calls Tryz.prog 117 #[.agg n.l.toArray,.pointer (some ⟨gk,0,none⟩)] w (RetB (spansKept kept n) w):=by
 obtain ⟨⟨n0,n1,n2,n3,n4⟩,n5,n6⟩:=n
 show Calls Tryz.prog 117 #[.agg #[.int .i64 n0,.int .i64 n1,.int .i64 n2,.int .i64 n3,.bool n4,.int .i64 n5,.int .i64 n6],.pointer (some ⟨gk,0,none⟩)] w _
 have B0:Bk (w.alloc (.cells #[.int .i64 n0,.int .i64 n1,.int .i64 n2,.int .i64 n3,.bool n4,.int .i64 n5,.int .i64 n6] 201)) w.heap.size 201 #[.int .i64 n0,.int .i64 n1,.int .i64 n2,.int .i64 n3,.bool n4,.int .i64 n5,.int .i64 n6]:=Bk.at_ rfl
 have hb0:Below w.heap.size w (w.alloc (.cells #[.int .i64 n0,.int .i64 n1,.int .i64 n2,.int .i64 n3,.bool n4,.int .i64 n5,.int .i64 n6] 201)):=(Below.refl _ _).alloc (Nat.le_refl _) _
 have K0:=hk.alloc (.cells #[.int .i64 n0,.int .i64 n1,.int .i64 n2,.int .i64 n3,.bool n4,.int .i64 n5,.int .i64 n6] 201)
 have c0:=K0.cell 0
 simp at c0
 go_enter Tryz.func117,Tryz.ntmps117
 go_wp2_with fail
 generalize w.alloc (.cells #[.int .i64 n0,.int .i64 n1,.int .i64 n2,.int .i64 n3,.bool n4,.int .i64 n5,.int .i64 n6] 201) = w0 at *
 go_loopw [8] (fun i wr=>∃ k:Nat,k≤kept.length∧i = .int .i64 k∧Below w0.heap.size w0 wr∧Hid (∀ x∈kept.take k,(spanHits n5 n6 x) = false)) (fun i _=>kept.length - (intOf i).toNat)
 case atStart=>exact ⟨0,Nat.zero_le _,rfl,Below.refl _ _,by intro x hx;simp at hx⟩
 case round =>
  obtain ⟨k,hkl,rfl,hB,HI⟩:=hrel
  have hz:=hB.size
  have hs1:=(hs.below hb0).below' hB hb0.size
  have K1:=K0.belowAll hB
  have B1:=B0.belowAll hB
  by_cases hlt:k < kept.length
  ·obtain ⟨b,off,rfl,hbb,hr⟩:=hs1.row slen k hlt
   obtain ⟨q0,q1,q2⟩:=range3 hr
   have X1:Bk (wr.alloc (.cells #[.bool false,.int .i64 0,.int .i64 0] 169)) wr.heap.size 169 #[.bool false,.int .i64 0,.int .i64 0]:=Bk.at_ rfl
   have B2:=B1.alloc (.cells #[.bool false,.int .i64 0,.int .i64 0] 169)
   have hB2:=hB.alloc hB.size (.cells #[.bool false,.int .i64 0,.int .i64 0] 169)
   have hlt1:w.heap.size < wr.heap.size:=B1.lt
   cases d1:kept[k].is with
   | true =>
    cases d2:decide (kept[k].low≤n6) with
    | true =>
     cases d3:decide (n5≤kept[k].high) with
     | true =>
      have hp:(spanHits n5 n6 kept[k]) = true:=by simp only [spanHits,d1,d2,d3,Bool.true_and,Bool.and_true]
      have HT:=Lib.hid (any_hit (p:=fun x:GSpan=>spanHits n5 n6 x) hlt hp)
      go_wp2_with (refine vM X1 ?_;intro w2 hst;have r0:=hst.bk.cell 0;have r1:=hst.bk.cell 1;have r2:=hst.bk.cell 2;have s0:=(hst.far B2 (by omega)).cell 0;have s5:=(hst.far B2 (by omega)).cell 5;have s6:=(hst.far B2 (by omega)).cell 6;simp at r0 r1 r2 s0 s5 s6)
      go_ret
      exact ⟨ret_bool HT.out.symm,hb0.trans ((hst.below hB2 (by omega)).mono hb0.size)⟩
     | false =>
      have hp:(spanHits n5 n6 kept[k]) = false:=by simp only [spanHits,d1,d2,d3,Bool.false_and,Bool.and_false,Bool.true_and]
      have hn:=any_take (p:=fun x:GSpan=>spanHits n5 n6 x) hlt HI.out hp
      have HN:=Lib.hid hn;clear hn
      go_wp2_with (refine vM X1 ?_;intro w2 hst;have r0:=hst.bk.cell 0;have r1:=hst.bk.cell 1;have r2:=hst.bk.cell 2;have s0:=(hst.far B2 (by omega)).cell 0;have s5:=(hst.far B2 (by omega)).cell 5;have s6:=(hst.far B2 (by omega)).cell 6;simp at r0 r1 r2 s0 s5 s6)
      go_roundw
      case rel=>exact ⟨k+1,by omega,by go_num,hst.below hB2 (by omega),HN.out⟩
      case measure=>simp [intOf];omega
    | false =>
     have hp:(spanHits n5 n6 kept[k]) = false:=by simp only [spanHits,d1,d2,Bool.false_and,Bool.and_false,Bool.true_and]
     have hn:=any_take (p:=fun x:GSpan=>spanHits n5 n6 x) hlt HI.out hp
     have HN:=Lib.hid hn;clear hn
     go_wp2_with (refine vM X1 ?_;intro w2 hst;have r0:=hst.bk.cell 0;have r1:=hst.bk.cell 1;have r2:=hst.bk.cell 2;have s0:=(hst.far B2 (by omega)).cell 0;have s5:=(hst.far B2 (by omega)).cell 5;have s6:=(hst.far B2 (by omega)).cell 6;simp at r0 r1 r2 s0 s5 s6)
     go_roundw
     case rel=>exact ⟨k+1,by omega,by go_num,hst.below hB2 (by omega),HN.out⟩
     case measure=>simp [intOf];omega
   | false =>
    have hp:(spanHits n5 n6 kept[k]) = false:=by simp only [spanHits,d1,Bool.false_and,Bool.and_false,Bool.true_and]
    have hn:=any_take (p:=fun x:GSpan=>spanHits n5 n6 x) hlt HI.out hp
    have HN:=Lib.hid hn;clear hn
    go_wp2_with (refine vM X1 ?_;intro w2 hst;have r0:=hst.bk.cell 0;have r1:=hst.bk.cell 1;have r2:=hst.bk.cell 2;have s0:=(hst.far B2 (by omega)).cell 0;have s5:=(hst.far B2 (by omega)).cell 5;have s6:=(hst.far B2 (by omega)).cell 6;simp at r0 r1 r2 s0 s5 s6)
    go_roundw
    case rel=>exact ⟨k+1,by omega,by go_num,hst.below hB2 (by omega),HN.out⟩
    case measure=>simp [intOf];omega
  ·have hke:k = kept.length:=by omega
   subst hke
   have HT:=Lib.hid (any_none HI.out)
   go_wp2_with fail
   go_ret
   exact ⟨ret_bool HT.out.symm,hb0.trans (hB.mono hb0.size)⟩
def eraHits (n5 n6:Int) (x:Int):Bool:=decide (0 < x) && (decide (n5≤x) && decide (x≤n6))
def erasKept (kept:List Int) (n:Xp):Bool:=kept.any (eraHits n.birth n.death)
theorem eras1_any (n:Xp) (gk:Nat) (a:Option Addr) (c:Nat) (kept:List Int) (w:World) (hk:Bk w gk 45 #[.slice a kept.length c]) (hs:Sl w w.heap.size 1 a kept.length (icells kept)) (hl:kept.length≤100000) :
  Calls Tryz.prog 116 #[.agg n.l.toArray,.pointer (some ⟨gk,0,none⟩)] w (RetB (erasKept kept n) w):=by
 obtain ⟨⟨n0,n1,n2,n3,n4⟩,n5,n6⟩:=n
 show Calls Tryz.prog 116 #[.agg #[.int .i64 n0,.int .i64 n1,.int .i64 n2,.int .i64 n3,.bool n4,.int .i64 n5,.int .i64 n6],.pointer (some ⟨gk,0,none⟩)] w _
 have B0:Bk (w.alloc (.cells #[.int .i64 n0,.int .i64 n1,.int .i64 n2,.int .i64 n3,.bool n4,.int .i64 n5,.int .i64 n6] 201)) w.heap.size 201 #[.int .i64 n0,.int .i64 n1,.int .i64 n2,.int .i64 n3,.bool n4,.int .i64 n5,.int .i64 n6]:=Bk.at_ rfl
 have hb0:Below w.heap.size w (w.alloc (.cells #[.int .i64 n0,.int .i64 n1,.int .i64 n2,.int .i64 n3,.bool n4,.int .i64 n5,.int .i64 n6] 201)):=(Below.refl _ _).alloc (Nat.le_refl _) _
 have K0:=hk.alloc (.cells #[.int .i64 n0,.int .i64 n1,.int .i64 n2,.int .i64 n3,.bool n4,.int .i64 n5,.int .i64 n6] 201)
 have c0:=K0.cell 0
 simp at c0
 go_enter Tryz.func116,Tryz.ntmps116
 go_wp2_with fail
 generalize w.alloc (.cells #[.int .i64 n0,.int .i64 n1,.int .i64 n2,.int .i64 n3,.bool n4,.int .i64 n5,.int .i64 n6] 201) = w0 at *
 go_loopw [8] (fun i wr=>∃ k:Nat,k≤kept.length∧i = .int .i64 k∧Below w0.heap.size w0 wr∧Hid (∀ x∈kept.take k,(eraHits n5 n6 x) = false)) (fun i _=>kept.length - (intOf i).toNat)
 case atStart=>exact ⟨0,Nat.zero_le _,rfl,Below.refl _ _,by intro x hx;simp at hx⟩
 case round =>
  obtain ⟨k,hkl,rfl,hB,HI⟩:=hrel
  have hz:=hB.size
  have hs1:=(hs.below hb0).below' hB hb0.size
  have K1:=K0.belowAll hB
  have B1:=B0.belowAll hB
  by_cases hlt:k < kept.length
  ·obtain ⟨b,off,rfl,hbb,q0⟩:=hs1.pick hlt
   have s5:=B1.cell 5;have s6:=B1.cell 6
   simp at s5 s6
   cases d1:decide (0 < kept[k]) with
   | true =>
    cases d2:decide (n5≤kept[k]) with
    | true =>
     cases d3:decide (kept[k]≤n6) with
     | true =>
      have hp:(eraHits n5 n6 (kept[k])) = true:=by simp only [eraHits,d1,d2,d3,Bool.true_and,Bool.and_true]
      have HT:=Lib.hid (any_hit (p:=fun x:Int=>eraHits n5 n6 x) hlt hp)
      go_wp2_with fail
      go_ret
      exact ⟨ret_bool HT.out.symm,hb0.trans ((hB).mono hb0.size)⟩
     | false =>
      have hp:(eraHits n5 n6 (kept[k])) = false:=by simp only [eraHits,d1,d2,d3,Bool.false_and,Bool.and_false,Bool.true_and]
      have hn:=any_take (p:=fun x:Int=>eraHits n5 n6 x) hlt HI.out hp
      have HN:=Lib.hid hn;clear hn
      go_wp2_with fail
      go_roundw
      case rel=>exact ⟨k+1,by omega,by go_num,hB,HN.out⟩
      case measure=>simp [intOf];omega
    | false =>
     have hp:(eraHits n5 n6 (kept[k])) = false:=by simp only [eraHits,d1,d2,Bool.false_and,Bool.and_false,Bool.true_and]
     have hn:=any_take (p:=fun x:Int=>eraHits n5 n6 x) hlt HI.out hp
     have HN:=Lib.hid hn;clear hn
     go_wp2_with fail
     go_roundw
     case rel=>exact ⟨k+1,by omega,by go_num,hB,HN.out⟩
     case measure=>simp [intOf];omega
   | false =>
    have hp:(eraHits n5 n6 (kept[k])) = false:=by simp only [eraHits,d1,Bool.false_and,Bool.and_false,Bool.true_and]
    have hn:=any_take (p:=fun x:Int=>eraHits n5 n6 x) hlt HI.out hp
    have HN:=Lib.hid hn;clear hn
    go_wp2_with fail
    go_roundw
    case rel=>exact ⟨k+1,by omega,by go_num,hB,HN.out⟩
    case measure=>simp [intOf];omega
  ·have hke:k = kept.length:=by omega
   subst hke
   have HT:=Lib.hid (any_none HI.out)
   go_wp2_with fail
   go_ret
   exact ⟨ret_bool HT.out.symm,hb0.trans (hB.mono hb0.size)⟩
def epochKept (now:Int) (n:Xp):Bool:=bif decide (now < -9223372036854775806) then true else decide (wr (now - 2) < n.death)
theorem epochs1_any (n:Xp) (gk:Nat) (now:Int) (w:World) (hk:Bk w gk 3 #[.int .i64 now]) :
  Calls Tryz.prog 118 #[.agg n.l.toArray,.pointer (some ⟨gk,0,none⟩)] w (RetB (epochKept now n) w):=by
 obtain ⟨⟨n0,n1,n2,n3,n4⟩,n5,n6⟩:=n
 show Calls Tryz.prog 118 #[.agg #[.int .i64 n0,.int .i64 n1,.int .i64 n2,.int .i64 n3,.bool n4,.int .i64 n5,.int .i64 n6],.pointer (some ⟨gk,0,none⟩)] w _
 have B0:Bk (w.alloc (.cells #[.int .i64 n0,.int .i64 n1,.int .i64 n2,.int .i64 n3,.bool n4,.int .i64 n5,.int .i64 n6] 201)) w.heap.size 201 #[.int .i64 n0,.int .i64 n1,.int .i64 n2,.int .i64 n3,.bool n4,.int .i64 n5,.int .i64 n6]:=Bk.at_ rfl
 have hb0:Below w.heap.size w (w.alloc (.cells #[.int .i64 n0,.int .i64 n1,.int .i64 n2,.int .i64 n3,.bool n4,.int .i64 n5,.int .i64 n6] 201)):=(Below.refl _ _).alloc (Nat.le_refl _) _
 have K0:=hk.alloc (.cells #[.int .i64 n0,.int .i64 n1,.int .i64 n2,.int .i64 n3,.bool n4,.int .i64 n5,.int .i64 n6] 201)
 have c0:=K0.cell 0
 have s6:=B0.cell 6
 simp at c0 s6
 cases d:decide (now < -9223372036854775806) with
 | true =>
  go_enter Tryz.func118,Tryz.ntmps118
  go_wp2_with fail
  go_ret
  exact ⟨ret_bool (by simp only [epochKept,d,cond_true,cond_false,wr_is]),hb0⟩
 | false =>
  go_enter Tryz.func118,Tryz.ntmps118
  go_wp2_with fail
  go_ret
  exact ⟨ret_bool (by simp only [epochKept,d,cond_true,cond_false,wr_is]),hb0⟩
theorem own_notes_append (w:World) (v:Value) (l:List Xp) (h:Own w 201 7 v l.length (rows Xp.l l)) (hl:l.length≤100000) (x:Xp) (b:Nat) (hb:Bk w b 201 x.l.toArray) (t:TypeId) :
  ∃ v' w',(Builtin.append_ #[64,64] t #[v,.slice (some ⟨b,0,none⟩) 1 1]).run Tryz.prog w = .ok v' w' ∧
   Own w' 201 7 v' (l++[x]).length (rows Xp.l (l++[x]))∧w.grownBy w' v.ownBlock∧Fresh w v v' :=
 own_rows_append nlen none_ Tryz.underlying64 infoNote rfl (by decide) (by decide) w v l h hl x b hb t
theorem filter_yes {p:Xp→Bool} {l:List Xp} {k:Nat} (hk:k < l.length) (h:p l[k] = true):(l.take (k+1)).filter p = (l.take k).filter p++[l[k]]:=by
 rw [List.take_add_one,List.getElem?_eq_getElem hk,List.filter_append]
 simp [h]
theorem filter_not {p:Xp→Bool} {l:List Xp} {k:Nat} (hk:k < l.length) (h:p l[k] = false):(l.take (k+1)).filter p = (l.take k).filter p:=by
 rw [List.take_add_one,List.getElem?_eq_getElem hk,List.filter_append]
 simp [h]
theorem filter_len {p:Xp→Bool} {l:List Xp} (k:Nat) (hl:l.length≤100000):((l.take k).filter p).length≤100000 :=
 Nat.le_trans (List.length_filter_le _ _) (by rw [List.length_take];omega)
def RetDiv (w:World) (p:Xp→Bool) (l:List Xp) (e:Ending) (w':World):Prop :=
 ∃ v u,e = .returned (.tuple #[v,u])∧Own w' 201 7 v (l.filter fun n=>!p n).length (rows Xp.l (l.filter fun n=>!p n))∧Own w' 201 7 u (l.filter p).length (rows Xp.l (l.filter p)) ∧
  Below w.heap.size w w'∧(∀ b,v.ownBlock = some b→w.heap.size≤b)∧(∀ b,u.ownBlock = some b→w.heap.size≤b)∧(∀ b,v.ownBlock = some b→u.ownBlock≠some b)
theorem divide_any (p:Xp→Bool) (f gk:Nat) (T:TypeId) (kv:Value) (a:Option Addr) (c:Nat) (l:List Xp) (w:World) (hs:Sl w w.heap.size 7 a l.length (rows Xp.l l)) (hl:l.length≤100000) (hk:Bk w gk T #[kv])
  (he:∀ args w',(callFunc f args).run Tryz.prog w' = .ok (.enter f args) w') (hf:∀ n w',Below w.heap.size w w'→Calls Tryz.prog f #[.agg n.l.toArray,.pointer (some ⟨gk,0,none⟩)] w' (RetB (p n) w')) :
  Calls Tryz.prog 114 #[.slice a l.length c,.func (.func f) #[] #[.pointer (some ⟨gk,0,none⟩)]] w (RetDiv w p l):=by
 go_enter Tryz.func114,Tryz.ntmps114
 go_wp2_with fail
 go_loopw [4,5,10] (fun v u i wr=>∃ k:Nat,k≤l.length∧i = .int .i64 k∧Below w.heap.size w wr ∧
   Own wr 201 7 v ((l.take k).filter fun n=>!p n).length (rows Xp.l ((l.take k).filter fun n=>!p n))∧Own wr 201 7 u ((l.take k).filter p).length (rows Xp.l ((l.take k).filter p)) ∧
   (∀ b,v.ownBlock = some b→w.heap.size≤b)∧(∀ b,u.ownBlock = some b→w.heap.size≤b)∧(∀ b,v.ownBlock = some b→u.ownBlock≠some b)) (fun _ _ i _=>l.length - (intOf i).toNat)
 case atStart=>exact ⟨0,Nat.zero_le _,rfl,Below.refl _ _,Own.nil,Own.nil,by simp [Value.ownBlock],by simp [Value.ownBlock],by simp [Value.ownBlock]⟩
 case round =>
  obtain ⟨k,hkl,rfl,hB,ho4,ho5,h4,h5,h45⟩:=hrel
  have hz:=hB.size
  have hs1:=hs.below hB
  by_cases hlt:k < l.length
  ·obtain ⟨b,off,rfl,hbb,hr⟩:=hs1.row nlen k hlt
   obtain ⟨q0,q1,q2,q3,q4,q5,q6⟩:=range7 hr
   have X1:Bk (wr.alloc (.cells #[.int .i64 0,.int .i64 0,.int .i64 0,.int .i64 0,.bool false,.int .i64 0,.int .i64 0] 201)) wr.heap.size 201 #[.int .i64 0,.int .i64 0,.int .i64 0,.int .i64 0,.bool false,.int .i64 0,.int .i64 0]:=Bk.at_ rfl
   have hB2:=hB.alloc hB.size (.cells #[.int .i64 0,.int .i64 0,.int .i64 0,.int .i64 0,.bool false,.int .i64 0,.int .i64 0] 201)
   have o4:=ho4.alloc (.cells #[.int .i64 0,.int .i64 0,.int .i64 0,.int .i64 0,.bool false,.int .i64 0,.int .i64 0] 201)
   have o5:=ho5.alloc (.cells #[.int .i64 0,.int .i64 0,.int .i64 0,.int .i64 0,.bool false,.int .i64 0,.int .i64 0] 201)
   have lt4:∀ b,u4.ownBlock = some b→b < wr.heap.size:=fun b hb=>ho4.lt hb
   have lt5:∀ b,u5.ownBlock = some b→b < wr.heap.size:=fun b hb=>ho5.lt hb
   have hf1:=hf l[k]
   have ec:l[k].l.toArray = #[.int .i64 l[k].ref.sl,.int .i64 l[k].ref.gn,.int .i64 l[k].ref.tg,.int .i64 l[k].ref.nm,.bool l[k].ref.mark,.int .i64 l[k].birth,.int .i64 l[k].death]:=rfl
   rw [ec] at hf1
   clear hf ho4 ho5 hs hs1 hr
   go_wp2_with (refine vM X1 ?_;intro w2 hst;have r0:=hst.bk.cell 0;have r1:=hst.bk.cell 1;have r2:=hst.bk.cell 2;have r3:=hst.bk.cell 3;have r4:=hst.bk.cell 4;have r5:=hst.bk.cell 5;have r6:=hst.bk.cell 6;simp at r0 r1 r2 r3 r4 r5 r6)
   have hB3':=hst.below hB2 hz
   refine (hf1 w2 hB3').mono ?_
   rintro e w3 ⟨rfl,hb3⟩
   have hB3:=hB3'.trans (hb3.mono hB3'.size)
   have K3:=hst.bk.belowAll hb3
   have r0:=K3.cell 0;have r1:=K3.cell 1;have r2:=K3.cell 2;have r3:=K3.cell 3;have r4:=K3.cell 4;have r5:=K3.cell 5;have r6:=K3.cell 6
   simp at r0 r1 r2 r3 r4 r5 r6
   have o43:=(o4.grown hst.grown (by cases h0:u4.ownBlock with | none=>exact Or.inl rfl | some b=>exact Or.inr (fun e=>by have:=lt4 b h0;cases e;omega))).below hb3
   have o53:=(o5.grown hst.grown (by cases h0:u5.ownBlock with | none=>exact Or.inl rfl | some b=>exact Or.inr (fun e=>by have:=lt5 b h0;cases e;omega))).below hb3
   clear hf1
   cases hp:p l[k] with
   | true =>
    have fy:=filter_yes (p:=p) hlt (by simp [hp])
    have fn:=filter_not (p:=(fun n=>!p n)) hlt (by simp [hp])
    obtain ⟨v',w5,hrun,ho,hg,hfr⟩:=own_notes_append (w3.alloc (.cells #[.int .i64 l[k].ref.sl,.int .i64 l[k].ref.gn,.int .i64 l[k].ref.tg,.int .i64 l[k].ref.nm,.bool l[k].ref.mark,.int .i64 l[k].birth,.int .i64 l[k].death] 201)) u5 ((l.take k).filter p) (o53.alloc _) (filter_len k hl) l[k] w3.heap.size (Bk.at_ rfl) 64
    rw [← fy] at ho
    have FO:=Lib.hid fn;have HO:=Lib.hid (And.intro ho (And.intro hg hfr));clear ho hg hfr fy fn
    go_wp2_with (at_builtin;refine Ya (by rfl) _ _ _ _ _ _ _ (by rfl) (by rfl) (by rfl) hrun ?_)
    obtain ⟨ho,hg,hfr⟩:=HO.out
    have z3:=hb3.size
    have z2:=hst.size
    simp at z2
    have hB4:=(hB3.alloc hB3.size (.cells #[.int .i64 l[k].ref.sl,.int .i64 l[k].ref.gn,.int .i64 l[k].ref.tg,.int .i64 l[k].ref.nm,.bool l[k].ref.mark,.int .i64 l[k].birth,.int .i64 l[k].death] 201))
    have hfr2:∀ b,v'.ownBlock = some b→u5.ownBlock = some b∨w3.heap.size≤b:=fun b hb=>(hfr b hb).imp id (fun h=>by simp at h;omega)
    have hB5:Below w.heap.size w w5:=hB4.grown hg hB4.size (fun b e=>h5 b e)
    have oo5:=(o43.alloc (.cells #[.int .i64 l[k].ref.sl,.int .i64 l[k].ref.gn,.int .i64 l[k].ref.tg,.int .i64 l[k].ref.nm,.bool l[k].ref.mark,.int .i64 l[k].birth,.int .i64 l[k].death] 201)).grown hg (by cases h0:u4.ownBlock with | none=>exact Or.inl rfl | some b=>exact Or.inr (Ne.symm (h45 b h0)))
    rw [← FO.out] at oo5
    go_roundw
    case rel=>exact ⟨k+1,by omega,by go_num,hB5,oo5,ho,h4,fun b hb=>(hfr2 b hb).elim (h5 b) (fun h=>by omega),fun b hb he=>(hfr2 b he).elim (h45 b hb) (fun h=>by have:=lt4 b hb;omega)⟩
    case measure=>simp [intOf];omega
   | false =>
    have fy:=filter_yes (p:=(fun n=>!p n)) hlt (by simp [hp])
    have fn:=filter_not (p:=p) hlt (by simp [hp])
    obtain ⟨v',w5,hrun,ho,hg,hfr⟩:=own_notes_append (w3.alloc (.cells #[.int .i64 l[k].ref.sl,.int .i64 l[k].ref.gn,.int .i64 l[k].ref.tg,.int .i64 l[k].ref.nm,.bool l[k].ref.mark,.int .i64 l[k].birth,.int .i64 l[k].death] 201)) u4 ((l.take k).filter (fun n=>!p n)) (o43.alloc _) (filter_len k hl) l[k] w3.heap.size (Bk.at_ rfl) 64
    rw [← fy] at ho
    have FO:=Lib.hid fn;have HO:=Lib.hid (And.intro ho (And.intro hg hfr));clear ho hg hfr fy fn
    go_wp2_with (at_builtin;refine Ya (by rfl) _ _ _ _ _ _ _ (by rfl) (by rfl) (by rfl) hrun ?_)
    obtain ⟨ho,hg,hfr⟩:=HO.out
    have z3:=hb3.size
    have z2:=hst.size
    simp at z2
    have hB4:=(hB3.alloc hB3.size (.cells #[.int .i64 l[k].ref.sl,.int .i64 l[k].ref.gn,.int .i64 l[k].ref.tg,.int .i64 l[k].ref.nm,.bool l[k].ref.mark,.int .i64 l[k].birth,.int .i64 l[k].death] 201))
    have hfr2:∀ b,v'.ownBlock = some b→u4.ownBlock = some b∨w3.heap.size≤b:=fun b hb=>(hfr b hb).imp id (fun h=>by simp at h;omega)
    have hB5:Below w.heap.size w w5:=hB4.grown hg hB4.size (fun b e=>h4 b e)
    have oo5:=(o53.alloc (.cells #[.int .i64 l[k].ref.sl,.int .i64 l[k].ref.gn,.int .i64 l[k].ref.tg,.int .i64 l[k].ref.nm,.bool l[k].ref.mark,.int .i64 l[k].birth,.int .i64 l[k].death] 201)).grown hg (by cases h0:u5.ownBlock with | none=>exact Or.inl rfl | some b=>exact Or.inr (fun e=>h45 b e.symm h0))
    rw [← FO.out] at oo5
    go_roundw
    case rel=>exact ⟨k+1,by omega,by go_num,hB5,ho,oo5,fun b hb=>(hfr2 b hb).elim (h4 b) (fun h=>by omega),h5,fun b hb he=>(hfr2 b hb).elim (fun h=>h45 b h he) (fun h=>by have:=lt5 b he;omega)⟩
    case measure=>simp [intOf];omega
  ·have hke:k = l.length:=by omega
   subst hke
   rw [List.take_length] at ho4 ho5
   have HO:=Lib.hid (And.intro ho4 ho5);clear ho4 ho5
   go_wp2_with fail
   go_ret2
   exact ⟨_,_,rfl,HO.out.1,HO.out.2,hB,h4,h5,h45⟩
theorem enter_any {f:Nat} {fn:Func} (hf:Tryz.prog.funcs[f]? = some fn) (hn:(fn.name== "runtime.NumGoroutine") = false) (hb:fn.body.isNone = false) (args:Array Value) (w:World):(callFunc f args).run Tryz.prog w = .ok (.enter f args) w:=callf_enter hf hn hb args w
end Go.Proofs.YtaipogljokblkaaGreatDoor
