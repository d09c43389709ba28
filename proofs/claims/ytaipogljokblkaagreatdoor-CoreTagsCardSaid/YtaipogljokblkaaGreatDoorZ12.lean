/- Core: SvE, SvF, SvG, SvH. -/
import Derived.Test.YtaipogljokblkaaGreatDoorZ11
import Derived.Laws.StructEq
set_option linter.all false
set_option maxRecDepth 100000
set_option maxHeartbeats 8000000
namespace Go.Proofs.YtaipogljokblkaaGreatDoor
open Go Go.RowKit
set_option linter.unusedSimpArgs false
set_option linter.unusedVariables false
set_option linter.unusedSectionVars false
theorem slots_any (l:List Xp) (a:Option Addr) (c:Nat) (kept:List Xf) (ka:Option Addr) (kc:Nat) (w:World) (hs:Sl w w.heap.size 7 a l.length (rows Xp.l l)) (hl:l.length≤100000) (hk:Sl w w.heap.size 5 ka kept.length (rows Xf.l kept)) (hkl:kept.length≤100000) :
  Calls Tryz.prog 108 #[.slice a l.length c,.slice ka kept.length kc] w (RetDiv w (slotKept kept) l):=by
 have K0:Bk (w.alloc (.cells #[.slice ka kept.length kc] 103)) w.heap.size 103 #[.slice ka kept.length kc]:=Bk.at_ rfl
 have hb0:Below w.heap.size w (w.alloc (.cells #[.slice ka kept.length kc] 103)):=(Below.refl _ _).alloc (Nat.le_refl _) _
 have hz:(w.alloc (.cells #[.slice ka kept.length kc] 103)).heap.size = w.heap.size+1:=by simp
 have H:=divide_any (slotKept kept) 115 w.heap.size 103 (.slice ka kept.length kc) a c l _ (hs.up hb0) hl K0 (enter_any Tryz.func115 (by kernel_rfl) (by kernel_rfl)) (fun n w' hb=>slots1_any n w.heap.size ka kc 0 kept w' (K0.belowAll hb) ((hk.up hb0).up hb) hkl)
 go_enter Tryz.func108,Tryz.ntmps108
 go_wp2_with fail
 generalize w.alloc (.cells #[.slice ka kept.length kc] 103) = w0 at *
 refine H.mono ?_
 rintro e w1 ⟨v,u,rfl,o1,o2,hb,f1,f2,f3⟩
 have HO:=Lib.hid (And.intro o1 o2);clear o1 o2
 go_wp2_with fail
 go_ret2
 exact ⟨v,u,rfl,HO.out.1,HO.out.2,hb0.trans (hb.mono hb0.size),fun b h=>Nat.le_trans (by omega) (f1 b h),fun b h=>Nat.le_trans (by omega) (f2 b h),f3⟩
theorem spans_any (l:List Xp) (a:Option Addr) (c:Nat) (kept:List GSpan) (ka:Option Addr) (kc:Nat) (w:World) (hs:Sl w w.heap.size 7 a l.length (rows Xp.l l)) (hl:l.length≤100000) (hk:Sl w w.heap.size 3 ka kept.length (rows GSpan.l kept)) (hkl:kept.length≤100000) :
  Calls Tryz.prog 110 #[.slice a l.length c,.slice ka kept.length kc] w (RetDiv w (spansKept kept) l):=by
 have K0:Bk (w.alloc (.cells #[.slice ka kept.length kc] 213)) w.heap.size 213 #[.slice ka kept.length kc]:=Bk.at_ rfl
 have hb0:Below w.heap.size w (w.alloc (.cells #[.slice ka kept.length kc] 213)):=(Below.refl _ _).alloc (Nat.le_refl _) _
 have hz:(w.alloc (.cells #[.slice ka kept.length kc] 213)).heap.size = w.heap.size+1:=by simp
 have H:=divide_any (spansKept kept) 117 w.heap.size 213 (.slice ka kept.length kc) a c l _ (hs.up hb0) hl K0 (enter_any Tryz.func117 (by kernel_rfl) (by kernel_rfl)) (fun n w' hb=>spans1_any n w.heap.size ka kc kept w' (K0.belowAll hb) ((hk.up hb0).up hb) hkl)
 go_enter Tryz.func110,Tryz.ntmps110
 go_wp2_with fail
 generalize w.alloc (.cells #[.slice ka kept.length kc] 213) = w0 at *
 refine H.mono ?_
 rintro e w1 ⟨v,u,rfl,o1,o2,hb,f1,f2,f3⟩
 have HO:=Lib.hid (And.intro o1 o2);clear o1 o2
 go_wp2_with fail
 go_ret2
 exact ⟨v,u,rfl,HO.out.1,HO.out.2,hb0.trans (hb.mono hb0.size),fun b h=>Nat.le_trans (by omega) (f1 b h),fun b h=>Nat.le_trans (by omega) (f2 b h),f3⟩
theorem eras_any (l:List Xp) (a:Option Addr) (c:Nat) (kept:List Int) (ka:Option Addr) (kc:Nat) (w:World) (hs:Sl w w.heap.size 7 a l.length (rows Xp.l l)) (hl:l.length≤100000) (hk:Sl w w.heap.size 1 ka kept.length (icells kept)) (hkl:kept.length≤100000) :
  Calls Tryz.prog 109 #[.slice a l.length c,.slice ka kept.length kc] w (RetDiv w (erasKept kept) l):=by
 have K0:Bk (w.alloc (.cells #[.slice ka kept.length kc] 45)) w.heap.size 45 #[.slice ka kept.length kc]:=Bk.at_ rfl
 have hb0:Below w.heap.size w (w.alloc (.cells #[.slice ka kept.length kc] 45)):=(Below.refl _ _).alloc (Nat.le_refl _) _
 have hz:(w.alloc (.cells #[.slice ka kept.length kc] 45)).heap.size = w.heap.size+1:=by simp
 have H:=divide_any (erasKept kept) 116 w.heap.size 45 (.slice ka kept.length kc) a c l _ (hs.up hb0) hl K0 (enter_any Tryz.func116 (by kernel_rfl) (by kernel_rfl)) (fun n w' hb=>eras1_any n w.heap.size ka kc kept w' (K0.belowAll hb) ((hk.up hb0).up hb) hkl)
 go_enter Tryz.func109,Tryz.ntmps109
 go_wp2_with fail
 generalize w.alloc (.cells #[.slice ka kept.length kc] 45) = w0 at *
 refine H.mono ?_
 rintro e w1 ⟨v,u,rfl,o1,o2,hb,f1,f2,f3⟩
 have HO:=Lib.hid (And.intro o1 o2);clear o1 o2
 go_wp2_with fail
 go_ret2
 exact ⟨v,u,rfl,HO.out.1,HO.out.2,hb0.trans (hb.mono hb0.size),fun b h=>Nat.le_trans (by omega) (f1 b h),fun b h=>Nat.le_trans (by omega) (f2 b h),f3⟩
theorem epochs_any (l:List Xp) (a:Option Addr) (c:Nat) (now:Int) (w:World) (hs:Sl w w.heap.size 7 a l.length (rows Xp.l l)) (hl:l.length≤100000)  :
  Calls Tryz.prog 111 #[.slice a l.length c,.int .i64 now] w (RetDiv w (epochKept now) l):=by
 have K0:Bk (w.alloc (.cells #[.int .i64 now] 3)) w.heap.size 3 #[.int .i64 now]:=Bk.at_ rfl
 have hb0:Below w.heap.size w (w.alloc (.cells #[.int .i64 now] 3)):=(Below.refl _ _).alloc (Nat.le_refl _) _
 have hz:(w.alloc (.cells #[.int .i64 now] 3)).heap.size = w.heap.size+1:=by simp
 have H:=divide_any (epochKept now) 118 w.heap.size 3 (.int .i64 now) a c l _ (hs.up hb0) hl K0 (enter_any Tryz.func118 (by kernel_rfl) (by kernel_rfl)) (fun n w' hb=>epochs1_any n w.heap.size now w' (K0.belowAll hb))
 go_enter Tryz.func111,Tryz.ntmps111
 go_wp2_with fail
 generalize w.alloc (.cells #[.int .i64 now] 3) = w0 at *
 refine H.mono ?_
 rintro e w1 ⟨v,u,rfl,o1,o2,hb,f1,f2,f3⟩
 have HO:=Lib.hid (And.intro o1 o2);clear o1 o2
 go_wp2_with fail
 go_ret2
 exact ⟨v,u,rfl,HO.out.1,HO.out.2,hb0.trans (hb.mono hb0.size),fun b h=>Nat.le_trans (by omega) (f1 b h),fun b h=>Nat.le_trans (by omega) (f2 b h),f3⟩
def mayHit (now:Int) (s:GSpan):Bool:=s.is && !(s.low==now)
def spansMay (now:Int) (l:List GSpan):Bool:=!l.any (mayHit now)
theorem may_any (now:Int) (a:Option Addr) (c:Nat) (l:List GSpan) (w:World) (hs:Sl w w.heap.size 3 a l.length (rows GSpan.l l)) (hl:l.length≤100000) :
  Calls Tryz.prog 98 #[.int .i64 now,.slice a l.length c] w (RetB (spansMay now l) w):=by
 go_enter Tryz.func98,Tryz.ntmps98
 go_wp2_with fail
 go_loopw [9] (fun i wr=>∃ k:Nat,k≤l.length∧i = .int .i64 k∧Below w.heap.size w wr∧Hid (∀ x∈l.take k,mayHit now x = false)) (fun i _=>l.length - (intOf i).toNat)
 case atStart=>exact ⟨0,Nat.zero_le _,rfl,Below.refl _ _,by intro x hx;simp at hx⟩
 case round =>
  obtain ⟨k,hkl,rfl,hB,HI⟩:=hrel
  have hz:=hB.size
  have hs1:=hs.below hB
  by_cases hlt:k < l.length
  ·obtain ⟨b,off,rfl,hbb,hr⟩:=hs1.row slen k hlt
   obtain ⟨q0,q1,q2⟩:=range3 hr
   have X1:Bk (wr.alloc (.cells #[.bool false,.int .i64 0,.int .i64 0] 169)) wr.heap.size 169 #[.bool false,.int .i64 0,.int .i64 0]:=Bk.at_ rfl
   have hB2:=hB.alloc hB.size (.cells #[.bool false,.int .i64 0,.int .i64 0] 169)
   cases d1:l[k].is with
   | true =>
    cases d2:(l[k].low==now) with
    | false =>
     have hp:mayHit now l[k] = true:=by simp only [mayHit,d1,d2,Bool.not_false,Bool.true_and]
     have HT:=Lib.hid (any_hit (p:=mayHit now) hlt hp)
     have d3:(l[k].low != now) = true:=by simp only [bne,d2,Bool.not_false]
     go_wp2_with (refine vM X1 ?_;intro w2 hst;have r0:=hst.bk.cell 0;have r1:=hst.bk.cell 1;simp at r0 r1)
     go_ret
     exact ⟨ret_bool (by simp only [spansMay,HT.out,Bool.not_true]),hst.below hB2 (by omega)⟩
    | true =>
     have hp:mayHit now l[k] = false:=by simp only [mayHit,d1,d2,Bool.not_true,Bool.and_false]
     have HN:=Lib.hid (any_take (p:=mayHit now) hlt HI.out hp)
     have d3:(l[k].low != now) = false:=by simp only [bne,d2,Bool.not_true]
     go_wp2_with (refine vM X1 ?_;intro w2 hst;have r0:=hst.bk.cell 0;have r1:=hst.bk.cell 1;simp at r0 r1)
     go_roundw
     case rel=>exact ⟨k+1,by omega,by go_num,hst.below hB2 (by omega),HN.out⟩
     case measure=>simp [intOf];omega
   | false =>
    have hp:mayHit now l[k] = false:=by simp only [mayHit,d1,Bool.false_and]
    have HN:=Lib.hid (any_take (p:=mayHit now) hlt HI.out hp)
    go_wp2_with (refine vM X1 ?_;intro w2 hst;have r0:=hst.bk.cell 0;have r1:=hst.bk.cell 1;simp at r0 r1)
    go_roundw
    case rel=>exact ⟨k+1,by omega,by go_num,hst.below hB2 (by omega),HN.out⟩
    case measure=>simp [intOf];omega
  ·have hke:k = l.length:=by omega
   subst hke
   have HT:=Lib.hid (any_none HI.out)
   go_wp2_with fail
   go_ret
   exact ⟨ret_bool (by simp only [spansMay,HT.out,Bool.not_false]),hB⟩
def noteAt (v:Xp) (l:List Xp):Int:=match l.findIdx? (fun n=>n==v) with
 | some i=>i
 | none=>-1
theorem findIdx_at {α:Type} {p:α→Bool} {l:List α} {k:Nat} (hk:k < l.length) (h:∀ x∈l.take k,p x = false) (h1:p l[k] = true):l.findIdx? p = some k:=by
 rw [List.findIdx?_eq_some_iff_getElem]
 refine ⟨hk,h1,fun j hj=>?_⟩
 have hjl:j < l.length:=by omega
 have:=h l[j] (by rw [List.mem_take_iff_getElem];exact ⟨j,by omega,rfl⟩)
 simp [this]
theorem note_ne {n m:Xp} (h:(n==m) = false):n.ref.sl≠m.ref.sl∨(n.ref.sl = m.ref.sl∧n.ref.gn≠m.ref.gn)∨(n.ref.sl = m.ref.sl∧n.ref.gn = m.ref.gn∧n.ref.tg≠m.ref.tg)∨(n.ref.sl = m.ref.sl∧n.ref.gn = m.ref.gn∧n.ref.tg = m.ref.tg∧n.ref.nm≠m.ref.nm) ∨
  (n.ref.sl = m.ref.sl∧n.ref.gn = m.ref.gn∧n.ref.tg = m.ref.tg∧n.ref.nm = m.ref.nm∧n.ref.mark≠m.ref.mark)∨(n.ref.sl = m.ref.sl∧n.ref.gn = m.ref.gn∧n.ref.tg = m.ref.tg∧n.ref.nm = m.ref.nm∧n.ref.mark = m.ref.mark∧n.birth≠m.birth) ∨
  (n.ref.sl = m.ref.sl∧n.ref.gn = m.ref.gn∧n.ref.tg = m.ref.tg∧n.ref.nm = m.ref.nm∧n.ref.mark = m.ref.mark∧n.birth = m.birth∧n.death≠m.death):=by
 obtain ⟨⟨a0,a1,a2,a3,a4⟩,a5,a6⟩:=n
 obtain ⟨⟨b0,b1,b2,b3,b4⟩,b5,b6⟩:=m
 simp only [beq_eq_false_iff_ne,ne_eq,Xp.mk.injEq,Xf.mk.injEq] at h
 simp only
 by_cases h0:a0 = b0
 ·by_cases h1:a1 = b1
  ·by_cases h2:a2 = b2
   ·by_cases h3:a3 = b3
    ·by_cases h4:a4 = b4
     ·by_cases h5:a5 = b5
      ·by_cases h6:a6 = b6
       ·exact absurd ⟨⟨h0,h1,h2,h3,h4⟩,h5,h6⟩ h
       ·simp [*]
      ·simp [*]
     ·simp [*]
    ·simp [*]
   ·simp [*]
  ·simp [*]
 ·simp [*]
theorem indexNote_any (v:Xp) (a:Option Addr) (c:Nat) (l:List Xp) (w:World) (hs:Sl w w.heap.size 7 a l.length (rows Xp.l l)) (hl:l.length≤100000) :
  Calls Tryz.prog 100 #[.slice a l.length c,.agg v.l.toArray] w (fun e w'=>e = .returned (.int .i64 (noteAt v l))∧Below w.heap.size w w'):=by
 obtain ⟨⟨n0,n1,n2,n3,n4⟩,n5,n6⟩:=v
 show Calls Tryz.prog 100 #[.slice a l.length c,.agg #[.int .i64 n0,.int .i64 n1,.int .i64 n2,.int .i64 n3,.bool n4,.int .i64 n5,.int .i64 n6]] w _
 have B0:Bk (w.alloc (.cells #[.int .i64 n0,.int .i64 n1,.int .i64 n2,.int .i64 n3,.bool n4,.int .i64 n5,.int .i64 n6] 201)) w.heap.size 201 #[.int .i64 n0,.int .i64 n1,.int .i64 n2,.int .i64 n3,.bool n4,.int .i64 n5,.int .i64 n6]:=Bk.at_ rfl
 have hb0:Below w.heap.size w (w.alloc (.cells #[.int .i64 n0,.int .i64 n1,.int .i64 n2,.int .i64 n3,.bool n4,.int .i64 n5,.int .i64 n6] 201)):=(Below.refl _ _).alloc (Nat.le_refl _) _
 have hs0:=hs.up hb0
 go_enter Tryz.func100,Tryz.ntmps100
 go_wp2_with fail
 generalize w.alloc (.cells #[.int .i64 n0,.int .i64 n1,.int .i64 n2,.int .i64 n3,.bool n4,.int .i64 n5,.int .i64 n6] 201) = w0 at *
 go_loopw [8] (fun i wr=>∃ k m:Nat,k≤l.length∧i = .int .i64 k∧w0.drewN m = wr∧Hid (∀ x∈l.take k,(x==(⟨⟨n0,n1,n2,n3,n4⟩,n5,n6⟩:Xp)) = false)) (fun i _=>l.length - (intOf i).toNat)
 case atStart=>exact ⟨0,0,Nat.zero_le _,rfl,rfl,by intro x hx;simp at hx⟩
 case round =>
  obtain ⟨k,m,hkl,rfl,rfl,HI⟩:=hrel
  have r0:=B0.cell 0;have r1:=B0.cell 1;have r2:=B0.cell 2;have r3:=B0.cell 3;have r4:=B0.cell 4;have r5:=B0.cell 5;have r6:=B0.cell 6
  simp at r0 r1 r2 r3 r4 r5 r6
  by_cases hlt:k < l.length
  ·obtain ⟨b,off,rfl,hbb,hr⟩:=hs0.row nlen k hlt
   obtain ⟨q0,q1,q2,q3,q4,q5,q6⟩:=range7 hr
   have BH:=Lib.hid (And.intro B0 (And.intro hb0 (And.intro hs hs0)))
   clear B0 hb0 hs hs0 hr
   cases hq:(l[k]==(⟨⟨n0,n1,n2,n3,n4⟩,n5,n6⟩:Xp)) with
   | true =>
    have HT:=Lib.hid (findIdx_at (p:=fun n=>n==(⟨⟨n0,n1,n2,n3,n4⟩,n5,n6⟩:Xp)) hlt HI.out hq)
    have he:l[k] = (⟨⟨n0,n1,n2,n3,n4⟩,n5,n6⟩:Xp):=by simpa using hq
    rw [he] at q0 q1 q2 q3 q4 q5 q6
    clear he hq
    go_wp2_with fail
    go_quiet (fail)
    go_wp2_with fail
    go_ret
    exact ⟨congrArg Ending.returned (show Value.int .i64 (k:Int) = _ from by simp only [noteAt,HT.out]),below_drewN (below_drewN BH.out.2.1 _) _⟩
   | false =>
    have HN:=Lib.hid (any_take (p:=fun n=>n==(⟨⟨n0,n1,n2,n3,n4⟩,n5,n6⟩:Xp)) hlt HI.out hq)
    have hq2:((⟨⟨n0,n1,n2,n3,n4⟩,n5,n6⟩:Xp)==l[k]) = false:=by rw [← hq];exact BEq.comm
    have hn:=note_ne hq2
    clear hq hq2
    simp only at hn
    rcases hn with d0 | ⟨d0,d1⟩ | ⟨d0,d1,d2⟩ | ⟨d0,d1,d2,d3⟩ | ⟨d0,d1,d2,d3,d4⟩ | ⟨d0,d1,d2,d3,d4,d5⟩ | ⟨d0,d1,d2,d3,d4,d5,d6⟩
    all_goals
     go_wp2_with fail
     go_quiet (fail)
     go_wp2_with fail
     go_roundw
     case rel=>exact ⟨k+1,_,by omega,by go_num,rfl,HN.out⟩
     case measure=>simp [intOf];omega
  ·have hke:k = l.length:=by omega
   subst hke
   have HT:Hid (noteAt (⟨⟨n0,n1,n2,n3,n4⟩,n5,n6⟩:Xp) l = -1):=by
    have h0:=HI.out
    rw [List.take_length] at h0
    unfold noteAt
    rw [List.findIdx?_eq_none_iff.2 h0]
    exact rfl
   go_wp2_with fail
   go_ret
   exact ⟨congrArg Ending.returned (show Value.int .i64 (-1:Int) = _ from by rw [HT.out]),below_drewN hb0 _⟩
abbrev ncells (l:List Xp):List Value:=rows Xp.l l
theorem ncells_length (l:List Xp):(ncells l).length = l.length*7:=Yt nlen l
theorem ncells_cons (p:Xp) (l:List Xp):ncells (p :: l) = Xp.l p++ncells l:=rfl
theorem ncells_append (l m:List Xp):ncells (l++m) = ncells l++ncells m:=rows_append l m
theorem ncells_one (l:List Xp):∀ u∈ncells l,u.oneCell' = true:=rows_one none_ l
def RetN2 (w:World) (v:Value) (l:List Xp) (e:Ending) (w':World):Prop :=
 ∃ v',e = .returned v'∧Own w' 201 7 v' l.length (ncells l)∧w.grownBy w' v.ownBlock∧Fresh w v v'
theorem append_atN (w:World) (g off i cap:Nat) (A cs R:List Value) (hb:Bk w g 201 (A++R).toArray) (ho:A.length = off+i*7) (hR:cs.length≤R.length) (a:Addr) (k c:Nat) (hn:cs.length = k*7) (hroom:i+k≤cap)
  (hsrc:∀ j u,cs[j]? = some u→w.cell? (a.add j) = some u) (h1:∀ u∈cs,u.oneCell' = true) (t:TypeId) :
  ∃ w',(Builtin.append_ #[64,64] t #[.slice (some ⟨g,off,none⟩) i cap,.slice (some a) k c]).run Tryz.prog w = .ok (.slice (some ⟨g,off,none⟩) (i+k) cap) w' ∧
   Bk w' g 201 (A++(cs++R.drop cs.length)).toArray∧w.grownBy w' (some g):=by
 obtain ⟨inf,hi0,hz,hz1,hz2⟩:=info_parts infoNote
 have hr:=run_append_room_blk (P:=Tryz.prog) w 64 t 201 inf Tryz.underlying64 hi0 g off i cap _ _ hb a k c cs (by rw [hn,hz1]) hsrc h1 hroom (by rw [hz1];simp;omega)
 rw [hz1,← ho] at hr
 refine ⟨_,hr,?_,grownBy_setRow _ _ _⟩
 have e:(A++R).toArray.toList.take A.length++cs++(A++R).toArray.toList.drop (A.length+cs.length) = A++(cs++R.drop cs.length):=by
  show (A++R).take A.length++cs++(A++R).drop (A.length+cs.length) = _
  rw [drop_add,List.take_left',List.append_assoc]
  rfl
 rw [e]
 exact hb.row
theorem clear_atN (w:World) (g o c:Nat) (A R:List Value) (hb:Bk w g 201 (A++R).toArray) (ho:A.length = o) (hR:7≤R.length) (t:TypeId) :
  ∃ w' Z,(Builtin.clear_ #[64] t #[.slice (some ⟨g,o,none⟩) 1 c]).run Tryz.prog w = .ok (.tuple #[]) w' ∧
   Bk w' g 201 (A++Z).toArray∧Z.length = R.length∧w.grownBy w' (some g):=by
 subst ho
 obtain ⟨inf,hi0,hz,hz1,hz2⟩:=info_parts infoNote
 have zl:(Builtin.zeroCells (Value.agg Xp.zero.l.toArray).cells 1).toList.length = 7:=by rw [Array.length_toList,size_zeroCells];rfl
 have zc:(Builtin.zeroCells (Value.agg Xp.zero.l.toArray).cells 1).toList = Xp.zero.l:=by kernel_rfl
 have hr:=run_clear_blk (P:=Tryz.prog) w 64 201 t (.agg Xp.zero.l.toArray) Tryz.underlying64 (fun w=>by simp [zeroValue,typeInfo,hi0,hz])
  (by intro u hu;rw [zc] at hu;exact none_ _ u hu) g A.length c _ _ hb (by show _+7≤_;simp;omega)
 refine ⟨_,(Builtin.zeroCells (Value.agg Xp.zero.l.toArray).cells 1).toList++R.drop 7,hr,?_,?_,grownBy_setRow _ _ _⟩
 ·have e:(A++R).toArray.toList.take A.length++(Builtin.zeroCells (Value.agg Xp.zero.l.toArray).cells 1).toList++(A++R).toArray.toList.drop (A.length+(Value.agg Xp.zero.l.toArray).cells.size) = A++((Builtin.zeroCells (Value.agg Xp.zero.l.toArray).cells 1).toList++R.drop 7):=by
   show (A++R).take A.length++_++(A++R).drop (A.length+7) = _
   rw [drop_add,List.take_left',List.append_assoc]
   rfl
  rw [e]
  exact hb.row
 ·rw [List.length_append,zl,List.length_drop];omega
theorem deleteNote_any (w:World) (v:Value) (l:List Xp) (h:Own w 201 7 v l.length (ncells l)) (hl:l.length≤100000) (i:Nat) (hi:i < l.length) :
  Calls Tryz.prog 101 #[v,.int .i64 i,.int .i64 (i+1)] w (RetN2 w v (l.take i++l.drop (i+1))):=by
 have hlt:(l.take i).length = i:=by rw [List.length_take];omega
 have hld:(l.drop (i+1)).length = l.length - (i+1):=List.length_drop
 have h0:=h
 rcases h.2 with ⟨_,h'⟩ | ⟨g,off,cap,A,R,rfl,hk,hA,hn,hmax,hs⟩
 ·omega
 rw [ncells_length] at hs
 have hsp:ncells l = ncells (l.take i)++(Xp.l l[i]++ncells (l.drop (i+1))):=by
  rw [← ncells_cons,← ncells_append,List.getElem_cons_drop,List.take_append_drop]
 rw [hsp] at hk
 have hY:(ncells (l.drop (i+1))).length = (l.length - (i+1))*7:=by rw [ncells_length,hld]
 have hkd:Bk w.drew g 201 ((A++ncells (l.take i))++((Xp.l l[i]++ncells (l.drop (i+1)))++R)).toArray:=by
  have e:(A++ncells (l.take i))++((Xp.l l[i]++ncells (l.drop (i+1)))++R) = A++(ncells (l.take i)++(Xp.l l[i]++ncells (l.drop (i+1)))++R):=by simp only [List.append_assoc]
  rw [e]
  exact hk.drew
 have hp2:(Xp.l l[i]).length = 7:=rfl
 have hsrc:∀ j u,(ncells (l.drop (i+1)))[j]? = some u→w.drew.cell? ((⟨g,off+(i+1)*7,none⟩:Addr).add j) = some u:=fun j u hu=>by
  rw [Addr.add_lit,Nat.add_assoc]
  refine own_cells h0.drew ((i+1)*7+j) u ?_
  rw [hsp,List.getElem?_append_right (by rw [ncells_length,hlt];omega),List.getElem?_append_right (by rw [ncells_length,hlt,hp2];omega),ncells_length,hlt,hp2,show (i+1)*7+j - i*7 - 7 = j from by omega]
  exact hu
 have hfirst:∀ (a:Addr) (c:Nat),(a = ⟨g,off+(i+1)*7,none⟩∨l.length = i+1)→∃ w1,(Builtin.append_ #[64,64] 64 #[.slice (some ⟨g,off,none⟩) i cap,.slice (some a) (l.length - (i+1)) c]).run Tryz.prog w.drew = .ok (.slice (some ⟨g,off,none⟩) (i+(l.length - (i+1))) cap) w1 ∧
   Bk w1 g 201 ((A++ncells (l.take i))++(ncells (l.drop (i+1))++((Xp.l l[i]++ncells (l.drop (i+1)))++R).drop (ncells (l.drop (i+1))).length)).toArray∧w.drew.grownBy w1 (some g):=fun a c ha=>by
  refine append_atN w.drew g off i cap _ (ncells (l.drop (i+1))) _ hkd (by rw [List.length_append,hA,ncells_length,hlt]) (by simp only [List.length_append];omega) a (l.length - (i+1)) c hY (by omega) ?_ (ncells_one _) 64
  rcases ha with rfl | ha
  ·exact hsrc
  ·intro j u hu
   have:ncells (l.drop (i+1)) = []:=List.eq_nil_of_length_eq_zero (by omega)
   rw [this] at hu
   cases hu
 have hRl:(((Xp.l l[i]++ncells (l.drop (i+1)))++R).drop (ncells (l.drop (i+1))).length).length = R.length+7:=by
  rw [List.length_drop,List.length_append,List.length_append];omega
 have hsecond:∀ w1 c,Bk w1 g 201 ((A++ncells (l.take i))++(ncells (l.drop (i+1))++((Xp.l l[i]++ncells (l.drop (i+1)))++R).drop (ncells (l.drop (i+1))).length)).toArray→∃ w2 Z,(Builtin.clear_ #[64] 3 #[.slice (some ⟨g,off+(l.length - 1)*7,none⟩) 1 c]).run Tryz.prog w1 = .ok (.tuple #[]) w2 ∧
   Bk w2 g 201 (A++(ncells (l.take i++l.drop (i+1))++Z)).toArray∧Z.length = R.length+7∧w1.grownBy w2 (some g):=fun w1 c h1=>by
  rw [← List.append_assoc] at h1
  obtain ⟨w2,Z,a1,a2,a3,a4⟩:=clear_atN w1 g (off+(l.length - 1)*7) c _ _ h1 (by simp only [List.length_append,ncells_length,hlt,hld,hA];omega) (by omega) 3
  refine ⟨w2,Z,a1,?_,a3.trans hRl,a4⟩
  rw [ncells_append]
  simp only [List.append_assoc] at a2 ⊢
  exact a2
 obtain ⟨w1,hr1,hb1,hg1⟩:=hfirst (if cap = i+1 then ⟨g,off,none⟩ else ⟨g,off+(i+1)*7,none⟩) (cap - (i+1)) (by by_cases h:cap = i+1;exact Or.inr (by omega);rw [if_neg h];exact Or.inl rfl)
 obtain ⟨w2,Z,hr2,hb2,hZ,hg2⟩:=hsecond w1 (cap - (l.length - 1)) hb1
 have hlen:(l.take i++l.drop (i+1)).length = l.length - 1:=by rw [List.length_append,hlt,hld];omega
 have HF:=Lib.hid (And.intro hb2 (And.intro hZ (And.intro (grownBy_trans (grownBy_drew hg1) hg2) (And.intro hA (And.intro hlen hs)))))
 clear hfirst hsecond hb1 hb2 hZ hg1 hg2 hsrc hkd hk hY h h0 hsp hld hRl hA hs hlen
 have HL:=Lib.hid hlt;clear hlt
 have R1:=Lib.hid hr1;have R2:=Lib.hid hr2;clear hr1 hr2
 simp only [maxLen] at hmax
 obtain ⟨n,hn'⟩:∃ n,l.length = n:=⟨_,rfl⟩
 have HN:=Lib.hid hn'
 rw [hn'] at R1 R2 hl hi hn ⊢
 clear hn' hp2
 obtain ⟨m,rfl⟩:∃ m,n = m+1:=⟨n - 1,by omega⟩
 rw [show i+(m+1 - (i+1)) = m from by omega,show m+1 - (i+1) = m - i from by omega] at R1
 rw [show m+1 - 1 = m from rfl] at R2
 by_cases hic:cap = i+1
 ·obtain rfl:m = i:=by omega
  subst hic
  rw [if_pos rfl,Nat.sub_self,Nat.sub_self] at R1
  rw [show m+1 - m = 1 from by omega] at R2
  go_enter Tryz.func101,Tryz.ntmps101
  go_wp2_with fail
  (refine X2 (fun _=>True) 8 (by kernel_rfl) trivial (fun hS=>?_);((try simp only [Act.put,List.setIfInBounds_toArray,List.set_cons_succ,List.set_cons_zero]);refine vT (fuel:=2) hS [0,1,2,3,4,5] ?_;simp only [Xu,Xj,List.toList_toArray];(repeat (first | go_big_quiet_skip | (go_big_quiet_want;first | (go_big_quiet_op;go_big_quiet_on) | (apply Exists.intro;refine ⟨fun w' hS'=>?_,?_⟩;(· (skip;go_simp;first | done | rfl | exact ⟨rfl,rfl⟩));go_big_quiet_on;simp only [Act.put,List.setIfInBounds_toArray,List.set_cons_succ,List.set_cons_zero]))));refine wpQuiet_nil ?_;(try dsimp only));(refine Xh 6 (by kernel_rfl) (fun K hK=>?_);simp only [Xj,List.toList_toArray]);refine Ya (by rfl) _ _ _ _ _ _ _ (by rfl) (by rfl) (by rfl) R1.out ?_;go_wp2_with fail;refine hK.out _ _ (fun _=>trivial) ?_;((try simp only [Act.put,List.setIfInBounds_toArray,List.set_cons_succ,List.set_cons_zero]);refine vT (fuel:=0) hS [7] ?_;simp only [Xu,Xj,List.toList_toArray];(repeat (first | go_big_quiet_skip | (go_big_quiet_want;first | (go_big_quiet_op;go_big_quiet_on) | (apply Exists.intro;refine ⟨fun w' hS'=>?_,?_⟩;(· (skip;go_simp;first | done | rfl | exact ⟨rfl,rfl⟩));go_big_quiet_on;simp only [Act.put,List.setIfInBounds_toArray,List.set_cons_succ,List.set_cons_zero]))));refine wpQuiet_nil ?_;(try dsimp only));refine X9 (by kernel_rfl) ?_ _;go_wp2_with (refine wpList_clear_run (by rfl) _ _ _ _ (by rfl) (by rfl) R2.out ?_);go_ret;have hn':=HN.out;obtain ⟨h1,h2,h3,h4,h5,h6⟩:=HF.out;refine ⟨_,rfl,⟨ncells_length _,.inr ⟨g,off,m+1,A,Z,?_,h1,h4,?_,?_,?_⟩⟩,h3,fun g' hg'=>Or.inl hg'⟩;(· rw [h5,hn'];rfl);(· omega);(· simp only [maxLen];omega);(· rw [ncells_length,h5,h2];omega))
 ·rw [if_neg hic] at R1
  go_enter Tryz.func101,Tryz.ntmps101
  go_wp2_with fail
  (refine X2 (fun _=>True) 8 (by kernel_rfl) trivial (fun hS=>?_);((try simp only [Act.put,List.setIfInBounds_toArray,List.set_cons_succ,List.set_cons_zero]);refine vT (fuel:=2) hS [0,1,2,3,4,5] ?_;simp only [Xu,Xj,List.toList_toArray];(repeat (first | go_big_quiet_skip | (go_big_quiet_want;first | (go_big_quiet_op;go_big_quiet_on) | (apply Exists.intro;refine ⟨fun w' hS'=>?_,?_⟩;(· (skip;go_simp;first | done | rfl | exact ⟨rfl,rfl⟩));go_big_quiet_on;simp only [Act.put,List.setIfInBounds_toArray,List.set_cons_succ,List.set_cons_zero]))));refine wpQuiet_nil ?_;(try dsimp only));(refine Xh 6 (by kernel_rfl) (fun K hK=>?_);simp only [Xj,List.toList_toArray]);refine Ya (by rfl) _ _ _ _ _ _ _ (by rfl) (by rfl) (by rfl) R1.out ?_;go_wp2_with fail;refine hK.out _ _ (fun _=>trivial) ?_;((try simp only [Act.put,List.setIfInBounds_toArray,List.set_cons_succ,List.set_cons_zero]);refine vT (fuel:=0) hS [7] ?_;simp only [Xu,Xj,List.toList_toArray];(repeat (first | go_big_quiet_skip | (go_big_quiet_want;first | (go_big_quiet_op;go_big_quiet_on) | (apply Exists.intro;refine ⟨fun w' hS'=>?_,?_⟩;(· (skip;go_simp;first | done | rfl | exact ⟨rfl,rfl⟩));go_big_quiet_on;simp only [Act.put,List.setIfInBounds_toArray,List.set_cons_succ,List.set_cons_zero]))));refine wpQuiet_nil ?_;(try dsimp only));refine X9 (by kernel_rfl) ?_ _;go_wp2_with (refine wpList_clear_run (by rfl) _ _ _ _ (by rfl) (by rfl) R2.out ?_);go_ret;have hn':=HN.out;obtain ⟨h1,h2,h3,h4,h5,h6⟩:=HF.out;refine ⟨_,rfl,⟨ncells_length _,.inr ⟨g,off,cap,A,Z,?_,h1,h4,?_,?_,?_⟩⟩,h3,fun g' hg'=>Or.inl hg'⟩;(· rw [h5,hn'];rfl);(· omega);(· simp only [maxLen];omega);(· rw [ncells_length,h5,h2];omega))
end Go.Proofs.YtaipogljokblkaaGreatDoor
