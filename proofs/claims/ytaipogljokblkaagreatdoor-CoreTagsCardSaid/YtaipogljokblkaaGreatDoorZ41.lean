/- Core: LB, LC. -/
import Derived.Test.YtaipogljokblkaaGreatDoorZ15
set_option linter.all false
set_option maxRecDepth 100000
set_option maxHeartbeats 8000000
namespace Go.Proofs.YtaipogljokblkaaGreatDoor
open Go Go.RowKit
set_option linter.unusedSimpArgs false
set_option linter.unusedVariables false
set_option linter.unusedSectionVars false
def WalkO (n:Nat) (o:Option Xt):Prop:=∀ W,o = some W→WalkI n W
def WalkFd (o:Option Xt):Prop:=walkF o = true
def WalkOn (o:Option Xt):Prop:=∃ W,o = some W∧W.pc≠-1
def LitI (n:Nat) (J:Xn) (c:Xg):Prop :=
 AOk n J.start∧WalkO n J.walk∧(J.pc = -1∨(0≤J.pc∧J.pc≤7))∧(J.pc = -1↔c.kind = 12)∧(J.op.kind = 6∨J.op.kind = 7∨J.op.kind = 8) ∧
 (J.op.kind = 6→(J.pc = 1→c.kind = 8)∧(2≤J.pc→WOn n J.node)∧(J.pc = 4→WalkOn J.walk)) ∧
 (J.op.kind = 7→J.pc≤6∧(J.pc = 1∨J.pc = 6→WalkOn J.walk)∧(2≤J.pc→J.pc≤5→WalkFd J.walk)) ∧
 (J.op.kind = 8→J.pc≤2∧(J.pc = 1→WalkOn J.walk)∧(J.pc = 2→WalkFd J.walk))
theorem walkS_ok {st:Int} {n:Nat} {o:Option Xt} {x:Xi} (hst:st≠2) (h:WalkO n o) (hp:WalkOn o) (hx:WOk n x.word) :
  WalkO n (walkS o x).1∧((walkS o x).2.2 = true→COk st n (walkS o x).2.1∧(walkS o x).2.1.kind≠12∧WalkOn (walkS o x).1):=by
 obtain ⟨W,rfl,hpc⟩:=hp
 have hw:=walk_ok hst (h W rfl) hpc hx
 refine ⟨fun W' e=>?_,fun e=>?_⟩
 ·cases e;exact hw.1
 ·exact ⟨(hw.2.1 e).1,(hw.2.1 e).2.1,_,rfl,(hw.2.1 e).2.2.1⟩
theorem walkCur_ok {n:Nat} {o:Option Xt} (h:WalkO n o):WOk n (walkCur o)∧WOk n (walkNx o)∧AOk n (walkPrev o)∧(WalkFd o→WOn n (walkCur o)):=by
 cases o with
 | none=>exact ⟨Yi,Yi,aok_root (k:=0) (by omega) (by omega),fun e=>by cases e⟩
 | some W=>have:=h W rfl;exact ⟨this.2.2.1,this.2.2.2.1,this.2.1,fun e=>(this.2.2.2.2.2.2 e).2⟩
theorem walk_seek {n:Nat} {a:Yj} {k:Int} (h:AOk n a):WalkO n (some (Xt.new a k))∧WalkOn (some (Xt.new a k)) :=
 ⟨fun W e=>by cases e;exact walk_new h,_,rfl,by simp [Xt.new,Xt.zero]⟩
theorem ins_ok {st:Int} {n:Nat} {J:Xn} {x:Xi} (hst:st≠2) (ha:AOk n J.start) (hk:J.op.kind = 6) (hn:WOn n J.node) (hw:WalkO n J.walk) (ho:WalkOn J.walk) (h4:J.pc = 4) (hx:WOk n x.word):LitI n (J.insWalk x).1 (J.insWalk x).2∧COk st n (J.insWalk x).2:=by
 obtain ⟨h1,h2⟩:=walkS_ok (x:=x) hst hw ho hx
 obtain ⟨pc,last,start,key,op,walk,node,val⟩:=J
 generalize hr:Xn.insWalk _ x = r
 simp only [Xn.insWalk] at hr h1 h2 ha hk hn h4
 generalize walkS walk x = s at hr h1 h2
 obtain ⟨o,c,b⟩:=s
 have hc:=walkCur_ok h1
 simp only at hr h1 h2 hc
 (repeat' split at hr) <;> (subst hr;grind [LitI,cok_load,cok_store,cok_swap,cok_protect,cok_hold21,cok_hold10,cok_alloc,cok_drop,cok_retire,cok_done,k_load,k_store,k_swap,k_protect,k_hold,k_alloc,k_drop,k_retire,k_done,Yi,wok_num,wok_count,wok_ref,wok_to,wok_marked,won_ref,won_to,won_wok,wok_won,aon_aok,aon_field,Yv,aok_root,cp_of,cp_on,cp_far,tg_to,tg_marked,tg_count,f_field,f_root,s_root,a_protect,a_load])
theorem rem_ok {st:Int} {n:Nat} {J:Xn} {x:Xi} (hst:st≠2) (ha:AOk n J.start) (hk:J.op.kind = 7∨J.op.kind = 8) (hw:WalkO n J.walk) (ho:WalkOn J.walk) (h4:J.pc = 1) (hx:WOk n x.word):LitI n (J.remWalk x).1 (J.remWalk x).2∧COk st n (J.remWalk x).2:=by
 obtain ⟨h1,h2⟩:=walkS_ok (x:=x) hst hw ho hx
 obtain ⟨pc,last,start,key,op,walk,node,val⟩:=J
 generalize hr:Xn.remWalk _ x = r
 simp only [Xn.remWalk,Xn.done] at hr h1 h2 ha hk h4
 generalize walkS walk x = s at hr h1 h2
 obtain ⟨o,c,b⟩:=s
 have hc:=walkCur_ok h1
 simp only at hr h1 h2 hc
 (repeat' split at hr) <;> (subst hr;grind [LitI,WalkFd,cok_load,cok_store,cok_swap,cok_protect,cok_hold21,cok_hold10,cok_alloc,cok_drop,cok_retire,cok_done,k_load,k_store,k_swap,k_protect,k_hold,k_alloc,k_drop,k_retire,k_done,Yi,wok_num,wok_count,wok_ref,wok_to,wok_marked,won_ref,won_to,won_wok,wok_won,aon_aok,aon_field,Yv,aok_root,cp_of,cp_on,cp_far,tg_to,tg_marked,tg_count,f_field,f_root,s_root,a_protect,a_load])
theorem rem6_ok {st:Int} {n:Nat} {J:Xn} {x:Xi} (hst:st≠2) (ha:AOk n J.start) (hk:J.op.kind = 7) (hw:WalkO n J.walk) (ho:WalkOn J.walk) (h4:J.pc = 6) (hx:WOk n x.word):LitI n (J.remWalk6 x).1 (J.remWalk6 x).2∧COk st n (J.remWalk6 x).2:=by
 obtain ⟨h1,h2⟩:=walkS_ok (x:=x) hst hw ho hx
 obtain ⟨pc,last,start,key,op,walk,node,val⟩:=J
 generalize hr:Xn.remWalk6 _ x = r
 simp only [Xn.remWalk6,Xn.done] at hr h1 h2 ha hk h4
 generalize walkS walk x = s at hr h1 h2
 obtain ⟨o,c,b⟩:=s
 have hc:=walkCur_ok h1
 simp only at hr h1 h2 hc
 (repeat' split at hr) <;> (subst hr;grind [LitI,WalkFd,cok_load,cok_store,cok_swap,cok_protect,cok_hold21,cok_hold10,cok_alloc,cok_drop,cok_retire,cok_done,k_load,k_store,k_swap,k_protect,k_hold,k_alloc,k_drop,k_retire,k_done,Yi,wok_num,wok_count,wok_ref,wok_to,wok_marked,won_ref,won_to,won_wok,wok_won,aon_aok,aon_field,Yv,aok_root,cp_of,cp_on,cp_far,tg_to,tg_marked,tg_count,f_field,f_root,s_root,a_protect,a_load])
theorem lit_ok {st:Int} {n:Nat} {J:Xn} {c:Xg} {x:Xi} (hst:st≠2) (h:LitI n J c) (hc:c.kind≠12) (hx:XOk st n c x):LitI n (J.next x).1 (J.next x).2∧COk st n (J.next x).2:=by
 obtain ⟨ha,hw,hp,hpc,hk,h6,h7,h8⟩:=h
 have hcu:=walkCur_ok hw
 have hsk:=@walk_seek n J.start J.key ha
 have hn:J.pc≠-1:=fun e=>hc (hpc.1 e)
 have hp':J.pc = 0∨J.pc = 1∨J.pc = 2∨J.pc = 3∨J.pc = 4∨J.pc = 5∨J.pc = 6∨J.pc = 7:=by omega
 have i1:=fun (J:Xn)=>@ins_ok st n J x hst
 have i2:=fun (J:Xn)=>@rem_ok st n J x hst
 have i3:=fun (J:Xn)=>@rem6_ok st n J x hst
 have i1J:=i1 J
 have i2J:=i2 J
 have i3J:=i3 J
 have i1S:=i1 (J.seek 4)
 have i2S:=i2 (J.seek 1)
 have i3S:=i3 (J.seek 6)
 clear i1 i2 i3
 obtain ⟨pc,last,start,key,op,walk,node,val⟩:=J
 obtain ⟨hx1,hx2,-⟩:=hx
 simp only [Xn.seek] at *
 generalize hr:Xn.next _ x = r
 rcases hk with hk | hk | hk <;> (rcases hp' with rfl | rfl | rfl | rfl | rfl | rfl | rfl | rfl) <;>
  simp only [Xn.next,Xn.insert,Xn.remove,Xn.get,Xn.done,Xn.seek,beq_iff_eq,hk,Int.reduceEq,Int.reduceNeg,if_true,if_false,↓reduceIte] at hr <;> (repeat' split at hr) <;>
  (subst hr;first
   | (exfalso;omega)
   | exact i1S ha hk ((h6 hk).2.1 (by decide)) hsk.1 hsk.2 (by trivial) hx1
   | exact i1J ha hk ((h6 hk).2.1 (by decide)) hw ((h6 hk).2.2 rfl) (by trivial) hx1
   | exact i2S ha (by rw [hk];decide) hsk.1 hsk.2 (by trivial) hx1
   | exact i2J ha (by rw [hk];decide) hw (by grind) (by trivial) hx1
   | exact i3S ha hk hsk.1 hsk.2 (by trivial) hx1
   | exact i3J ha hk hw (by grind) (by trivial) hx1
   | (clear i1J i2J i3J i1S i2S i3S hsk;clear hw;grind [LitI,cok_load,cok_store,cok_swap,cok_protect,cok_hold21,cok_hold10,cok_alloc,cok_drop,cok_retire,cok_done,k_load,k_store,k_swap,k_protect,k_hold,k_alloc,k_drop,k_retire,k_done,Yi,wok_num,wok_count,wok_ref,wok_to,wok_marked,won_ref,won_to,won_wok,wok_won,aon_aok,aon_field,Yv,aok_root,cp_of,cp_on,cp_far,tg_to,tg_marked,tg_count,f_field,f_root,s_root,a_protect,a_load])
   | (clear i1J i2J i3J i1S i2S i3S hsk;grind [LitI,cok_load,cok_store,cok_swap,cok_protect,cok_hold21,cok_hold10,cok_alloc,cok_drop,cok_retire,cok_done,k_load,k_store,k_swap,k_protect,k_hold,k_alloc,k_drop,k_retire,k_done,Yi,wok_num,wok_count,wok_ref,wok_to,wok_marked,won_ref,won_to,won_wok,wok_won,aon_aok,aon_field,Yv,aok_root,cp_of,cp_on,cp_far,tg_to,tg_marked,tg_count,f_field,f_root,s_root,a_protect,a_load]))
theorem wri {n:Int} (h0:-9223372036854775808≤n) (h1:n < 9223372036854775808):wr n = n:=IntWalk.i64_in _ ⟨h0,by omega⟩
def SpotI (n:Nat) (s:GSpot):Prop:=AOk n s.prev∧WOk n s.cur
structure ClimbB (n:Nat) (C:Xe):Prop where
 spot:SpotI n C.spot
 nx:WOk n C.next
 s0:SpotI n C.s0
 s1:SpotI n C.s1
 s2:SpotI n C.s2
 fd:WOk n C.found
 lv:C.level = 0∨C.level = 1∨C.level = 2
structure ClimbI (n:Nat) (C:Xe):Prop where
 b:ClimbB n C
 pc:C.pc = -1∨C.pc = 0∨(2≤C.pc∧C.pc≤9)
 on:3≤C.pc→C.pc≤8→WOn n C.spot.cur
theorem spot_zero {n:Nat}:SpotI n GSpot.zero:=⟨aok_root (k:=0) (by omega) (by omega),Yi⟩
theorem climb_new {n:Nat} {b:Int}:ClimbI n (Xe.new b) :=
 ⟨⟨spot_zero,Yi,spot_zero,spot_zero,spot_zero,Yi,Or.inl rfl⟩,Or.inr (Or.inl rfl),fun h=>by simp [Xe.new,Xe.zero] at h⟩
def ClimbR (st:Int) (n:Nat) (r:Xe × Xg × Bool):Prop :=
 ClimbI n r.1∧(r.2.2 = true→COk st n r.2.1∧r.2.1.kind≠12∧r.1.pc≠-1)∧(r.2.2 = false→r.1.pc = -1)
section
variable {st:Int} {n:Nat} {C:Xe} {x:Xi}
theorem climb_enter (h:ClimbB n C):ClimbR st n C.enter:=by
 have hl:=h.lv
 refine ⟨⟨⟨h.spot,h.nx,h.s0,h.s1,h.s2,h.fd,h.lv⟩,Or.inr (Or.inr ⟨Int.le_refl 2,by show (2:Int)≤9;decide⟩),fun h=>?_⟩,fun _=>⟨cok_protect h.spot.1 (by omega) (by omega),by show (6:Int)≠12;decide,by show (2:Int)≠-1;decide⟩,fun h=>by cases h⟩
 have:(3:Int)≤2:=h
 omega
theorem climb_again (h:ClimbB n C):ClimbR st n C.again:=by
 refine climb_enter ⟨⟨aok_root (by decide) (by decide),h.spot.2⟩,h.nx,h.s0,h.s1,h.s2,h.fd,Or.inr (Or.inr rfl)⟩
theorem climb_behind (h:ClimbB n C) (hc:WOn n C.spot.cur):ClimbR st n C.behind:=by
 have hl:=h.lv
 refine ⟨⟨⟨h.spot,h.nx,h.s0,h.s1,h.s2,h.fd,h.lv⟩,Or.inr (Or.inr ⟨by show (2:Int)≤3;decide,by show (3:Int)≤9;decide⟩),fun _ _=>hc⟩,fun _=>⟨cok_protect (Yv h.spot.2 (by omega) (by omega)) (by omega) (by omega),by show (6:Int)≠12;decide,by show (3:Int)≠-1;decide⟩,fun h=>by cases h⟩
theorem climb_put {l:Int} {s:GSpot} (h:ClimbB n C) (hs:SpotI n s):ClimbB n (C.putS l s):=by
 unfold Xe.putS
 split
 ·exact ⟨h.spot,h.nx,hs,h.s1,h.s2,h.fd,h.lv⟩
 ·split
  ·exact ⟨h.spot,h.nx,h.s0,hs,h.s2,h.fd,h.lv⟩
  ·exact ⟨h.spot,h.nx,h.s0,h.s1,hs,h.fd,h.lv⟩
theorem put_spot (C:Xe) (l:Int) (s:GSpot):(C.putS l s).spot = C.spot∧(C.putS l s).level = C.level∧(C.putS l s).pc = C.pc:=by
 unfold Xe.putS
 split
 ·exact ⟨rfl,rfl,rfl⟩
 ·split <;> exact ⟨rfl,rfl,rfl⟩
theorem climb_lower (h:ClimbB n C):ClimbR st n C.lower:=by
 have h1:=climb_put (l:=C.level) h h.spot
 obtain ⟨e1,e2,e3⟩:=put_spot C C.level C.spot
 unfold Xe.lower
 generalize C.putS C.level C.spot = D at h1 e1 e2 e3
 clear h
 simp only
 clear e1 e2 e3
 split
 ·split
  ·refine ⟨⟨⟨h1.spot,h1.nx,h1.s0,h1.s1,h1.s2,wok_ref h1.spot.2,h1.lv⟩,Or.inl rfl,fun h=>?_⟩,fun h=>(by cases h),fun _=>rfl⟩
   have:(3:Int)≤-1:=h
   omega
  ·refine ⟨⟨⟨h1.spot,h1.nx,h1.s0,h1.s1,h1.s2,h1.fd,h1.lv⟩,Or.inl rfl,fun h=>?_⟩,fun h=>(by cases h),fun _=>rfl⟩
   have:(3:Int)≤-1:=h
   omega
 ·rename_i hl
  have hl0:D.level≠0:=by simpa using hl
  have hlv:=h1.lv
  have hv:D.level - 1 = 0∨D.level - 1 = 1∨D.level - 1 = 2:=by omega
  split
  ·exact climb_enter ⟨⟨aok_root (by omega) (by omega),h1.spot.2⟩,h1.nx,h1.s0,h1.s1,h1.s2,h1.fd,hv⟩
  ·rename_i hs
   have hs0:¬ D.spot.prev.sl = 0:=by simpa using hs
   have ha:AOn n D.spot.prev:=by
    rcases h1.spot.1 with h | h
    ·exact h
    ·exact absurd h.1 hs0
   refine ⟨⟨⟨⟨aon_aok ⟨ha.1,ha.2.1,by show (0:Int)≤2+(D.level - 1);omega,by show 2+(D.level - 1) < 10;omega⟩,h1.spot.2⟩,h1.nx,h1.s0,h1.s1,h1.s2,h1.fd,hv⟩,Or.inr (Or.inr ⟨by show (2:Int)≤9;decide,by show (9:Int)≤9;decide⟩),fun _ h=>?_⟩,fun _=>⟨cok_hold ?_,by show (7:Int)≠12;decide,by show (9:Int)≠-1;decide⟩,fun h=>by cases h⟩
   ·have:(9:Int)≤8:=h
    omega
   ·rcases hlv with h | h | h
    ·exact absurd h hl0
    ·simp only [h];exact Or.inr (Or.inr (Or.inr (Or.inr (Or.inr (Or.inr (Or.inl ⟨rfl,rfl⟩))))))
    ·simp only [h];exact Or.inr (Or.inr (Or.inr (Or.inr (Or.inr (Or.inr (Or.inr ⟨rfl,rfl⟩))))))
theorem hold_b {l:Int} (h:l = 0∨l = 1∨l = 2):HoldOk (chold (3*l+1) (3*l)):=by
 rcases h with rfl | rfl | rfl
 ·exact Or.inr (Or.inl ⟨rfl,rfl⟩)
 ·exact Or.inr (Or.inr (Or.inr (Or.inl ⟨rfl,rfl⟩)))
 ·exact Or.inr (Or.inr (Or.inr (Or.inr (Or.inr (Or.inl ⟨rfl,rfl⟩)))))
theorem hold_a {l:Int} (h:l = 0∨l = 1∨l = 2):HoldOk (chold (3*l+2) (3*l+1)):=by
 rcases h with rfl | rfl | rfl
 ·exact Or.inl ⟨rfl,rfl⟩
 ·exact Or.inr (Or.inr (Or.inl ⟨rfl,rfl⟩))
 ·exact Or.inr (Or.inr (Or.inr (Or.inr (Or.inl ⟨rfl,rfl⟩))))
theorem climb_on (h:ClimbB n C):ClimbR st n C.on:=by
 unfold Xe.on
 split
 ·exact climb_lower h
 ·rename_i hs
  have hs0:¬ C.spot.cur.sl = 0:=by simpa using hs
  exact ⟨⟨⟨h.spot,h.nx,h.s0,h.s1,h.s2,h.fd,h.lv⟩,Or.inr (Or.inr ⟨by show (2:Int)≤8;decide,by show (8:Int)≤9;decide⟩),fun _ _=>wok_won h.spot.2 hs0⟩,fun _=>⟨cok_hold (hold_b h.lv),by show (7:Int)≠12;decide,by show (8:Int)≠-1;decide⟩,fun h=>by cases h⟩
theorem climb_ok (hst:st≠2) (h:ClimbI n C) (hp:C.pc≠-1) (hx:WOk n x.word):ClimbR st n (C.step x):=by
 have hl:=h.b.lv
 have hb:=h.b
 unfold Xe.step
 split
 ·split
  ·exact climb_again hb
  ·simp only
   split
   ·rename_i h2 _ _
    have h2:C.pc = 2:=by simpa using h2
    exact climb_lower ⟨⟨hb.spot.1,hx⟩,hb.nx,hb.s0,hb.s1,hb.s2,hb.fd,hb.lv⟩
   ·rename_i h2 _ hs
    have h2:C.pc = 2:=by simpa using h2
    have hs0:¬ x.word.sl = 0:=by simpa using hs
    exact climb_behind ⟨⟨hb.spot.1,hx⟩,hb.nx,hb.s0,hb.s1,hb.s2,hb.fd,hb.lv⟩ (wok_won hx hs0)
 split
 ·rename_i h3
  have h3:C.pc = 3:=by simpa using h3
  have hc:=h.on (by omega) (by omega)
  exact ⟨⟨⟨hb.spot,hx,hb.s0,hb.s1,hb.s2,hb.fd,hb.lv⟩,Or.inr (Or.inr ⟨by show (2:Int)≤4;decide,by show (4:Int)≤9;decide⟩),fun _ _=>hc⟩,fun _=>⟨cok_load (Yv hb.spot.2 (by decide) (by decide)),by show (3:Int)≠12;decide,by show (4:Int)≠-1;decide⟩,fun h=>by cases h⟩
 split
 ·rename_i h4
  have h4:C.pc = 4:=by simpa using h4
  have hc:=h.on (by omega) (by omega)
  exact ⟨⟨⟨hb.spot,hb.nx,hb.s0,hb.s1,hb.s2,hb.fd,hb.lv⟩,Or.inr (Or.inr ⟨by show (2:Int)≤5;decide,by show (5:Int)≤9;decide⟩),fun _ _=>hc⟩,fun _=>⟨cok_load hb.spot.1,by show (3:Int)≠12;decide,by show (5:Int)≠-1;decide⟩,fun h=>by cases h⟩
 split
 ·rename_i h5
  have h5:C.pc = 5:=by simpa using h5
  have hc:=h.on (by omega) (by omega)
  split
  ·exact climb_again hb
  split
  ·exact ⟨⟨⟨hb.spot,hb.nx,hb.s0,hb.s1,hb.s2,hb.fd,hb.lv⟩,Or.inr (Or.inr ⟨by show (2:Int)≤6;decide,by show (6:Int)≤9;decide⟩),fun _ _=>hc⟩,fun _=>⟨cok_swap hb.spot.1 (cp_of hst (wok_to hb.nx)) rfl,by show (5:Int)≠12;decide,by show (6:Int)≠-1;decide⟩,fun h=>by cases h⟩
  split
  ·exact climb_lower hb
  ·exact ⟨⟨⟨⟨Yv hb.spot.2 (by omega) (by omega),hb.spot.2⟩,hb.nx,hb.s0,hb.s1,hb.s2,hb.fd,hb.lv⟩,Or.inr (Or.inr ⟨by show (2:Int)≤7;decide,by show (7:Int)≤9;decide⟩),fun _ _=>hc⟩,fun _=>⟨cok_hold (hold_a hb.lv),by show (7:Int)≠12;decide,by show (7:Int)≠-1;decide⟩,fun h=>by cases h⟩
 split
 ·rename_i h6
  have h6:C.pc = 6:=by simpa using h6
  have hc:=h.on (by omega) (by omega)
  split
  ·exact climb_on ⟨⟨hb.spot.1,wok_to hb.nx⟩,hb.nx,hb.s0,hb.s1,hb.s2,hb.fd,hb.lv⟩
  ·exact climb_again hb
 split
 ·exact climb_again hb
 split
 ·rename_i h7
  have h7:C.pc = 7:=by simpa using h7
  exact climb_on ⟨⟨hb.spot.1,hb.nx⟩,hb.nx,hb.s0,hb.s1,hb.s2,hb.fd,hb.lv⟩
 split
 ·rename_i h8
  have h8:C.pc = 8:=by simpa using h8
  exact climb_behind hb (h.on (by omega) (by omega))
 split
 ·exact climb_enter hb
 ·rename_i q2 q3 q4 q5 q6 q0 q7 q8 q9
  simp only [beq_iff_eq] at q2 q3 q4 q5 q6 q0 q7 q8 q9
  have:=h.pc
  omega
end
end Go.Proofs.YtaipogljokblkaaGreatDoor
