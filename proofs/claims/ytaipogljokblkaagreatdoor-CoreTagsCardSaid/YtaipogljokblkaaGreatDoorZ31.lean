/- Core: CVer, VK, VL. -/
import Derived.Test.YtaipogljokblkaaGreatDoorZ15
import Derived.Test.YtaipogljokblkaaGreatDoorZ07
import Derived.Test.YtaipogljokblkaaGreatDoorZ08
import Derived.Test.YtaipogljokblkaaGreatDoorZ09
import Derived.Test.YtaipogljokblkaaGreatDoorZ25
import Derived.Test.YtaipogljokblkaaGreatDoorZ29
import Derived.Test.YtaipogljokblkaaGreatDoorZ30
set_option linter.all false
set_option maxRecDepth 100000
set_option maxHeartbeats 8000000
namespace Go.Proofs.YtaipogljokblkaaGreatDoor
open Go Go.RowKit
set_option linter.unusedSimpArgs false
set_option linter.unusedVariables false
set_option linter.unusedSectionVars false
def advl_env (V:GVer) (pr:Go.Addr) (jv:Value) (b0:Bool) (hjv:jv.oneCell' = true):Env:=mkV [[V.st,V.eng,V.doing],V.call.ii,V.op.ii,V.ans.ii] [V.call.bb,[b0]] [.pointer (some pr),jv] (by intro u hu;simp at hu;rcases hu with rfl | rfl <;> first | rfl | assumption)
def advl_st:St:=⟨[],[(1,126,(ct [[.int (.var 0),.int (.var 1),.raw 0],vs 2 9,[.bool (.var 0)],vs 11 4,[.bool (.var 1)],vs 15 8,[.raw 1,.int (.var 23),.int (.var 24)]]))],[(.eq (.var 2) (.lit 1),false),(.eq (.var 2) (.lit 2),false),(.nil 0,false)],10,0⟩
def advl_args:List SV:=[.c (.ptr 1 2)]
def advl_S:List Xs:=[⟨false,72,1,[],[.c (.raw 0)],.c (.bool (.var 2)),[]⟩]
theorem advl_any {Φ:Phi} {F:Nat→Prop} (V:GVer) (pr:Go.Addr) (jv:Value) (b0:Bool) (g1:Nat) (w:World) (h1:Bk w g1 126 (V.l (.pointer (some pr)) (jv)).toArray) (hjv:jv.oneCell' = true) (hd1:(V.doing==1) = false) (hd2:(V.doing==2) = false) (H0:∀ w F,Φ.P 0 w F→(∀ b,F b→b < w.heap.size)→Calls Tryz.prog 72 #[.pointer (some pr)] w fun en w'=>en = .returned (.bool b0)∧Opq Φ 0 F none w w') (f1:Φ.P 0 w F) (f2:¬ F g1) (f3:∀ b,F b→b < w.heap.size):Calls Tryz.prog 56 #[.pointer (some ⟨g1,2,none⟩)] w fun en w'=>EPost Φ 0 F g1 126 (((bif !(V.doing==0) then bif !b0 then ({ V with doing:=0 }:GVer) else V else V)).l (.pointer (some pr)) jv).toArray (.tuple #[]) w en w':=by
 refine pE (advl_env V pr jv b0 hjv) advl_S 60 advl_st advl_args ((bif !(V.doing==0) then bif !b0 then ({ V with doing:=0 }:GVer) else V else V)) (fun r=>(.tuple #[],0,(r.l (.pointer (some pr)) jv).toArray)) (X6 (so_eff 0 0 fun hq w F hP hb=>Yr Tryz.func72 (H0 w F hP hb)) sumsE_nil) (asC hd1 (asC hd2 (asC rfl asN))) h1 f1 f2 f3 ?_
 exact vS6
def vbeg_env (V:GVer) (pr:Go.Addr) (jv:Value) (d:Int) (c:Xg) (hjv:jv.oneCell' = true):Env:=mkV [[V.st,V.eng,V.doing],V.call.ii,V.op.ii,V.ans.ii,[d],c.ii] [V.call.bb,c.bb] [.pointer (some pr),jv] (by intro u hu;simp at hu;rcases hu with rfl | rfl <;> first | rfl | assumption)
def vbeg_st:St:=⟨[],[(1,126,(ct [[.int (.var 0),.int (.var 1),.raw 0],vs 2 9,[.bool (.var 0)],vs 11 4,[.bool (.var 1)],vs 15 8,[.raw 1,.int (.var 23),.int (.var 24)]]))],[(.nil 0,false)],10,0⟩
def vbeg_args:List SV:=[.c (.ptr 1 2),.c (.int (.var 25)),.agg ((ct [vs 26 8,[.bool (.var 2)],vs 34 4,[.bool (.var 3)],vs 38 4]))]
def vbeg_S:List Xs:=[⟨false,71,101,[],[.c (.raw 0),.agg ((ct [vs 26 8,[.bool (.var 2)],vs 34 4,[.bool (.var 3)],vs 38 4]))],.c (.lit .nilIface),[]⟩]
theorem vbeg_any {Φ:Phi} {F:Nat→Prop} (V:GVer) (pr:Go.Addr) (jv:Value) (d:Int) (c:Xg) (g1:Nat) (w:World) (h1:Bk w g1 126 (V.l (.pointer (some pr)) (jv)).toArray) (hjv:jv.oneCell' = true) (H0:∀ w F,Φ.P 0 w F→(∀ b,F b→b < w.heap.size)→Calls Tryz.prog 71 #[.pointer (some pr),.agg c.l.toArray] w fun en w'=>en = .returned (.nilIface)∧Opq Φ 1 F none w w') (f1:Φ.P 0 w F) (f2:¬ F g1) (f3:∀ b,F b→b < w.heap.size):Calls Tryz.prog 55 #[.pointer (some ⟨g1,2,none⟩),.int .i64 d,.agg c.l.toArray] w fun en w'=>EPost Φ 1 F g1 126 ((({ V with doing:=d,call:=c }:GVer)).l (.pointer (some pr)) jv).toArray (.tuple #[]) w en w':=by
 refine pE (vbeg_env V pr jv d c hjv) vbeg_S 60 vbeg_st vbeg_args (({ V with doing:=d,call:=c }:GVer)) (fun r=>(.tuple #[],1,(r.l (.pointer (some pr)) jv).toArray)) (X6 (so_eff 0 1 fun hq w F hP hb=>Yr Tryz.func71 (H0 w F hP hb)) sumsE_nil) (asC rfl asN) h1 f1 f2 f3 ?_
 exact vS6
def vbusy_env (V:GVer) (pr:Go.Addr) (jv:Value) (hjv:jv.oneCell' = true):Env:=mkV [[V.st,V.eng,V.doing],V.call.ii,V.op.ii,V.ans.ii] [V.call.bb] [.pointer (some pr),jv] (by intro u hu;simp at hu;rcases hu with rfl | rfl <;> first | rfl | assumption)
def vbusy_st:St:=⟨[],[(1,126,(ct [[.int (.var 0),.int (.var 1),.raw 0],vs 2 9,[.bool (.var 0)],vs 11 4,[.bool (.var 1)],vs 15 8,[.raw 1,.int (.var 23),.int (.var 24)]]))],[(.nil 0,false)],10,0⟩
def vbusy_args:List SV:=[.c (.ptr 1 0)]
def vbusy_S:List Xs:=[]
theorem vbusy_any {Φ:Phi} {F:Nat→Prop} (V:GVer) (pr:Go.Addr) (jv:Value) (g1:Nat) (w:World) (h1:Bk w g1 126 (V.l (.pointer (some pr)) (jv)).toArray) (hjv:jv.oneCell' = true) (f1:Φ.P 0 w F) (f2:¬ F g1) (f3:∀ b,F b→b < w.heap.size):Calls Tryz.prog 35 #[.pointer (some ⟨g1,0,none⟩)] w fun en w'=>EPost Φ 0 F g1 126 ((V).l (.pointer (some pr)) jv).toArray (.bool (!(V.doing==0))) w en w':=by
 refine pE (vbusy_env V pr jv hjv) vbusy_S 60 vbusy_st vbusy_args (V) (fun r=>(.bool (!(V.doing==0)),0,(r.l (.pointer (some pr)) jv).toArray)) sumsE_nil (asC rfl asN) h1 f1 f2 f3 ?_
 exact vS6
abbrev JM:=GJob × MR
def rep (s:JM):Xi:=s.2.R.reply
def ask (s:JM):Xg:=(s.1.next (rep s)).2
def stp (s:JM):JM:=((s.1.next (rep s)).1,s.2.begin_ (bif (ask s).kind==12 then cleave else ask s))
def bsy (s:JM):Bool:=!(s.2.R.step==0)
def itr:Nat→JM→JM
 | 0,s=>s
 | k+1,s=>stp (itr k s)
def rounds:Nat→JM→List (Xg × Bool)
 | 0,_=>[]
 | n+1,s=>(ask s,bsy (stp s)) :: rounds n (stp s)
theorem itr_stp (k:Nat) (s:JM):itr k (stp s) = itr (k+1) s:=by
 induction k with
 | zero=>rfl
 | succ k ih=>show stp (itr k (stp s)) = stp (itr (k+1) s);rw [ih]
def RoundsOk (s:JM):Prop:=∀ k,(∀ i≤k,bsy (itr i s) = false)→(∀ i < k,((ask (itr i s)).kind==12) = false)→(itr k s).1.Ok∧ROk (itr k s).2∧(((ask (itr k s)).kind==12) = false→GcOk (ask (itr k s)))
def StopsIn:Nat→JM→Prop
 | 0,_=>False
 | n+1,s=>((ask s).kind==12) = false→bsy (stp s) = false→StopsIn n (stp s)
def RJ (gr:Nat) (jv:Value) (M:MR) (J:GJob) (w:World) (F:Nat→Prop):Prop :=
 ∃ Fr Fj,RBx w gr M Fr∧JobP w jv J Fj∧(∀ b∈Fr,b ∉ Fj)∧∀ b,F b↔b∈Fr∨b∈Fj
section
variable {gr:Nat} {jv:Value} {M:MR} {J:GJob} {w w':World} {F:Nat→Prop}
theorem RJ.keep (h:RJ gr jv M J w F) (hs:∀ b,F b→w'.heap[b]? = w.heap[b]?):RJ gr jv M J w' F:=by
 obtain ⟨Fr,Fj,h1,h2,h3,h4⟩:=h
 exact ⟨Fr,Fj,h1.same fun b hb=>hs b ((h4 b).2 (Or.inl hb)),h2.same fun b hb=>hs b ((h4 b).2 (Or.inr hb)),h3,h4⟩
theorem RJ.lt (h:RJ gr jv M J w F):∀ b,F b→b < w.heap.size:=by
 obtain ⟨Fr,Fj,h1,h2,h3,h4⟩:=h
 intro b hb
 rcases (h4 b).1 hb with hb | hb
 ·exact h1.lt b hb
 ·exact h2.lt b hb
end
def rjPhi (gr:Nat) (jv:Value) (s:JM):Phi:=⟨fun i w F=>RJ gr jv (itr (i / 2) s).2 (bif i % 2==1 then (itr (i / 2+1) s).1 else (itr (i / 2) s).1) w F,fun _ _ _ _ h hs=>h.keep hs⟩
section
variable {gr:Nat} {jv:Value} {s:JM} {w:World} {F:Nat→Prop}
theorem p_even {k:Nat}:(rjPhi gr jv s).P (2*k) w F↔RJ gr jv (itr k s).2 (itr k s).1 w F:=by
 show RJ gr jv (itr (2*k / 2) s).2 _ w F↔_
 rw [show 2*k / 2 = k from by omega,show (2*k % 2==1) = false from by simp]
 exact Iff.rfl
theorem p_odd {k:Nat}:(rjPhi gr jv s).P (2*k+1) w F↔RJ gr jv (itr k s).2 (itr (k+1) s).1 w F:=by
 show RJ gr jv (itr ((2*k+1) / 2) s).2 _ w F↔_
 rw [show (2*k+1) / 2 = k from by omega,show ((2*k+1) % 2==1) = true from by simp]
 exact Iff.rfl
theorem opq_rite {Φ:Phi} {j:Nat} {M':MR} {J:GJob} {V:Value} {en:Ending} {w':World} {Fr Fj:List Nat} (h2:JobP w jv J Fj) (h3:∀ b∈Fr,b ∉ Fj) (h4:∀ b,F b↔b∈Fr∨b∈Fj)
  (hj:∀ w F,RJ gr jv M' J w F→Φ.P j w F) (hp:JRet (fun w F=>RBx w gr M' F) V Fr w en w'):en = .returned V∧Opq Φ j F none w w':=by
 obtain ⟨F',p1,p2,p3,p4⟩:=hp
 have far:∀ b∈Fj,w'.heap[b]? = w.heap[b]?:=fun b hb=>p4.far b (h2.lt b hb) fun hx=>h3 b hx hb
 have h2':=h2.same far
 refine ⟨p1,opq_of p4 (fun b hb=>(h4 b).2 (Or.inl hb)) ⟨fun b=>b∈F'∨b∈Fj,hj _ _ ⟨F',Fj,p2,h2',fun b hb hx=>?_,fun b=>Iff.rfl⟩,fun b hb=>?_,fun b hb=>?_⟩⟩
 ·rcases p3 b hb with h | h
  ·exact h3 b h hx
  ·have:=h2.lt b hx;omega
 ·rcases hb with hb | hb
  ·exact (p3 b hb).imp (fun h=>(h4 b).2 (Or.inl h)) id
  ·exact Or.inl ((h4 b).2 (Or.inr hb))
 ·rcases hb with hb | hb
  ·exact p2.lt b hb
  ·exact h2'.lt b hb
theorem opq_job {Φ:Phi} {j:Nat} {M:MR} {J':GJob} {V:Value} {en:Ending} {w':World} {Fr Fj:List Nat} (h1:RBx w gr M Fr) (h3:∀ b∈Fr,b ∉ Fj) (h4:∀ b,F b↔b∈Fr∨b∈Fj)
  (hj:∀ w F,RJ gr jv M J' w F→Φ.P j w F) (hp:JRet (fun w F=>JobP w jv J' F) V Fj w en w'):en = .returned V∧Opq Φ j F none w w':=by
 obtain ⟨F',p1,p2,p3,p4⟩:=hp
 have far:∀ b∈Fr,w'.heap[b]? = w.heap[b]?:=fun b hb=>p4.far b (h1.lt b hb) fun hx=>h3 b hb hx
 have h1':=h1.same far
 refine ⟨p1,opq_of p4 (fun b hb=>(h4 b).2 (Or.inr hb)) ⟨fun b=>b∈Fr∨b∈F',hj _ _ ⟨Fr,F',h1',p2,fun b hb hx=>?_,fun b=>Iff.rfl⟩,fun b hb=>?_,fun b hb=>?_⟩⟩
 ·rcases p3 b hx with h | h
  ·exact h3 b hb h
  ·have:=h1.lt b hb;omega
 ·rcases hb with hb | hb
  ·exact Or.inl ((h4 b).2 (Or.inl hb))
  ·exact (p3 b hb).imp (fun h=>(h4 b).2 (Or.inr h)) id
 ·rcases hb with hb | hb
  ·exact h1'.lt b hb
  ·exact p2.lt b hb
theorem k_busy (k:Nat):∀ w F,(rjPhi gr jv s).P (2*k) w F→(∀ b,F b→b < w.heap.size)→Calls Tryz.prog 72 #[.pointer (some ⟨gr,0,none⟩)] w fun en w'=>en = .returned (.bool (bsy (itr k s)))∧Opq (rjPhi gr jv s) (2*k) F none w w':=fun w F hP _=>by
 obtain ⟨Fr,Fj,h1,h2,h3,h4⟩:=p_even.1 hP
 exact (rbusy_x h1).mono fun en w' hp=>opq_rite h2 h3 h4 (fun w F h=>p_even.2 h) hp
theorem k_reply (k:Nat):∀ w F,(rjPhi gr jv s).P (2*k) w F→(∀ b,F b→b < w.heap.size)→Calls Tryz.prog 73 #[.pointer (some ⟨gr,0,none⟩)] w fun en w'=>en = .returned (.agg (rep (itr k s)).l.toArray)∧Opq (rjPhi gr jv s) (2*k) F none w w':=fun w F hP _=>by
 obtain ⟨Fr,Fj,h1,h2,h3,h4⟩:=p_even.1 hP
 exact (rreply_x h1).mono fun en w' hp=>opq_rite h2 h3 h4 (fun w F h=>p_even.2 h) hp
theorem k_next (k:Nat) (ok:(itr k s).1.Ok):∀ w F,(rjPhi gr jv s).P (2*k) w F→(∀ b,F b→b < w.heap.size)→Enters Tryz.prog invF #[jv,.agg (rep (itr k s)).l.toArray] w fun en w'=>en = .returned (.agg (ask (itr k s)).l.toArray)∧Opq (rjPhi gr jv s) (2*k+1) F none w w':=fun w F hP _=>by
 obtain ⟨Fr,Fj,h1,h2,h3,h4⟩:=p_even.1 hP
 exact (job_next _ _ _ _ _ h2 ok).mono fun en w' hp=>opq_job h1 h3 h4 (fun w F h=>p_odd.2 h) hp
theorem k_begin (k:Nat) (c:Xg) (hc:(bif (ask (itr k s)).kind==12 then cleave else ask (itr k s)) = c) (ok:ROk (itr k s).2) (hb:bsy (itr k s) = false) (gc:GcOk c):∀ w F,(rjPhi gr jv s).P (2*k+1) w F→(∀ b,F b→b < w.heap.size) →
  Calls Tryz.prog 71 #[.pointer (some ⟨gr,0,none⟩),.agg c.l.toArray] w fun en w'=>en = .returned .nilIface∧Opq (rjPhi gr jv s) (2*k+2) F none w w':=fun w F hP _=>by
 obtain ⟨Fr,Fj,h1,h2,h3,h4⟩:=p_odd.1 hP
 have hs:(itr k s).2.R.step = 0:=by unfold bsy at hb;simpa using hb
 refine (begin_x c h1 ok hs gc).mono fun en w' hp=>opq_rite h2 h3 h4 (fun w F h=>?_) hp
 have e:(itr (k+1) s).2 = (itr k s).2.begin_ c:=by show (stp (itr k s)).2 = _;unfold stp;rw [hc]
 exact (p_even (k:=k+1)).2 (by rw [e];exact h)
end
theorem gc_leave:GcOk cleave:=Or.inr (Or.inl rfl)
theorem adv_mem (V:GVer) (g gr:Nat) (jv:Value) (s:JM) (w:World) (F:Nat→Prop) (hb:Bk w g 126 (V.l (.pointer (some ⟨gr,0,none⟩)) jv).toArray) (h:RJ gr jv s.2 s.1 w F) (hg:¬ F g) (ok:RoundsOk s) (st:bsy s = false→StopsIn 5 s) :
  Calls Tryz.prog 56 #[.pointer (some ⟨g,2,none⟩)] w (EPost (rjPhi gr jv s) (advV V (bsy s) (rounds 5 s)).2 F g 126 ((advV V (bsy s) (rounds 5 s)).1.l (.pointer (some ⟨gr,0,none⟩)) jv).toArray (.tuple #[]) w):=by
 obtain ⟨Fr,Fj,h1,h2,h3,h4⟩:=id h
 obtain ⟨v1,v2⟩:=h2.val
 have lev:∀ {k:Nat},((ask (itr k s)).kind==12) = true→(bif (ask (itr k s)).kind==12 then cleave else ask (itr k s)) = cleave:=fun e=>by rw [e];rfl
 have beg:∀ {k:Nat},((ask (itr k s)).kind==12) = false→(bif (ask (itr k s)).kind==12 then cleave else ask (itr k s)) = ask (itr k s):=fun e=>by rw [e];rfl
 cases hb0:bsy s with
 | true =>
  have el:∀ l,advV V true l = (V,0):=fun l=>by unfold advV;cases V.doing==0 <;> rfl
  have nf:∀ {P:Prop},bsy (itr 0 s) = false→P:=fun h=>by rw [show bsy (itr 0 s) = bsy s from rfl,hb0] at h;cases h
  have q:=adv_any (Φ:=rjPhi gr jv s) (F:=F) V ⟨gr,0,none⟩ jv (bsy (itr 0 s)) (rep (itr 0 s)) (cdone 0 0) (bsy (itr 1 s)) (rep (itr 1 s)) (cdone 0 0) (bsy (itr 2 s)) (rep (itr 2 s)) (cdone 0 0) (bsy (itr 3 s)) (rep (itr 3 s)) (cdone 0 0)
   (bsy (itr 4 s)) (rep (itr 4 s)) (cdone 0 0) (bsy (itr 5 s)) g w hb v1 v2 (fun a0=>by cases a0)
   (k_busy 0) (k_reply 0) (fun b0=>nf b0) (fun b0 _=>nf b0) (fun b0 _=>nf b0)
   (k_busy 1) (k_reply 1) (fun b0 _ _=>nf b0) (fun b0 _ _ _=>nf b0) (fun b0 _ _ _=>nf b0)
   (k_busy 2) (k_reply 2) (fun b0 _ _ _ _=>nf b0) (fun b0 _ _ _ _ _=>nf b0) (fun b0 _ _ _ _ _=>nf b0)
   (k_busy 3) (k_reply 3) (fun b0 _ _ _ _ _ _=>nf b0) (fun b0 _ _ _ _ _ _ _=>nf b0) (fun b0 _ _ _ _ _ _ _=>nf b0)
   (k_busy 4) (k_reply 4) (fun b0 _ _ _ _ _ _ _ _=>nf b0) (fun b0 _ _ _ _ _ _ _ _ _=>nf b0) (fun b0 _ _ _ _ _ _ _ _ _=>nf b0)
   (k_busy 5) (p_even (k:=0).2 h) hg h.lt
  rw [show bsy (itr 0 s) = true from hb0,el] at q
  rw [el]
  exact q
 | false =>
 replace st:=st hb0
 rw [← hb0]
 exact adv_any (Φ:=rjPhi gr jv s) (F:=F) V ⟨gr,0,none⟩ jv (bsy (itr 0 s)) (rep (itr 0 s)) (ask (itr 0 s)) (bsy (itr 1 s)) (rep (itr 1 s)) (ask (itr 1 s)) (bsy (itr 2 s)) (rep (itr 2 s)) (ask (itr 2 s)) (bsy (itr 3 s)) (rep (itr 3 s)) (ask (itr 3 s))
  (bsy (itr 4 s)) (rep (itr 4 s)) (ask (itr 4 s)) (bsy (itr 5 s)) g w hb v1 v2 (fun a0 a1 a2 a3 a4 a5 a6 a7 a8 a9=>st a0 a1 a2 a3 a4 a5 a6 a7 a8 a9)
  (k_busy 0) (k_reply 0) (fun b0=>k_next 0 (ok 0 (by intro i hi;obtain rfl:i = 0:=(by omega);exact b0) (by intro i hi;omega)).1)
  (fun b0 y0=>let q:=ok 0 (by intro i hi;obtain rfl:i = 0:=(by omega);exact b0) (by intro i hi;omega);k_begin 0 _ (beg y0) q.2.1 b0 (q.2.2 y0))
  (fun b0 y0=>let q:=ok 0 (by intro i hi;obtain rfl:i = 0:=(by omega);exact b0) (by intro i hi;omega);k_begin 0 _ (lev y0) q.2.1 b0 gc_leave)
  (k_busy 1) (k_reply 1) (fun b0 b1 y0=>k_next 1 (ok 1 (by intro i hi;rcases (by omega:i = 0∨i = 1) with rfl | rfl <;> assumption) (by intro i hi;obtain rfl:i = 0:=(by omega);assumption)).1)
  (fun b0 b1 y0 y1=>let q:=ok 1 (by intro i hi;rcases (by omega:i = 0∨i = 1) with rfl | rfl <;> assumption) (by intro i hi;obtain rfl:i = 0:=(by omega);assumption);k_begin 1 _ (beg y1) q.2.1 b1 (q.2.2 y1))
  (fun b0 b1 y0 y1=>let q:=ok 1 (by intro i hi;rcases (by omega:i = 0∨i = 1) with rfl | rfl <;> assumption) (by intro i hi;obtain rfl:i = 0:=(by omega);assumption);k_begin 1 _ (lev y1) q.2.1 b1 gc_leave)
  (k_busy 2) (k_reply 2) (fun b0 b1 b2 y0 y1=>k_next 2 (ok 2 (by intro i hi;rcases (by omega:i = 0∨i = 1∨i = 2) with rfl | rfl | rfl <;> assumption) (by intro i hi;rcases (by omega:i = 0∨i = 1) with rfl | rfl <;> assumption)).1)
  (fun b0 b1 b2 y0 y1 y2=>let q:=ok 2 (by intro i hi;rcases (by omega:i = 0∨i = 1∨i = 2) with rfl | rfl | rfl <;> assumption) (by intro i hi;rcases (by omega:i = 0∨i = 1) with rfl | rfl <;> assumption);k_begin 2 _ (beg y2) q.2.1 b2 (q.2.2 y2))
  (fun b0 b1 b2 y0 y1 y2=>let q:=ok 2 (by intro i hi;rcases (by omega:i = 0∨i = 1∨i = 2) with rfl | rfl | rfl <;> assumption) (by intro i hi;rcases (by omega:i = 0∨i = 1) with rfl | rfl <;> assumption);k_begin 2 _ (lev y2) q.2.1 b2 gc_leave)
  (k_busy 3) (k_reply 3) (fun b0 b1 b2 b3 y0 y1 y2=>k_next 3 (ok 3 (by intro i hi;rcases (by omega:i = 0∨i = 1∨i = 2∨i = 3) with rfl | rfl | rfl | rfl <;> assumption) (by intro i hi;rcases (by omega:i = 0∨i = 1∨i = 2) with rfl | rfl | rfl <;> assumption)).1)
  (fun b0 b1 b2 b3 y0 y1 y2 y3=>let q:=ok 3 (by intro i hi;rcases (by omega:i = 0∨i = 1∨i = 2∨i = 3) with rfl | rfl | rfl | rfl <;> assumption) (by intro i hi;rcases (by omega:i = 0∨i = 1∨i = 2) with rfl | rfl | rfl <;> assumption);k_begin 3 _ (beg y3) q.2.1 b3 (q.2.2 y3))
  (fun b0 b1 b2 b3 y0 y1 y2 y3=>let q:=ok 3 (by intro i hi;rcases (by omega:i = 0∨i = 1∨i = 2∨i = 3) with rfl | rfl | rfl | rfl <;> assumption) (by intro i hi;rcases (by omega:i = 0∨i = 1∨i = 2) with rfl | rfl | rfl <;> assumption);k_begin 3 _ (lev y3) q.2.1 b3 gc_leave)
  (k_busy 4) (k_reply 4) (fun b0 b1 b2 b3 b4 y0 y1 y2 y3=>k_next 4 (ok 4 (by intro i hi;rcases (by omega:i = 0∨i = 1∨i = 2∨i = 3∨i = 4) with rfl | rfl | rfl | rfl | rfl <;> assumption) (by intro i hi;rcases (by omega:i = 0∨i = 1∨i = 2∨i = 3) with rfl | rfl | rfl | rfl <;> assumption)).1)
  (fun b0 b1 b2 b3 b4 y0 y1 y2 y3 y4=>let q:=ok 4 (by intro i hi;rcases (by omega:i = 0∨i = 1∨i = 2∨i = 3∨i = 4) with rfl | rfl | rfl | rfl | rfl <;> assumption) (by intro i hi;rcases (by omega:i = 0∨i = 1∨i = 2∨i = 3) with rfl | rfl | rfl | rfl <;> assumption);k_begin 4 _ (beg y4) q.2.1 b4 (q.2.2 y4))
  (fun b0 b1 b2 b3 b4 y0 y1 y2 y3 y4=>let q:=ok 4 (by intro i hi;rcases (by omega:i = 0∨i = 1∨i = 2∨i = 3∨i = 4) with rfl | rfl | rfl | rfl | rfl <;> assumption) (by intro i hi;rcases (by omega:i = 0∨i = 1∨i = 2∨i = 3) with rfl | rfl | rfl | rfl <;> assumption);k_begin 4 _ (lev y4) q.2.1 b4 gc_leave)
  (k_busy 5) (p_even (k:=0).2 h) hg h.lt
def ver (V:MV):GVer:=⟨V.st,V.eng,V.doing,V.call,V.op,V.ans⟩
theorem quiet_busy {V:MV} (h:V.busyR = true):V.quiet = true:=by unfold MV.quiet;rw [h];simp
theorem quiet_idle {V:MV} (h:V.doing = 0):V.quiet = true:=by unfold MV.quiet;rw [h];rfl
theorem quiet_not {V:MV} (h:V.busyR = false) (h0:V.doing≠0):V.quiet = false:=by unfold MV.quiet;rw [h,show (V.doing==0) = false from by simp [h0]];rfl
theorem adv_quiet {V:MV} (h:V.quiet = true):∀ m,MV.adv m V = V
 | 0=>rfl
 | m+1=>by unfold MV.adv;rw [h];rfl
theorem adv_step {V:MV} (h:V.quiet = false) (m:Nat):MV.adv (m+1) V = MV.adv m V.adv1:=by
 show (bif V.quiet then V else MV.adv m V.adv1) = _
 rw [h];rfl
theorem adv1_go {V:MV} {J:GJob} (hj:V.job = some J) (hd:V.doing = 1∨V.doing = 2) (hk:((ask (J,V.M)).kind==12) = false) :
  V.adv1 = { V with doing:=2,call:=ask (J,V.M),job:=some (stp (J,V.M)).1,M:=(stp (J,V.M)).2 }:=by
 unfold MV.adv1
 rw [show (V.doing==1 || V.doing==2) = true from by rcases hd with h | h <;> simp [h],hj]
 unfold stp
 rw [hk]
 unfold ask rep at hk ⊢
 simp only [cond_true,cond_false,hk,Bool.not_false]
 rfl
theorem adv1_end {V:MV} {J:GJob} (hj:V.job = some J) (hd:V.doing = 1∨V.doing = 2) (hk:((ask (J,V.M)).kind==12) = true) :
  V.adv1 = { V with doing:=3,call:=cleave,ans:=(ask (J,V.M)).ans,job:=some (stp (J,V.M)).1,M:=(stp (J,V.M)).2 }:=by
 unfold MV.adv1
 rw [show (V.doing==1 || V.doing==2) = true from by rcases hd with h | h <;> simp [h],hj]
 unfold stp
 rw [hk]
 unfold ask rep at hk ⊢
 simp only [cond_true,cond_false,hk,Bool.not_true]
 rfl
theorem adv1_idle {V:MV} (hd:V.doing≠1) (hd2:V.doing≠2):V.adv1 = { V with doing:=0 }:=by
 unfold MV.adv1
 rw [show (V.doing==1 || V.doing==2) = false from by simp [hd,hd2]]
 rfl
theorem advG_model:∀ (n:Nat) (V:MV) (J:GJob),V.job = some J→(V.doing = 1∨V.doing = 2)→V.busyR = false→StopsIn n (J,V.M)→∀ m,n+1≤m→∀ p,
  ∃ r,(advG (rounds n (J,V.M)) (ver V) p).2 = p+2*r∧ver (MV.adv m V) = (advG (rounds n (J,V.M)) (ver V) p).1∧(MV.adv m V).job = some (itr r (J,V.M)).1∧(MV.adv m V).M = (itr r (J,V.M)).2
 | 0,V,J,hj,hd,hb,hs,m,hm,p=>hs.elim
 | n+1,V,J,hj,hd,hb,hs,m,hm,p=>by
  obtain ⟨m,rfl⟩:∃ m',m = m'+1:=⟨m - 1,by omega⟩
  have hq:V.quiet = false:=quiet_not hb (by rcases hd with h | h <;> omega)
  rw [adv_step hq]
  unfold rounds advG
  cases hk:((ask (J,V.M)).kind==12) with
  | false =>
   rw [adv1_go hj hd hk]
   simp only [Bool.not_false,cond_true]
   cases hb1:bsy (stp (J,V.M)) with
   | true =>
    rw [adv_quiet (quiet_busy (V:={ V with doing:=2,call:=ask (J,V.M),job:=some (stp (J,V.M)).1,M:=(stp (J,V.M)).2 }) hb1)]
    exact ⟨1,rfl,rfl,rfl,rfl⟩
   | false =>
    obtain ⟨r,e1,e2,e3,e4⟩:=advG_model n { V with doing:=2,call:=ask (J,V.M),job:=some (stp (J,V.M)).1,M:=(stp (J,V.M)).2 } (stp (J,V.M)).1 rfl (Or.inr rfl) hb1 (hs hk hb1) m (by omega) (p+2)
    refine ⟨r+1,?_,e2,?_,?_⟩
    ·simp only [cond_false]
     exact e1.trans (by omega)
    ·rw [e3];exact congrArg (fun s:JM=>some s.1) (itr_stp r (J,V.M))
    ·rw [e4];exact congrArg (fun s:JM=>s.2) (itr_stp r (J,V.M))
  | true =>
   rw [adv1_end hj hd hk]
   simp only [Bool.not_true,cond_false]
   cases hb1:bsy (stp (J,V.M)) with
   | true =>
    rw [adv_quiet (quiet_busy (V:={ V with doing:=3,call:=cleave,ans:=(ask (J,V.M)).ans,job:=some (stp (J,V.M)).1,M:=(stp (J,V.M)).2 }) hb1)]
    exact ⟨1,rfl,rfl,rfl,rfl⟩
   | false =>
    obtain ⟨m,rfl⟩:∃ m',m = m'+1:=⟨m - 1,by omega⟩
    rw [adv_step (quiet_not (V:={ V with doing:=3,call:=cleave,ans:=(ask (J,V.M)).ans,job:=some (stp (J,V.M)).1,M:=(stp (J,V.M)).2 }) hb1 (by simp)),adv1_idle (by simp) (by simp),adv_quiet (quiet_idle rfl)]
    exact ⟨1,rfl,rfl,rfl,rfl⟩
theorem adv_model {V:MV} {J:GJob} (hj:V.job = some J) (hd:V.doing = 1∨V.doing = 2) (hs:V.busyR = false→StopsIn 5 (J,V.M)) :
  ∃ r,(advV (ver V) (bsy (J,V.M)) (rounds 5 (J,V.M))).2 = 2*r∧ver V.advance = (advV (ver V) (bsy (J,V.M)) (rounds 5 (J,V.M))).1∧V.advance.job = some (itr r (J,V.M)).1∧V.advance.M = (itr r (J,V.M)).2:=by
 unfold advV
 have e0:((ver V).doing==0) = false:=by show (V.doing==0) = false;rcases hd with h | h <;> simp [h]
 rw [e0]
 cases hb:bsy (J,V.M) with
 | true =>
  unfold MV.advance
  rw [adv_quiet (quiet_busy hb)]
  exact ⟨0,rfl,rfl,hj,rfl⟩
 | false =>
  obtain ⟨r,e1,e2,e3,e4⟩:=advG_model 5 V J hj hd hb (hs hb) 16 (by omega) 0
  have e5:(bif (ver V).doing==1 then advG (rounds 5 (J,V.M)) (ver V) 0 else bif (ver V).doing==2 then advG (rounds 5 (J,V.M)) (ver V) 0 else ({ ver V with doing:=0 },0)) = advG (rounds 5 (J,V.M)) (ver V) 0:=by
   show (bif V.doing==1 then _ else bif V.doing==2 then _ else _) = _
   rcases hd with h | h <;> rw [h] <;> rfl
  simp only [Bool.not_false,cond_true,e5]
  exact ⟨r,by omega,e2,e3,e4⟩
def RJo (gr:Nat) (jv:Value) (M:MR) (o:Option GJob) (w:World) (F:Nat→Prop):Prop :=
 match o with
 | some J=>RJ gr jv M J w F
 | none=>jv = .nilIface∧∃ Fr,RBx w gr M Fr∧∀ b,F b↔b∈Fr
section
variable {gr:Nat} {jv:Value} {M:MR} {o:Option GJob} {w w':World} {F:Nat→Prop}
theorem RJo.keep (h:RJo gr jv M o w F) (hs:∀ b,F b→w'.heap[b]? = w.heap[b]?):RJo gr jv M o w' F:=by
 cases o with
 | none=>obtain ⟨h0,Fr,h1,h2⟩:=h;exact ⟨h0,Fr,h1.same fun b hb=>hs b ((h2 b).2 hb),h2⟩
 | some J=>exact RJ.keep h hs
theorem RJo.lt (h:RJo gr jv M o w F):∀ b,F b→b < w.heap.size:=by
 cases o with
 | none=>obtain ⟨h0,Fr,h1,h2⟩:=h;exact fun b hb=>h1.lt b ((h2 b).1 hb)
 | some J=>exact RJ.lt h
theorem RJo.one (h:RJo gr jv M o w F):jv.oneCell' = true:=by
 cases o with
 | none=>obtain ⟨rfl,_⟩:=h;rfl
 | some J=>obtain ⟨_,_,_,h2,_⟩:=h;exact h2.val.1
theorem rjo_rite {M':MR} {V:Value} (h:RJo gr jv M o w F) {f:Nat} {args:Array Value} (hp:∀ Fr,RBx w gr M Fr→Calls Tryz.prog f args w (JRet (fun w F=>RBx w gr M' F) V Fr w)) (Φ:Phi) (j:Nat) (hj:∀ w F,RJo gr jv M' o w F→Φ.P j w F) :
  Calls Tryz.prog f args w fun en w'=>en = .returned V∧Opq Φ j F none w w':=by
 cases o with
 | some J =>
  obtain ⟨Fr,Fj,h1,h2,h3,h4⟩:=h
  exact (hp Fr h1).mono fun en w' hq=>opq_rite h2 h3 h4 (fun w F h=>hj w F h) hq
 | none =>
  obtain ⟨h0,Fr,h1,h4⟩:=h
  refine (hp Fr h1).mono fun en w' hq=>?_
  obtain ⟨F',p1,p2,p3,p4⟩:=hq
  exact ⟨p1,opq_of p4 (fun b hb=>(h4 b).2 hb) ⟨fun b=>b∈F',hj _ _ ⟨h0,F',p2,fun b=>Iff.rfl⟩,fun b hb=>(p3 b hb).imp (h4 b).2 id,fun b hb=>p2.lt b hb⟩⟩
end
def VB (w:World) (gv:Nat) (V:MV) (F:Nat→Prop):Prop :=
 ∃ gr jv F1,Bk w gv 126 ((ver V).l (.pointer (some ⟨gr,0,none⟩)) jv).toArray∧RJo gr jv V.M V.job w F1∧¬ F1 gv∧∀ b,F b↔b = gv∨F1 b
section
variable {gv:Nat} {V:MV} {w w':World} {F:Nat→Prop}
theorem VB.keep (h:VB w gv V F) (hs:∀ b,F b→w'.heap[b]? = w.heap[b]?):VB w' gv V F:=by
 obtain ⟨gr,jv,F1,h1,h2,h3,h4⟩:=h
 exact ⟨gr,jv,F1,h1.same (hs gv ((h4 gv).2 (Or.inl rfl))),h2.keep fun b hb=>hs b ((h4 b).2 (Or.inr hb)),h3,h4⟩
theorem VB.lt (h:VB w gv V F):∀ b,F b→b < w.heap.size:=by
 obtain ⟨gr,jv,F1,h1,h2,h3,h4⟩:=h
 intro b hb
 rcases (h4 b).1 hb with rfl | hb
 ·exact h1.lt
 ·exact h2.lt b hb
def GoOk (V:MV):Prop:=((V.doing = 1∨V.doing = 2)∧∃ J,V.job = some J∧RoundsOk (J,V.M)∧(V.busyR = false→StopsIn 5 (J,V.M)))∨(V.doing≠1∧V.doing≠2)
end
def VPo (gr:Nat) (jv:Value) (V':MV) (g:Nat) (F:Nat→Prop) (Val:Value) (w:World) (en:Ending) (w':World):Prop :=
 en = .returned Val∧Bk w' g 126 ((ver V').l (.pointer (some ⟨gr,0,none⟩)) jv).toArray∧ChgP (fun b=>b = g∨F b) w w'∧∃ F':Nat→Prop,RJo gr jv V'.M V'.job w' F'∧¬ F' g∧(∀ b,F' b→b < w'.heap.size)∧∀ b,F' b→F b∨w.heap.size≤b
theorem go_mem (V:MV) (g gr:Nat) (jv:Value) (w:World) (F:Nat→Prop) (hb:Bk w g 126 ((ver V).l (.pointer (some ⟨gr,0,none⟩)) jv).toArray) (h:RJo gr jv V.M V.job w F) (hg:¬ F g) (ok:GoOk V) :
  Calls Tryz.prog 56 #[.pointer (some ⟨g,2,none⟩)] w (VPo gr jv V.advance g F (.tuple #[]) w):=by
 rcases ok with ⟨hd,J,hj,ro,st⟩ | ⟨hd1,hd2⟩
 ·rw [hj] at h
  obtain ⟨r,e1,e2,e3,e4⟩:=adv_model hj hd st
  refine (adv_mem (ver V) g gr jv (J,V.M) w F hb h hg ro st).mono fun en w' hp=>?_
  obtain ⟨p1,p2,p3,F',p4,p5,p6,p7⟩:=hp
  rw [e1] at p4
  refine ⟨p1,by rw [e2];exact p2,p3,F',?_,p5,p6,p7⟩
  rw [e3,e4]
  exact p_even.1 p4
 ·have hq:=advl_any (Φ:=⟨fun _ w F=>RJo gr jv V.M V.job w F,fun _ _ _ _ h hs=>h.keep hs⟩) (F:=F) (ver V) ⟨gr,0,none⟩ jv V.busyR g w hb h.one (by show (V.doing==1) = false;simp [hd1]) (by show (V.doing==2) = false;simp [hd2])
   (fun w F hP _=>rjo_rite hP (fun Fr h1=>rbusy_x h1) _ 0 fun w F h=>h) h hg h.lt
  refine hq.mono fun en w' hp=>?_
  obtain ⟨p1,p2,p3,F',p4,p5,p6,p7⟩:=hp
  have e:V.advance.M = V.M∧V.advance.job = V.job∧ver V.advance = (bif !((ver V).doing==0) then bif !V.busyR then ({ ver V with doing:=0 }:GVer) else ver V else ver V):=by
   unfold MV.advance
   by_cases h0:V.doing = 0
   ·rw [adv_quiet (quiet_idle h0)]
    refine ⟨rfl,rfl,?_⟩
    show ver V = bif !(V.doing==0) then _ else _
    rw [h0];rfl
   ·have h0':(V.doing==0) = false:=by simp [h0]
    cases hb:V.busyR with
    | true =>
     rw [adv_quiet (quiet_busy hb)]
     refine ⟨rfl,rfl,?_⟩
     show ver V = bif !(V.doing==0) then _ else _
     rw [h0'];rfl
    | false =>
     rw [adv_step (quiet_not hb h0),adv1_idle hd1 hd2,adv_quiet (quiet_idle rfl)]
     refine ⟨rfl,rfl,?_⟩
     show ver { V with doing:=0 } = bif !(V.doing==0) then _ else _
     rw [h0'];rfl
  refine ⟨p1,by rw [e.2.2];exact p2,p3,F',by rw [e.1,e.2.1];exact p4,p5,p6,p7⟩
end Go.Proofs.YtaipogljokblkaaGreatDoor
