/- Core: CR1, RB, CRr, CRs, CRn, CRtM, CRbM, CRq, CPr. -/
import Derived.Test.YtaipogljokblkaaGreatDoorZ13
import Derived.Test.YtaipogljokblkaaGreatDoorZ08
import Derived.Test.YtaipogljokblkaaGreatDoorZ12
import Derived.Test.YtaipogljokblkaaGreatDoorZ09
import Derived.Test.YtaipogljokblkaaGreatDoorZ15
set_option linter.all false
set_option maxRecDepth 100000
set_option maxHeartbeats 8000000
namespace Go.Proofs.YtaipogljokblkaaGreatDoor
open Go Go.RowKit
set_option linter.unusedSimpArgs false
set_option linter.unusedVariables false
set_option linter.unusedSectionVars false
def rlcE (R:Xa) (c:Xg):Env:=mkV [R.iL,c.ii] [R.bb,c.bb] [R.seen.v,R.doomed.v,R.notes.v] (Yk rfl)
def rlxE (R:Xa) (x:Xi):Env:=mkV [R.iL,x.ii] [R.bb,x.bb] [R.seen.v,R.doomed.v,R.notes.v] (Yk rfl)
def rL0:List SC:=(ct [vs 0 8,[.bool (.var 0)],vs 8 4,[.bool (.var 1)],vs 12 13,[.bool (.var 2)],vs 25 4,[.bool (.var 3)],vs 29 4,[.bool (.var 4)],vs 33 4,[.bool (.var 5),.int (.var 37),.slc 0 (.var 38),.slc 1 (.var 39)],vs 40 8,[.bool (.var 6)],vs 48 4,[.bool (.var 7)],vs 52 4,[.bool (.var 8)],vs 56 4,[.bool (.var 9)],vs 60 4,[.bool (.var 10)],vs 64 4,[.bool (.var 11)],vs 68 4,[.bool (.var 12)],vs 72 4,[.bool (.var 13)],vs 76 4,[.bool (.var 14),.bool (.var 15),.int (.var 80),.int (.var 81),.slc 2 (.var 82)],vs 83 5,[.bool (.var 16),.bool (.var 17)]])
def Yc (g:Nat) (R:Xa):List Nat:=g :: (R.notes.v.ownBlock.toList++(R.doomed.v.ownBlock.toList++R.seen.v.ownBlock.toList))
structure RB (w:World) (g:Nat) (R:Xa) (ns ds:List Xp) (ss:List Xf):Prop where
 bk:Bk w g 171 R.l.toArray
 on:Own w 201 7 R.notes.v ns.length (rows Xp.l ns)
 od:Own w 201 7 R.doomed.v ds.length (rows Xp.l ds)
 os:Own w 51 5 R.seen.v ss.length (rows Xf.l ss)
 gn:R.notes.v.ownBlock≠some g
 gd:R.doomed.v.ownBlock≠some g
 gs:R.seen.v.ownBlock≠some g
 nd:∀ b,R.notes.v.ownBlock = some b→R.doomed.v.ownBlock≠some b
 ns:∀ b,R.notes.v.ownBlock = some b→R.seen.v.ownBlock≠some b
 ds:∀ b,R.doomed.v.ownBlock = some b→R.seen.v.ownBlock≠some b
section
variable {w w':World} {g:Nat} {R R':Xa} {ns ds ds':List Xp} {ss ss':List Xf} {F:List Nat}
theorem Xk {b:Nat}:b∈Yc g R↔b = g∨R.notes.v.ownBlock = some b∨R.doomed.v.ownBlock = some b∨R.seen.v.ownBlock = some b:=by
 simp only [Yc,List.mem_cons,List.mem_append,Option.mem_toList]
theorem Own.chg {E:TypeId} {sz n:Nat} {v:Value} {xs:List Value} (h:Own w E sz v n xs) (hc:Chg F w w') (hF:∀ b,v.ownBlock = some b→b ∉ F):Own w' E sz v n xs :=
 h.kept fun b hb=>hc.far b (h.lt hb) (hF b hb)
theorem RB.lt (h:RB w g R ns ds ss):∀ b∈Yc g R,b < w.heap.size:=fun b hb=>by
 rcases Xk.1 hb with rfl | h1 | h1 | h1
 ·exact h.bk.lt
 ·exact h.on.lt h1
 ·exact h.od.lt h1
 ·exact h.os.lt h1
theorem RB.chg (h:RB w g R ns ds ss) (hc:Chg F w w') (hF:∀ b∈Yc g R,b ∉ F):RB w' g R ns ds ss :=
 ⟨h.bk.chg hc (hF g (Xk.2 (Or.inl rfl))),h.on.chg hc fun b hb=>hF b (Xk.2 (Or.inr (Or.inl hb))),h.od.chg hc fun b hb=>hF b (Xk.2 (Or.inr (Or.inr (Or.inl hb)))),h.os.chg hc fun b hb=>hF b (Xk.2 (Or.inr (Or.inr (Or.inr hb)))),h.gn,h.gd,h.gs,h.nd,h.ns,h.ds⟩
theorem RB.upd (h:RB w g R ns ds ss) (hb:Bk w' g 171 R'.l.toArray) (hc:Chg [g] w w') (hn:R'.notes = R.notes) (hd:(R'.doomed = R.doomed∧ds' = ds)∨(R'.doomed = nilSl∧ds' = [])) (hs:(R'.seen = R.seen∧ss' = ss)∨(R'.seen = nilSl∧ss' = [])) :
  RB w' g R' ns ds' ss':=by
 have far:∀ {v:Value},v.ownBlock≠some g→∀ b,v.ownBlock = some b→b ∉ [g]:=fun hv b hb hm=>by rw [List.mem_singleton.1 hm] at hb;exact hv hb
 have e0:nilSl.v.ownBlock = none:=rfl
 have on':=h.on.chg hc (far h.gn)
 have od':=h.od.chg hc (far h.gd)
 have os':=h.os.chg hc (far h.gs)
 have nl:∀ {E:TypeId} {sz:Nat},Own w' E sz nilSl.v 0 []:=Own.nil
 rcases hd with ⟨d1,rfl⟩ | ⟨d1,rfl⟩ <;> rcases hs with ⟨s1,rfl⟩ | ⟨s1,rfl⟩
 ·exact ⟨hb,hn ▸ on',d1 ▸ od',s1 ▸ os',hn ▸ h.gn,d1 ▸ h.gd,s1 ▸ h.gs,by rw [hn,d1];exact h.nd,by rw [hn,s1];exact h.ns,by rw [d1,s1];exact h.ds⟩
 ·exact ⟨hb,hn ▸ on',d1 ▸ od',by rw [s1];exact nl,hn ▸ h.gn,d1 ▸ h.gd,by rw [s1,e0];simp,by rw [hn,d1];exact h.nd,by rw [hn,s1];intro b _;simp [e0],by rw [d1,s1];intro b _;simp [e0]⟩
 ·exact ⟨hb,hn ▸ on',by rw [d1];exact nl,s1 ▸ os',hn ▸ h.gn,by rw [d1,e0];simp,s1 ▸ h.gs,by rw [hn,d1];intro b _;simp [e0],by rw [hn,s1];exact h.ns,by rw [d1,s1];intro b hb;simp [e0] at hb⟩
 ·exact ⟨hb,hn ▸ on',by rw [d1];exact nl,by rw [s1];exact nl,hn ▸ h.gn,by rw [d1,e0];simp,by rw [s1,e0];simp,by rw [hn,d1];intro b _;simp [e0],by rw [hn,s1];intro b _;simp [e0],by rw [d1,s1];intro b _;simp [e0]⟩
theorem Chg.of_grown {b:Nat} {row:Option Nat} (h:w.grownBy w' row) (hr:∀ b,row = some b→b∈F):Chg F w w' :=
 ⟨h.os,h.tape,h.output,h.size,fun b hb hf=>h.block b hb (fun e=>hf (hr b e.symm))⟩
end
def ref_env (x:Xf):Env:=mkE [x.ii] [[x.mark]]
def ref_st:St:=⟨[],[],[],10,0⟩
def ref_args:List SV:=[.agg ((ct [vs 0 4,[.bool (.var 0)]]))]
theorem ref_any (x:Xf) (w:World) :Calls Tryz.prog 67 #[.agg x.l.toArray] w fun en w'=>en = .returned (.agg (wref x).l.toArray)∧Chg [] w w':=by
 refine p0 (ref_env x) [] 60 ref_st ref_args (wref x) (fun r=>(.agg r.l.toArray)) Xd asN ?_
 exact vS5
def era_env :Env:=mkE [] []
def era_st:St:=⟨[],[],[],10,0⟩
def era_args:List SV:=[]
theorem era_any  (w:World) :Calls Tryz.prog 43 #[] w fun en w'=>en = .returned (.agg (root 24).l.toArray)∧Chg [] w w':=by
 refine p0 (era_env ) [] 60 era_st era_args (root 24) (fun r=>(.agg r.l.toArray)) Xd asN ?_
 exact vS5
def hear_env (x:Xf):Env:=mkE [x.ii] [[x.mark]]
def hear_st:St:=⟨[],[],[],10,0⟩
def hear_args:List SV:=[.agg ((ct [vs 0 4,[.bool (.var 0)]]))]
theorem hear_any (x:Xf) (w:World) :Calls Tryz.prog 112 #[.agg x.l.toArray] w fun en w'=>en = .returned (.agg (hear x).l.toArray)∧Chg [] w w':=by
 refine p0 (hear_env x) [] 60 hear_st hear_args (hear x) (fun r=>(.agg r.l.toArray)) Xd asN ?_
 exact vS5
def rdone_env (R:Xa):Env:=mkV [R.ii] [R.bb] [R.seen.v,R.doomed.v,R.notes.v] (Yk rfl)
def rdone_st:St:=⟨[],[(1,171,(ct [vs 0 8,[.bool (.var 0)],vs 8 4,[.bool (.var 1)],vs 12 13,[.bool (.var 2)],vs 25 4,[.bool (.var 3)],vs 29 4,[.bool (.var 4)],vs 33 4,[.bool (.var 5),.int (.var 37),.raw 0,.raw 1],vs 38 8,[.bool (.var 6)],vs 46 4,[.bool (.var 7)],vs 50 4,[.bool (.var 8)],vs 54 4,[.bool (.var 9)],vs 58 4,[.bool (.var 10)],vs 62 4,[.bool (.var 11)],vs 66 4,[.bool (.var 12)],vs 70 4,[.bool (.var 13)],vs 74 4,[.bool (.var 14),.bool (.var 15),.int (.var 78),.int (.var 79),.raw 2],vs 80 5,[.bool (.var 16),.bool (.var 17)]]))],[],10,0⟩
def rdone_args:List SV:=[.c (.ptr 1 0)]
theorem rdone_any (R:Xa) (g1:Nat) (w:World) (h1:Bk w g1 171 (R.l).toArray):Calls Tryz.prog 75 #[.pointer (some ⟨g1,0,none⟩)] w fun en w'=>en = .returned (.tuple #[])∧Bk w' g1 171 ((Xa.done R).l).toArray∧Chg [g1] w w':=by
 refine p1 (rdone_env R) [] 120 rdone_st rdone_args (Xa.done R) (fun r=>(.tuple #[],(r.l).toArray)) Xd asN h1 ?_
 exact vS1
def rload_env (R:Xa) (st:Int) (ad:Yj):Env:=mkV [R.ii,[st],ad.ii] [R.bb] [R.seen.v,R.doomed.v,R.notes.v] (Yk rfl)
def rload_st:St:=⟨[],[(1,171,(ct [vs 0 8,[.bool (.var 0)],vs 8 4,[.bool (.var 1)],vs 12 13,[.bool (.var 2)],vs 25 4,[.bool (.var 3)],vs 29 4,[.bool (.var 4)],vs 33 4,[.bool (.var 5),.int (.var 37),.raw 0,.raw 1],vs 38 8,[.bool (.var 6)],vs 46 4,[.bool (.var 7)],vs 50 4,[.bool (.var 8)],vs 54 4,[.bool (.var 9)],vs 58 4,[.bool (.var 10)],vs 62 4,[.bool (.var 11)],vs 66 4,[.bool (.var 12)],vs 70 4,[.bool (.var 13)],vs 74 4,[.bool (.var 14),.bool (.var 15),.int (.var 78),.int (.var 79),.raw 2],vs 80 5,[.bool (.var 16),.bool (.var 17)]]))],[],10,0⟩
def rload_args:List SV:=[.c (.ptr 1 0),.c (.int (.var 85)),.agg (vs 86 3)]
theorem rload_any (R:Xa) (st:Int) (ad:Yj) (g1:Nat) (w:World) (h1:Bk w g1 171 (R.l).toArray):Calls Tryz.prog 89 #[.pointer (some ⟨g1,0,none⟩),.int .i64 st,.agg ad.l.toArray] w fun en w'=>en = .returned (.tuple #[])∧Bk w' g1 171 ((Xa.load R st ad).l).toArray∧Chg [g1] w w':=by
 refine p1 (rload_env R st ad) [] 120 rload_st rload_args (Xa.load R st ad) (fun r=>(.tuple #[],(r.l).toArray)) Xd asN h1 ?_
 exact vS1
def rask_env (R:Xa) (st:Int) (ac:GAcc):Env:=mkV [R.ii,[st],ac.ii] [R.bb,ac.bb] [R.seen.v,R.doomed.v,R.notes.v] (Yk rfl)
def rask_st:St:=⟨[],[(1,171,(ct [vs 0 8,[.bool (.var 0)],vs 8 4,[.bool (.var 1)],vs 12 13,[.bool (.var 2)],vs 25 4,[.bool (.var 3)],vs 29 4,[.bool (.var 4)],vs 33 4,[.bool (.var 5),.int (.var 37),.raw 0,.raw 1],vs 38 8,[.bool (.var 6)],vs 46 4,[.bool (.var 7)],vs 50 4,[.bool (.var 8)],vs 54 4,[.bool (.var 9)],vs 58 4,[.bool (.var 10)],vs 62 4,[.bool (.var 11)],vs 66 4,[.bool (.var 12)],vs 70 4,[.bool (.var 13)],vs 74 4,[.bool (.var 14),.bool (.var 15),.int (.var 78),.int (.var 79),.raw 2],vs 80 5,[.bool (.var 16),.bool (.var 17)]]))],[],10,0⟩
def rask_args:List SV:=[.c (.ptr 1 0),.c (.int (.var 85)),.agg ((ct [vs 86 8,[.bool (.var 18)],vs 94 4,[.bool (.var 19)]]))]
theorem rask_any (R:Xa) (st:Int) (ac:GAcc) (g1:Nat) (w:World) (h1:Bk w g1 171 (R.l).toArray):Calls Tryz.prog 78 #[.pointer (some ⟨g1,0,none⟩),.int .i64 st,.agg ac.l.toArray] w fun en w'=>en = .returned (.tuple #[])∧Bk w' g1 171 ((Xa.ask R st ac).l).toArray∧Chg [g1] w w':=by
 refine p1 (rask_env R st ac) [] 120 rask_st rask_args (Xa.ask R st ac) (fun r=>(.tuple #[],(r.l).toArray)) Xd asN h1 ?_
 exact vS1
def radv_env (R:Xa) (st:Int):Env:=mkV [R.ii,[st]] [R.bb] [R.seen.v,R.doomed.v,R.notes.v] (Yk rfl)
def radv_st:St:=⟨[],[(1,171,(ct [vs 0 8,[.bool (.var 0)],vs 8 4,[.bool (.var 1)],vs 12 13,[.bool (.var 2)],vs 25 4,[.bool (.var 3)],vs 29 4,[.bool (.var 4)],vs 33 4,[.bool (.var 5),.int (.var 37),.raw 0,.raw 1],vs 38 8,[.bool (.var 6)],vs 46 4,[.bool (.var 7)],vs 50 4,[.bool (.var 8)],vs 54 4,[.bool (.var 9)],vs 58 4,[.bool (.var 10)],vs 62 4,[.bool (.var 11)],vs 66 4,[.bool (.var 12)],vs 70 4,[.bool (.var 13)],vs 74 4,[.bool (.var 14),.bool (.var 15),.int (.var 78),.int (.var 79),.raw 2],vs 80 5,[.bool (.var 16),.bool (.var 17)]]))],[],10,0⟩
def radv_args:List SV:=[.c (.ptr 1 0),.c (.int (.var 85))]
theorem radv_any (R:Xa) (st:Int) (g1:Nat) (w:World) (h1:Bk w g1 171 (R.l).toArray):Calls Tryz.prog 94 #[.pointer (some ⟨g1,0,none⟩),.int .i64 st] w fun en w'=>en = .returned (.tuple #[])∧Bk w' g1 171 ((Xa.advance R st).l).toArray∧Chg [g1] w w':=by
 refine p1 (radv_env R st) [] 120 radv_st radv_args (Xa.advance R st) (fun r=>(.tuple #[],(r.l).toArray)) Xd asN h1 ?_
 exact vS1
def rdating_env (R:Xa):Env:=mkV [R.ii] [R.bb] [R.seen.v,R.doomed.v,R.notes.v] (Yk rfl)
def rdating_st:St:=⟨[],[(1,171,(ct [vs 0 8,[.bool (.var 0)],vs 8 4,[.bool (.var 1)],vs 12 13,[.bool (.var 2)],vs 25 4,[.bool (.var 3)],vs 29 4,[.bool (.var 4)],vs 33 4,[.bool (.var 5),.int (.var 37),.raw 0,.raw 1],vs 38 8,[.bool (.var 6)],vs 46 4,[.bool (.var 7)],vs 50 4,[.bool (.var 8)],vs 54 4,[.bool (.var 9)],vs 58 4,[.bool (.var 10)],vs 62 4,[.bool (.var 11)],vs 66 4,[.bool (.var 12)],vs 70 4,[.bool (.var 13)],vs 74 4,[.bool (.var 14),.bool (.var 15),.int (.var 78),.int (.var 79),.raw 2],vs 80 5,[.bool (.var 16),.bool (.var 17)]]))],[],10,0⟩
def rdating_args:List SV:=[.c (.ptr 1 0)]
theorem rdating_any (R:Xa) (g1:Nat) (w:World) (h1:Bk w g1 171 (R.l).toArray):Calls Tryz.prog 90 #[.pointer (some ⟨g1,0,none⟩)] w fun en w'=>en = .returned (.bool ((R,Xa.dating R)).2)∧Bk w' g1 171 (((R,Xa.dating R)).1.l).toArray∧Chg [g1] w w':=by
 refine p1 (rdating_env R) [] 120 rdating_st rdating_args ((R,Xa.dating R)) (fun r=>(.bool r.2,(r.1.l).toArray)) Xd asN h1 ?_
 refine po_eq (show _ = (bif R.engine==3 then (R,true) else (R,R.engine==5)) by rw [un_da];cases R.engine==3 <;> rfl) ?_
 exact vS1
def rnext_env (R:Xa):Env:=mkV [R.ii] [R.bb] [R.seen.v,R.doomed.v,R.notes.v] (Yk rfl)
def rnext_st:St:=⟨[],[(1,171,(ct [vs 0 8,[.bool (.var 0)],vs 8 4,[.bool (.var 1)],vs 12 13,[.bool (.var 2)],vs 25 4,[.bool (.var 3)],vs 29 4,[.bool (.var 4)],vs 33 4,[.bool (.var 5),.int (.var 37),.raw 0,.raw 1],vs 38 8,[.bool (.var 6)],vs 46 4,[.bool (.var 7)],vs 50 4,[.bool (.var 8)],vs 54 4,[.bool (.var 9)],vs 58 4,[.bool (.var 10)],vs 62 4,[.bool (.var 11)],vs 66 4,[.bool (.var 12)],vs 70 4,[.bool (.var 13)],vs 74 4,[.bool (.var 14),.bool (.var 15),.int (.var 78),.int (.var 79),.raw 2],vs 80 5,[.bool (.var 16),.bool (.var 17)]]))],[],10,0⟩
def rnext_args:List SV:=[.c (.ptr 1 0)]
theorem rnext_any (R:Xa) (g1:Nat) (w:World) (h1:Bk w g1 171 (R.l).toArray):Calls Tryz.prog 57 #[.pointer (some ⟨g1,0,none⟩)] w fun en w'=>en = .returned (.tuple #[.agg ((bif R.step==0 then GAcc.zero else R.acc,!(R.step==0))).1.l.toArray,.bool ((bif R.step==0 then GAcc.zero else R.acc,!(R.step==0))).2])∧Bk w' g1 171 (R.l).toArray∧Chg [g1] w w':=by
 refine p1 (rnext_env R) [] 120 rnext_st rnext_args ((bif R.step==0 then GAcc.zero else R.acc,!(R.step==0))) (fun r=>(.tuple #[.agg r.1.l.toArray,.bool r.2],(R.l).toArray)) Xd asN h1 ?_
 refine po_eq (show _ = (bif R.step==0 then (GAcc.zero,false) else (R.acc,true)) by cases R.step==0 <;> rfl) ?_
 exact vS1
def rreply_env (R:Xa):Env:=mkV [R.ii] [R.bb] [R.seen.v,R.doomed.v,R.notes.v] (Yk rfl)
def rreply_st:St:=⟨[],[(1,171,(ct [vs 0 8,[.bool (.var 0)],vs 8 4,[.bool (.var 1)],vs 12 13,[.bool (.var 2)],vs 25 4,[.bool (.var 3)],vs 29 4,[.bool (.var 4)],vs 33 4,[.bool (.var 5),.int (.var 37),.raw 0,.raw 1],vs 38 8,[.bool (.var 6)],vs 46 4,[.bool (.var 7)],vs 50 4,[.bool (.var 8)],vs 54 4,[.bool (.var 9)],vs 58 4,[.bool (.var 10)],vs 62 4,[.bool (.var 11)],vs 66 4,[.bool (.var 12)],vs 70 4,[.bool (.var 13)],vs 74 4,[.bool (.var 14),.bool (.var 15),.int (.var 78),.int (.var 79),.raw 2],vs 80 5,[.bool (.var 16),.bool (.var 17)]]))],[],10,0⟩
def rreply_args:List SV:=[.c (.ptr 1 0)]
theorem rreply_any (R:Xa) (g1:Nat) (w:World) (h1:Bk w g1 171 (R.l).toArray):Calls Tryz.prog 73 #[.pointer (some ⟨g1,0,none⟩)] w fun en w'=>en = .returned (.agg (R).reply.l.toArray)∧Bk w' g1 171 ((R).l).toArray∧Chg [g1] w w':=by
 refine p1 (rreply_env R) [] 120 rreply_st rreply_args (R) (fun r=>(.agg r.reply.l.toArray,(r.l).toArray)) Xd asN h1 ?_
 exact vS1
def rbusy_env (R:Xa):Env:=mkV [R.ii] [R.bb] [R.seen.v,R.doomed.v,R.notes.v] (Yk rfl)
def rbusy_st:St:=⟨[],[(1,171,(ct [vs 0 8,[.bool (.var 0)],vs 8 4,[.bool (.var 1)],vs 12 13,[.bool (.var 2)],vs 25 4,[.bool (.var 3)],vs 29 4,[.bool (.var 4)],vs 33 4,[.bool (.var 5),.int (.var 37),.raw 0,.raw 1],vs 38 8,[.bool (.var 6)],vs 46 4,[.bool (.var 7)],vs 50 4,[.bool (.var 8)],vs 54 4,[.bool (.var 9)],vs 58 4,[.bool (.var 10)],vs 62 4,[.bool (.var 11)],vs 66 4,[.bool (.var 12)],vs 70 4,[.bool (.var 13)],vs 74 4,[.bool (.var 14),.bool (.var 15),.int (.var 78),.int (.var 79),.raw 2],vs 80 5,[.bool (.var 16),.bool (.var 17)]]))],[],10,0⟩
def rbusy_args:List SV:=[.c (.ptr 1 0)]
theorem rbusy_any (R:Xa) (g1:Nat) (w:World) (h1:Bk w g1 171 (R.l).toArray):Calls Tryz.prog 72 #[.pointer (some ⟨g1,0,none⟩)] w fun en w'=>en = .returned (.bool (!((R).step==0)))∧Bk w' g1 171 ((R).l).toArray∧Chg [g1] w w':=by
 refine p1 (rbusy_env R) [] 120 rbusy_st rbusy_args (R) (fun r=>(.bool (!(r.step==0)),(r.l).toArray)) Xd asN h1 ?_
 exact vS1
def rlnE (R:Xa):Env:=mkV [R.iL] [R.bb] [R.seen.v,R.doomed.v,R.notes.v] (Yk rfl)
def rnoted_st:St:=⟨[],[(1,171,rL0)],[(.le (.lit 0) (.var 82),true)],10,0⟩
def rnoted_args:List SV:=[.c (.ptr 1 0)]
theorem rnoted_any (R:Xa) (g1:Nat) (w:World) (h1:Bk w g1 171 (R.l).toArray):Calls Tryz.prog 95 #[.pointer (some ⟨g1,0,none⟩)] w fun en w'=>en = .returned (.tuple #[])∧Bk w' g1 171 ((Xa.noted R).l).toArray∧Chg [g1] w w':=by
 refine p1 (rlnE R) [] 120 rnoted_st rnoted_args (Xa.noted R) (fun r=>(.tuple #[],(r.l).toArray)) Xd (asC (decide_eq_true (Int.natCast_nonneg _)) asN) h1 ?_
 exact vS1
def rt9_st:St:=⟨[],[(1,171,pt rL0 [(18,[.int (.lit 9)])])],[],10,0⟩
def rt9_args:List SV:=[.c (.ptr 1 0),.agg ((ct [vs 88 4,[.bool (.var 18),.bool (.var 19)]]))]
theorem rt9_any (R:Xa) (x:Xi) (g1:Nat) (w:World) (h1:Bk w g1 171 (({ R with step:=9 }:Xa).l).toArray):Calls Tryz.prog 58 #[.pointer (some ⟨g1,0,none⟩),.agg x.l.toArray] w fun en w'=>en = .returned (.nilIface)∧Bk w' g1 171 ((Xa.load { ({ R with step:=9 }:Xa) with word:=x.word } 10 (root 24)).l).toArray∧Chg [g1] w w':=by
 refine p1 (rlxE R x) [] 120 rt9_st rt9_args (Xa.load { ({ R with step:=9 }:Xa) with word:=x.word } 10 (root 24)) (fun r=>(.nilIface,(r.l).toArray)) Xd asN h1 ?_
 exact vS1
def rt11_st:St:=⟨[],[(1,171,pt rL0 [(18,[.int (.lit 11)])])],[(.le (.lit 0) (.var 82),true)],10,0⟩
def rt11_args:List SV:=[.c (.ptr 1 0),.agg ((ct [vs 88 4,[.bool (.var 18),.bool (.var 19)]]))]
theorem rt11_any (R:Xa) (x:Xi) (g1:Nat) (w:World) (h1:Bk w g1 171 (({ R with step:=11 }:Xa).l).toArray):Calls Tryz.prog 58 #[.pointer (some ⟨g1,0,none⟩),.agg x.l.toArray] w fun en w'=>en = .returned (.nilIface)∧Bk w' g1 171 ((Xa.noted ({ R with step:=11 }:Xa)).l).toArray∧Chg [g1] w w':=by
 refine p1 (rlxE R x) [] 120 rt11_st rt11_args (Xa.noted ({ R with step:=11 }:Xa)) (fun r=>(.nilIface,(r.l).toArray)) Xd (asC (decide_eq_true (Int.natCast_nonneg _)) asN) h1 ?_
 exact vS1
def rt12_st:St:=⟨[],[(1,171,pt rL0 [(18,[.int (.lit 12)])])],[],10,0⟩
def rt12_args:List SV:=[.c (.ptr 1 0),.agg ((ct [vs 88 4,[.bool (.var 18),.bool (.var 19)]]))]
theorem rt12_any (R:Xa) (x:Xi) (g1:Nat) (w:World) (h1:Bk w g1 171 (({ R with step:=12 }:Xa).l).toArray):Calls Tryz.prog 58 #[.pointer (some ⟨g1,0,none⟩),.agg x.l.toArray] w fun en w'=>en = .returned (.nilIface)∧Bk w' g1 171 (((Xa.look { ({ R with step:=12 }:Xa) with clock:=x.word } 0).1).l).toArray∧Chg [g1] w w':=by
 refine p1 (rlxE R x) [] 120 rt12_st rt12_args ((Xa.look { ({ R with step:=12 }:Xa) with clock:=x.word } 0).1) (fun r=>(.nilIface,(r.l).toArray)) Xd asN h1 ?_
 exact vS1
def rt14_st:St:=⟨[],[(1,171,pt rL0 [(18,[.int (.lit 14)])])],[],10,0⟩
def rt14_args:List SV:=[.c (.ptr 1 0),.agg ((ct [vs 88 4,[.bool (.var 18),.bool (.var 19)]]))]
theorem rt14_any (R:Xa) (x:Xi) (g1:Nat) (w:World) (h1:Bk w g1 171 (({ R with step:=14 }:Xa).l).toArray):Calls Tryz.prog 58 #[.pointer (some ⟨g1,0,none⟩),.agg x.l.toArray] w fun en w'=>en = .returned (.nilIface)∧Bk w' g1 171 ((Xa.load ({ R with step:=14 }:Xa) 15 (root 24)).l).toArray∧Chg [g1] w w':=by
 refine p1 (rlxE R x) [] 120 rt14_st rt14_args (Xa.load ({ R with step:=14 }:Xa) 15 (root 24)) (fun r=>(.nilIface,(r.l).toArray)) Xd asN h1 ?_
 exact vS1
def rb11_st:St:=⟨[],[(1,171,pt rC0 [(18,[.int (.lit 0)])])],[],10,0⟩
def rb11_args:List SV:=[.c (.ptr 1 0),.agg ((ct [[.int (.lit 11)],vs 86 7,[.bool (.var 18)],vs 93 4,[.bool (.var 19)],vs 97 4]))]
theorem rb11_any (R:Xa) (c:Xg) (g1:Nat) (w:World) (h1:Bk w g1 171 (({ R with step:=0 }:Xa).l).toArray):Calls Tryz.prog 71 #[.pointer (some ⟨g1,0,none⟩),.agg ({ c with kind:=11 }:Xg).l.toArray] w fun en w'=>en = .returned (.nilIface)∧Bk w' g1 171 ((Xa.scan (Xa.turn ({ R with step:=0 }:Xa) ({ c with kind:=11 }:Xg))).l).toArray∧Chg [g1] w w':=by
 refine p1 (rcE R c) [] 120 rb11_st rb11_args (Xa.scan (Xa.turn ({ R with step:=0 }:Xa) ({ c with kind:=11 }:Xg))) (fun r=>(.nilIface,(r.l).toArray)) Xd asN h1 ?_
 exact vS1
def rb10_e1_st:St:=⟨[],[(1,171,pt rC0 [(18,[.int (.lit 0)]),(46,[.int (.lit 1)])])],[],10,0⟩
def rb10_e1_args:List SV:=[.c (.ptr 1 0),.agg ((ct [[.int (.lit 10)],vs 86 7,[.bool (.var 18)],vs 93 4,[.bool (.var 19)],vs 97 4]))]
theorem rb10_e1_any (R:Xa) (c:Xg) (g1:Nat) (w:World) (h1:Bk w g1 171 (({ R with step:=0,engine:=1 }:Xa).l).toArray):Calls Tryz.prog 71 #[.pointer (some ⟨g1,0,none⟩),.agg ({ c with kind:=10 }:Xg).l.toArray] w fun en w'=>en = .returned (.nilIface)∧Bk w' g1 171 ((Xa.retire1 (Xa.turn ({ R with step:=0,engine:=1 }:Xa) ({ c with kind:=10 }:Xg))).l).toArray∧Chg [g1] w w':=by
 refine p1 (rcE R c) [] 120 rb10_e1_st rb10_e1_args (Xa.retire1 (Xa.turn ({ R with step:=0,engine:=1 }:Xa) ({ c with kind:=10 }:Xg))) (fun r=>(.nilIface,(r.l).toArray)) Xd asN h1 ?_
 exact vS1
def rb10_e3_st:St:=⟨[],[(1,171,pt rC0 [(18,[.int (.lit 0)]),(46,[.int (.lit 3)])])],[],10,0⟩
def rb10_e3_args:List SV:=[.c (.ptr 1 0),.agg ((ct [[.int (.lit 10)],vs 86 7,[.bool (.var 18)],vs 93 4,[.bool (.var 19)],vs 97 4]))]
theorem rb10_e3_any (R:Xa) (c:Xg) (g1:Nat) (w:World) (h1:Bk w g1 171 (({ R with step:=0,engine:=3 }:Xa).l).toArray):Calls Tryz.prog 71 #[.pointer (some ⟨g1,0,none⟩),.agg ({ c with kind:=10 }:Xg).l.toArray] w fun en w'=>en = .returned (.nilIface)∧Bk w' g1 171 ((Xa.retire1 (Xa.turn ({ R with step:=0,engine:=3 }:Xa) ({ c with kind:=10 }:Xg))).l).toArray∧Chg [g1] w w':=by
 refine p1 (rcE R c) [] 120 rb10_e3_st rb10_e3_args (Xa.retire1 (Xa.turn ({ R with step:=0,engine:=3 }:Xa) ({ c with kind:=10 }:Xg))) (fun r=>(.nilIface,(r.l).toArray)) Xd asN h1 ?_
 exact vS1
def rb10_e4_st:St:=⟨[],[(1,171,pt rC0 [(18,[.int (.lit 0)]),(46,[.int (.lit 4)])])],[],10,0⟩
def rb10_e4_args:List SV:=[.c (.ptr 1 0),.agg ((ct [[.int (.lit 10)],vs 86 7,[.bool (.var 18)],vs 93 4,[.bool (.var 19)],vs 97 4]))]
theorem rb10_e4_any (R:Xa) (c:Xg) (g1:Nat) (w:World) (h1:Bk w g1 171 (({ R with step:=0,engine:=4 }:Xa).l).toArray):Calls Tryz.prog 71 #[.pointer (some ⟨g1,0,none⟩),.agg ({ c with kind:=10 }:Xg).l.toArray] w fun en w'=>en = .returned (.nilIface)∧Bk w' g1 171 ((Xa.retire1 (Xa.turn ({ R with step:=0,engine:=4 }:Xa) ({ c with kind:=10 }:Xg))).l).toArray∧Chg [g1] w w':=by
 refine p1 (rcE R c) [] 120 rb10_e4_st rb10_e4_args (Xa.retire1 (Xa.turn ({ R with step:=0,engine:=4 }:Xa) ({ c with kind:=10 }:Xg))) (fun r=>(.nilIface,(r.l).toArray)) Xd asN h1 ?_
 exact vS1
def rb10_e5_st:St:=⟨[],[(1,171,pt rC0 [(18,[.int (.lit 0)]),(46,[.int (.lit 5)])])],[],10,0⟩
def rb10_e5_args:List SV:=[.c (.ptr 1 0),.agg ((ct [[.int (.lit 10)],vs 86 7,[.bool (.var 18)],vs 93 4,[.bool (.var 19)],vs 97 4]))]
theorem rb10_e5_any (R:Xa) (c:Xg) (g1:Nat) (w:World) (h1:Bk w g1 171 (({ R with step:=0,engine:=5 }:Xa).l).toArray):Calls Tryz.prog 71 #[.pointer (some ⟨g1,0,none⟩),.agg ({ c with kind:=10 }:Xg).l.toArray] w fun en w'=>en = .returned (.nilIface)∧Bk w' g1 171 ((Xa.retire1 (Xa.turn ({ R with step:=0,engine:=5 }:Xa) ({ c with kind:=10 }:Xg))).l).toArray∧Chg [g1] w w':=by
 refine p1 (rcE R c) [] 120 rb10_e5_st rb10_e5_args (Xa.retire1 (Xa.turn ({ R with step:=0,engine:=5 }:Xa) ({ c with kind:=10 }:Xg))) (fun r=>(.nilIface,(r.l).toArray)) Xd asN h1 ?_
 exact vS1
def same_env (x:Xf) (y:Xf):Env:=mkE [x.ii,y.ii] [[x.mark,y.mark]]
def same_st:St:=⟨[],[],[],10,0⟩
def same_args:List SV:=[.agg ((ct [vs 0 4,[.bool (.var 0)]])),.agg ((ct [vs 4 4,[.bool (.var 1)]]))]
theorem same_any (x:Xf) (y:Xf) (w:World) :Calls Tryz.prog 83 #[.agg x.l.toArray,.agg y.l.toArray] w fun en w'=>en = .returned (.bool (wsame x y))∧Chg [] w w':=by
 refine p0 (same_env x y) [] 60 same_st same_args (wsame x y) (fun r=>(.bool r)) Xd asN ?_
 exact vS5
def num_env (n:Int):Env:=mkE [[n]] []
def num_st:St:=⟨[],[],[],10,0⟩
def num_args:List SV:=[.c (.int (.var 0))]
theorem num_any (n:Int) (w:World) :Calls Tryz.prog 44 #[.int .i64 n] w fun en w'=>en = .returned (.agg (wnum n).l.toArray)∧Chg [] w w':=by
 refine p0 (num_env n) [] 60 num_st num_args (wnum n) (fun r=>(.agg r.l.toArray)) Xd asN ?_
 exact vS5
def refused_env (k:Int):Env:=mkE [[k]] []
def refused_st:St:=⟨[],[],[],10,0⟩
def refused_args:List SV:=[.c (.int (.var 0))]
theorem refused_any (k:Int) (w:World) :Calls Tryz.prog 63 #[.int .i64 k] w fun en w'=>en = .returned (.agg (Pl.refused k).l.toArray)∧Chg [] w w':=by
 refine p0 (refused_env k) [] 60 refused_st refused_args (Pl.refused k) (fun r=>(.agg r.l.toArray)) Xd asN ?_
 exact vS5
end Go.Proofs.YtaipogljokblkaaGreatDoor
