/- CoreEngines: one thread alone: whatever it is asked, with room enough, each answer is the same by all five engines. Conditions: the listed variables (errors) are as the program's text lays them. -/
import Derived.Test.YtaipogljokblkaaGreatDoorE33
import Derived.Test.YtaipogljokblkaaGreatDoorE50
import Derived.Test.YtaipogljokblkaaGreatDoorE51
import Derived.Test.YtaipogljokblkaaGreatDoorE01
set_option linter.all false
set_option maxRecDepth 100000
set_option maxHeartbeats 8000000
namespace Go.Proofs.YtaipogljokblkaaGreatDoor.coreEngines
open Go.ChangeShapes Go.WideShapes Go.ChangeAt Go.RowKit
set_option linter.unusedSimpArgs false
set_option linter.unusedVariables false
set_option linter.unusedSectionVars false
theorem ok_int:Tryz.prog.readableRec 3=true/\3<Tryz.prog.types.size:=⟨by kernel_rfl,of_decide_eq_true Zk⟩
theorem ok_ops:Tryz.prog.readableRec 22=true/\22<Tryz.prog.types.size:=⟨by kernel_rfl,of_decide_eq_true Zk⟩
theorem paramsOk:∀t∈Tryz.f3.params.toList,Tryz.prog.readableRec t=true/\t<Tryz.prog.types.size:=by
 rw[Tryz.params3];intro t ht;simp at ht;rcases ht with rfl|rfl
 ·exact ok_int
 ·exact ok_ops
theorem contract(H:Type)(enc:TypeId × Value->H)(W:World)(base:Nat)(args:Array Value)(ds gs:List (DataW H))(before:List MemPlace)
  (hval:∀(j:Nat) t v,Tryz.f3.params[j]?=some t->args[j]?=some v->Value.okWide Tryz.prog W .any base t v)
  (hW:DataW.Whole enc Tryz.prog Tryz.f3.params.toList Rows.coreEnginesSpec.vars false W args.toList ds gs before)(hL:laidMetH Tryz.prog Rows.coreEnginesRow.laid W)(hsh:W.ShapedOpen Tryz.prog):
  Calls Tryz.prog 3 args W λe W'=>∃v,e=.returned v/\Rows.coreEnginesSpec.post enc Tryz.prog Tryz.f3 false true false false W args v W':=by
 have hW':=hW
 obtain⟨p,q,hA0,hV,rfl,hfz,hnd⟩:=hW
 obtain⟨rfl,rfl⟩:=trodVars_none hV
 have hA:DataW.TrodAll enc Tryz.prog W 0 (λ_=>true) true Tryz.f3.params.toList args.toList ds p:=hA0
 have hA1:=hA
 rw[Tryz.params3] at hA hval
 obtain⟨v0,vs0,d0,ds0,p0,q0,hargs,rfl,rfl,h0,r0⟩:=trodAll_cons hA
 obtain⟨v1,vs1,d1,ds1,p1,q1,rfl,rfl,rfl,h1,r1⟩:=trodAll_cons r0
 obtain⟨rfl,rfl,rfl⟩:=trodAll_nil r1
 obtain rfl:args=#[v0,v1]:=by cases args;simp_all
 obtain⟨n0,hn0,_,_,wn0⟩:=open_int Tryz.underlying3 (hval 0 3 v0 rfl rfl) h0
 subst hn0
 obtain⟨A1,c1,x1,hx1,so1⟩:=ops_arg (hval 1 22 v1 rfl rfl) h1
 subst hx1
 have G:=worldOf (show laidMet Tryz.prog laidList W from hL)
 refine(coreEngines_any (λh he k T hT hi hg hs hl0 hl1 hbl=>pick_any h he hT hi hg hs hl0 hl1 hbl) n0 x1 A1 c1 W G so1).mono λe W' ⟨he,hb⟩=>?_
 subst he
 exact ⟨_,rfl,lastStep (pa:=_) (pv:=[]) hW' (fun _ _ _=>trodAll_cons_mk (shut_bool Tryz.underlying4 _) trodAll_mk0) (fun sp hsp=>trodAll_stays laidOut hb paramsOk hA1 (fun x hx=>hW'.lt x (by simpa using hx)) (fun x hx=>hsp x (by simpa using hx))) (fun _ _=>rfl) rfl
  hb (ok_one Zk rfl (okWide_bool_mk Tryz.underlying4 _))⟩
theorem reads(os:Os){H:Type}(enc:TypeId × Value->H):∃places,DataW.whole enc Tryz.prog ((laidWorld os).forCall (λ_ _=>0) ⟨#[],#[.int .i64 0,.slice none 0 0],[]⟩).memory Tryz.f3.params.toList Rows.coreEnginesSpec.vars false (#[.int .i64 0,.slice none 0 0]:Array Value).toList 8=some ([.lit (.int .i64 0),.nil],[],places):=
 ⟨[],by kernel_rfl⟩
theorem lifted(os:Os)(started:os.Started)(H:Type)(enc:TypeId × Value->H)(F:Stop.Interp):
  ReturnsInHanded {} Tryz.checked os 3 .any ((OpenSpec.ofChange Rows.coreEnginesSpec).preRow enc Tryz.prog Tryz.f3 Rows.coreEnginesRow.domain false Rows.coreEnginesRow.laid) (((OpenSpec.ofChange Rows.coreEnginesSpec).at F).post enc Tryz.prog Tryz.f3 false true false false):=by
 obtain⟨places,hx⟩:=reads os enc
 refine returnsInHanded_of_row (C:=Tryz.checked) (s:=OpenSpec.ofChange Rows.coreEnginesSpec) own started Zk Tryz.func3
  (witness_row_at (enc:=enc) (C:=Tryz.checked) false (laidWorld os) #[.int .i64 0,.slice none 0 0] rfl Zk Zk Zk
   (OpenSpec.preRow_of_cond 8 hx Zk (λk hk=>by cases hk) Zk (laid_met os _))) ?_
 intro W base args ds gs before hval hW _ _ _ hL hsh _
 exact contract H enc W base args ds gs before hval hW hL hsh
theorem said:Rows.CoreEnginesSaid:=
 OpenClaim.holds_of_cond 3 Tryz.f3 rfl rfl rfl rfl rfl rfl rfl ⟨rfl,rfl,rfl,rfl,rfl⟩ rfl rfl rfl rfl rfl Zk Tryz.func3 Zk
  (of_decide_eq_true Zk) (by unfold Func.isWrapper;first|(rw[if_pos (by decide+kernel)];kernel_rfl)|(rw[if_neg (by decide+kernel)];exact⟨rfl,rfl⟩))
  (λos started H enc _ F=>by rw[OpenClaim.pre_eq_preRow];exact lifted os started H enc F)
theorem plain(f:FuncId)(fn:Func)(hf:Tryz.pinned.checked.prog.funcNamed "sexton/sextontop.CoreEngines"=some f)(hfn:Tryz.pinned.checked.prog.funcs[f]?=some fn):
  false=Tryz.pinned.checked.prog.looks []/\∀(j:Nat) t,fn.params[j]?=some t->Tryz.pinned.checked.prog.wantsStandIn t=false:=by
 obtain rfl:f=3:=Option.some.inj ((show Tryz.prog.funcNamed "sexton/sextontop.CoreEngines"=some 3 by kernel_rfl).symm.trans hf) |>.symm
 obtain rfl:fn=Tryz.f3:=(Option.some.inj (Tryz.func3.symm.trans hfn)).symm
 refine⟨by kernel_rfl,λj t ht=>?_⟩
 rw[Tryz.params3] at ht
 have hm:=Array.mem_of_getElem? ht
 simp at hm
 rcases hm with rfl|rfl
 ·exact(show Tryz.prog.wantsStandIn 3=false by kernel_rfl)
 ·exact(show Tryz.prog.wantsStandIn 22=false by kernel_rfl)
theorem card:Rows.CoreEnginesCardSaid:=
 Claim7.holds_tied_plain_at .later [] _ _ _ _ said (λ_ h=>by cases h) Zk (λ_ h=>by cases h) coreEngines_row_tie rfl ⟨rfl,rfl⟩ Zk rfl plain Zk
end Go.Proofs.YtaipogljokblkaaGreatDoor.coreEngines
