/- CoreBound: of every script's run by hazard pointers, at every step the slots that a thread has retired, and that aren't freed, are at most the threshold and threads times announcements. Conditions: the listed variables (errors) are as the program's text lays them. -/
import Derived.Test.YtaipogljokblkaaGreatDoorW12
import Derived.Test.YtaipogljokblkaaGreatDoorW50
import Derived.Test.YtaipogljokblkaaGreatDoorW51
import Derived.Test.YtaipogljokblkaaGreatDoorW01
set_option linter.all false
set_option maxRecDepth 100000
set_option maxHeartbeats 8000000
namespace Go.Proofs.YtaipogljokblkaaGreatDoor.coreBound
open Go.ChangeShapes Go.WideShapes Go.ChangeAt Go.RowKit
set_option linter.unusedSimpArgs false
set_option linter.unusedVariables false
set_option linter.unusedSectionVars false
theorem ok_string:Tryz.prog.readableRec 9=true/\9<Tryz.prog.types.size:=⟨by kernel_rfl,of_decide_eq_true Zk⟩
theorem paramsOk:∀t∈Tryz.f5.params.toList,Tryz.prog.readableRec t=true/\t<Tryz.prog.types.size:=by
 rw[Tryz.params5];intro t ht;simp at ht;subst ht;exact ok_string
theorem contract(H:Type)(enc:TypeId × Value->H)(W:World)(base:Nat)(args:Array Value)(ds gs:List (DataW H))(before:List MemPlace)
  (hval:∀(j:Nat) t v,Tryz.f5.params[j]?=some t->args[j]?=some v->Value.okWide Tryz.prog W .any base t v)
  (hW:DataW.Whole enc Tryz.prog Tryz.f5.params.toList Rows.coreBoundSpec.vars false W args.toList ds gs before)(hL:laidMetH Tryz.prog Rows.coreBoundRow.laid W)(hsh:W.ShapedOpen Tryz.prog):
  Calls Tryz.prog 5 args W λe W'=>∃v,e=.returned v/\Rows.coreBoundSpec.post enc Tryz.prog Tryz.f5 false true false false W args v W':=by
 have hW':=hW
 obtain⟨p,q,hA0,hV,rfl,hfz,hnd⟩:=hW
 obtain⟨rfl,rfl⟩:=trodVars_none hV
 have hA:DataW.TrodAll enc Tryz.prog W 0 (λ_=>true) true Tryz.f5.params.toList args.toList ds p:=hA0
 have hA1:=hA
 rw[Tryz.params5] at hA hval
 obtain⟨v0,vs0,d0,ds0,p0,q0,hargs,rfl,rfl,h0,r0⟩:=trodAll_cons hA
 obtain⟨rfl,rfl,rfl⟩:=trodAll_nil r0
 obtain rfl:args=#[v0]:=by cases args;simp_all
 obtain⟨s0,hs0,_,_,ws0⟩:=Go.ChangeMaps.open_string Tryz.underlying9 (hval 0 9 v0 rfl rfl) h0
 subst hs0
 have G:=worldOf (show laidMet Tryz.prog laidList W from hL)
 refine(coreBound_any (λh he k T hT hi hg hs hl0 hl1 hbl=>pick_any h he hT hi hg hs hl0 hl1 hbl) s0 W G).mono λe W' ⟨he,hb⟩=>?_
 subst he
 exact ⟨_,rfl,lastStep (pa:=_) (pv:=[]) hW' (fun _ _ _=>trodAll_cons_mk (shut_bool Tryz.underlying4 _) trodAll_mk0) (fun sp hsp=>trodAll_stays laidOut hb paramsOk hA1 (fun x hx=>hW'.lt x (by simpa using hx)) (fun x hx=>hsp x (by simpa using hx))) (fun _ _=>rfl) rfl
  hb (ok_one Zk rfl (okWide_bool_mk Tryz.underlying4 _))⟩
theorem reads(os:Os){H:Type}(enc:TypeId × Value->H):∃places,DataW.whole enc Tryz.prog ((laidWorld os).forCall (λ_ _=>0) ⟨#[],#[.string ⟨#[]⟩],[]⟩).memory Tryz.f5.params.toList Rows.coreBoundSpec.vars false (#[.string ⟨#[]⟩]:Array Value).toList 8=some ([.lit (.string [])],[],places):=
 ⟨[],by kernel_rfl⟩
theorem lifted(os:Os)(started:os.Started)(H:Type)(enc:TypeId × Value->H)(F:Stop.Interp):
  ReturnsInHanded {} Tryz.checked os 5 .any ((OpenSpec.ofChange Rows.coreBoundSpec).preRow enc Tryz.prog Tryz.f5 Rows.coreBoundRow.domain false Rows.coreBoundRow.laid) (((OpenSpec.ofChange Rows.coreBoundSpec).at F).post enc Tryz.prog Tryz.f5 false true false false):=by
 obtain⟨places,hx⟩:=reads os enc
 refine returnsInHanded_of_row (C:=Tryz.checked) (s:=OpenSpec.ofChange Rows.coreBoundSpec) own started Zk Tryz.func5
  (witness_row_at (enc:=enc) (C:=Tryz.checked) false (laidWorld os) #[.string ⟨#[]⟩] rfl Zk Zk Zk
   (OpenSpec.preRow_of_cond 8 hx Zk (λk hk=>by cases hk) Zk (laid_met os _))) ?_
 intro W base args ds gs before hval hW _ _ _ hL hsh _
 exact contract H enc W base args ds gs before hval hW hL hsh
theorem said:Rows.CoreBoundSaid:=
 OpenClaim.holds_of_cond 5 Tryz.f5 rfl rfl rfl rfl rfl rfl rfl ⟨rfl,rfl,rfl,rfl,rfl⟩ rfl rfl rfl rfl rfl Zk Tryz.func5 Zk
  (of_decide_eq_true Zk) (by unfold Func.isWrapper;first|(rw[if_pos (by decide+kernel)];kernel_rfl)|(rw[if_neg (by decide+kernel)];exact⟨rfl,rfl⟩))
  (λos started H enc _ F=>by rw[OpenClaim.pre_eq_preRow];exact lifted os started H enc F)
theorem plain(f:FuncId)(fn:Func)(hf:Tryz.pinned.checked.prog.funcNamed "sexton/sextontop.CoreBound"=some f)(hfn:Tryz.pinned.checked.prog.funcs[f]?=some fn):
  false=Tryz.pinned.checked.prog.looks []/\∀(j:Nat) t,fn.params[j]?=some t->Tryz.pinned.checked.prog.wantsStandIn t=false:=by
 obtain rfl:f=5:=Option.some.inj ((show Tryz.prog.funcNamed "sexton/sextontop.CoreBound"=some 5 by kernel_rfl).symm.trans hf) |>.symm
 obtain rfl:fn=Tryz.f5:=(Option.some.inj (Tryz.func5.symm.trans hfn)).symm
 refine⟨by kernel_rfl,λj t ht=>?_⟩
 rw[Tryz.params5] at ht
 have hm:=Array.mem_of_getElem? ht
 simp at hm
 subst hm
 exact(show Tryz.prog.wantsStandIn 9=false by kernel_rfl)
theorem card:Rows.CoreBoundCardSaid:=
 Claim7.holds_tied_plain_at .later [] _ _ _ _ said (λ_ h=>by cases h) Zk (λ_ h=>by cases h) coreBound_row_tie rfl ⟨rfl,rfl⟩ Zk rfl plain Zk
end Go.Proofs.YtaipogljokblkaaGreatDoor.coreBound
