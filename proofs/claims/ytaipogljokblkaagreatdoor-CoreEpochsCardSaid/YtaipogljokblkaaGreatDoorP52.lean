/- CoreEpochs: by epochs, when all have come to rest and one thread has scanned three times, it holds no retired slot, and no access was wrong. Conditions: the listed variables (errors) are as the program's text lays them. -/
import Derived.Test.YtaipogljokblkaaGreatDoorP51
set_option linter.all false
set_option maxRecDepth 100000
set_option maxHeartbeats 8000000
namespace Go.Proofs.YtaipogljokblkaaGreatDoor.coreEpochs
open Go.ChangeShapes Go.WideShapes Go.ChangeAt Go.RowKit
theorem ok_int:Tryz.prog.readableRec 3=true/\3<Tryz.prog.types.size:=⟨Zk,of_decide_eq_true Zk⟩
theorem ok_string:Tryz.prog.readableRec 9=true/\9<Tryz.prog.types.size:=⟨Zk,of_decide_eq_true Zk⟩
theorem paramsOk:∀t∈Tryz.f6.params.toList,Tryz.prog.readableRec t=true/\t<Tryz.prog.types.size:=by
 rw[Tryz.params6];intro t ht;simp at ht;rcases ht with rfl|rfl
 ·exact ok_string
 ·exact ok_int
theorem contract(H:Type)(enc:TypeId × Value->H)(W:World)(base:Nat)(args:Array Value)(ds gs:List (DataW H))(before:List MemPlace)
  (hval:∀(j:Nat) t v,Tryz.f6.params[j]?=some t->args[j]?=some v->Value.okWide Tryz.prog W .any base t v)
  (hW:DataW.Whole enc Tryz.prog Tryz.f6.params.toList Rows.coreEpochsSpec.vars false W args.toList ds gs before)(hL:laidMetH Tryz.prog Rows.coreEpochsRow.laid W)(hsh:W.ShapedOpen Tryz.prog):
  Calls Tryz.prog 6 args W λe W'=>∃v,e=.returned v/\Rows.coreEpochsSpec.post enc Tryz.prog Tryz.f6 false true false false W args v W':=by
 have hW':=hW
 obtain⟨p,q,hA0,hV,rfl,hfz,hnd⟩:=hW
 obtain⟨rfl,rfl⟩:=trodVars_none hV
 have hA:DataW.TrodAll enc Tryz.prog W 0 (λ_=>true) true Tryz.f6.params.toList args.toList ds p:=hA0
 have hA1:=hA
 rw[Tryz.params6] at hA hval
 obtain⟨v0,vs0,d0,ds0,p0,q0,hargs,rfl,rfl,h0,r0⟩:=trodAll_cons hA
 obtain⟨v1,vs1,d1,ds1,p1,q1,rfl,rfl,rfl,h1,r1⟩:=trodAll_cons r0
 obtain⟨rfl,rfl,rfl⟩:=trodAll_nil r1
 obtain rfl:args=#[v0,v1]:=by cases args;simp_all
 obtain⟨s0,hs0,_,_,ws0⟩:=Go.ChangeMaps.open_string Tryz.underlying9 (hval 0 9 v0 rfl rfl) h0
 subst hs0
 obtain⟨n1,hn1,_,_,wn1⟩:=open_int Tryz.underlying3 (hval 1 3 v1 rfl rfl) h1
 subst hn1
 have G:=worldOf (show laidMet Tryz.prog laidList W from hL)
 refine(coreEpochs_any (λh he k T hT hi hg hs hl0 hl1 hbl=>pick_any h he hT hi hg hs hl0 hl1 hbl) s0 n1 W G).mono λe W' ⟨he,hb⟩=>?_
 subst he
 exact ⟨_,rfl,lastStep (pa:=_) (pv:=[]) hW' (fun _ _ _=>trodAll_cons_mk (shut_bool Tryz.underlying4 _) trodAll_mk0) (fun sp hsp=>trodAll_stays laidOut hb paramsOk hA1 (fun x hx=>hW'.lt x (by simpa using hx)) (fun x hx=>hsp x (by simpa using hx))) (fun _ _=>rfl) rfl
  hb (ok_one Zk rfl (okWide_bool_mk Tryz.underlying4 _))⟩
theorem reads(os:Os){H:Type}(enc:TypeId × Value->H):∃places,DataW.whole enc Tryz.prog ((laidWorld os).forCall (λ_ _=>0) ⟨#[],#[.string ⟨#[]⟩,.int .i64 0],[]⟩).memory Tryz.f6.params.toList Rows.coreEpochsSpec.vars false (#[.string ⟨#[]⟩,.int .i64 0]:Array Value).toList 8=some ([.lit (.string []),.lit (.int .i64 0)],[],places):=
 ⟨[],Zk⟩
theorem lifted(os:Os)(started:os.Started)(H:Type)(enc:TypeId × Value->H)(F:Stop.Interp):
  ReturnsInHanded {} Tryz.checked os 6 .any ((OpenSpec.ofChange Rows.coreEpochsSpec).preRow enc Tryz.prog Tryz.f6 Rows.coreEpochsRow.domain false Rows.coreEpochsRow.laid) (((OpenSpec.ofChange Rows.coreEpochsSpec).at F).post enc Tryz.prog Tryz.f6 false true false false):=by
 obtain⟨places,hx⟩:=reads os enc
 refine returnsInHanded_of_row (C:=Tryz.checked) (s:=OpenSpec.ofChange Rows.coreEpochsSpec) own started Zk Tryz.func6
  (witness_row_at (enc:=enc) (C:=Tryz.checked) false (laidWorld os) #[.string ⟨#[]⟩,.int .i64 0] rfl Zk Zk Zk
   (OpenSpec.preRow_of_cond 8 hx Zk (λk hk=>by cases hk) Zk (laid_met os _))) ?_
 intro W base args ds gs before hval hW _ _ _ hL hsh _
 exact contract H enc W base args ds gs before hval hW hL hsh
theorem said:Rows.CoreEpochsSaid:=
 OpenClaim.holds_of_cond 6 Tryz.f6 rfl rfl rfl rfl rfl rfl rfl ⟨rfl,rfl,rfl,rfl,rfl⟩ rfl rfl rfl rfl rfl Zk Tryz.func6 Zk
  (of_decide_eq_true Zk) (by unfold Func.isWrapper;first|(rw[if_pos (by decide+kernel)];kernel_rfl)|(rw[if_neg (by decide+kernel)];exact⟨rfl,rfl⟩))
  (λos started H enc _ F=>by rw[OpenClaim.pre_eq_preRow];exact lifted os started H enc F)
theorem plain(f:FuncId)(fn:Func)(hf:Tryz.pinned.checked.prog.funcNamed "sexton/sextontop.CoreEpochs"=some f)(hfn:Tryz.pinned.checked.prog.funcs[f]?=some fn):
  false=Tryz.pinned.checked.prog.looks []/\∀(j:Nat) t,fn.params[j]?=some t->Tryz.pinned.checked.prog.wantsStandIn t=false:=by
 obtain rfl:f=6:=Option.some.inj ((show Tryz.prog.funcNamed "sexton/sextontop.CoreEpochs"=some 6 by kernel_rfl).symm.trans hf) |>.symm
 obtain rfl:fn=Tryz.f6:=(Option.some.inj (Tryz.func6.symm.trans hfn)).symm
 refine⟨Zk,λj t ht=>?_⟩
 rw[Tryz.params6] at ht
 have hm:=Array.mem_of_getElem? ht
 simp at hm
 rcases hm with rfl|rfl
 ·exact(show Tryz.prog.wantsStandIn 9=false by kernel_rfl)
 ·exact(show Tryz.prog.wantsStandIn 3=false by kernel_rfl)
theorem card:Rows.CoreEpochsCardSaid:=
 Claim7.holds_tied_plain_at .later [] _ _ _ _ said (λ_ h=>by cases h) Zk (λ_ h=>by cases h) coreEpochs_row_tie rfl ⟨rfl,rfl⟩ Zk rfl plain Zk
end Go.Proofs.YtaipogljokblkaaGreatDoor.coreEpochs
