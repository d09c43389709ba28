/- Core: PJ2, PL2, PK. -/
import Derived.Test.YtaipogljokblkaaGreatDoorZ32
import Derived.Test.YtaipogljokblkaaGreatDoorZ17
import Derived.Test.YtaipogljokblkaaGreatDoorZ09
set_option linter.all false
set_option maxRecDepth 100000
set_option maxHeartbeats 8000000
namespace Go.Proofs.YtaipogljokblkaaGreatDoor
open Go Go.RowKit
set_option linter.unusedSimpArgs false
set_option linter.unusedVariables false
set_option linter.unusedSectionVars false
theorem slot_put (s:GSlot) (k:Nat) (y:Xf) (hk:k < 10):slotRow { s with cell:=upd s.cell k y } = (slotRow s).take (2+k*5)++y.l++(slotRow s).drop (2+k*5+5):=by
 have h:=rows_set wlen (fun (j:Nat)=>s.cell (j:Int)) (fun (j:Nat)=>upd s.cell k y (j:Int)) 10 k hk (fun j hj=>upd_far _ _ (by omega))
 simp only [upd_same] at h
 unfold slotRow
 simp only
 rw [h]
 have e:([Value.int .i64 s.gen,.bool s.used]:List Value).length = 2:=rfl
 rw [show 2+k*5 = ([Value.int .i64 s.gen,.bool s.used]:List Value).length+k*5 from rfl,take_add,Nat.add_assoc,drop_add]
 simp only [List.append_assoc]
theorem place {w:World} {g bb sb:Nat} {p:Pl} {fr:GSl} {fv:Value} (h:PB w g bb sb p fr fv) (a:Yj) (hv:p.has a = true) :
  ∃ b o T cs,Calls Tryz.prog 34 #[.pointer (some ⟨g,0,none⟩),.agg a.l.toArray] w (RetP ⟨b,o,none⟩ w)∧b∈Yx g bb sb fr∧Bk w b T cs∧w.rangeAt b o (p.get a).l∧o+5≤cs.size ∧
   ∀ y:Xf,∃ cs':Array Value,cs'.toList = cs.toList.take o++y.l++cs.toList.drop (o+5)∧∀ w',Bk w' b T cs'→Chg [b] w w'→PB w' g bb sb (p.put a y) fr fv:=by
 obtain ⟨a0,a1,a2⟩:=a
 unfold Pl.has at hv
 simp only at hv
 have far:∀ {w':World} {b:Nat},Chg [b] w w'→(∀ x∈Yx g bb sb fr,x≠b→w'.heap[x]? = w.heap[x]?):=fun hc x hx hne=>hc.far x (h.lt x hx) (by simpa using hne)
 have mg:g∈Yx g bb sb fr:=Xw.2 (Or.inl rfl)
 have mb:bb∈Yx g bb sb fr:=Xw.2 (Or.inr (Or.inl rfl))
 have ms:sb∈Yx g bb sb fr:=Xw.2 (Or.inr (Or.inr (Or.inl rfl)))
 have mf:∀ b,fr.v.ownBlock = some b→b∈Yx g bb sb fr:=fun b hb=>Xw.2 (Or.inr (Or.inr (Or.inr hb)))
 cases h0:(a0==0) with
 | true =>
  rw [h0] at hv
  simp at hv
  obtain ⟨h1,h2,h3⟩:=hv
  obtain ⟨i,rfl⟩:∃ i:Nat,a2 = i:=⟨a2.toNat,by omega⟩
  have hi:i < p.nb:=by omega
  obtain rfl:a0 = 0:=by simpa using h0
  refine ⟨bb,i*5,_,_,plotCellB_any h i a1 hi,mb,h.bo,h.board hi,by simp [p.boardL_len];omega,fun y=>⟨(p.put ⟨0,a1,i⟩ y).boardL.toArray,?_,fun w' hb hc=>?_⟩⟩
  ·have h2:=rows_set wlen (fun (j:Nat)=>p.board (j:Int)) (fun (j:Nat)=>upd p.board (i:Int) y (j:Int)) p.nb i hi (fun j hj=>upd_far _ _ (by omega))
   simp only [upd_same] at h2
   exact h2
  ·exact ⟨h.bk.same (far hc g mg h.n1),hb,h.so.same (far hc sb ms (Ne.symm h.n3)),h.fo.kept fun b hb=>far hc b (mf b hb) (fun e=>h.f2 (by rw [hb,e])),h.fau,h.n1,h.n2,h.n3,h.f1,h.f2,h.f3,h.nbm,h.nsm⟩
 | false =>
  rw [h0] at hv
  simp only [cond_false,Bool.and_eq_true,decide_eq_true_eq] at hv
  obtain ⟨he,h2,h3⟩:=hv
  obtain ⟨i,rfl,hi⟩:=exists_nat he
  obtain ⟨k,rfl⟩:∃ k:Nat,a2 = k:=⟨a2.toNat,by omega⟩
  have hk:k < 10:=by omega
  have eg:p.get ⟨(i:Int)+1,a1,k⟩ = (p.slot ((i:Int)+1)).cell k:=by unfold Pl.get;simp only [h0];rfl
  have ep:∀ y,p.put ⟨(i:Int)+1,a1,k⟩ y = { p with slot:=upd p.slot ((i:Int)+1) { p.slot ((i:Int)+1) with cell:=upd (p.slot ((i:Int)+1)).cell k y } }:=fun y=>by unfold Pl.put;simp only [h0];rfl
  rw [eg]
  refine ⟨sb,i*52+2+k*5,_,_,plotCellS_any h i k a1 hi hk,ms,h.so,h.cell hi hk,by simp [p.slotsL_len];omega,fun y=>⟨(p.put ⟨(i:Int)+1,a1,k⟩ y).slotsL.toArray,?_,fun w' hb hc=>?_⟩⟩
  ·rw [ep]
   have h2:=rows_at slotRow_len (fun (j:Nat)=>p.slot ((j:Int)+1)) p.ns i hi
   have h4:=rows_at slotRow_len (fun (j:Nat)=>upd p.slot ((i:Int)+1) { p.slot ((i:Int)+1) with cell:=upd (p.slot ((i:Int)+1)).cell k y } ((j:Int)+1)) p.ns i hi
   have e1:(List.range i).map (fun (j:Nat)=>upd p.slot ((i:Int)+1) { p.slot ((i:Int)+1) with cell:=upd (p.slot ((i:Int)+1)).cell k y } ((j:Int)+1)) = (List.range i).map fun (j:Nat)=>p.slot ((j:Int)+1):=List.map_congr_left fun j hj=>upd_far _ _ (by have:=List.mem_range.1 hj;omega)
   have e2:((List.range (p.ns - i - 1)).map fun (j:Nat)=>upd p.slot ((i:Int)+1) { p.slot ((i:Int)+1) with cell:=upd (p.slot ((i:Int)+1)).cell k y } (((i+1+j:Nat):Int)+1)) = (List.range (p.ns - i - 1)).map fun (j:Nat)=>p.slot (((i+1+j:Nat):Int)+1):=List.map_congr_left fun j _=>upd_far _ _ (by omega)
   simp only [upd_same] at h4
   rw [e1,e2,slot_put _ _ _ hk] at h4
   show ({ p with slot:=_ }:Pl).slotsL = p.slotsL.take (i*52+2+k*5)++y.l++p.slotsL.drop (i*52+2+k*5+5)
   unfold Pl.slotsL
   simp only
   rw [h4,h2]
   have hl:(rows slotRow ((List.range i).map fun (j:Nat)=>p.slot ((j:Int)+1))).length = i*52:=by rw [Yt slotRow_len];simp
   generalize rows slotRow ((List.range i).map fun (j:Nat)=>p.slot ((j:Int)+1)) = A at *
   generalize rows slotRow ((List.range (p.ns - i - 1)).map fun (j:Nat)=>p.slot (((i+1+j:Nat):Int)+1)) = B at *
   have hs:=slotRow_len (p.slot ((i:Int)+1))
   generalize slotRow (p.slot ((i:Int)+1)) = S at *
   rw [← hl,show A.length+2+k*5 = A.length+(2+k*5) from by omega,show A.length+(2+k*5)+5 = A.length+(2+k*5+5) from by omega,take_add,drop_add,List.take_append_of_le_length (by omega),List.drop_append_of_le_length (by omega)]
   simp only [List.append_assoc]
  ·rw [ep] at hb ⊢
   exact ⟨h.bk.same (far hc g mg h.n2),h.bo.same (far hc bb mb h.n3),hb,h.fo.kept fun b hb=>far hc b (mf b hb) (fun e=>h.f3 (by rw [hb,e])),h.fau,h.n1,h.n2,h.n3,h.f1,h.f2,h.f3,h.nbm,h.nsm⟩
theorem PB.keep {w w':World} {g bb sb:Nat} {p:Pl} {fr:GSl} {fv:Value} (h:PB w g bb sb p fr fv) (hk:∀ x∈Yx g bb sb fr,w'.heap[x]? = w.heap[x]?):PB w' g bb sb p fr fv :=
 ⟨h.bk.same (hk g (Xw.2 (Or.inl rfl))),h.bo.same (hk bb (Xw.2 (Or.inr (Or.inl rfl)))),h.so.same (hk sb (Xw.2 (Or.inr (Or.inr (Or.inl rfl))))),h.fo.kept fun b hb=>hk b (Xw.2 (Or.inr (Or.inr (Or.inr hb)))),h.fau,h.n1,h.n2,h.n3,h.f1,h.f2,h.f3,h.nbm,h.nsm⟩
def RetTo (w:World) (g bb sb b:Nat) (fr:GSl) (fv:Value) (r:Pl × Xi) (e:Ending) (w':World):Prop:=e = .returned (.agg r.2.l.toArray)∧PB w' g bb sb r.1 fr fv∧Chg [b] w w'
theorem touch_any {w:World} {g bb sb:Nat} {p:Pl} {fr:GSl} {fv:Value} (h:PB w g bb sb p fr fv) (a:GAcc) (b o:Nat) (T:TypeId) (cs:Array Value) (hb:Bk w b T cs) (hx:w.rangeAt b o (p.get a.adr).l) (ho:o+5≤cs.size)
  (hp:∀ y:Xf,∃ cs':Array Value,cs'.toList = cs.toList.take o++y.l++cs.toList.drop (o+5)∧∀ w',Bk w' b T cs'→Chg [b] w w'→PB w' g bb sb (p.put a.adr y) fr fv) (hk:a.kind = 1∨a.kind = 2∨a.kind = 3) :
  Calls Tryz.prog 65 #[.pointer (some ⟨b,o,none⟩),.agg a.l.toArray] w (RetTo w g bb sb b fr fv (p.touch a)):=by
 have keep:∀ {w'},Bk w' b T cs→Chg [b] w w'→PB w' g bb sb p fr fv:=fun h1 hc=>h.keep fun x hx=>by
  by_cases e:x = b
  ·subst e;unfold Bk at h1 hb;rw [h1,hb]
  ·exact hc.far x (h.lt x hx) (by simpa using e)
 rcases hk with hk | hk | hk
 ·refine (touch1_any w b o T cs (p.get a.adr) a hb hx hk).mono fun e w' hr=>?_
  obtain ⟨he,h1,hc⟩:=hr
  have ec:p.touch a = (p,⟨p.get a.adr,true⟩):=by unfold Pl.touch;rw [hk];rfl
  rw [ec]
  exact ⟨he,keep h1 hc,hc⟩
 ·obtain ⟨cs',h2,h3⟩:=hp a.new
  refine (touch2_any w b o T cs cs' a hb ho hk h2).mono fun e w' hr=>?_
  obtain ⟨he,h1,hc⟩:=hr
  have ec:p.touch a = (p.put a.adr a.new,⟨.zero,true⟩):=by unfold Pl.touch;rw [hk];rfl
  rw [ec]
  exact ⟨he,h3 w' h1 hc,hc⟩
 ·obtain ⟨cs',h2,h3⟩:=hp a.new
  refine (touch3_any w b o T cs cs' (p.get a.adr) a hb hx ho hk h2).mono fun e w' hr=>?_
  unfold RetSw at hr
  have ec:p.touch a = bif wsame (p.get a.adr) a.old then (p.put a.adr a.new,⟨p.get a.adr,true⟩) else (p,⟨p.get a.adr,false⟩):=by unfold Pl.touch;rw [hk];rfl
  rw [ec]
  cases hs:wsame (p.get a.adr) a.old with
  | true =>
   rw [hs] at hr
   obtain ⟨he,h1,hc⟩:=hr
   exact ⟨he,h3 w' h1 hc,hc⟩
  | false =>
   rw [hs] at hr
   obtain ⟨he,h1,hc⟩:=hr
   exact ⟨he,keep h1 hc,hc⟩
theorem set3 (p:Pl) (bb sb:Nat) (fr:GSl) (fv:Value) (m:Int):(#[.slice (some ⟨bb,0,none⟩) p.nb p.nb,.slice (some ⟨sb,0,none⟩) p.ns p.ns,fr.v,.int .i64 p.steps,.int .i64 p.made,fv]:Array Value).setIfInBounds 3 (.int .i64 m) = #[.slice (some ⟨bb,0,none⟩) p.nb p.nb,.slice (some ⟨sb,0,none⟩) p.ns p.ns,fr.v,.int .i64 m,.int .i64 p.made,fv]:=rfl
theorem PB.stepped {w:World} {g bb sb:Nat} {p:Pl} {fr:GSl} {fv:Value} (h:PB w g bb sb p fr fv) (m:Int):PB (w.setCell ⟨g,3,none⟩ (.int .i64 m)) g bb sb { p with steps:=m } fr fv:=by
 have hg2:=Xq w g 3 (.int .i64 m)
 exact ⟨by rw [← set3 p bb sb fr fv m];exact h.bk.set_ 3 _,h.bo.far (p:=⟨g,3,none⟩) (Ne.symm h.n1) _,h.so.far (p:=⟨g,3,none⟩) (Ne.symm h.n2) _,h.fo.grown hg2 (Or.inr h.f1),h.fau,h.n1,h.n2,h.n3,h.f1,h.f2,h.f3,h.nbm,h.nsm⟩
theorem ErrOk.chg {w w':World} {F:List Nat} (h:ErrOk w) (hc:Chg F w w') (hF:∀ b∈F,7≤b):ErrOk w':=by
 obtain ⟨h1,h2,h3,h4,h5,h6,h7,h8⟩:=h
 have k:∀ {b:Nat},b < 7→(∃ T q,w.cell? ⟨b,0,none⟩ = some (.iface T (.pointer (some q))))→∃ T q,w'.cell? ⟨b,0,none⟩ = some (.iface T (.pointer (some q))):=fun {b} hb ⟨T,q,e⟩=>⟨T,q,by
  have:=hc.far b (by omega) (fun hx=>by have:=hF b hx;omega)
  unfold World.cell? at *
  rw [this];exact e⟩
 exact ⟨k (by decide) h1,k (by decide) h2,k (by decide) h3,k (by decide) h4,k (by decide) h5,k (by decide) h6,k (by decide) h7,Nat.le_trans h8 hc.size⟩
theorem Bk.range {w:World} {b:Nat} {T:TypeId} {cs:List Value} (h:Bk w b T cs.toArray):w.rangeAt b 0 cs:=fun j u hu=>by rw [Nat.zero_add,h.cell];simpa using hu
def RetDo (w:World) (g bb sb:Nat) (F:List Nat) (r:Pl × Xi) (e:Ending) (w':World):Prop :=
 e = .returned (.tuple #[.agg r.2.l.toArray,.nilIface])∧∃ fr fv,PB w' g bb sb r.1 fr fv∧Chg F w w'∧∀ x∈Yx g bb sb fr,x∈F∨w.heap.size≤x
theorem doTouch_any {w:World} {g bb sb:Nat} {p:Pl} {fr:GSl} {fv:Value} (h:PB w g bb sb p fr fv) (he:ErrOk w) (hg40:7≤g) (a:GAcc) (hv:p.valid a = true) (hr:p.right a = true) (hk:a.kind = 1∨a.kind = 2∨a.kind = 3) :
  Calls Tryz.prog 42 #[.pointer (some ⟨g,0,none⟩),.agg a.l.toArray] w (RetDo w g bb sb (Yx g bb sb fr) (p.act a)):=by
 have HVR:=Lib.hid (And.intro hv (And.intro hr hk))
 clear hv hr hk
 (obtain ⟨k,⟨a0,a1,a2⟩,⟨o0,o1,o2,o3,o4⟩,⟨n0,n1,n2,n3,n4⟩⟩:=a)
 show Calls Tryz.prog 42 #[.pointer (some ⟨g,0,none⟩),.agg #[.int .i64 k,.int .i64 a0,.int .i64 a1,.int .i64 a2,.int .i64 o0,.int .i64 o1,.int .i64 o2,.int .i64 o3,.bool o4,.int .i64 n0,.int .i64 n1,.int .i64 n2,.int .i64 n3,.bool n4]] w _
 (have hgl:=h.bk.lt;have hwl:=he.lt;have HH:=Lib.hid (h.below (w':=((w.alloc (.cells #[.int .i64 k,.int .i64 a0,.int .i64 a1,.int .i64 a2,.int .i64 o0,.int .i64 o1,.int .i64 o2,.int .i64 o3,.bool o4,.int .i64 n0,.int .i64 n1,.int .i64 n2,.int .i64 n3,.bool n4] 114)).alloc (.cells #[.int .i64 0,.int .i64 0,.int .i64 0,.int .i64 0,.bool false,.bool false] 108))) vB);have HE:=Lib.hid (he.below (w':=((w.alloc (.cells #[.int .i64 k,.int .i64 a0,.int .i64 a1,.int .i64 a2,.int .i64 o0,.int .i64 o1,.int .i64 o2,.int .i64 o3,.bool o4,.int .i64 n0,.int .i64 n1,.int .i64 n2,.int .i64 n3,.bool n4] 114)).alloc (.cells #[.int .i64 0,.int .i64 0,.int .i64 0,.int .i64 0,.bool false,.bool false] 108))) vB);have XA:Bk ((w.alloc (.cells #[.int .i64 k,.int .i64 a0,.int .i64 a1,.int .i64 a2,.int .i64 o0,.int .i64 o1,.int .i64 o2,.int .i64 o3,.bool o4,.int .i64 n0,.int .i64 n1,.int .i64 n2,.int .i64 n3,.bool n4] 114)).alloc (.cells #[.int .i64 0,.int .i64 0,.int .i64 0,.int .i64 0,.bool false,.bool false] 108)) w.heap.size 114 #[.int .i64 k,.int .i64 a0,.int .i64 a1,.int .i64 a2,.int .i64 o0,.int .i64 o1,.int .i64 o2,.int .i64 o3,.bool o4,.int .i64 n0,.int .i64 n1,.int .i64 n2,.int .i64 n3,.bool n4]:=(Bk.at_ rfl).alloc _;have X4:Bk ((w.alloc (.cells #[.int .i64 k,.int .i64 a0,.int .i64 a1,.int .i64 a2,.int .i64 o0,.int .i64 o1,.int .i64 o2,.int .i64 o3,.bool o4,.int .i64 n0,.int .i64 n1,.int .i64 n2,.int .i64 n3,.bool n4] 114)).alloc (.cells #[.int .i64 0,.int .i64 0,.int .i64 0,.int .i64 0,.bool false,.bool false] 108)) (w.heap.size+1) 108 #[.int .i64 0,.int .i64 0,.int .i64 0,.int .i64 0,.bool false,.bool false]:=Bk.at_ (by simp);have HC:Hid (Below w.heap.size w ((w.alloc (.cells #[.int .i64 k,.int .i64 a0,.int .i64 a1,.int .i64 a2,.int .i64 o0,.int .i64 o1,.int .i64 o2,.int .i64 o3,.bool o4,.int .i64 n0,.int .i64 n1,.int .i64 n2,.int .i64 n3,.bool n4] 114)).alloc (.cells #[.int .i64 0,.int .i64 0,.int .i64 0,.int .i64 0,.bool false,.bool false] 108))):=Lib.hid vB;have hz:w.heap.size+1 < ((w.alloc (.cells #[.int .i64 k,.int .i64 a0,.int .i64 a1,.int .i64 a2,.int .i64 o0,.int .i64 o1,.int .i64 o2,.int .i64 o3,.bool o4,.int .i64 n0,.int .i64 n1,.int .i64 n2,.int .i64 n3,.bool n4] 114)).alloc (.cells #[.int .i64 0,.int .i64 0,.int .i64 0,.int .i64 0,.bool false,.bool false] 108)).heap.size:=(by simp);have HLT:=Lib.hid h.lt;clear h he)
 go_enter Tryz.func42,Tryz.ntmps42
 go_wp2_with fail
 refine (plotValid_any HH.out ⟨k,⟨a0,a1,a2⟩,⟨o0,o1,o2,o3,o4⟩,⟨n0,n1,n2,n3,n4⟩⟩).mono ?_
 rintro e w1 ⟨rfl,hb1⟩
 rw [HVR.out.1]
 have H1:=Lib.hid (HH.out.below hb1);have E1:=Lib.hid (HE.out.below hb1)
 have XA1:=XA.belowAll hb1;have X41:=X4.belowAll hb1
 have C1:Hid (Below w.heap.size w w1):=Lib.hid (HC.out.trans (hb1.mono HC.out.size))
 clear HH HE XA X4 hb1 HC
 have c3:=H1.out.cells.2.2.2.1
 have f3:=H1.out.bk.free 3
 have hg1:=H1.out.bk.lt
 have hgx:g≠w.heap.size:=by omega
 have hgy:g≠w.heap.size+1:=by omega
 have XA2:=Lib.hid (XA1.far (p:=⟨g,3,none⟩) (Ne.symm hgx) (.int .i64 (wrap64 (p.steps+1))))
 have X42:=Lib.hid (X41.far (p:=⟨g,3,none⟩) (Ne.symm hgy) (.int .i64 (wrap64 (p.steps+1))))
 go_wp2_with (refine wpList_load_mid (by rfl) _ _ (by rfl) w.heap.size 0 (by rfl) [.int .i64 k,.int .i64 a0,.int .i64 a1,.int .i64 a2,.int .i64 o0,.int .i64 o1,.int .i64 o2,.int .i64 o3,.bool o4,.int .i64 n0,.int .i64 n1,.int .i64 n2,.int .i64 n3,.bool n4] _ XA2.out.range Tryz.underlying114 (by rfl) (by kernel_rfl) ?_)
 have P2:=H1.out.stepped (wrap64 (p.steps+1))
 have hcs:Chg [g] w1 (w1.setCell ⟨g,3,none⟩ (.int .i64 (wrap64 (p.steps+1)))):=Chg.of_grown (b:=0) (Xq _ _ _ _) (fun b e=>by injection e with e;simp [e])
 have E2:=E1.out.chg hcs (by simp;omega)
 refine (plotWrong_any P2 E2 ⟨k,⟨a0,a1,a2⟩,⟨o0,o1,o2,o3,o4⟩,⟨n0,n1,n2,n3,n4⟩⟩ HVR.out.1).mono ?_
 intro e w2 hr
 rw [show ({ p with steps:=wrap64 (p.steps+1) }:Pl).right ⟨k,⟨a0,a1,a2⟩,⟨o0,o1,o2,o3,o4⟩,⟨n0,n1,n2,n3,n4⟩⟩ = true from HVR.out.2.1] at hr
 obtain ⟨rfl,hb2⟩:=hr
 have H2:=Lib.hid (P2.below hb2)
 have XA3:=XA2.out.belowAll hb2
 have X43:=Lib.hid (X42.out.belowAll hb2)
 have C2:Hid (Chg (Yx g bb sb fr) w w2):=Lib.hid (((Chg.of_below C1.out).trans (hcs.mono (fun x hx=>Or.inl (by rw [List.mem_singleton.1 hx];exact Xw.2 (Or.inl rfl))))).trans (Chg.of_below hb2))
 have y0:=XA3.cell 0
 have XA4:=Lib.hid XA3
 simp at y0
 have hz2:w.heap.size+1 < w2.heap.size:=X43.out.lt
 clear P2 hcs E2 hb2 XA2 X42 XA3 XA1 X41 H1 E1 C1 c3 f3 hz
 have hk4:(k==4) = false:=by have:=HVR.out.2.2;simp;omega
 have hk5:(k==5) = false:=by have:=HVR.out.2.2;simp;omega
 go_upto_region 18 with (fail)
 refine X2 (fun w'=>Bk w' w.heap.size 114 #[.int .i64 k,.int .i64 a0,.int .i64 a1,.int .i64 a2,.int .i64 o0,.int .i64 o1,.int .i64 o2,.int .i64 o3,.bool o4,.int .i64 n0,.int .i64 n1,.int .i64 n2,.int .i64 n3,.bool n4]) 6 (by kernel_rfl) XA4.out.drew (fun hS=>?_)
 have H3:=Lib.hid (H2.out.below (Below.refl _ _).drew)
 have X44:=Lib.hid X43.out.drew
 have C3:Hid (Chg (Yx g bb sb fr) w w2.drew):=Lib.hid (C2.out.trans (Chg.of_below (Below.refl _ _).drew))
 have hz3:w.heap.size+1 < w2.drew.heap.size:=hz2
 clear H2 X43 C2 hz2 XA4 y0
 generalize w2.drew = w3 at *
 have hvh:({ p with steps:=wrap64 (p.steps+1) }:Pl).has ⟨a0,a1,a2⟩ = true:=by
  have h1:=HVR.out.1
  have h2:=HVR.out.2.2
  unfold Pl.valid at h1
  simp only at h1
  rw [show (k==1 || (k==2 || k==3)) = true from by rcases h2 with h | h | h <;> subst h <;> rfl] at h1
  exact h1
 obtain ⟨b,o,T,cs,hcell,hbm,hbk,hrg,hsz,hput⟩:=place H3.out ⟨a0,a1,a2⟩ hvh
 have HP:=Lib.hid (And.intro hcell (And.intro hbk (And.intro hrg hput)))
 have hblt:=H3.out.lt b hbm
 have hbx:b≠w.heap.size:=fun e=>by
  rcases Xw.1 hbm with h1 | h1 | h1 | h1
  ·omega
  ·have:=HLT.out bb (Xw.2 (Or.inr (Or.inl rfl)));omega
  ·have:=HLT.out sb (Xw.2 (Or.inr (Or.inr (Or.inl rfl))));omega
  ·have:=HLT.out b (Xw.2 (Or.inr (Or.inr (Or.inr h1))));omega
 have hbw:b < w.heap.size:=HLT.out b hbm
 clear hcell hbk hrg hput hvh
 ((try simp only [Act.put,List.setIfInBounds_toArray,List.set_cons_succ,List.set_cons_zero]);refine vT (fuel:=4) hS [0,1,2,4] ?_;simp only [Xu,Xj,List.toList_toArray];(repeat (first | go_big_quiet_skip | (go_big_quiet_want;first | (go_big_quiet_op;go_big_quiet_on) | (apply Exists.intro;refine ⟨fun w' hS'=>?_,?_⟩;(· (have y0:=hS'.cell 0;have y1:=hS'.cell 1;have y2:=hS'.cell 2;have y3:=hS'.cell 3;have y4:=hS'.cell 4;have y5:=hS'.cell 5;have y6:=hS'.cell 6;have y7:=hS'.cell 7;have y8:=hS'.cell 8;have y9:=hS'.cell 9;have ya:=hS'.cell 10;have yb:=hS'.cell 11;have yc:=hS'.cell 12;have yd:=hS'.cell 13;simp at y0 y1 y2 y3 y4 y5 y6 y7 y8 y9 ya yb yc yd;go_simp;first | done | rfl | exact ⟨rfl,rfl⟩));go_big_quiet_on;simp only [Act.put,List.setIfInBounds_toArray,List.set_cons_succ,List.set_cons_zero]))));refine wpQuiet_nil ?_;(try dsimp only))
 (refine Xh 3 (by kernel_rfl) (fun K hK=>?_);simp only [Xj,List.toList_toArray])
 go_wp2_with fail
 refine HP.out.1.mono ?_
 rintro e w4 ⟨rfl,hb4⟩
 have hlt4:=hb4.size
 have H4:=Lib.hid (H3.out.below hb4)
 have HT:=Lib.hid (touch_any H4.out ⟨k,⟨a0,a1,a2⟩,⟨o0,o1,o2,o3,o4⟩,⟨n0,n1,n2,n3,n4⟩⟩ b o T cs (HP.out.2.1.belowAll hb4) (fun j u hu=>by rw [(bcell hb4).1 b _ hblt];exact HP.out.2.2.1 j u hu) hsz (fun y=>by obtain ⟨cs',h1,h2⟩:=HP.out.2.2.2 y;exact ⟨cs',h1,fun w' h3 hc=>h2 w' h3 ((Chg.of_below hb4).trans hc)⟩) HVR.out.2.2)
 have hS4:=hS.belowAll hb4
 have X45:=Lib.hid (X44.out.belowAll hb4)
 have C4:Hid (Chg (Yx g bb sb fr) w w4):=Lib.hid (C3.out.trans (Chg.of_below hb4))
 have hz4:w.heap.size+1 < w4.heap.size:=by omega
 clear hb4 H3 HP X44 C3 hz3 hblt
 go_wp2_with fail
 refine hK.out _ _ (fun _=>hS4) ?_
 clear hK hS
 (refine Xh 5 (by kernel_rfl) (fun K hK=>?_);simp only [Xj,List.toList_toArray])
 go_wp2_with fail
 refine HT.out.mono ?_
 rintro e w5 ⟨rfl,hp5,hc5⟩
 have HP5:=Lib.hid hp5
 have C5:Hid (Chg (Yx g bb sb fr) w w5):=Lib.hid (C4.out.trans (hc5.mono (fun x hx=>Or.inl (by rw [List.mem_singleton.1 hx];exact hbm))))
 have hS5:=hS4.chg hc5 (by simp;omega)
 have X46:=Lib.hid (X45.out.chg hc5 (by simp;omega))
 have hz5:w.heap.size+1 < w5.heap.size:=by have:=hc5.size;omega
 clear hp5 hc5 HT C4 X45 hz4 H4
 obtain ⟨q,hq⟩:∃ q,q = ({ p with steps:=wrap64 (p.steps+1) }:Pl).touch ⟨k,⟨a0,a1,a2⟩,⟨o0,o1,o2,o3,o4⟩,⟨n0,n1,n2,n3,n4⟩⟩:=⟨_,rfl⟩
 have HQ:=Lib.hid hq
 rw [← hq] at HP5 ⊢
 clear hq
 obtain ⟨q1,⟨⟨r0,r1,r2,r3,r4⟩,r5⟩⟩:=q
 rw [show (⟨⟨r0,r1,r2,r3,r4⟩,r5⟩:Xi).l.toArray = #[.int .i64 r0,.int .i64 r1,.int .i64 r2,.int .i64 r3,.bool r4,.bool r5] from rfl]
 go_wp2_with fail
 refine hK.out _ _ (fun _=>hS5) ?_
 clear hK hS4
 (refine Xh 6 (by kernel_rfl) (fun K hK=>?_);simp only [Xj,List.toList_toArray])
 go_wp2_with (refine vM X46.out ?_;intro w6 hst3)
 refine hK.out _ _ (fun h=>absurd h (by omega)) ?_
 clear hK
 ((refine Xh 7 (by kernel_rfl) (fun K hK=>?_);simp only [Xj,List.toList_toArray]);go_wp2_with fail;refine hK.out _ _ (fun h=>absurd h (by omega)) ?_;clear hK)
 refine X9 (by kernel_rfl) ?_ _
 go_wp2_with fail
 have s0:=hst3.bk.cell 0;have s1:=hst3.bk.cell 1;have s2:=hst3.bk.cell 2;have s3:=hst3.bk.cell 3;have s4:=hst3.bk.cell 4;have s5:=hst3.bk.cell 5
 simp at s0 s1 s2 s3 s4 s5
 refine bodyPost_ret (v:=.tuple #[.agg #[.int .i64 r0,.int .i64 r1,.int .i64 r2,.int .i64 r3,.bool r4,.bool r5],.nilIface]) (by simp [results,Tryz.results42,go_sem,s0,s1,s2,s3,s4,s5]) rfl ?_
 have ea:p.act ⟨k,⟨a0,a1,a2⟩,⟨o0,o1,o2,o3,o4⟩,⟨n0,n1,n2,n3,n4⟩⟩ = (q1,⟨⟨r0,r1,r2,r3,r4⟩,r5⟩):=by
  rw [HQ.out]
  unfold Pl.act
  rw [wr_is]
  simp only
  rw [show ({ p with steps:=wrap64 (p.steps+1) }:Pl).right ⟨k,⟨a0,a1,a2⟩,⟨o0,o1,o2,o3,o4⟩,⟨n0,n1,n2,n3,n4⟩⟩ = true from HVR.out.2.1,hk4,hk5]
  rfl
 rw [ea]
 have c6:Chg [w.heap.size+1] w5 w6:=Chg.of_grown (b:=0) hst3.grown (fun b' e=>by injection e with e;simp [e])
 have hlt:=HLT.out
 exact ⟨rfl,fr,fv,HP5.out.chg c6 (fun x hx h1=>by have:=hlt x hx;rw [List.mem_singleton.1 h1] at this;omega),C5.out.seq (F1:=[w.heap.size+1]) (fun x hx=>by rw [List.mem_singleton.1 hx];right;omega) c6,fun x hx=>Or.inl hx⟩
end Go.Proofs.YtaipogljokblkaaGreatDoor
