/- Core: PO2, PP2, PQ2, VM. -/
import Derived.Test.YtaipogljokblkaaGreatDoorZ34
import Derived.Test.YtaipogljokblkaaGreatDoorZ09
import Derived.Test.YtaipogljokblkaaGreatDoorZ31
import Derived.Test.YtaipogljokblkaaGreatDoorZ15
set_option linter.all false
set_option maxRecDepth 100000
set_option maxHeartbeats 8000000
namespace Go.Proofs.YtaipogljokblkaaGreatDoor
open Go Go.RowKit
set_option linter.unusedSimpArgs false
set_option linter.unusedVariables false
set_option linter.unusedSectionVars false
theorem woeAt_any (n:Int) (T:TypeId) (u:Value) (w:World) :
  Calls Tryz.prog 31 #[.int .i64 n,.iface T u] w fun e w' =>
   e = .returned (.iface 143 (.pointer (some ⟨w.heap.size,0,none⟩)))∧w.alloc (.cells #[.int .i64 n,.iface T u] 145) = w':=by
 go_enter Tryz.func31,Tryz.ntmps31
 go_wp2
 go_ret
 exact ⟨rfl,rfl⟩
theorem set5 (p:Pl) (bb sb:Nat) (fr:GSl) (fv u:Value):(#[.slice (some ⟨bb,0,none⟩) p.nb p.nb,.slice (some ⟨sb,0,none⟩) p.ns p.ns,fr.v,.int .i64 p.steps,.int .i64 p.made,fv]:Array Value).setIfInBounds 5 u = #[.slice (some ⟨bb,0,none⟩) p.nb p.nb,.slice (some ⟨sb,0,none⟩) p.ns p.ns,fr.v,.int .i64 p.steps,.int .i64 p.made,u]:=rfl
theorem PB.faulted {w:World} {g bb sb:Nat} {p:Pl} {fr:GSl} {fv:Value} (h:PB w g bb sb p fr fv) (T:TypeId) (q:Addr):PB (w.setCell ⟨g,5,none⟩ (.iface T (.pointer (some q)))) g bb sb { p with fault:=true } fr (.iface T (.pointer (some q))):=by
 have hg2:=Xq w g 5 (.iface T (.pointer (some q)))
 exact ⟨by rw [← set5 p bb sb fr fv];exact h.bk.set_ 5 _,h.bo.far (p:=⟨g,5,none⟩) (Ne.symm h.n1) _,h.so.far (p:=⟨g,5,none⟩) (Ne.symm h.n2) _,h.fo.grown hg2 (Or.inr h.f1),⟨_,_,rfl⟩,h.n1,h.n2,h.n3,h.f1,h.f2,h.f3,h.nbm,h.nsm⟩
theorem doWrong_any {w:World} {g bb sb:Nat} {p:Pl} {fr:GSl} {fv:Value} (h:PB w g bb sb p fr fv) (he:ErrOk w) (hg40:7≤g) (a:GAcc) (hv:p.valid a = true) (hr:p.right a = false) :
  Calls Tryz.prog 42 #[.pointer (some ⟨g,0,none⟩),.agg a.l.toArray] w (RetDo w g bb sb (Yx g bb sb fr) (p.act a)):=by
 have HVR:=Lib.hid (And.intro hv hr)
 clear hv hr
 (obtain ⟨k,⟨a0,a1,a2⟩,⟨o0,o1,o2,o3,o4⟩,⟨n0,n1,n2,n3,n4⟩⟩:=a)
 show Calls Tryz.prog 42 #[.pointer (some ⟨g,0,none⟩),.agg #[.int .i64 k,.int .i64 a0,.int .i64 a1,.int .i64 a2,.int .i64 o0,.int .i64 o1,.int .i64 o2,.int .i64 o3,.bool o4,.int .i64 n0,.int .i64 n1,.int .i64 n2,.int .i64 n3,.bool n4]] w _
 (have hgl:=h.bk.lt;have hwl:=he.lt;have HH:=Lib.hid (h.below (w':=((w.alloc (.cells #[.int .i64 k,.int .i64 a0,.int .i64 a1,.int .i64 a2,.int .i64 o0,.int .i64 o1,.int .i64 o2,.int .i64 o3,.bool o4,.int .i64 n0,.int .i64 n1,.int .i64 n2,.int .i64 n3,.bool n4] 114)).alloc (.cells #[.int .i64 0,.int .i64 0,.int .i64 0,.int .i64 0,.bool false,.bool false] 108))) vB);have HE:=Lib.hid (he.below (w':=((w.alloc (.cells #[.int .i64 k,.int .i64 a0,.int .i64 a1,.int .i64 a2,.int .i64 o0,.int .i64 o1,.int .i64 o2,.int .i64 o3,.bool o4,.int .i64 n0,.int .i64 n1,.int .i64 n2,.int .i64 n3,.bool n4] 114)).alloc (.cells #[.int .i64 0,.int .i64 0,.int .i64 0,.int .i64 0,.bool false,.bool false] 108))) vB);have XA:Bk ((w.alloc (.cells #[.int .i64 k,.int .i64 a0,.int .i64 a1,.int .i64 a2,.int .i64 o0,.int .i64 o1,.int .i64 o2,.int .i64 o3,.bool o4,.int .i64 n0,.int .i64 n1,.int .i64 n2,.int .i64 n3,.bool n4] 114)).alloc (.cells #[.int .i64 0,.int .i64 0,.int .i64 0,.int .i64 0,.bool false,.bool false] 108)) w.heap.size 114 #[.int .i64 k,.int .i64 a0,.int .i64 a1,.int .i64 a2,.int .i64 o0,.int .i64 o1,.int .i64 o2,.int .i64 o3,.bool o4,.int .i64 n0,.int .i64 n1,.int .i64 n2,.int .i64 n3,.bool n4]:=(Bk.at_ rfl).alloc _;have X4:Bk ((w.alloc (.cells #[.int .i64 k,.int .i64 a0,.int .i64 a1,.int .i64 a2,.int .i64 o0,.int .i64 o1,.int .i64 o2,.int .i64 o3,.bool o4,.int .i64 n0,.int .i64 n1,.int .i64 n2,.int .i64 n3,.bool n4] 114)).alloc (.cells #[.int .i64 0,.int .i64 0,.int .i64 0,.int .i64 0,.bool false,.bool false] 108)) (w.heap.size+1) 108 #[.int .i64 0,.int .i64 0,.int .i64 0,.int .i64 0,.bool false,.bool false]:=Bk.at_ (by simp);have HC:Hid (Below w.heap.size w ((w.alloc (.cells #[.int .i64 k,.int .i64 a0,.int .i64 a1,.int .i64 a2,.int .i64 o0,.int .i64 o1,.int .i64 o2,.int .i64 o3,.bool o4,.int .i64 n0,.int .i64 n1,.int .i64 n2,.int .i64 n3,.bool n4] 114)).alloc (.cells #[.int .i64 0,.int .i64 0,.int .i64 0,.int .i64 0,.bool false,.bool false] 108))):=Lib.hid vB;have hz:w.heap.size+1 < ((w.alloc (.cells #[.int .i64 k,.int .i64 a0,.int .i64 a1,.int .i64 a2,.int .i64 o0,.int .i64 o1,.int .i64 o2,.int .i64 o3,.bool o4,.int .i64 n0,.int .i64 n1,.int .i64 n2,.int .i64 n3,.bool n4] 114)).alloc (.cells #[.int .i64 0,.int .i64 0,.int .i64 0,.int .i64 0,.bool false,.bool false] 108)).heap.size:=(by simp);have HLT:=Lib.hid h.lt;clear h he)
 go_enter Tryz.func42,Tryz.ntmps42
 go_wp2_with fail
 refine (plotValid_any HH.out ⟨k,⟨a0,a1,a2⟩,⟨o0,o1,o2,o3,o4⟩,⟨n0,n1,n2,n3,n4⟩⟩).mono ?_
 rintro e w1 ⟨rfl,hb1⟩
 rw [HVR.out.1]
 have H1:=Lib.hid (HH.out.below hb1);have E1:=Lib.hid (HE.out.below hb1)
 have XA1:=XA.belowAll hb1;have X41:=X4.belowAll hb1
 have C1:Hid (Below w.heap.size w w1):=Lib.hid (HC.out.trans (hb1.mono HC.out.size))
 clear HH HE XA X4 hb1 HC
 have c3:=H1.out.cells.2.2.2.1
 have f3:=H1.out.bk.free 3
 have hg1:=H1.out.bk.lt
 have hgx:g≠w.heap.size:=by omega
 have hgy:g≠w.heap.size+1:=by omega
 have XA2:=Lib.hid (XA1.far (p:=⟨g,3,none⟩) (Ne.symm hgx) (.int .i64 (wrap64 (p.steps+1))))
 have X42:=Lib.hid (X41.far (p:=⟨g,3,none⟩) (Ne.symm hgy) (.int .i64 (wrap64 (p.steps+1))))
 go_wp2_with (refine wpList_load_mid (by rfl) _ _ (by rfl) w.heap.size 0 (by rfl) [.int .i64 k,.int .i64 a0,.int .i64 a1,.int .i64 a2,.int .i64 o0,.int .i64 o1,.int .i64 o2,.int .i64 o3,.bool o4,.int .i64 n0,.int .i64 n1,.int .i64 n2,.int .i64 n3,.bool n4] _ XA2.out.range Tryz.underlying114 (by rfl) (by kernel_rfl) ?_)
 have P2:=H1.out.stepped (wrap64 (p.steps+1))
 have hcs:Chg [g] w1 (w1.setCell ⟨g,3,none⟩ (.int .i64 (wrap64 (p.steps+1)))):=Chg.of_grown (b:=0) (Xq _ _ _ _) (fun b e=>by injection e with e;simp [e])
 have E2:=E1.out.chg hcs (by simp;omega)
 refine (plotWrong_any P2 E2 ⟨k,⟨a0,a1,a2⟩,⟨o0,o1,o2,o3,o4⟩,⟨n0,n1,n2,n3,n4⟩⟩ HVR.out.1).mono ?_
 intro e w2 hr
 rw [show ({ p with steps:=wrap64 (p.steps+1) }:Pl).right ⟨k,⟨a0,a1,a2⟩,⟨o0,o1,o2,o3,o4⟩,⟨n0,n1,n2,n3,n4⟩⟩ = false from HVR.out.2] at hr
 obtain ⟨⟨T9,q9,rfl⟩,hb2⟩:=hr
 have H2:=Lib.hid (P2.below hb2)
 have XA3:=XA2.out.belowAll hb2
 have X43:=Lib.hid (X42.out.belowAll hb2)
 have C2:Hid (Chg (Yx g bb sb fr) w w2):=Lib.hid (((Chg.of_below C1.out).trans (hcs.mono (fun x hx=>Or.inl (by rw [List.mem_singleton.1 hx];exact Xw.2 (Or.inl rfl))))).trans (Chg.of_below hb2))
 have y0:=XA3.cell 0
 have XA4:=Lib.hid XA3
 simp at y0
 have hz2:w.heap.size+1 < w2.heap.size:=X43.out.lt
 have c3:=H2.out.cells.2.2.2.1
 have c5:=H2.out.cells.2.2.2.2.2
 have f5:=H2.out.bk.free 5
 have hgl2:=H2.out.bk.lt
 simp only at c3
 have hzw:w.heap.size < w2.heap.size:=by omega
 clear P2 hcs E2 hb2 XA2 X42 XA3 XA1 X41 H1 E1 C1 f3 hz
 cases hfa:p.fault with
 | true =>
  have hfv:=H2.out.fau
  rw [show ({ p with steps:=wrap64 (p.steps+1) }:Pl).fault = true from hfa] at hfv
  obtain ⟨T8,q8,rfl⟩:=hfv
  go_wp2_with fail
  have HX:Hid (PB w2 g bb sb { p with steps:=wrap64 (p.steps+1),fault:=true } fr (.iface T8 (.pointer (some q8)))):=Lib.hid (by have h:=H2.out;rw [show ({ p with steps:=wrap64 (p.steps+1) }:Pl) = { p with steps:=wrap64 (p.steps+1),fault:=true } from by cases p;simp only at hfa;subst hfa;rfl] at h;exact h)
  have XX:=X43
  have CX:=C2
  refine (refused_any k _).mono ?_
  rintro e w4 ⟨rfl,hc4⟩
  obtain ⟨⟨⟨r0,r1,r2,r3,r4⟩,r5⟩,hq⟩:∃ q,q = Pl.refused k:=⟨_,rfl⟩
  have HQ:=Lib.hid hq
  rw [← hq]
  clear hq
  rw [show (⟨⟨r0,r1,r2,r3,r4⟩,r5⟩:Xi).l.toArray = #[.int .i64 r0,.int .i64 r1,.int .i64 r2,.int .i64 r3,.bool r4,.bool r5] from rfl]
  have X5:=Lib.hid (XX.out.belowAll hc4.below)
  have H5:=Lib.hid (HX.out.below hc4.below)
  have C5:Hid (Chg (Yx g bb sb fr) w w4):=Lib.hid (CX.out.trans (hc4.mono (fun x hx=>by cases hx)))
  have hz5:w.heap.size+1 < w4.heap.size:=X5.out.lt
  clear hc4
  go_wp2_with (refine vM X5.out ?_;intro w6 hst3)
  have s0:=hst3.bk.cell 0;have s1:=hst3.bk.cell 1;have s2:=hst3.bk.cell 2;have s3:=hst3.bk.cell 3;have s4:=hst3.bk.cell 4;have s5:=hst3.bk.cell 5
  simp at s0 s1 s2 s3 s4 s5
  refine bodyPost_ret (v:=.tuple #[.agg #[.int .i64 r0,.int .i64 r1,.int .i64 r2,.int .i64 r3,.bool r4,.bool r5],.nilIface]) (by simp [results,Tryz.results42,go_sem,s0,s1,s2,s3,s4,s5]) rfl ?_
  have ea:p.act ⟨k,⟨a0,a1,a2⟩,⟨o0,o1,o2,o3,o4⟩,⟨n0,n1,n2,n3,n4⟩⟩ = ({ p with steps:=wrap64 (p.steps+1),fault:=true },⟨⟨r0,r1,r2,r3,r4⟩,r5⟩):=by
   unfold Pl.act
   rw [wr_is]
   simp only
   rw [show ({ p with steps:=wrap64 (p.steps+1) }:Pl).right ⟨k,⟨a0,a1,a2⟩,⟨o0,o1,o2,o3,o4⟩,⟨n0,n1,n2,n3,n4⟩⟩ = false from HVR.out.2,HQ.out]
   rfl
  rw [ea]
  have c6:Chg [w.heap.size+1] w4 w6:=Chg.of_grown (b:=0) hst3.grown (fun b' e=>by injection e with e;simp [e])
  have hlt:=HLT.out
  exact ⟨rfl,fr,_,H5.out.chg c6 (fun x hx h1=>by have:=hlt x hx;rw [List.mem_singleton.1 h1] at this;omega),C5.out.seq (F1:=[w.heap.size+1]) (fun x hx=>by rw [List.mem_singleton.1 hx];right;omega) c6,fun x hx=>Or.inl hx⟩
 | false =>
  have hfv:=H2.out.fau
  rw [show ({ p with steps:=wrap64 (p.steps+1) }:Pl).fault = false from hfa] at hfv
  obtain rfl:=hfv
  go_wp2_with fail
  refine (woeAt_any _ T9 _ w2).mono ?_
  rintro e w3 ⟨rfl,rfl⟩
  go_wp2_with fail
  have hal:Below w2.heap.size w2 (w2.alloc (.cells #[.int .i64 (wrap64 (p.steps+1)),.iface T9 (.pointer (some q9))] 145)):=(Below.refl _ _).alloc (Nat.le_refl _) _
  have e1:(w2.alloc (.cells #[.int .i64 (wrap64 (p.steps+1)),.iface T9 (.pointer (some q9))] 145)).setCell ⟨g,5,none⟩ (.iface 143 (.pointer (some ⟨w2.heap.size,0,none⟩))) = (w2.setCell ⟨g,5,none⟩ (.iface 143 (.pointer (some ⟨w2.heap.size,0,none⟩)))).alloc (.cells #[.int .i64 (wrap64 (p.steps+1)),.iface T9 (.pointer (some q9))] 145):=by simp [go_sem,hgl2]
  have HX:Hid (PB _ g bb sb { p with steps:=wrap64 (p.steps+1),fault:=true } fr (.iface 143 (.pointer (some ⟨w2.heap.size,0,none⟩)))):=Lib.hid (e1 ▸ ((H2.out.below hal).faulted 143 ⟨w2.heap.size,0,none⟩))
  have hgc:Chg (Yx g bb sb fr) (w2.alloc (.cells #[.int .i64 (wrap64 (p.steps+1)),.iface T9 (.pointer (some q9))] 145)) _:=Chg.of_grown (b:=0) (Xq _ g 5 (.iface 143 (.pointer (some ⟨w2.heap.size,0,none⟩)))) (fun b e=>by injection e with e;exact Xw.2 (Or.inl e.symm))
  have CX:Hid (Chg (Yx g bb sb fr) w _):=Lib.hid (e1 ▸ (C2.out.trans ((Chg.of_below hal).trans hgc)))
  have XX:=Lib.hid (e1 ▸ ((X43.out.belowAll hal).far (p:=⟨g,5,none⟩) (Ne.symm hgy) (.iface 143 (.pointer (some ⟨w2.heap.size,0,none⟩)))))
  refine (refused_any k _).mono ?_
  rintro e w4 ⟨rfl,hc4⟩
  obtain ⟨⟨⟨r0,r1,r2,r3,r4⟩,r5⟩,hq⟩:∃ q,q = Pl.refused k:=⟨_,rfl⟩
  have HQ:=Lib.hid hq
  rw [← hq]
  clear hq
  rw [show (⟨⟨r0,r1,r2,r3,r4⟩,r5⟩:Xi).l.toArray = #[.int .i64 r0,.int .i64 r1,.int .i64 r2,.int .i64 r3,.bool r4,.bool r5] from rfl]
  have X5:=Lib.hid (XX.out.belowAll hc4.below)
  have H5:=Lib.hid (HX.out.below hc4.below)
  have C5:Hid (Chg (Yx g bb sb fr) w w4):=Lib.hid (CX.out.trans (hc4.mono (fun x hx=>by cases hx)))
  have hz5:w.heap.size+1 < w4.heap.size:=X5.out.lt
  clear hc4
  go_wp2_with (refine vM X5.out ?_;intro w6 hst3)
  have s0:=hst3.bk.cell 0;have s1:=hst3.bk.cell 1;have s2:=hst3.bk.cell 2;have s3:=hst3.bk.cell 3;have s4:=hst3.bk.cell 4;have s5:=hst3.bk.cell 5
  simp at s0 s1 s2 s3 s4 s5
  refine bodyPost_ret (v:=.tuple #[.agg #[.int .i64 r0,.int .i64 r1,.int .i64 r2,.int .i64 r3,.bool r4,.bool r5],.nilIface]) (by simp [results,Tryz.results42,go_sem,s0,s1,s2,s3,s4,s5]) rfl ?_
  have ea:p.act ⟨k,⟨a0,a1,a2⟩,⟨o0,o1,o2,o3,o4⟩,⟨n0,n1,n2,n3,n4⟩⟩ = ({ p with steps:=wrap64 (p.steps+1),fault:=true },⟨⟨r0,r1,r2,r3,r4⟩,r5⟩):=by
   unfold Pl.act
   rw [wr_is]
   simp only
   rw [show ({ p with steps:=wrap64 (p.steps+1) }:Pl).right ⟨k,⟨a0,a1,a2⟩,⟨o0,o1,o2,o3,o4⟩,⟨n0,n1,n2,n3,n4⟩⟩ = false from HVR.out.2,HQ.out]
   rfl
  rw [ea]
  have c6:Chg [w.heap.size+1] w4 w6:=Chg.of_grown (b:=0) hst3.grown (fun b' e=>by injection e with e;simp [e])
  have hlt:=HLT.out
  exact ⟨rfl,fr,_,H5.out.chg c6 (fun x hx h1=>by have:=hlt x hx;rw [List.mem_singleton.1 h1] at this;omega),C5.out.seq (F1:=[w.heap.size+1]) (fun x hx=>by rw [List.mem_singleton.1 hx];right;omega) c6,fun x hx=>Or.inl hx⟩
theorem plotDo_any {w:World} {g bb sb:Nat} {p:Pl} {fr:GSl} {fv:Value} (h:PB w g bb sb p fr fv) (he:ErrOk w) (hg40:7≤g) (a:GAcc) (hv:p.valid a = true) (hfv:∀ x∈p.free,p.exists_ x = true) (hfl:p.free.length≤5000) :
  Calls Tryz.prog 42 #[.pointer (some ⟨g,0,none⟩),.agg a.l.toArray] w (RetDo w g bb sb (Yx g bb sb fr) (p.act a)):=by
 cases hr:p.right a with
 | false=>exact doWrong_any h he hg40 a hv hr
 | true =>
  have hk:a.kind = 1∨a.kind = 2∨a.kind = 3∨a.kind = 4∨a.kind = 5:=by
   have h1:=hv
   unfold Pl.valid at h1
   by_cases k1:a.kind = 1
   ·exact Or.inl k1
   by_cases k2:a.kind = 2
   ·exact Or.inr (Or.inl k2)
   by_cases k3:a.kind = 3
   ·exact Or.inr (Or.inr (Or.inl k3))
   by_cases k4:a.kind = 4
   ·exact Or.inr (Or.inr (Or.inr (Or.inl k4)))
   by_cases k5:a.kind = 5
   ·exact Or.inr (Or.inr (Or.inr (Or.inr k5)))
   ·rw [show (a.kind==1) = false from by simp [k1],show (a.kind==2) = false from by simp [k2],show (a.kind==3) = false from by simp [k3],show (a.kind==4) = false from by simp [k4],show (a.kind==5) = false from by simp [k5]] at h1
    cases h1
  rcases hk with hk | hk | hk | hk | hk
  ·exact doTouch_any h he hg40 a hv hr (Or.inl hk)
  ·exact doTouch_any h he hg40 a hv hr (Or.inr (Or.inl hk))
  ·exact doTouch_any h he hg40 a hv hr (Or.inr (Or.inr hk))
  ·exact doNew_any h he hg40 a hk hfv hfl
  ·exact doFree_any h he hg40 a hk hv hr hfl
def RetPk (r:Xf × Bool) (w:World) (e:Ending) (w':World):Prop:=e = .returned (.tuple #[.agg r.1.l.toArray,.bool r.2])∧Below w.heap.size w w'
theorem peek_any {w:World} {g bb sb:Nat} {p:Pl} {fr:GSl} {fv:Value} (h:PB w g bb sb p fr fv) (he:ErrOk w) (a:Yj) :
  Calls Tryz.prog 16 #[.pointer (some ⟨g,0,none⟩),.agg a.l.toArray] w (RetPk (p.peek a) w):=by
 have hgl:=h.bk.lt
 have hwl:=he.lt
 obtain ⟨T2,q2,e2⟩:=he.freed
 obtain ⟨a0,a1,a2⟩:=a
 show Calls Tryz.prog 16 #[.pointer (some ⟨g,0,none⟩),.agg #[.int .i64 a0,.int .i64 a1,.int .i64 a2]] w _
 have H1:=Lib.hid (h.below (w':=(w.alloc (.cells #[.int .i64 a0,.int .i64 a1,.int .i64 a2] 54)).alloc (.cells #[.int .i64 0,.int .i64 0,.int .i64 0,.int .i64 0,.bool false] 51)) vB)
 have E1:=Lib.hid (he.below (w':=(w.alloc (.cells #[.int .i64 a0,.int .i64 a1,.int .i64 a2] 54)).alloc (.cells #[.int .i64 0,.int .i64 0,.int .i64 0,.int .i64 0,.bool false] 51)) vB)
 clear h he
 go_enter Tryz.func16,Tryz.ntmps16
 go_wp2_with fail
 refine (plotHas_any H1.out ⟨a0,a1,a2⟩).mono ?_
 rintro e w1 ⟨rfl,hb1⟩
 have H2:=Lib.hid (H1.out.below hb1)
 have E2:=Lib.hid (E1.out.below hb1)
 have XA:=Lib.hid (((Bk.at_ (w:=w) (g:=w.heap.size) (cs:=#[.int .i64 a0,.int .i64 a1,.int .i64 a2]) (t:=54) rfl).alloc (.cells #[.int .i64 0,.int .i64 0,.int .i64 0,.int .i64 0,.bool false] 51)).belowAll hb1)
 have XW:=Lib.hid ((Bk.at_ (w:=w.alloc (.cells #[.int .i64 a0,.int .i64 a1,.int .i64 a2] 54)) (g:=w.heap.size+1) (cs:=#[.int .i64 0,.int .i64 0,.int .i64 0,.int .i64 0,.bool false]) (t:=51) (by simp)).belowAll hb1)
 have C1:Hid (Below w.heap.size w w1):=Lib.hid ((show Below w.heap.size w _ from ((Below.refl _ _).alloc (Nat.le_refl _) _).alloc (by simp) _).trans (hb1.mono (by simp;omega)))
 have hz1:w.heap.size+1 < w1.heap.size:=XW.out.lt
 have y0:=XA.out.cell 0;have y1:=XA.out.cell 1;have y2:=XA.out.cell 2
 simp at y0 y1 y2
 obtain ⟨T3,q3,e3⟩:=E2.out.freed
 clear hb1 H1 E1 e2
 cases hh:p.has ⟨a0,a1,a2⟩ with
 | false =>
  have ep:p.peek ⟨a0,a1,a2⟩ = (.zero,false):=by unfold Pl.peek;rw [hh];rfl
  have EP:=Lib.hid ep
  clear ep
  go_wp2_with (refine vM XW.out ?_;intro w6 hst3)
  have s0:=hst3.bk.cell 0;have s1:=hst3.bk.cell 1;have s2:=hst3.bk.cell 2;have s3:=hst3.bk.cell 3;have s4:=hst3.bk.cell 4
  simp at s0 s1 s2 s3 s4
  refine bodyPost_ret (v:=.tuple #[.agg #[.int .i64 0,.int .i64 0,.int .i64 0,.int .i64 0,.bool false],.bool false]) (by simp [results,Tryz.results16,go_sem,s0,s1,s2,s3,s4]) rfl ?_
  unfold RetPk
  rw [EP.out]
  exact ⟨rfl,hst3.below C1.out (by omega)⟩
 | true =>
  go_wp2_with fail
  have hx:a0 = 0∨p.exists_ a0 = true:=has_exists (a:=⟨a0,a1,a2⟩) hh
  refine (plotState_any H2.out E2.out a0 a1 hx T3 q3).mono ?_
  intro e w2 hr
  have H3:=Lib.hid (H2.out.below hr.2)
  have XA2:=Lib.hid (XA.out.belowAll hr.2)
  have XW2:=Lib.hid (XW.out.belowAll hr.2)
  have C2:Hid (Below w.heap.size w w2):=Lib.hid (C1.out.trans (hr.2.mono C1.out.size))
  have hz2:w.heap.size+1 < w2.heap.size:=XW2.out.lt
  have ep:p.peek ⟨a0,a1,a2⟩ = bif p.live a0 a1 then (p.get ⟨a0,a1,a2⟩,true) else (.zero,false):=by unfold Pl.peek;rw [hh];rfl
  have EP:=Lib.hid ep
  clear ep y0 y1 y2 e3 H2 E2 XA XW C1 hz1
  cases hl:p.live a0 a1 with
  | false =>
   rw [hl] at hr
   obtain ⟨⟨T4,q4,rfl⟩,_⟩:=hr
   have HL:=Lib.hid hl
   clear hl hh hx
   go_wp2_with (refine vM XW2.out ?_;intro w6 hst3)
   have s0:=hst3.bk.cell 0;have s1:=hst3.bk.cell 1;have s2:=hst3.bk.cell 2;have s3:=hst3.bk.cell 3;have s4:=hst3.bk.cell 4
   simp at s0 s1 s2 s3 s4
   refine bodyPost_ret (v:=.tuple #[.agg #[.int .i64 0,.int .i64 0,.int .i64 0,.int .i64 0,.bool false],.bool false]) (by simp [results,Tryz.results16,go_sem,s0,s1,s2,s3,s4]) rfl ?_
   unfold RetPk
   rw [EP.out,HL.out]
   exact ⟨rfl,hst3.below C2.out (by omega)⟩
  | true =>
   rw [hl] at hr
   obtain ⟨rfl,_⟩:=hr
   have HL:=Lib.hid hl
   clear hl hx
   obtain ⟨b,o,T,cs,hcell,hbm,hbk,hrg,hsz,hput⟩:=place H3.out ⟨a0,a1,a2⟩ hh
   have HP:=Lib.hid (And.intro hcell (And.intro hbk hrg))
   clear hcell hbk hrg hput hh
   obtain ⟨x,hx⟩:∃ x,x = p.get ⟨a0,a1,a2⟩:=⟨_,rfl⟩
   rw [← hx] at HP EP
   have HX:=Lib.hid hx
   clear hx
   have y0:=XA2.out.cell 0;have y1:=XA2.out.cell 1;have y2:=XA2.out.cell 2
   simp at y0 y1 y2
   go_wp2_with fail
   refine HP.out.1.mono ?_
   rintro e w3 ⟨rfl,hb3⟩
   have hbl:=H3.out.lt b hbm
   obtain ⟨z0,z1,z2,z3,z4⟩:=range5 (fun j u hu=>by rw [(bcell hb3).1 b _ hbl];exact HP.out.2.2 j u hu:w3.rangeAt b o x.l)
   have XW3:=Lib.hid (XW2.out.belowAll hb3)
   have C3:Hid (Below w.heap.size w w3):=Lib.hid (C2.out.trans (hb3.mono C2.out.size))
   have hz3:w.heap.size+1 < w3.heap.size:=XW3.out.lt
   clear hb3 HP H3 XA2 XW2 C2 hz2 y0 y1 y2
   go_wp2_with (refine vM XW3.out ?_;intro w6 hst3)
   have s0:=hst3.bk.cell 0;have s1:=hst3.bk.cell 1;have s2:=hst3.bk.cell 2;have s3:=hst3.bk.cell 3;have s4:=hst3.bk.cell 4
   simp at s0 s1 s2 s3 s4
   refine bodyPost_ret (v:=.tuple #[.agg #[.int .i64 x.sl,.int .i64 x.gn,.int .i64 x.tg,.int .i64 x.nm,.bool x.mark],.bool true]) (by simp [results,Tryz.results16,go_sem,s0,s1,s2,s3,s4]) rfl ?_
   unfold RetPk
   rw [EP.out,HL.out]
   exact ⟨rfl,hst3.below C3.out (by omega)⟩
def PBx (w:World) (g:Nat) (p:Pl) (F:List Nat):Prop:=∃ bb sb fr fv,PB w g bb sb p fr fv∧F = Yx g bb sb fr
def Low (w0 w:World):Prop:=∀ b,b < 7→w.heap[b]? = w0.heap[b]?
section
variable {w w' w0:World} {g:Nat} {p:Pl} {F:List Nat}
theorem PBx.same (h:PBx w g p F) (hs:∀ b∈F,w'.heap[b]? = w.heap[b]?):PBx w' g p F:=by
 obtain ⟨bb,sb,fr,fv,h,rfl⟩:=h
 exact ⟨bb,sb,fr,fv,⟨h.bk.same (hs g (Xw.2 (Or.inl rfl))),h.bo.same (hs bb (Xw.2 (Or.inr (Or.inl rfl)))),h.so.same (hs sb (Xw.2 (Or.inr (Or.inr (Or.inl rfl))))),h.fo.kept fun b hb=>hs b (Xw.2 (Or.inr (Or.inr (Or.inr hb)))),h.fau,h.n1,h.n2,h.n3,h.f1,h.f2,h.f3,h.nbm,h.nsm⟩,rfl⟩
theorem PBx.lt (h:PBx w g p F):∀ b∈F,b < w.heap.size:=by obtain ⟨bb,sb,fr,fv,h,rfl⟩:=h;exact h.lt
theorem PBx.mem (h:PBx w g p F):g∈F:=by obtain ⟨bb,sb,fr,fv,h,rfl⟩:=h;exact Xw.2 (Or.inl rfl)
theorem Low.trans {w1:World} (h:Low w0 w) (h1:Low w w1):Low w0 w1:=fun b hb=>(h1 b hb).trans (h b hb)
theorem ErrOk.low (h:ErrOk w0) (hl:Low w0 w) (hz:7≤w.heap.size):ErrOk w:=by
 have c:∀ {a:Nat} {v:Value},a < 7→w0.cell? ⟨a,0,none⟩ = some v→w.cell? ⟨a,0,none⟩ = some v:=fun ha hv=>by
  rw [← hv]
  unfold World.cell?
  rw [hl _ ha]
 exact ⟨h.arg.imp fun T=>Exists.imp fun q e=>c (by decide) e,h.nil_.imp fun T=>Exists.imp fun q e=>c (by decide) e,h.full.imp fun T=>Exists.imp fun q e=>c (by decide) e,h.state.imp fun T=>Exists.imp fun q e=>c (by decide) e,
  h.freed.imp fun T=>Exists.imp fun q e=>c (by decide) e,h.stale.imp fun T=>Exists.imp fun q e=>c (by decide) e,h.twice.imp fun T=>Exists.imp fun q e=>c (by decide) e,hz⟩
end
def RP (w0:World) (gr:Nat) (jv:Value) (gh:Nat) (M:MR) (o:Option GJob) (p:Pl) (w:World) (F:Nat→Prop):Prop :=
 Low w0 w∧∃ F1 Fh,RJo gr jv M o w F1∧PBx w gh p Fh∧(∀ b,F1 b→b ∉ Fh)∧(∀ b,F1 b→7≤b)∧(∀ b∈Fh,7≤b)∧∀ b,F b↔F1 b∨b∈Fh∨b < 7
section
variable {w0 w w':World} {gr gh:Nat} {jv:Value} {M M':MR} {o:Option GJob} {p p':Pl} {F:Nat→Prop}
theorem RP.keep (h:RP w0 gr jv gh M o p w F) (hs:∀ b,F b→w'.heap[b]? = w.heap[b]?):RP w0 gr jv gh M o p w' F:=by
 obtain ⟨h0,F1,Fh,h1,h2,h3,h4,h5,h6⟩:=h
 exact ⟨h0.trans fun b hb=>hs b ((h6 b).2 (Or.inr (Or.inr hb))),F1,Fh,h1.keep fun b hb=>hs b ((h6 b).2 (Or.inl hb)),h2.same fun b hb=>hs b ((h6 b).2 (Or.inr (Or.inl hb))),h3,h4,h5,h6⟩
theorem RP.size (h:RP w0 gr jv gh M o p w F):7 < w.heap.size:=by
 obtain ⟨h0,F1,Fh,h1,h2,h3,h4,h5,h6⟩:=h
 have:=h5 gh h2.mem;have:=h2.lt gh h2.mem;omega
theorem RP.lt (h:RP w0 gr jv gh M o p w F):∀ b,F b→b < w.heap.size:=by
 have hz:=h.size
 obtain ⟨h0,F1,Fh,h1,h2,h3,h4,h5,h6⟩:=h
 intro b hb
 rcases (h6 b).1 hb with hb | hb | hb
 ·exact h1.lt b hb
 ·exact h2.lt b hb
 ·omega
theorem rp_rite {V:Value} (h:RP w0 gr jv gh M o p w F) {f:Nat} {args:Array Value} (hp:∀ Fr,RBx w gr M Fr→Calls Tryz.prog f args w (JRet (fun w F=>RBx w gr M' F) V Fr w)) (Φ:Phi) (j:Nat) (hj:∀ w F,RP w0 gr jv gh M' o p w F→Φ.P j w F) :
  Calls Tryz.prog f args w fun en w'=>en = .returned V∧Opq Φ j F none w w':=by
 have hz:=h.size
 obtain ⟨h0,F1,Fh,h1,h2,h3,h4,h5,h6⟩:=h
 refine (rjo_rite h1 hp ⟨fun _ w F=>RJo gr jv M' o w F,fun _ _ _ _ h hs=>h.keep hs⟩ 0 fun w F h=>h).mono fun en w' hq=>?_
 obtain ⟨p1,O⟩:=hq
 obtain ⟨F',q1,q2,q3⟩:=O.fin
 have far:∀ b,b < w.heap.size→¬ F1 b→w'.heap[b]? = w.heap[b]?:=fun b hb hf=>O.frm b hb (by simp) hf
 refine ⟨p1,O.os,O.tape,O.output,O.size,fun b hb _ hf=>far b hb fun h=>hf ((h6 b).2 (Or.inl h)),fun b=>F' b∨b∈Fh∨b < 7,hj _ _ ⟨h0.trans fun b hb=>far b (by omega) fun h=>by have:=h4 b h;omega,F',Fh,q1,h2.same fun b hb=>far b (h2.lt b hb) fun h=>h3 b h hb,fun b hb hx=>?_,fun b hb=>?_,h5,fun b=>Iff.rfl⟩,fun b hb=>?_,fun b hb=>?_⟩
 ·rcases q2 b hb with h | h
  ·exact h3 b h hx
  ·have:=h2.lt b hx;omega
 ·rcases q2 b hb with h | h
  ·exact h4 b h
  ·omega
 ·rcases hb with hb | hb
  ·exact (q2 b hb).imp (fun h=>(h6 b).2 (Or.inl h)) id
  ·exact Or.inl ((h6 b).2 (Or.inr hb))
 ·have hsz:w.heap.size≤w'.heap.size:=O.size
  rcases hb with hb | hb | hb
  ·exact q3 b hb
  ·have:=h2.lt b hb;omega
  ·omega
theorem rp_heap {V:Value} (h:RP w0 gr jv gh M o p w F) {f:Nat} {args:Array Value} (hp:∀ Fh,PBx w gh p Fh→(∀ b∈Fh,7≤b)→Low w0 w→Calls Tryz.prog f args w (JRet (fun w F=>PBx w gh p' F) V Fh w)) (Φ:Phi) (j:Nat) (hj:∀ w F,RP w0 gr jv gh M o p' w F→Φ.P j w F) :
  Calls Tryz.prog f args w fun en w'=>en = .returned V∧Opq Φ j F none w w':=by
 have hz:=h.size
 obtain ⟨h0,F1,Fh,h1,h2,h3,h4,h5,h6⟩:=h
 refine (hp Fh h2 h5 h0).mono fun en w' hq=>?_
 obtain ⟨F',p1,q1,q2,O⟩:=hq
 have far:∀ b,b < w.heap.size→b ∉ Fh→w'.heap[b]? = w.heap[b]?:=fun b hb hf=>O.far b hb hf
 refine ⟨p1,O.os,O.tape,O.output,O.size,fun b hb _ hf=>far b hb fun h=>hf ((h6 b).2 (Or.inr (Or.inl h))),fun b=>F1 b∨b∈F'∨b < 7,hj _ _ ⟨h0.trans fun b hb=>far b (by omega) fun h=>by have:=h5 b h;omega,F1,F',h1.keep fun b hb=>far b (h1.lt b hb) fun h=>h3 b hb h,q1,fun b hb hx=>?_,h4,fun b hb=>?_,fun b=>Iff.rfl⟩,fun b hb=>?_,fun b hb=>?_⟩
 ·rcases q2 b hx with h | h
  ·exact h3 b hb h
  ·have:=h1.lt b hb;omega
 ·rcases q2 b hb with h | h
  ·exact h5 b h
  ·omega
 ·rcases hb with hb | hb | hb
  ·exact Or.inl ((h6 b).2 (Or.inl hb))
  ·exact (q2 b hb).imp (fun h=>(h6 b).2 (Or.inr (Or.inl h))) id
  ·exact Or.inl ((h6 b).2 (Or.inr (Or.inr hb)))
 ·have hsz:w.heap.size≤w'.heap.size:=O.size
  rcases hb with hb | hb | hb
  ·have:=h1.lt b hb;omega
  ·exact q1.lt b hb
  ·omega
end
theorem real_eq (V:MV) (a:GAcc):V.real a = realOf (ver V) V.busyR a:=by
 unfold MV.real realOf
 show _ = bif V.call.kind==6 then bif V.busyR then -1 else bif V.eng==3 then 1 else bif V.eng==5 then 1 else 0 else _
 cases V.call.kind==6
 ·simp only [cond_false]
  show _ = bif V.call.kind==8 then bif !(a.kind==4) then -1 else 0 else bif V.call.kind==3 then 0 else bif V.call.kind==4 then 0 else bif V.call.kind==5 then 0 else bif V.call.kind==9 then 0 else -1
  cases V.call.kind==8
  ·cases V.call.kind==3 <;> cases V.call.kind==4 <;> cases V.call.kind==5 <;> cases V.call.kind==9 <;> rfl
  ·rfl
 ·cases V.busyR <;> cases V.eng==3 <;> cases V.eng==5 <;> rfl
structure StOk (V:MV) (p:Pl):Prop where
 doing:V.doing≠0
 step:V.M.R.step≠0
 rite:ROk V.M
 at_:StepOk V.M
 valid:p.valid V.M.R.acc = true
 free:∀ x∈p.free,p.exists_ x = true
 len:p.free.length≤5000
 go:GoOk { V with M:=V.M.took (p.act V.M.R.acc).2 }
theorem plotDo_x {w:World} {g:Nat} {p:Pl} {F:List Nat} (h:PBx w g p F) (he:ErrOk w) (hg:7≤g) (a:GAcc) (hv:p.valid a = true) (hfv:∀ x∈p.free,p.exists_ x = true) (hfl:p.free.length≤5000) :
  Calls Tryz.prog 42 #[.pointer (some ⟨g,0,none⟩),.agg a.l.toArray] w (JRet (fun w F=>PBx w g (p.act a).1 F) (.tuple #[.agg (p.act a).2.l.toArray,.nilIface]) F w):=by
 obtain ⟨bb,sb,fr,fv,h,rfl⟩:=h
 refine (plotDo_any h he hg a hv hfv hfl).mono fun en w' hp=>?_
 obtain ⟨p1,fr',fv',p2,p3,p4⟩:=hp
 exact ⟨_,p1,⟨bb,sb,fr',fv',p2,rfl⟩,p4,p3⟩
theorem step_mem (V:MV) (p:Pl) (gv gr gh:Nat) (jv:Value) (w0 w:World) (F:Nat→Prop) (he:ErrOk w0) (hb:Bk w gv 126 ((ver V).l (.pointer (some ⟨gr,0,none⟩)) jv).toArray) (h:RP w0 gr jv gh V.M V.job p w F) (hg:¬ F gv) (ok:StOk V p) :
  Calls Tryz.prog 37 #[.pointer (some ⟨gv,0,none⟩),.pointer (some ⟨gh,0,none⟩)] w fun en w' =>
   en = .returned (.tuple #[.agg (V.step p).2.2.l.toArray,.nilIface])∧Bk w' gv 126 ((ver (V.step p).1).l (.pointer (some ⟨gr,0,none⟩)) jv).toArray∧ChgP (fun b=>b = gv∨F b) w w' ∧
   ∃ F':Nat→Prop,RP w0 gr jv gh (V.step p).1.M (V.step p).1.job (V.step p).2.1 w' F'∧¬ F' gv∧∀ b,F' b→F b∨w.heap.size≤b:=by
 obtain ⟨a,ha⟩:∃ a,a = V.M.R.acc:=⟨_,rfl⟩
 obtain ⟨V1,hV1⟩:∃ V1:MV,V1 = { V with M:=V.M.took (p.act V.M.R.acc).2 }:=⟨_,rfl⟩
 have ev:ver V1 = ver V:=by rw [hV1];rfl
 have ej:V1.job = V.job:=by rw [hV1]
 have em:V1.M = V.M.took (p.act V.M.R.acc).2:=by rw [hV1]
 have go1:GoOk V1:=by rw [hV1];exact ok.go
 have hh1:7≤gh:=by obtain ⟨h0,F1,Fh,h1,h2,h3,h4,h5,h6⟩:=h;exact h5 gh h2.mem
 have hone:jv.oneCell' = true:=by obtain ⟨h0,F1,Fh,h1,_⟩:=h;exact h1.one
 have hs0:(V.M.R.step==0) = false:=by simp [ok.step]
 have es:V.step p = (V1.advance,(p.act V.M.R.acc).1,bif V1.advance.doing==0 then ⟨true,V1.advance.ans,V1.real V.M.R.acc⟩ else ⟨false,.zero,V1.real V.M.R.acc⟩):=by rw [hV1];rfl
 rw [es]
 let Φ:Phi:=⟨fun i w F=>if i = 0 then RP w0 gr jv gh V.M V.job p w F else if i = 1 then RP w0 gr jv gh V.M V.job (p.act V.M.R.acc).1 w F else if i = 2 then RP w0 gr jv gh V1.M V1.job (p.act V.M.R.acc).1 w F else RP w0 gr jv gh V1.advance.M V1.advance.job (p.act V.M.R.acc).1 w F,
  fun i w w' F h hs=>by
   split at h
   ·rename_i h0;rw [if_pos h0];exact h.keep hs
   ·rename_i h0
    rw [if_neg h0]
    split at h
    ·rename_i h1;rw [if_pos h1];exact h.keep hs
    ·rename_i h1
     rw [if_neg h1]
     split at h
     ·rename_i h2;rw [if_pos h2];exact h.keep hs
     ·rename_i h2;rw [if_neg h2];exact h.keep hs⟩
 have hq:=vstep_any (Φ:=Φ) (F:=F) (ver V) ⟨gr,0,none⟩ jv ⟨gh,0,none⟩ V.M.R.acc (p.act V.M.R.acc).2 V1.busyR (ver V1.advance) gv w hb hone (by show (V.doing==0) = false;simp [ok.doing])
  (fun w F (hP:RP w0 gr jv gh V.M V.job p w F) _=>rp_rite (M':=V.M) hP (fun Fr h1=>rnext_x h1 hs0) Φ 0 fun w F h=>h)
  (fun w F (hP:RP w0 gr jv gh V.M V.job p w F) _=>rp_heap hP (fun Fh h2 h5 h0=>plotDo_x h2 (he.low h0 (Nat.le_of_lt hP.size)) hh1 V.M.R.acc ok.valid ok.free ok.len) Φ 1 fun w F h=>h)
  (fun w F (hP:RP w0 gr jv gh V.M V.job (p.act V.M.R.acc).1 w F) _=>rp_rite (M':=V1.M) hP (fun Fr h1=>by rw [em];exact took_x _ h1 ok.rite ok.at_) Φ 2 fun w F h=>by show RP w0 gr jv gh V1.M V1.job _ w F;rw [ej];exact h)
  (fun w F (hP:RP w0 gr jv gh V1.M V1.job (p.act V.M.R.acc).1 w F) _=>rp_rite (M':=V1.M) hP (fun Fr h1=>rbusy_x h1) Φ 2 fun w F h=>h)
  (fun g w F hB (hP:RP w0 gr jv gh V1.M V1.job (p.act V.M.R.acc).1 w F) hg hbd=>by
   have hz:=hP.size
   obtain ⟨h0,F1,Fh,h1,h2,h3,h4,h5,h6⟩:=hP
   refine (go_mem V1 g gr jv w F1 (by rw [ev];exact hB) h1 (fun h=>hg ((h6 g).2 (Or.inl h))) go1).mono fun en w' hp=>?_
   obtain ⟨p1,p2,p3,F',p4,p5,p6,p7⟩:=hp
   have hsz:w.heap.size≤w'.heap.size:=p3.size
   have far:∀ b,b < w.heap.size→b≠g→¬ F1 b→w'.heap[b]? = w.heap[b]?:=fun b hb hn hf=>p3.far b hb fun h=>by rcases h with h | h;exact hn h;exact hf h
   refine ⟨p1,p2,p3.os,p3.tape,p3.output,p3.size,fun b hb hn hf=>far b hb (fun e=>hn (by rw [e])) fun h=>hf ((h6 b).2 (Or.inl h)),fun b=>F' b∨b∈Fh∨b < 7,?_,fun b hb=>?_,fun b hb=>?_⟩
   ·show RP w0 gr jv gh V1.advance.M V1.advance.job _ w' _
    refine ⟨h0.trans fun b hb=>far b (by omega) (fun e=>hg ((h6 g).2 (Or.inr (Or.inr (by omega))))) fun h=>by have:=h4 b h;omega,F',Fh,p4,h2.same fun b hb=>far b (h2.lt b hb) (fun e=>hg ((h6 g).2 (Or.inr (Or.inl (by rw [← e];exact hb))))) fun h=>h3 b h hb,fun b hb hx=>?_,fun b hb=>?_,h5,fun b=>Iff.rfl⟩
    ·rcases p7 b hb with h | h
     ·exact h3 b h hx
     ·have:=h2.lt b hx;omega
    ·rcases p7 b hb with h | h
     ·exact h4 b h
     ·omega
   ·rcases hb with hb | hb
    ·exact (p7 b hb).imp (fun h=>(h6 b).2 (Or.inl h)) id
    ·exact Or.inl ((h6 b).2 (Or.inr hb))
   ·rcases hb with hb | hb | hb
    ·exact p6 b hb
    ·have:=h2.lt b hb;omega
    ·omega)
  h hg h.lt
 refine hq.mono fun en w' hp=>?_
 obtain ⟨p1,p2,p3,F',p4,p5,p6,p7⟩:=hp
 refine ⟨?_,p2,p3,F',p4,p5,p7⟩
 rw [p1,real_eq]
 rw [show realOf (ver V1) V1.busyR V.M.R.acc = realOf (ver V) V1.busyR V.M.R.acc from by rw [ev]]
 rfl
end Go.Proofs.YtaipogljokblkaaGreatDoor
