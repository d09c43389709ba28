/- Core: PO2, PP2, PQ2, VM. -/
import Derived.Test.YtaipogljokblkaaGreatDoorE28
import Derived.Test.YtaipogljokblkaaGreatDoorE01
import Derived.Test.YtaipogljokblkaaGreatDoorE25
import Derived.Test.YtaipogljokblkaaGreatDoorE19
set_option linter.all false
set_option maxRecDepth 100000
set_option maxHeartbeats 8000000
namespace Go.Proofs.YtaipogljokblkaaGreatDoor
open Go Go.RowKit
set_option linter.unusedSimpArgs false
set_option linter.unusedVariables false
set_option linter.unusedSectionVars false
theorem Ed(n:Int)(T:TypeId)(u:Value)(w:World):
  Calls Tryz.prog 31 #[.int .i64 n,.iface T u] w λe w'=>
   e=.returned (.iface 143 (.pointer (some ⟨w.heap.size,0,none⟩)))/\w.alloc (.cells #[.int .i64 n,.iface T u] 145)=w':=by
 go_enter Tryz.func31,Tryz.ntmps31
 go_wp2
 go_ret
 exact⟨rfl,rfl⟩
theorem set5(p:Pl)(bb sb:Nat)(fr:BA)(fv u:Value):(#[.slice (some ⟨bb,0,none⟩) p.nb p.nb,.slice (some ⟨sb,0,none⟩) p.ns p.ns,fr.v,.int .i64 p.steps,.int .i64 p.made,fv]:Array Value).setIfInBounds 5 u=#[.slice (some ⟨bb,0,none⟩) p.nb p.nb,.slice (some ⟨sb,0,none⟩) p.ns p.ns,fr.v,.int .i64 p.steps,.int .i64 p.made,u]:=rfl
theorem PB.uY{w:World}{g bb sb:Nat}{p:Pl}{fr:BA}{fv:Value}(h:PB w g bb sb p fr fv)(T:TypeId)(q:Addr):PB (w.setCell ⟨g,5,none⟩ (.iface T (.pointer (some q)))) g bb sb {p with fault:=true} fr (.iface T (.pointer (some q))):=by
 have hg2:=Xs w g 5 (.iface T (.pointer (some q)));exact⟨by rw[←set5 p bb sb fr fv];exact h.bk.Eo 5 _,h.bo.Ax (p:=⟨g,5,none⟩) (Ne.symm h.n1) _,h.so.Ax (p:=⟨g,5,none⟩) (Ne.symm h.n2) _,h.fo.grown hg2 (Or.inr h.f1),⟨_,_,rfl⟩,h.n1,h.n2,h.n3,h.f1,h.f2,h.f3,h.fE,h.Vh⟩
theorem UA{w:World}{g bb sb:Nat}{p:Pl}{fr:BA}{fv:Value}(h:PB w g bb sb p fr fv)(he:AQ w)(hg40:7<=g)(a:Bn)(hv:p.valid a=true)(hr:p.right a=false):
  Calls Tryz.prog 42 #[.pointer (some ⟨g,0,none⟩),.agg a.l.toArray] w (Vc w g bb sb (Zb g bb sb fr) (p.act a)):=by
 have HVR:=Zh (And.intro hv hr)
 clear hv hr
 (obtain⟨k,⟨a0,a1,a2⟩,⟨o0,o1,o2,o3,o4⟩,⟨n0,n1,n2,n3,n4⟩⟩:=a)
 show Calls Tryz.prog 42 #[.pointer (some ⟨g,0,none⟩),.agg #[.int .i64 k,.int .i64 a0,.int .i64 a1,.int .i64 a2,.int .i64 o0,.int .i64 o1,.int .i64 o2,.int .i64 o3,.bool o4,.int .i64 n0,.int .i64 n1,.int .i64 n2,.int .i64 n3,.bool n4]] w _
 (have hgl:=h.bk.lt;have hwl:=he.lt;have HH:=Zh (h.below (w':=((w.alloc (.cells #[.int .i64 k,.int .i64 a0,.int .i64 a1,.int .i64 a2,.int .i64 o0,.int .i64 o1,.int .i64 o2,.int .i64 o3,.bool o4,.int .i64 n0,.int .i64 n1,.int .i64 n2,.int .i64 n3,.bool n4] 114)).alloc (.cells #[.int .i64 0,.int .i64 0,.int .i64 0,.int .i64 0,.bool false,.bool false] 108))) vB);have HE:=Zh (he.below (w':=((w.alloc (.cells #[.int .i64 k,.int .i64 a0,.int .i64 a1,.int .i64 a2,.int .i64 o0,.int .i64 o1,.int .i64 o2,.int .i64 o3,.bool o4,.int .i64 n0,.int .i64 n1,.int .i64 n2,.int .i64 n3,.bool n4] 114)).alloc (.cells #[.int .i64 0,.int .i64 0,.int .i64 0,.int .i64 0,.bool false,.bool false] 108))) vB);have XA:Bk ((w.alloc (.cells #[.int .i64 k,.int .i64 a0,.int .i64 a1,.int .i64 a2,.int .i64 o0,.int .i64 o1,.int .i64 o2,.int .i64 o3,.bool o4,.int .i64 n0,.int .i64 n1,.int .i64 n2,.int .i64 n3,.bool n4] 114)).alloc (.cells #[.int .i64 0,.int .i64 0,.int .i64 0,.int .i64 0,.bool false,.bool false] 108)) w.heap.size 114 #[.int .i64 k,.int .i64 a0,.int .i64 a1,.int .i64 a2,.int .i64 o0,.int .i64 o1,.int .i64 o2,.int .i64 o3,.bool o4,.int .i64 n0,.int .i64 n1,.int .i64 n2,.int .i64 n3,.bool n4]:=(Bk.at_ rfl).alloc _;have X4:Bk ((w.alloc (.cells #[.int .i64 k,.int .i64 a0,.int .i64 a1,.int .i64 a2,.int .i64 o0,.int .i64 o1,.int .i64 o2,.int .i64 o3,.bool o4,.int .i64 n0,.int .i64 n1,.int .i64 n2,.int .i64 n3,.bool n4] 114)).alloc (.cells #[.int .i64 0,.int .i64 0,.int .i64 0,.int .i64 0,.bool false,.bool false] 108)) (w.heap.size+1) 108 #[.int .i64 0,.int .i64 0,.int .i64 0,.int .i64 0,.bool false,.bool false]:=Bk.at_ Zs;have HC:Hid (Below w.heap.size w ((w.alloc (.cells #[.int .i64 k,.int .i64 a0,.int .i64 a1,.int .i64 a2,.int .i64 o0,.int .i64 o1,.int .i64 o2,.int .i64 o3,.bool o4,.int .i64 n0,.int .i64 n1,.int .i64 n2,.int .i64 n3,.bool n4] 114)).alloc (.cells #[.int .i64 0,.int .i64 0,.int .i64 0,.int .i64 0,.bool false,.bool false] 108))):=Zh vB;have hz:w.heap.size+1<((w.alloc (.cells #[.int .i64 k,.int .i64 a0,.int .i64 a1,.int .i64 a2,.int .i64 o0,.int .i64 o1,.int .i64 o2,.int .i64 o3,.bool o4,.int .i64 n0,.int .i64 n1,.int .i64 n2,.int .i64 n3,.bool n4] 114)).alloc (.cells #[.int .i64 0,.int .i64 0,.int .i64 0,.int .i64 0,.bool false,.bool false] 108)).heap.size:=Zs;have HLT:=Zh h.lt;clear h he)
 go_enter Tryz.func42,Tryz.ntmps42
 go_wp2_with fail
 refine(Fo HH.out ⟨k,⟨a0,a1,a2⟩,⟨o0,o1,o2,o3,o4⟩,⟨n0,n1,n2,n3,n4⟩⟩).mono ?_
 rintro e w1 ⟨rfl,hb1⟩
 rw[HVR.out.1]
 have H1:=Zh (HH.out.below hb1);have E1:=Zh (HE.out.below hb1)
 have XA1:=XA.Ac hb1;have X41:=X4.Ac hb1
 have C1:Hid (Below w.heap.size w w1):=Zh (HC.out.trans (hb1.mono HC.out.size))
 clear HH HE XA X4 hb1 HC
 have c3:=H1.out.cells.2.2.2.1
 have f3:=H1.out.bk.free 3
 have hg1:=H1.out.bk.lt
 have hgx:g≠w.heap.size:=Zo
 have hgy:g≠w.heap.size+1:=Zo
 have XA2:=Zh (XA1.Ax (p:=⟨g,3,none⟩) (Ne.symm hgx) (.int .i64 (wrap64 (p.steps+1))))
 have X42:=Zh (X41.Ax (p:=⟨g,3,none⟩) (Ne.symm hgy) (.int .i64 (wrap64 (p.steps+1))))
 go_wp2_with (refine wpList_load_mid Zr _ _ Zr w.heap.size 0 Zr [.int .i64 k,.int .i64 a0,.int .i64 a1,.int .i64 a2,.int .i64 o0,.int .i64 o1,.int .i64 o2,.int .i64 o3,.bool o4,.int .i64 n0,.int .i64 n1,.int .i64 n2,.int .i64 n3,.bool n4] _ XA2.out.range Tryz.underlying114 Zr Zk ?_)
 have P2:=H1.out.B5 (wrap64 (p.steps+1))
 have hcs:Ak [g] w1 (w1.setCell ⟨g,3,none⟩ (.int .i64 (wrap64 (p.steps+1)))):=Ak.Ar (b:=0) (Xs _ _ _ _) (λb e=>by injection e with e;simp[e])
 have E2:=E1.out.BV hcs (by simp;omega)
 refine(Fm P2 E2 ⟨k,⟨a0,a1,a2⟩,⟨o0,o1,o2,o3,o4⟩,⟨n0,n1,n2,n3,n4⟩⟩ HVR.out.1).mono ?_
 intro e w2 hr
 rw[show({p with steps:=wrap64 (p.steps+1)}:Pl).right ⟨k,⟨a0,a1,a2⟩,⟨o0,o1,o2,o3,o4⟩,⟨n0,n1,n2,n3,n4⟩⟩=false from HVR.out.2] at hr
 obtain⟨⟨T9,q9,rfl⟩,hb2⟩:=hr
 have H2:=Zh (P2.below hb2)
 have XA3:=XA2.out.Ac hb2
 have X43:=Zh (X42.out.Ac hb2)
 have C2:Hid (Ak (Zb g bb sb fr) w w2):=Zh (((Ak.Ag C1.out).trans (hcs.mono (λx hx=>Or.inl (by rw[List.mem_singleton.1 hx];exact Xw.2 (Or.inl rfl))))).trans (Ak.Ag hb2))
 have y0:=XA3.cell 0
 have XA4:=Zh XA3
 simp at y0
 have hz2:w.heap.size+1<w2.heap.size:=X43.out.lt
 have c3:=H2.out.cells.2.2.2.1
 have c5:=H2.out.cells.2.2.2.2.2
 have f5:=H2.out.bk.free 5
 have hgl2:=H2.out.bk.lt
 simp only at c3
 have hzw:w.heap.size<w2.heap.size:=Zo
 clear P2 hcs E2 hb2 XA2 X42 XA3 XA1 X41 H1 E1 C1 f3 hz
 cases hfa:p.fault with
 |true=>
  have hfv:=H2.out.fZ
  rw[show({p with steps:=wrap64 (p.steps+1)}:Pl).fault=true from hfa] at hfv
  obtain⟨T8,q8,rfl⟩:=hfv
  go_wp2_with fail
  have HX:Hid (PB w2 g bb sb {p with steps:=wrap64 (p.steps+1),fault:=true} fr (.iface T8 (.pointer (some q8)))):=Zh (by have h:=H2.out;rw[show({p with steps:=wrap64 (p.steps+1)}:Pl)={p with steps:=wrap64 (p.steps+1),fault:=true} from by cases p;simp only at hfa;subst hfa;rfl] at h;exact h)
  have XX:=X43
  have CX:=C2
  refine(Mp k _).mono ?_
  rintro e w4 ⟨rfl,hc4⟩
  obtain⟨⟨⟨r0,r1,r2,r3,r4⟩,r5⟩,hq⟩:∃q,q=Pl.refused k:=⟨_,rfl⟩
  have HQ:=Zh hq
  rw[←hq]
  clear hq
  rw[show(⟨⟨r0,r1,r2,r3,r4⟩,r5⟩:Xj).l.toArray=#[.int .i64 r0,.int .i64 r1,.int .i64 r2,.int .i64 r3,.bool r4,.bool r5] from rfl]
  have X5:=Zh (XX.out.Ac hc4.below)
  have H5:=Zh (HX.out.below hc4.below)
  have C5:Hid (Ak (Zb g bb sb fr) w w4):=Zh (CX.out.trans (hc4.mono (λx hx=>by cases hx)))
  have hz5:w.heap.size+1<w4.heap.size:=X5.out.lt
  clear hc4
  go_wp2_with (refine vM X5.out ?_;intro w6 hst3)
  have s0:=hst3.bk.cell 0;have s1:=hst3.bk.cell 1;have s2:=hst3.bk.cell 2;have s3:=hst3.bk.cell 3;have s4:=hst3.bk.cell 4;have s5:=hst3.bk.cell 5
  simp at s0 s1 s2 s3 s4 s5
  refine bodyPost_ret (v:=.tuple #[.agg #[.int .i64 r0,.int .i64 r1,.int .i64 r2,.int .i64 r3,.bool r4,.bool r5],.nilIface]) (by simp[results,Tryz.results42,go_sem,s0,s1,s2,s3,s4,s5]) rfl ?_
  have ea:p.act ⟨k,⟨a0,a1,a2⟩,⟨o0,o1,o2,o3,o4⟩,⟨n0,n1,n2,n3,n4⟩⟩=({p with steps:=wrap64 (p.steps+1),fault:=true},⟨⟨r0,r1,r2,r3,r4⟩,r5⟩):=by
   unfold Pl.act;rw[FU];simp only;rw[show({p with steps:=wrap64 (p.steps+1)}:Pl).right ⟨k,⟨a0,a1,a2⟩,⟨o0,o1,o2,o3,o4⟩,⟨n0,n1,n2,n3,n4⟩⟩=false from HVR.out.2,HQ.out];rfl
  rw[ea]
  have c6:Ak [w.heap.size+1] w4 w6:=Ak.Ar (b:=0) hst3.grown (λb' e=>by injection e with e;simp[e])
  have hlt:=HLT.out
  exact⟨rfl,fr,_,H5.out.BV c6 (λx hx h1=>by have:=hlt x hx;rw[List.mem_singleton.1 h1] at this;omega),C5.out.seq (F1:=[w.heap.size+1]) (λx hx=>by rw[List.mem_singleton.1 hx];right;omega) c6,λx hx=>Or.inl hx⟩
 |false=>
  have hfv:=H2.out.fZ
  rw[show({p with steps:=wrap64 (p.steps+1)}:Pl).fault=false from hfa] at hfv
  obtain rfl:=hfv
  go_wp2_with fail
  refine(Ed _ T9 _ w2).mono ?_
  rintro e w3 ⟨rfl,rfl⟩
  go_wp2_with fail
  have hal:Below w2.heap.size w2 (w2.alloc (.cells #[.int .i64 (wrap64 (p.steps+1)),.iface T9 (.pointer (some q9))] 145)):=(Below.refl _ _).alloc (Nat.le_refl _) _
  have e1:(w2.alloc (.cells #[.int .i64 (wrap64 (p.steps+1)),.iface T9 (.pointer (some q9))] 145)).setCell ⟨g,5,none⟩ (.iface 143 (.pointer (some ⟨w2.heap.size,0,none⟩)))=(w2.setCell ⟨g,5,none⟩ (.iface 143 (.pointer (some ⟨w2.heap.size,0,none⟩)))).alloc (.cells #[.int .i64 (wrap64 (p.steps+1)),.iface T9 (.pointer (some q9))] 145):=by simp[go_sem,hgl2]
  have HX:Hid (PB _ g bb sb {p with steps:=wrap64 (p.steps+1),fault:=true} fr (.iface 143 (.pointer (some ⟨w2.heap.size,0,none⟩)))):=Zh (e1▸((H2.out.below hal).uY 143 ⟨w2.heap.size,0,none⟩))
  have hgc:Ak (Zb g bb sb fr) (w2.alloc (.cells #[.int .i64 (wrap64 (p.steps+1)),.iface T9 (.pointer (some q9))] 145)) _:=Ak.Ar (b:=0) (Xs _ g 5 (.iface 143 (.pointer (some ⟨w2.heap.size,0,none⟩)))) (λb e=>by injection e with e;exact Xw.2 (Or.inl e.symm))
  have CX:Hid (Ak (Zb g bb sb fr) w _):=Zh (e1▸(C2.out.trans ((Ak.Ag hal).trans hgc)))
  have XX:=Zh (e1▸((X43.out.Ac hal).Ax (p:=⟨g,5,none⟩) (Ne.symm hgy) (.iface 143 (.pointer (some ⟨w2.heap.size,0,none⟩)))))
  refine(Mp k _).mono ?_
  rintro e w4 ⟨rfl,hc4⟩
  obtain⟨⟨⟨r0,r1,r2,r3,r4⟩,r5⟩,hq⟩:∃q,q=Pl.refused k:=⟨_,rfl⟩
  have HQ:=Zh hq
  rw[←hq]
  clear hq
  rw[show(⟨⟨r0,r1,r2,r3,r4⟩,r5⟩:Xj).l.toArray=#[.int .i64 r0,.int .i64 r1,.int .i64 r2,.int .i64 r3,.bool r4,.bool r5] from rfl]
  have X5:=Zh (XX.out.Ac hc4.below)
  have H5:=Zh (HX.out.below hc4.below)
  have C5:Hid (Ak (Zb g bb sb fr) w w4):=Zh (CX.out.trans (hc4.mono (λx hx=>by cases hx)))
  have hz5:w.heap.size+1<w4.heap.size:=X5.out.lt
  clear hc4
  go_wp2_with (refine vM X5.out ?_;intro w6 hst3)
  have s0:=hst3.bk.cell 0;have s1:=hst3.bk.cell 1;have s2:=hst3.bk.cell 2;have s3:=hst3.bk.cell 3;have s4:=hst3.bk.cell 4;have s5:=hst3.bk.cell 5
  simp at s0 s1 s2 s3 s4 s5
  refine bodyPost_ret (v:=.tuple #[.agg #[.int .i64 r0,.int .i64 r1,.int .i64 r2,.int .i64 r3,.bool r4,.bool r5],.nilIface]) (by simp[results,Tryz.results42,go_sem,s0,s1,s2,s3,s4,s5]) rfl ?_
  have ea:p.act ⟨k,⟨a0,a1,a2⟩,⟨o0,o1,o2,o3,o4⟩,⟨n0,n1,n2,n3,n4⟩⟩=({p with steps:=wrap64 (p.steps+1),fault:=true},⟨⟨r0,r1,r2,r3,r4⟩,r5⟩):=by
   unfold Pl.act;rw[FU];simp only;rw[show({p with steps:=wrap64 (p.steps+1)}:Pl).right ⟨k,⟨a0,a1,a2⟩,⟨o0,o1,o2,o3,o4⟩,⟨n0,n1,n2,n3,n4⟩⟩=false from HVR.out.2,HQ.out];rfl
  rw[ea]
  have c6:Ak [w.heap.size+1] w4 w6:=Ak.Ar (b:=0) hst3.grown (λb' e=>by injection e with e;simp[e])
  have hlt:=HLT.out
  exact⟨rfl,fr,_,H5.out.BV c6 (λx hx h1=>by have:=hlt x hx;rw[List.mem_singleton.1 h1] at this;omega),C5.out.seq (F1:=[w.heap.size+1]) (λx hx=>by rw[List.mem_singleton.1 hx];right;omega) c6,λx hx=>Or.inl hx⟩
theorem Wr{w:World}{g bb sb:Nat}{p:Pl}{fr:BA}{fv:Value}(h:PB w g bb sb p fr fv)(he:AQ w)(hg40:7<=g)(a:Bn)(hv:p.valid a=true)(hfv:∀x∈p.free,p.BD x=true)(hfl:p.free.length<=5000):
  Calls Tryz.prog 42 #[.pointer (some ⟨g,0,none⟩),.agg a.l.toArray] w (Vc w g bb sb (Zb g bb sb fr) (p.act a)):=by
 cases hr:p.right a with
 |false=>exact UA h he hg40 a hv hr
 |true=>
  have hk:a.kind=1\/a.kind=2\/a.kind=3\/a.kind=4\/a.kind=5:=by
   have h1:=hv;unfold Pl.valid at h1;by_cases k1:a.kind=1
   ·exact Or.inl k1
   by_cases k2:a.kind=2
   ·exact Or.inr (Or.inl k2)
   by_cases k3:a.kind=3
   ·exact Or.inr (Or.inr (Or.inl k3))
   by_cases k4:a.kind=4
   ·exact Or.inr (Or.inr (Or.inr (Or.inl k4)))
   by_cases k5:a.kind=5
   ·exact Or.inr (Or.inr (Or.inr (Or.inr k5)))
   ·rw[show(a.kind==1)=false from by simp[k1],show(a.kind==2)=false from by simp[k2],show(a.kind==3)=false from by simp[k3],show(a.kind==4)=false from by simp[k4],show(a.kind==5)=false from by simp[k5]] at h1;cases h1
  rcases hk with hk|hk|hk|hk|hk
  ·exact J0 h he hg40 a hv hr (Or.inl hk)
  ·exact J0 h he hg40 a hv hr (Or.inr (Or.inl hk))
  ·exact J0 h he hg40 a hv hr (Or.inr (Or.inr hk))
  ·exact gD h he hg40 a hk hfv hfl
  ·exact XE h he hg40 a hk hv hr hfl
end Go.Proofs.YtaipogljokblkaaGreatDoor
namespace Go.Proofs.YtaipogljokblkaaGreatDoor
open Go Go.RowKit
def OL(w:World)(g:Nat)(p:Pl)(F:List Nat):Prop:=∃bb sb fr fv,PB w g bb sb p fr fv/\F=Zb g bb sb fr
def wM(w0 w:World):Prop:=∀b,b<7->w.heap[b]?=w0.heap[b]?
section
variable{w w' w0:World}{g:Nat}{p:Pl}{F:List Nat}
theorem OL.same(h:OL w g p F)(hs:∀b∈F,w'.heap[b]?=w.heap[b]?):OL w' g p F:=by
 obtain⟨bb,sb,fr,fv,h,rfl⟩:=h;exact⟨bb,sb,fr,fv,⟨h.bk.same (hs g (Xw.2 (Or.inl rfl))),h.bo.same (hs bb (Xw.2 (Or.inr (Or.inl rfl)))),h.so.same (hs sb (Xw.2 (Or.inr (Or.inr (Or.inl rfl))))),h.fo.kept λb hb=>hs b (Xw.2 (Or.inr (Or.inr (Or.inr hb)))),h.fZ,h.n1,h.n2,h.n3,h.f1,h.f2,h.f3,h.fE,h.Vh⟩,rfl⟩
theorem OL.lt(h:OL w g p F):∀b∈F,b<w.heap.size:=by obtain⟨bb,sb,fr,fv,h,rfl⟩:=h;exact h.lt
theorem OL.mem(h:OL w g p F):g∈F:=by obtain⟨bb,sb,fr,fv,h,rfl⟩:=h;exact Xw.2 (Or.inl rfl)
theorem wM.trans{w1:World}(h:wM w0 w)(h1:wM w w1):wM w0 w1:=λb hb=>(h1 b hb).trans (h b hb)
theorem AQ.low(h:AQ w0)(hl:wM w0 w)(hz:7<=w.heap.size):AQ w:=by
 have c:∀{a:Nat} {v:Value},a<7->w0.cell? ⟨a,0,none⟩=some v->w.cell? ⟨a,0,none⟩=some v:=λha hv=>by
  rw[←hv];unfold World.cell?;rw[hl _ ha]
 exact ⟨h.arg.imp fun T=>Exists.imp fun q e=>c Zd e,h.nil_.imp fun T=>Exists.imp fun q e=>c Zd e,h.full.imp fun T=>Exists.imp fun q e=>c Zd e,h.state.imp fun T=>Exists.imp fun q e=>c Zd e,
  h.Be.imp λT=>Exists.imp λq e=>c Zd e,h.wV.imp λT=>Exists.imp λq e=>c Zd e,h.wT.imp λT=>Exists.imp λq e=>c Zd e,hz⟩
end
def RP(w0:World)(gr:Nat)(jv:Value)(gh:Nat)(M:MR)(o:Option Xx)(p:Pl)(w:World)(F:Nat->Prop):Prop:=
 wM w0 w/\∃F1 Fh,MA gr jv M o w F1/\OL w gh p Fh/\(∀b,F1 b->b∉Fh)/\(∀b,F1 b->7<=b)/\(∀b∈Fh,7<=b)/\∀b,F b↔F1 b\/b∈Fh\/b<7
section
variable{w0 w w':World}{gr gh:Nat}{jv:Value}{M M':MR}{o:Option Xx}{p p':Pl}{F:Nat->Prop}
theorem RP.AG(h:RP w0 gr jv gh M o p w F)(hs:∀b,F b->w'.heap[b]?=w.heap[b]?):RP w0 gr jv gh M o p w' F:=by
 obtain⟨h0,F1,Fh,h1,h2,h3,h4,h5,h6⟩:=h;exact⟨h0.trans λb hb=>hs b ((h6 b).2 (Or.inr (Or.inr hb))),F1,Fh,h1.AG λb hb=>hs b ((h6 b).2 (Or.inl hb)),h2.same λb hb=>hs b ((h6 b).2 (Or.inr (Or.inl hb))),h3,h4,h5,h6⟩
theorem RP.size(h:RP w0 gr jv gh M o p w F):7<w.heap.size:=by
 obtain⟨h0,F1,Fh,h1,h2,h3,h4,h5,h6⟩:=h;have:=h5 gh h2.mem;have:=h2.lt gh h2.mem;omega
theorem RP.lt(h:RP w0 gr jv gh M o p w F):∀b,F b->b<w.heap.size:=by
 have hz:=h.size;obtain⟨h0,F1,Fh,h1,h2,h3,h4,h5,h6⟩:=h;intro b hb;rcases(h6 b).1 hb with hb|hb|hb
 ·exact h1.lt b hb
 ·exact h2.lt b hb
 ·omega
theorem Ru{V:Value}(h:RP w0 gr jv gh M o p w F){f:Nat}{args:Array Value}(hp:∀Fr,Lx w gr M Fr->Calls Tryz.prog f args w (IE (λw F=>Lx w gr M' F) V Fr w))(Φ:GF)(j:Nat)(hj:∀w F,RP w0 gr jv gh M' o p w F->Φ.P j w F):
  Calls Tryz.prog f args w λen w'=>en=.returned V/\EH Φ j F none w w':=by
 have hz:=h.size
 obtain⟨h0,F1,Fh,h1,h2,h3,h4,h5,h6⟩:=h
 refine(N5 h1 hp ⟨λ_ w F=>MA gr jv M' o w F,λ_ _ _ _ h hs=>h.AG hs⟩ 0 λw F h=>h).mono λen w' hq=>?_
 obtain⟨p1,O⟩:=hq
 obtain⟨F',q1,q2,q3⟩:=O.fin
 have Ax:∀b,b<w.heap.size->¬F1 b->w'.heap[b]?=w.heap[b]?:=λb hb hf=>O.JW b hb Zs hf
 refine⟨p1,O.os,O.tape,O.output,O.size,λb hb _ hf=>Ax b hb λh=>hf ((h6 b).2 (Or.inl h)),λb=>F' b\/b∈Fh\/b<7,hj _ _ ⟨h0.trans λb hb=>Ax b Zo λh=>by have:=h4 b h;omega,F',Fh,q1,h2.same λb hb=>Ax b (h2.lt b hb) λh=>h3 b h hb,λb hb hx=>?_,λb hb=>?_,h5,λb=>Iff.rfl⟩,λb hb=>?_,λb hb=>?_⟩
 ·rcases q2 b hb with h|h
  ·exact h3 b h hx
  ·have:=h2.lt b hx;omega
 ·rcases q2 b hb with h|h
  ·exact h4 b h
  ·omega
 ·rcases hb with hb|hb
  ·exact(q2 b hb).imp (λh=>(h6 b).2 (Or.inl h)) id
  ·exact Or.inl ((h6 b).2 (Or.inr hb))
 ·have hsz:w.heap.size<=w'.heap.size:=O.size;rcases hb with hb|hb|hb
  ·exact q3 b hb
  ·have:=h2.lt b hb;omega
  ·omega
theorem tB{V:Value}(h:RP w0 gr jv gh M o p w F){f:Nat}{args:Array Value}(hp:∀Fh,OL w gh p Fh->(∀b∈Fh,7<=b)->wM w0 w->Calls Tryz.prog f args w (IE (λw F=>OL w gh p' F) V Fh w))(Φ:GF)(j:Nat)(hj:∀w F,RP w0 gr jv gh M o p' w F->Φ.P j w F):
  Calls Tryz.prog f args w λen w'=>en=.returned V/\EH Φ j F none w w':=by
 have hz:=h.size
 obtain⟨h0,F1,Fh,h1,h2,h3,h4,h5,h6⟩:=h
 refine(hp Fh h2 h5 h0).mono λen w' hq=>?_
 obtain⟨F',p1,q1,q2,O⟩:=hq
 have Ax:∀b,b<w.heap.size->b∉Fh->w'.heap[b]?=w.heap[b]?:=λb hb hf=>O.Ax b hb hf
 refine⟨p1,O.os,O.tape,O.output,O.size,λb hb _ hf=>Ax b hb λh=>hf ((h6 b).2 (Or.inr (Or.inl h))),λb=>F1 b\/b∈F'\/b<7,hj _ _ ⟨h0.trans λb hb=>Ax b Zo λh=>by have:=h5 b h;omega,F1,F',h1.AG λb hb=>Ax b (h1.lt b hb) λh=>h3 b hb h,q1,λb hb hx=>?_,h4,λb hb=>?_,λb=>Iff.rfl⟩,λb hb=>?_,λb hb=>?_⟩
 ·rcases q2 b hx with h|h
  ·exact h3 b hb h
  ·have:=h1.lt b hb;omega
 ·rcases q2 b hb with h|h
  ·exact h5 b h
  ·omega
 ·rcases hb with hb|hb|hb
  ·exact Or.inl ((h6 b).2 (Or.inl hb))
  ·exact(q2 b hb).imp (λh=>(h6 b).2 (Or.inr (Or.inl h))) id
  ·exact Or.inl ((h6 b).2 (Or.inr (Or.inr hb)))
 ·have hsz:w.heap.size<=w'.heap.size:=O.size;rcases hb with hb|hb|hb
  ·have:=h1.lt b hb;omega
  ·exact q1.lt b hb
  ·omega
end
theorem tK(V:MV)(a:Bn):V.real a=He (Gn V) V.DK a:=by
 unfold MV.real He;show _=bif V.call.kind==6 then bif V.DK then-1 else bif V.eng==3 then 1 else bif V.eng==5 then 1 else 0 else _;cases V.call.kind==6
 ·simp only[cond_false];show _=bif V.call.kind==8 then bif !(a.kind==4) then-1 else 0 else bif V.call.kind==3 then 0 else bif V.call.kind==4 then 0 else bif V.call.kind==5 then 0 else bif V.call.kind==9 then 0 else-1;cases V.call.kind==8
  ·cases V.call.kind==3<;>cases V.call.kind==4<;>cases V.call.kind==5<;>cases V.call.kind==9<;>rfl
  ·rfl
 ·cases V.DK<;>cases V.eng==3<;>cases V.eng==5<;>rfl
structure iD(V:MV)(p:Pl):Prop where
 Ae:V.Ae≠0
 step:V.M.R.step≠0
 rite:Vj V.M
 at_:Md V.M
 valid:p.valid V.M.R.BN=true
 free:∀x∈p.free,p.BD x=true
 len:p.free.length<=5000
 go:ON {V with M:=V.M.Av (p.act V.M.R.BN).2}
theorem TU{w:World}{g:Nat}{p:Pl}{F:List Nat}(h:OL w g p F)(he:AQ w)(hg:7<=g)(a:Bn)(hv:p.valid a=true)(hfv:∀x∈p.free,p.BD x=true)(hfl:p.free.length<=5000):
  Calls Tryz.prog 42 #[.pointer (some ⟨g,0,none⟩),.agg a.l.toArray] w (IE (λw F=>OL w g (p.act a).1 F) (.tuple #[.agg (p.act a).2.l.toArray,.nilIface]) F w):=by
 obtain⟨bb,sb,fr,fv,h,rfl⟩:=h
 refine(Wr h he hg a hv hfv hfl).mono λen w' hp=>?_
 obtain⟨p1,fr',fv',p2,p3,p4⟩:=hp
 exact⟨_,p1,⟨bb,sb,fr',fv',p2,rfl⟩,p4,p3⟩
theorem kJ(V:MV)(p:Pl)(gv gr gh:Nat)(jv:Value)(w0 w:World)(F:Nat->Prop)(he:AQ w0)(hb:Bk w gv 126 ((Gn V).l (.pointer (some ⟨gr,0,none⟩)) jv).toArray)(h:RP w0 gr jv gh V.M V.BF p w F)(hg:¬F gv)(ok:iD V p):
  Calls Tryz.prog 37 #[.pointer (some ⟨gv,0,none⟩),.pointer (some ⟨gh,0,none⟩)] w λen w'=>
   en=.returned (.tuple #[.agg (V.step p).2.2.l.toArray,.nilIface])/\Bk w' gv 126 ((Gn (V.step p).1).l (.pointer (some ⟨gr,0,none⟩)) jv).toArray/\DS (λb=>b=gv\/F b) w w'/\
   ∃F':Nat->Prop,RP w0 gr jv gh (V.step p).1.M (V.step p).1.BF (V.step p).2.1 w' F'/\¬F' gv/\∀b,F' b->F b\/w.heap.size<=b:=by
 obtain⟨a,ha⟩:∃a,a=V.M.R.BN:=⟨_,rfl⟩
 obtain⟨V1,hV1⟩:∃V1:MV,V1={V with M:=V.M.Av (p.act V.M.R.BN).2}:=⟨_,rfl⟩
 have ev:Gn V1=Gn V:=by rw[hV1];rfl
 have ej:V1.BF=V.BF:=by rw[hV1]
 have em:V1.M=V.M.Av (p.act V.M.R.BN).2:=by rw[hV1]
 have go1:ON V1:=by rw[hV1];exact ok.go
 have hh1:7<=gh:=by obtain⟨h0,F1,Fh,h1,h2,h3,h4,h5,h6⟩:=h;exact h5 gh h2.mem
 have hone:jv.oneCell'=true:=by obtain⟨h0,F1,Fh,h1,_⟩:=h;exact h1.one
 have hs0:(V.M.R.step==0)=false:=by simp[ok.step]
 have es:V.step p=(V1.advance,(p.act V.M.R.BN).1,bif V1.advance.Ae==0 then⟨true,V1.advance.A5,V1.real V.M.R.BN⟩ else⟨false,.zero,V1.real V.M.R.BN⟩):=by rw[hV1];rfl
 rw[es]
 let Φ:GF:=⟨fun i w F=>if i = 0 then RP w0 gr jv gh V.M V.BF p w F else if i = 1 then RP w0 gr jv gh V.M V.BF (p.act V.M.R.BN).1 w F else if i = 2 then RP w0 gr jv gh V1.M V1.BF (p.act V.M.R.BN).1 w F else RP w0 gr jv gh V1.advance.M V1.advance.BF (p.act V.M.R.BN).1 w F,
  λi w w' F h hs=>by
   split at h
   ·rename_i h0;rw[if_pos h0];exact h.AG hs
   ·rename_i h0;rw[if_neg h0];split at h
    ·rename_i h1;rw[if_pos h1];exact h.AG hs
    ·rename_i h1;rw[if_neg h1];split at h
     ·rename_i h2;rw[if_pos h2];exact h.AG hs
     ·rename_i h2;rw[if_neg h2];exact h.AG hs⟩
 have hq:=aN (Φ:=Φ) (F:=F) (Gn V) ⟨gr,0,none⟩ jv ⟨gh,0,none⟩ V.M.R.BN (p.act V.M.R.BN).2 V1.DK (Gn V1.advance) gv w hb hone (by show(V.Ae==0)=false;simp[ok.Ae])
  (λw F (hP:RP w0 gr jv gh V.M V.BF p w F) _=>Ru (M':=V.M) hP (λFr h1=>tC h1 hs0) Φ 0 λw F h=>h)
  (λw F (hP:RP w0 gr jv gh V.M V.BF p w F) _=>tB hP (λFh h2 h5 h0=>TU h2 (he.low h0 (Nat.le_of_lt hP.size)) hh1 V.M.R.BN ok.valid ok.free ok.len) Φ 1 λw F h=>h)
  (λw F (hP:RP w0 gr jv gh V.M V.BF (p.act V.M.R.BN).1 w F) _=>Ru (M':=V1.M) hP (λFr h1=>by rw[em];exact xZ _ h1 ok.rite ok.at_) Φ 2 λw F h=>by show RP w0 gr jv gh V1.M V1.BF _ w F;rw[ej];exact h)
  (λw F (hP:RP w0 gr jv gh V1.M V1.BF (p.act V.M.R.BN).1 w F) _=>Ru (M':=V1.M) hP (λFr h1=>R6 h1) Φ 2 λw F h=>h)
  (fun g w F hB (hP:RP w0 gr jv gh V1.M V1.BF (p.act V.M.R.BN).1 w F) hg hbd=>by
   have hz:=hP.size;obtain⟨h0,F1,Fh,h1,h2,h3,h4,h5,h6⟩:=hP;refine(oJ V1 g gr jv w F1 (by rw[ev];exact hB) h1 (λh=>hg ((h6 g).2 (Or.inl h))) go1).mono λen w' hp=>?_;obtain⟨p1,p2,p3,F',p4,p5,p6,p7⟩:=hp;have hsz:w.heap.size<=w'.heap.size:=p3.size;have Ax:∀b,b<w.heap.size->b≠g->¬F1 b->w'.heap[b]?=w.heap[b]?:=λb hb hn hf=>p3.Ax b hb λh=>by rcases h with h|h;exact hn h;exact hf h
   refine⟨p1,p2,p3.os,p3.tape,p3.output,p3.size,λb hb hn hf=>Ax b hb (λe=>hn (by rw[e])) λh=>hf ((h6 b).2 (Or.inl h)),λb=>F' b\/b∈Fh\/b<7,?_,λb hb=>?_,λb hb=>?_⟩
   ·show RP w0 gr jv gh V1.advance.M V1.advance.BF _ w' _;refine⟨h0.trans λb hb=>Ax b Zo (λe=>hg ((h6 g).2 (Or.inr (Or.inr Zo)))) λh=>by have:=h4 b h;omega,F',Fh,p4,h2.same λb hb=>Ax b (h2.lt b hb) (λe=>hg ((h6 g).2 (Or.inr (Or.inl (by rw[←e];exact hb))))) λh=>h3 b h hb,λb hb hx=>?_,λb hb=>?_,h5,λb=>Iff.rfl⟩
    ·rcases p7 b hb with h|h
     ·exact h3 b h hx
     ·have:=h2.lt b hx;omega
    ·rcases p7 b hb with h|h
     ·exact h4 b h
     ·omega
   ·rcases hb with hb|hb
    ·exact(p7 b hb).imp (λh=>(h6 b).2 (Or.inl h)) id
    ·exact Or.inl ((h6 b).2 (Or.inr hb))
   ·rcases hb with hb|hb|hb
    ·exact p6 b hb
    ·have:=h2.lt b hb;omega
    ·omega)
  h hg h.lt
 refine hq.mono λen w' hp=>?_
 obtain⟨p1,p2,p3,F',p4,p5,p6,p7⟩:=hp
 refine⟨?_,p2,p3,F',p4,p5,p7⟩
 rw[p1,tK]
 rw[show He (Gn V1) V1.DK V.M.R.BN=He (Gn V) V1.DK V.M.R.BN from by rw[ev]]
 rfl
end Go.Proofs.YtaipogljokblkaaGreatDoor
