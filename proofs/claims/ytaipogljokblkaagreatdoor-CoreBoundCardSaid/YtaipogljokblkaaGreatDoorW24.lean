/- Core: PE, PF, PG, PH. -/
import Derived.Test.YtaipogljokblkaaGreatDoorW12
import Derived.Test.YtaipogljokblkaaGreatDoorW01
import Derived.Test.YtaipogljokblkaaGreatDoorW13
import Derived.Test.YtaipogljokblkaaGreatDoorW14
set_option linter.all false
set_option maxRecDepth 100000
set_option maxHeartbeats 8000000
namespace Go.Proofs.YtaipogljokblkaaGreatDoor
open Go Go.RowKit
set_option linter.unusedSimpArgs false
set_option linter.unusedVariables false
set_option linter.unusedSectionVars false
theorem FA{w:World}{g bb sb:Nat}{p:Pl}{fr:BB}{fv:Value}(h:PB w g bb sb p fr fv)(a:Bo):
  Calls Tryz.prog 61 #[.pointer (some ⟨g,0,none⟩),.agg a.l.toArray] w (Nz (p.valid a) w):=by
 have hgl:=h.bk.lt
 have HH:=Zh h
 clear h
 (obtain⟨k,⟨a0,a1,a2⟩,⟨o0,o1,o2,o3,o4⟩,⟨n0,n1,n2,n3,n4⟩⟩:=a)
 show Calls Tryz.prog 61 #[.pointer (some ⟨g,0,none⟩),.agg #[.int .i64 k,.int .i64 a0,.int .i64 a1,.int .i64 a2,.int .i64 o0,.int .i64 o1,.int .i64 o2,.int .i64 o3,.bool o4,.int .i64 n0,.int .i64 n1,.int .i64 n2,.int .i64 n3,.bool n4]] w _
 have hb0:Below w.heap.size w (w.alloc (.cells #[.int .i64 k,.int .i64 a0,.int .i64 a1,.int .i64 a2,.int .i64 o0,.int .i64 o1,.int .i64 o2,.int .i64 o3,.bool o4,.int .i64 n0,.int .i64 n1,.int .i64 n2,.int .i64 n3,.bool n4] 114)):=(Below.refl _ _).alloc (Nat.le_refl _) _
 have H1:=Zh (U6 (HH.out.below hb0) ⟨a0,a1,a2⟩)
 have H2:=Zh (Jr (HH.out.below hb0) o0)
 unfold Pl.valid
 simp only
 cases k1:(k==1) with
 |true=>
  go_enter Tryz.func61,Tryz.ntmps61
  go_wp2_with fail
  refine H1.out.mono ?_
  rintro e w1 ⟨rfl,hb1⟩
  go_wp2_with fail
  go_ret
  exact⟨rfl,hb0.trans (hb1.mono hb0.size)⟩
 |false=>
 cases k2:(k==2) with
 |true=>
  go_enter Tryz.func61,Tryz.ntmps61
  go_wp2_with fail
  refine H1.out.mono ?_
  rintro e w1 ⟨rfl,hb1⟩
  go_wp2_with fail
  go_ret
  exact⟨rfl,hb0.trans (hb1.mono hb0.size)⟩
 |false=>
 cases k3:(k==3) with
 |true=>
  go_enter Tryz.func61,Tryz.ntmps61
  go_wp2_with fail
  refine H1.out.mono ?_
  rintro e w1 ⟨rfl,hb1⟩
  go_wp2_with fail
  go_ret
  exact⟨rfl,hb0.trans (hb1.mono hb0.size)⟩
 |false=>
 cases k4:(k==4) with
 |true=>
  go_enter Tryz.func61,Tryz.ntmps61
  go_wp2_with fail
  go_ret
  exact⟨rfl,vB⟩
 |false=>
 cases k5:(k==5) with
 |true=>
  go_enter Tryz.func61,Tryz.ntmps61
  go_wp2_with fail
  refine H2.out.mono ?_
  rintro e w1 ⟨rfl,hb1⟩
  go_wp2_with fail
  go_ret
  exact⟨rfl,hb0.trans (hb1.mono hb0.size)⟩
 |false=>
  go_enter Tryz.func61,Tryz.ntmps61
  go_wp2_with fail
  go_ret
  exact⟨rfl,vB⟩
theorem YG{p:Pl}{a:Yj}(h:p.has a=true):a.sl=0\/p.BL a.sl=true:=by
 unfold Pl.has at h;cases h0:(a.sl==0) with
 |true=>left;simpa using h0
 |false=>
  right;rw[h0] at h;simp only[cond_false,Bool.and_eq_true] at h;exact h.1
theorem rI.pre{w w0 w1:World}{b:Bool}{e:Ending}(h:rI b w0 e w1)(h0:Below w.heap.size w w0):rI b w e w1:=⟨h.1,h0.trans (h.2.mono h0.size)⟩
theorem F9{w:World}{g bb sb:Nat}{p:Pl}{fr:BB}{fv:Value}(h:PB w g bb sb p fr fv)(he:AO w)(a:Bo)(hv:p.valid a=true):
  Calls Tryz.prog 62 #[.pointer (some ⟨g,0,none⟩),.agg a.l.toArray] w (rI (p.right a) w):=by
 have hgl:=h.bk.lt
 have hwl:=he.lt
 have HH:=Zh h
 have HE:=Zh he
 clear h he
 (obtain⟨k,⟨a0,a1,a2⟩,⟨o0,o1,o2,o3,o4⟩,⟨n0,n1,n2,n3,n4⟩⟩:=a)
 show Calls Tryz.prog 62 #[.pointer (some ⟨g,0,none⟩),.agg #[.int .i64 k,.int .i64 a0,.int .i64 a1,.int .i64 a2,.int .i64 o0,.int .i64 o1,.int .i64 o2,.int .i64 o3,.bool o4,.int .i64 n0,.int .i64 n1,.int .i64 n2,.int .i64 n3,.bool n4]] w _
 have hb0:Below w.heap.size w (w.alloc (.cells #[.int .i64 k,.int .i64 a0,.int .i64 a1,.int .i64 a2,.int .i64 o0,.int .i64 o1,.int .i64 o2,.int .i64 o3,.bool o4,.int .i64 n0,.int .i64 n1,.int .i64 n2,.int .i64 n3,.bool n4] 114)):=(Below.refl _ _).alloc (Nat.le_refl _) _
 have l1:6<w.heap.size:=Zo
 have l2:3<w.heap.size:=Zo
 obtain⟨T1,q1,e1⟩:=HE.out.wV
 obtain⟨T2,q2,e2⟩:=HE.out.Bj
 unfold Pl.right
 simp only
 cases k4:(k==4) with
 |true=>
  go_enter Tryz.func62,Tryz.ntmps62
  go_wp2_with fail
  go_ret
  exact⟨rfl,vB⟩
 |false=>
 cases k5:(k==5) with
 |true=>
  have hx:o0=0\/p.BL o0=true:=by
   right;have:k=5:=by simpa using k5
   subst this;exact hv
  have H1:=Zh (Kr (HH.out.below hb0) (HE.out.below hb0) o0 o1 hx T1 q1)
  clear hv hx
  go_enter Tryz.func62,Tryz.ntmps62
  go_wp2_with fail
  refine H1.out.mono ?_
  intro e w1 hr
  have HR:=Zh (hr.pre hb0)
  cases hl:p.live o0 o1 with
  |true=>
   rw[hl] at hr
   obtain⟨rfl,hb⟩:=hr
   clear hb
   go_wp2_with fail
   go_ret
   exact HR.out
  |false=>
   rw[hl] at hr
   obtain⟨⟨T,q,rfl⟩,hb⟩:=hr
   clear hb
   go_wp2_with fail
   go_ret
   exact HR.out
 |false=>
  have hx:a0=0\/p.BL a0=true:=by
   refine YG (a:=⟨a0,a1,a2⟩) ?_;unfold Pl.valid at hv;simp only[k4,k5] at hv;cases hk:(k==1||(k==2||k==3)) with
   |true=>rw[hk] at hv;exact hv
   |false=>rw[hk] at hv;cases hv
  have H1:=Zh (Kr (HH.out.below hb0) (HE.out.below hb0) a0 a1 hx T2 q2)
  clear hv hx
  go_enter Tryz.func62,Tryz.ntmps62
  go_wp2_with fail
  refine H1.out.mono ?_
  intro e w1 hr
  have HR:=Zh (hr.pre hb0)
  cases hl:p.live a0 a1 with
  |true=>
   rw[hl] at hr
   obtain⟨rfl,hb⟩:=hr
   clear hb
   go_wp2_with fail
   go_ret
   exact HR.out
  |false=>
   rw[hl] at hr
   obtain⟨⟨T,q,rfl⟩,hb⟩:=hr
   clear hb
   go_wp2_with fail
   go_ret
   exact HR.out
def rH(p:Addr)(w:World)(e:Ending)(w':World):Prop:=e=.returned (.pointer (some p))/\Below w.heap.size w w'
theorem Qk{w:World}{g bb sb:Nat}{p:Pl}{fr:BB}{fv:Value}(h:PB w g bb sb p fr fv)(i:Nat)(gn:Int)(hi:i<p.nb):
  Calls Tryz.prog 34 #[.pointer (some ⟨g,0,none⟩),.agg #[.int .i64 0,.int .i64 gn,.int .i64 i]] w (rH ⟨bb,i*5,none⟩ w):=by
 obtain⟨c0,_,_,_,_,_⟩:=h.cells
 have hgl:=h.bk.lt
 have hns:=h.gJ
 clear h
 go_enter Tryz.func34,Tryz.ntmps34
 go_wp2_with fail
 go_quiet (fail)
 go_wp2_with fail
 go_ret
 exact⟨rfl,vB⟩
theorem Qj{w:World}{g bb sb:Nat}{p:Pl}{fr:BB}{fv:Value}(h:PB w g bb sb p fr fv)(i k:Nat)(gn:Int)(hi:i<p.ns)(hk:k<10):
  Calls Tryz.prog 34 #[.pointer (some ⟨g,0,none⟩),.agg #[.int .i64 ((i:Int)+1),.int .i64 gn,.int .i64 k]] w (rH ⟨sb,i*52+2+k*5,none⟩ w):=by
 obtain⟨_,c1,_,_,_,_⟩:=h.cells
 have hgl:=h.bk.lt
 have hns:=h.VJ
 have hnz:(((i:Int)+1)==0)=false:=by simp;omega
 clear h
 go_enter Tryz.func34,Tryz.ntmps34
 go_wp2_with fail
 go_quiet (fail)
 go_wp2_with fail
 go_ret
 exact⟨rfl,vB⟩
def RetT(w:World)(b:Nat)(T:TypeId)(cs:Array Value)(x:Xj)(e:Ending)(w':World):Prop:=e=.returned (.agg x.l.toArray)/\Bk w' b T cs/\Al [b] w w'
theorem dE{w w2 w3:World}{o1 o2 o3:Obj}{b:Nat}{T T2:TypeId}{cs cs2:Array Value}{u:Value}{k:Nat}(h1:Ge (((w.alloc o1).alloc o2).alloc o3) b T cs w2)(h3:Ge (w2.setCell ⟨w.heap.size+1+1,k,none⟩ u) (w.heap.size+1) T2 cs2 w3)(hb:b<w.heap.size):Al [b] w w3:=by
 have c0:Al [b] w (((w.alloc o1).alloc o2).alloc o3):=Al.Af vB;have c1:Al [b] (((w.alloc o1).alloc o2).alloc o3) w2:=Al.Aw (b:=0) h1.grown (λb' e=>by injection e with e;simp[e]);have c2:Al [w.heap.size+1+1] w2 (w2.setCell ⟨w.heap.size+1+1,k,none⟩ u):=Al.Aw (b:=0) (Xr _ _ _ _) (λb' e=>by injection e with e;simp[e]);have c3:Al [w.heap.size+1] (w2.setCell ⟨w.heap.size+1+1,k,none⟩ u) w3:=Al.Aw (b:=0) h3.grown (λb' e=>by injection e with e;simp[e]);refine(((c0.trans c1).seq (F1:=[w.heap.size+1+1]) ?_ c2)).seq (F1:=[w.heap.size+1]) ?_ c3
 ·intro x hx;rw[List.mem_singleton.1 hx];right;omega
 ·intro x hx;rw[List.mem_singleton.1 hx];right;omega
theorem Wq(w:World)(b o:Nat)(T:TypeId)(cs:Array Value)(x:Xd)(a:Bo)(hb:Bk w b T cs)(hx:w.rangeAt b o x.l)(hk:a.kind=1):
  Calls Tryz.prog 65 #[.pointer (some ⟨b,o,none⟩),.agg a.l.toArray] w (RetT w b T cs ⟨x,true⟩):=by
 have hgl:=hb.lt
 have hgl1:b<w.heap.size+1:=Zo
 have hgl2:b<w.heap.size+1+1:=Zo
 obtain⟨q0,q1,q2,q3,q4⟩:=Mt hx
 have HB:=Zh hb
 clear hb hx
 (obtain⟨k,⟨a0,a1,a2⟩,⟨o0,o1,o2,o3,o4⟩,⟨n0,n1,n2,n3,n4⟩⟩:=a)
 simp only at hk
 subst hk
 show Calls Tryz.prog 65 #[.pointer (some ⟨b,o,none⟩),.agg #[.int .i64 1,.int .i64 a0,.int .i64 a1,.int .i64 a2,.int .i64 o0,.int .i64 o1,.int .i64 o2,.int .i64 o3,.bool o4,.int .i64 n0,.int .i64 n1,.int .i64 n2,.int .i64 n3,.bool n4]] w _
 go_enter Tryz.func65,Tryz.ntmps65
 go_wp2_with fail
 refine bodyPost_ret (v:=.agg #[.int .i64 x.sl,.int .i64 x.gn,.int .i64 x.tg,.int .i64 x.nm,.bool x.mark,.bool true]) (by simp[results,Tryz.results65,go_sem]) rfl ?_
 exact⟨rfl,((HB.out.alloc _).alloc _).alloc _,Al.Af vB⟩
theorem Wp(w:World)(b o:Nat)(T:TypeId)(cs cs':Array Value)(a:Bo)(hb:Bk w b T cs)(ho:o+5<=cs.size)(hk:a.kind=2)(hcs:cs'.toList=cs.toList.take o++a.new.l++cs.toList.drop (o+5)):
  Calls Tryz.prog 65 #[.pointer (some ⟨b,o,none⟩),.agg a.l.toArray] w (RetT w b T cs' ⟨.zero,true⟩):=by
 have hgl:=hb.lt
 have hgl1:b<w.heap.size+1:=Zo
 have hgl2:b<w.heap.size+1+1:=Zo
 have hgl3:b<w.heap.size+1+1+1:=Zo
 have HB:=Zh hb
 clear hb
 (obtain⟨k,⟨a0,a1,a2⟩,⟨o0,o1,o2,o3,o4⟩,⟨n0,n1,n2,n3,n4⟩⟩:=a)
 simp only at hk hcs
 subst hk
 show Calls Tryz.prog 65 #[.pointer (some ⟨b,o,none⟩),.agg #[.int .i64 2,.int .i64 a0,.int .i64 a1,.int .i64 a2,.int .i64 o0,.int .i64 o1,.int .i64 o2,.int .i64 o3,.bool o4,.int .i64 n0,.int .i64 n1,.int .i64 n2,.int .i64 n3,.bool n4]] w _
 have HCS:=Zh hcs
 have HBX:Hid (∀o1 o2 o3,Bk (((w.alloc o1).alloc o2).alloc o3) b T cs):=Zh (λo1 o2 o3=>((HB.out.alloc o1).alloc o2).alloc o3)
 have R4:Hid (∀o1,Bk (((w.alloc o1).alloc (.cells #[.int .i64 0,.int .i64 0,.int .i64 0,.int .i64 0,.bool false,.bool false] 108)).alloc (.cells #[.int .i64 0,.int .i64 0,.int .i64 0,.int .i64 0,.bool false,.bool false] 108)) (w.heap.size+1) 108 #[.int .i64 0,.int .i64 0,.int .i64 0,.int .i64 0,.bool false,.bool false]):=Zh (λo1=>(Bk.at_ Zs).alloc _)
 have R5:Hid (∀o1,Bk (((w.alloc o1).alloc (.cells #[.int .i64 0,.int .i64 0,.int .i64 0,.int .i64 0,.bool false,.bool false] 108)).alloc (.cells #[.int .i64 0,.int .i64 0,.int .i64 0,.int .i64 0,.bool false,.bool false] 108)) (w.heap.size+1+1) 108 #[.int .i64 0,.int .i64 0,.int .i64 0,.int .i64 0,.bool false,.bool false]):=Zh (λo1=>Bk.at_ Zs)
 clear hcs
 go_enter Tryz.func65,Tryz.ntmps65
 go_wp2_with (first|(refine Y3 Zr _ _ _ Zr b o _ Zr Zr _ _ cs' (HBX.out _ _ _) (by exact ho) Zk Zr (by exact HCS.out) ?_;intro w2 hst;have y5:=hst.Av (R5.out _) Zo;have y4:=hst.Av (R4.out _) Zo;have q0:=y5.cell 0;have q1:=y5.cell 1;have q2:=y5.cell 2;have q3:=y5.cell 3;have q4:=y5.cell 4;have q5:=y5.cell 5;have f5:=y5.free 5;simp at q0 q1 q2 q3 q4 q5;have Y4:=Zh (y4.Av (p:=⟨w.heap.size+1+1,5,none⟩) Zs (.bool true));have HST:=Zh hst;clear hst y4 y5)|(refine vM Y4.out ?_;intro w3 hst3))
 (have r0:=hst3.bk.cell 0;have r1:=hst3.bk.cell 1;have r2:=hst3.bk.cell 2;have r3:=hst3.bk.cell 3;have r4:=hst3.bk.cell 4;have r5:=hst3.bk.cell 5;simp at r0 r1 r2 r3 r4 r5;refine bodyPost_ret (v:=.agg #[.int .i64 0,.int .i64 0,.int .i64 0,.int .i64 0,.bool false,.bool true]) (by simp[results,Tryz.results65,go_sem,r0,r1,r2,r3,r4,r5]) rfl ?_)
 exact⟨rfl,hst3.Av (HST.out.bk.Av (p:=⟨w.heap.size+1+1,5,none⟩) (by simp;omega) (.bool true)) Zo,dE HST.out hst3 Zo⟩
def SwS(w1:World)(b o r:Nat)(x:Xd)(o0 o1 o2 o3:Int)(o4:Bool):Prop:=(w1.cell? ⟨b,o,none⟩=some (.int .i64 x.sl)/\w1.cell? ⟨b,o+1,none⟩=some (.int .i64 x.gn)/\w1.cell? ⟨b,o+2,none⟩=some (.int .i64 x.tg)/\w1.cell? ⟨b,o+3,none⟩=some (.int .i64 x.nm)/\w1.cell? ⟨b,o+4,none⟩=some (.bool x.mark))/\(w1.cell? ⟨r,4,none⟩=some (.int .i64 o0)/\w1.cell? ⟨r,5,none⟩=some (.int .i64 o1)/\w1.cell? ⟨r,6,none⟩=some (.int .i64 o2)/\w1.cell? ⟨r,7,none⟩=some (.int .i64 o3)/\w1.cell? ⟨r,8,none⟩=some (.bool o4))
theorem SwS.below{w1 w2:World}{b o r:Nat}{x:Xd}{o0 o1 o2 o3:Int}{o4:Bool}(h:SwS w1 b o r x o0 o1 o2 o3 o4)(hb:Below w1.heap.size w1 w2)(h1:b<w1.heap.size)(h2:r<w1.heap.size):SwS w2 b o r x o0 o1 o2 o3 o4:=by
 obtain⟨⟨a0,a1,a2,a3,a4⟩,c0,c1,c2,c3,c4⟩:=h;have K:=(Nl hb).1;exact⟨⟨(K b _ h1).trans a0,(K b _ h1).trans a1,(K b _ h1).trans a2,(K b _ h1).trans a3,(K b _ h1).trans a4⟩,(K r _ h2).trans c0,(K r _ h2).trans c1,(K r _ h2).trans c2,(K r _ h2).trans c3,(K r _ h2).trans c4⟩
def bL(w:World)(b:Nat)(T:TypeId)(cs cs':Array Value)(x y:Xd)(e:Ending)(w':World):Prop:=RetT w b T (bif AE x y then cs' else cs) ⟨x,AE x y⟩ e w'
theorem Wn{w w1 w2 w3:World}{b:Nat}{T T2:TypeId}{cs cs2:Array Value}{u:Value}{k:Nat}(h0:Below w.heap.size w w1)(h1:Ge w1 b T cs w2)(h3:Ge (w2.setCell ⟨w.heap.size+1+1,k,none⟩ u) (w.heap.size+1) T2 cs2 w3)(hb:b<w.heap.size):Al [b] w w3:=by
 have c0:Al [b] w w1:=Al.Af h0;have c1:Al [b] w1 w2:=Al.Aw (b:=0) h1.grown (λb' e=>by injection e with e;simp[e]);have c2:Al [w.heap.size+1+1] w2 (w2.setCell ⟨w.heap.size+1+1,k,none⟩ u):=Al.Aw (b:=0) (Xr _ _ _ _) (λb' e=>by injection e with e;simp[e]);have c3:Al [w.heap.size+1] (w2.setCell ⟨w.heap.size+1+1,k,none⟩ u) w3:=Al.Aw (b:=0) h3.grown (λb' e=>by injection e with e;simp[e]);refine(((c0.trans c1).seq (F1:=[w.heap.size+1+1]) ?_ c2)).seq (F1:=[w.heap.size+1]) ?_ c3
 ·intro x hx;rw[List.mem_singleton.1 hx];right;omega
 ·intro x hx;rw[List.mem_singleton.1 hx];right;omega
theorem Wo(w:World)(b o:Nat)(T:TypeId)(cs cs':Array Value)(x:Xd)(a:Bo)(hb:Bk w b T cs)(hx:w.rangeAt b o x.l)(ho:o+5<=cs.size)(hk:a.kind=3)(hcs:cs'.toList=cs.toList.take o++a.new.l++cs.toList.drop (o+5)):
  Calls Tryz.prog 65 #[.pointer (some ⟨b,o,none⟩),.agg a.l.toArray] w (bL w b T cs cs' x a.A1):=by
 have hgl:=hb.lt
 have hgl1:b<w.heap.size+1:=Zo
 have hgl2:b<w.heap.size+1+1:=Zo
 have hgl3:b<w.heap.size+1+1+1:=Zo
 obtain⟨q0,q1,q2,q3,q4⟩:=Mt hx
 have HB:=Zh hb
 have HXX:=Zh hx
 clear hb hx
 (obtain⟨k,⟨a0,a1,a2⟩,⟨o0,o1,o2,o3,o4⟩,⟨n0,n1,n2,n3,n4⟩⟩:=a)
 simp only at hk hcs
 subst hk
 show Calls Tryz.prog 65 #[.pointer (some ⟨b,o,none⟩),.agg #[.int .i64 3,.int .i64 a0,.int .i64 a1,.int .i64 a2,.int .i64 o0,.int .i64 o1,.int .i64 o2,.int .i64 o3,.bool o4,.int .i64 n0,.int .i64 n1,.int .i64 n2,.int .i64 n3,.bool n4]] w _
 have HCS:=Zh hcs
 clear hcs
 obtain⟨A,hA⟩:∃A,A=Obj.cells #[.int .i64 3,.int .i64 a0,.int .i64 a1,.int .i64 a2,.int .i64 o0,.int .i64 o1,.int .i64 o2,.int .i64 o3,.bool o4,.int .i64 n0,.int .i64 n1,.int .i64 n2,.int .i64 n3,.bool n4] 114:=⟨_,rfl⟩
 have XA:Bk (((w.alloc A).alloc (.cells #[.int .i64 0,.int .i64 0,.int .i64 0,.int .i64 0,.bool false,.bool false] 108)).alloc (.cells #[.int .i64 x.sl,.int .i64 x.gn,.int .i64 x.tg,.int .i64 x.nm,.bool x.mark,.bool false] 108)) w.heap.size 114 #[.int .i64 3,.int .i64 a0,.int .i64 a1,.int .i64 a2,.int .i64 o0,.int .i64 o1,.int .i64 o2,.int .i64 o3,.bool o4,.int .i64 n0,.int .i64 n1,.int .i64 n2,.int .i64 n3,.bool n4]:=by subst hA;exact((Bk.at_ rfl).alloc _).alloc _
 have X4:Bk (((w.alloc A).alloc (.cells #[.int .i64 0,.int .i64 0,.int .i64 0,.int .i64 0,.bool false,.bool false] 108)).alloc (.cells #[.int .i64 x.sl,.int .i64 x.gn,.int .i64 x.tg,.int .i64 x.nm,.bool x.mark,.bool false] 108)) (w.heap.size+1) 108 #[.int .i64 0,.int .i64 0,.int .i64 0,.int .i64 0,.bool false,.bool false]:=(Bk.at_ Zs).alloc _
 have X5:Bk (((w.alloc A).alloc (.cells #[.int .i64 0,.int .i64 0,.int .i64 0,.int .i64 0,.bool false,.bool false] 108)).alloc (.cells #[.int .i64 x.sl,.int .i64 x.gn,.int .i64 x.tg,.int .i64 x.nm,.bool x.mark,.bool false] 108)) (w.heap.size+1+1) 108 #[.int .i64 x.sl,.int .i64 x.gn,.int .i64 x.tg,.int .i64 x.nm,.bool x.mark,.bool false]:=Bk.at_ Zs
 have XB:=((HB.out.alloc A).alloc (.cells #[.int .i64 0,.int .i64 0,.int .i64 0,.int .i64 0,.bool false,.bool false] 108)).alloc (.cells #[.int .i64 x.sl,.int .i64 x.gn,.int .i64 x.tg,.int .i64 x.nm,.bool x.mark,.bool false] 108)
 have CW:Hid (Below w.heap.size w (((w.alloc A).alloc (.cells #[.int .i64 0,.int .i64 0,.int .i64 0,.int .i64 0,.bool false,.bool false] 108)).alloc (.cells #[.int .i64 x.sl,.int .i64 x.gn,.int .i64 x.tg,.int .i64 x.nm,.bool x.mark,.bool false] 108))):=Zh vB
 have HX:=Zh (And.intro XA (And.intro X4 (And.intro X5 XB)))
 subst hA
 clear XA X4 X5 XB
 go_enter Tryz.func65,Tryz.ntmps65
 go_upto_region 8 with(fail)
 have QX:Hid (∀j u,x.l[j]?=some u->(((w.alloc (.cells #[.int .i64 3,.int .i64 a0,.int .i64 a1,.int .i64 a2,.int .i64 o0,.int .i64 o1,.int .i64 o2,.int .i64 o3,.bool o4,.int .i64 n0,.int .i64 n1,.int .i64 n2,.int .i64 n3,.bool n4] 114)).alloc (.cells #[.int .i64 0,.int .i64 0,.int .i64 0,.int .i64 0,.bool false,.bool false] 108)).alloc (.cells #[.int .i64 x.sl,.int .i64 x.gn,.int .i64 x.tg,.int .i64 x.nm,.bool x.mark,.bool false] 108)).cell? ⟨b,o+j,none⟩=some u):=Zh (λj u hu=>by rw[(Nl CW.out).1 b _ hgl];exact HXX.out j u hu)
 generalize(((w.alloc (.cells #[.int .i64 3,.int .i64 a0,.int .i64 a1,.int .i64 a2,.int .i64 o0,.int .i64 o1,.int .i64 o2,.int .i64 o3,.bool o4,.int .i64 n0,.int .i64 n1,.int .i64 n2,.int .i64 n3,.bool n4] 114)).alloc (.cells #[.int .i64 0,.int .i64 0,.int .i64 0,.int .i64 0,.bool false,.bool false] 108)).alloc (.cells #[.int .i64 x.sl,.int .i64 x.gn,.int .i64 x.tg,.int .i64 x.nm,.bool x.mark,.bool false] 108))=w1 at*
 clear q0 q1 q2 q3 q4
 have hS0:SwS w1 b o w.heap.size x o0 o1 o2 o3 o4:=⟨Mt QX.out,HX.out.1.cell 4,HX.out.1.cell 5,HX.out.1.cell 6,HX.out.1.cell 7,HX.out.1.cell 8⟩
 refine Yb (λw1=>SwS w1 b o w.heap.size x o0 o1 o2 o3 o4) 7 Zk hS0 (λhS=>?_)
 clear hS0
 have D1:Hid (Below w.heap.size w w1.drew):=Zh (CW.out.drew)
 have E1:Hid (Below w1.heap.size w1 w1.drew):=Zh ((Below.refl _ _).drew)
 have HX1:Hid (Bk w1.drew w.heap.size 114 _/\Bk w1.drew (w.heap.size+1) 108 _/\Bk w1.drew (w.heap.size+1+1) 108 _/\Bk w1.drew b T cs):=Zh ⟨HX.out.1.drew,HX.out.2.1.drew,HX.out.2.2.1.drew,HX.out.2.2.2.drew⟩
 clear HX QX CW E1
 generalize w1.drew=w2 at*
 ((try simp only[ZL]);refine vT (fuel:=2) hS [0,1,2,3,4] ?_;simp only[Xv,Xp,List.toList_toArray];(repeat (first|go_big_quiet_skip|(go_big_quiet_want;first|(go_big_quiet_op;go_big_quiet_on)|(apply Exists.intro;refine⟨λw' hS'=>?_,?_⟩;(· (obtain⟨⟨q0,q1,q2,q3,q4⟩,p0,p1,p2,p3,p4⟩:=hS';go_simp;first|done|rfl|exact⟨rfl,rfl⟩));go_big_quiet_on;simp only[ZL]))));refine wpQuiet_nil ?_;(try dsimp only))
 (refine Xh 5 Zk (λK hK=>?_);simp only[Xp,List.toList_toArray])
 go_wp2_with fail
 refine(mI x ⟨o0,o1,o2,o3,o4⟩ w2).mono ?_
 rintro e w3 ⟨rfl,hc⟩
 have hb3:=hc.below
 have D3:Hid (Below w.heap.size w w3):=Zh (D1.out.trans (hb3.mono D1.out.size))
 have HX3:=Zh (And.intro (HX1.out.1.Ad hb3) (And.intro (HX1.out.2.1.Ad hb3) (And.intro (HX1.out.2.2.1.Ad hb3) (HX1.out.2.2.2.Ad hb3))))
 have hS3:SwS w3 b o w.heap.size x o0 o1 o2 o3 o4:=hS.below hb3 HX1.out.2.2.2.lt HX1.out.1.lt
 clear hc hb3 HX1 D1
 go_wp2_with fail
 refine hK.out _ _ (λ_=>hS3) ?_
 clear hK hS
 have hS:=hS3
 ((try simp only[ZL]);refine vT (fuel:=0) hS [6] ?_;simp only[Xv,Xp,List.toList_toArray];(repeat (first|go_big_quiet_skip|(go_big_quiet_want;first|(go_big_quiet_op;go_big_quiet_on)|(apply Exists.intro;refine⟨λw' hS'=>?_,?_⟩;(· (skip;go_simp;first|done|rfl|exact⟨rfl,rfl⟩));go_big_quiet_on;simp only[ZL]))));refine wpQuiet_nil ?_;(try dsimp only))
 clear hS hS3
 refine Yg Zk ?_ _
 obtain⟨XA,X4,X5,XB⟩:=HX3.out
 have y9:=XA.cell 9;have y10:=XA.cell 10;have y11:=XA.cell 11;have y12:=XA.cell 12;have y13:=XA.cell 13
 have z0:=X5.cell 0;have z1:=X5.cell 1;have z2:=X5.cell 2;have z3:=X5.cell 3;have z4:=X5.cell 4;have z5:=X5.cell 5
 simp at y9 y10 y11 y12 y13 z0 z1 z2 z3 z4 z5
 have hw3:=D3.out.size
 cases hsm:AE x ⟨o0,o1,o2,o3,o4⟩ with
 |true=>
  have XBH:=Zh XB
  have R5:=Zh X5
  have R4:=Zh X4
  clear XA X4 X5 XB HB HX3
  have HSM:=Zh hsm
  go_wp2_with (first|(refine Y3 Zr _ _ _ Zr b o _ Zr Zr _ _ cs' XBH.out (by exact ho) Zk Zr (by exact HCS.out) ?_;intro w4 hst;have v5:=hst.Av R5.out Zo;have v4:=hst.Av R4.out Zo;have q0:=v5.cell 0;have q1:=v5.cell 1;have q2:=v5.cell 2;have q3:=v5.cell 3;have q4:=v5.cell 4;have q5:=v5.cell 5;have f5:=v5.free 5;simp at q0 q1 q2 q3 q4 q5;have Y4:=Zh (v4.Av (p:=⟨w.heap.size+1+1,5,none⟩) Zs (.bool true));have HST:=Zh hst;clear hst v4 v5)|(refine vM Y4.out ?_;intro w5 hst3))
  (have r0:=hst3.bk.cell 0;have r1:=hst3.bk.cell 1;have r2:=hst3.bk.cell 2;have r3:=hst3.bk.cell 3;have r4:=hst3.bk.cell 4;have r5:=hst3.bk.cell 5;simp at r0 r1 r2 r3 r4 r5;refine bodyPost_ret (v:=.agg #[.int .i64 x.sl,.int .i64 x.gn,.int .i64 x.tg,.int .i64 x.nm,.bool x.mark,.bool true]) (by simp[results,Tryz.results65,go_sem,r0,r1,r2,r3,r4,r5]) rfl ?_)
  unfold bL
  rw[HSM.out]
  exact⟨rfl,hst3.Av (HST.out.bk.Av (p:=⟨w.heap.size+1+1,5,none⟩) (by simp;omega) (.bool true)) Zo,Wn D3.out HST.out hst3 Zo⟩
 |false=>
  have XBH:=Zh XB
  have R4:=Zh X4
  clear XA X4 X5 XB HB HX3
  have HSM:=Zh hsm
  go_wp2_with (refine vM R4.out ?_;intro w5 hst3)
  (have r0:=hst3.bk.cell 0;have r1:=hst3.bk.cell 1;have r2:=hst3.bk.cell 2;have r3:=hst3.bk.cell 3;have r4:=hst3.bk.cell 4;have r5:=hst3.bk.cell 5;simp at r0 r1 r2 r3 r4 r5;refine bodyPost_ret (v:=.agg #[.int .i64 x.sl,.int .i64 x.gn,.int .i64 x.tg,.int .i64 x.nm,.bool x.mark,.bool false]) (by simp[results,Tryz.results65,go_sem,r0,r1,r2,r3,r4,r5]) rfl ?_)
  unfold bL
  rw[HSM.out]
  refine⟨rfl,hst3.Av XBH.out Zo,?_⟩
  exact(Al.Af (F:=[b]) D3.out).seq (F1:=[w.heap.size+1]) (λx hx=>by rw[List.mem_singleton.1 hx];right;omega) (Al.Aw (b:=0) hst3.grown (λb' e=>by injection e with e;simp[e]))
end Go.Proofs.YtaipogljokblkaaGreatDoor
