/- Core: PM2, PN2. -/
import Derived.Test.YtaipogljokblkaaGreatDoorE27
import Derived.Test.YtaipogljokblkaaGreatDoorE01
set_option linter.all false
set_option maxRecDepth 100000
set_option maxHeartbeats 8000000
namespace Go.Proofs.YtaipogljokblkaaGreatDoor
open Go Go.RowKit
set_option linter.unusedSimpArgs false
set_option linter.unusedVariables false
set_option linter.unusedSectionVars false
theorem gD{w:World}{g bb sb:Nat}{p:Pl}{fr:BA}{fv:Value}(h:PB w g bb sb p fr fv)(he:AQ w)(hg40:7<=g)(a:Bn)(hk:a.kind=4)(hfv:∀x∈p.free,p.BD x=true)(hfl:p.free.length<=5000):
  Calls Tryz.prog 42 #[.pointer (some ⟨g,0,none⟩),.agg a.l.toArray] w (Vc w g bb sb (Zb g bb sb fr) (p.act a)):=by
 have hv:p.valid a=true:=by unfold Pl.valid;rw[hk];rfl
 have hr:p.right a=true:=by unfold Pl.right;rw[hk];rfl
 have HVR:=Zh (And.intro hv (And.intro hr hk))
 have HFV:=Zh hfv
 clear hv hr hk hfv
 (obtain⟨k,⟨a0,a1,a2⟩,⟨o0,o1,o2,o3,o4⟩,⟨n0,n1,n2,n3,n4⟩⟩:=a)
 show Calls Tryz.prog 42 #[.pointer (some ⟨g,0,none⟩),.agg #[.int .i64 k,.int .i64 a0,.int .i64 a1,.int .i64 a2,.int .i64 o0,.int .i64 o1,.int .i64 o2,.int .i64 o3,.bool o4,.int .i64 n0,.int .i64 n1,.int .i64 n2,.int .i64 n3,.bool n4]] w _
 (have hgl:=h.bk.lt;have hwl:=he.lt;have HH:=Zh (h.below (w':=((w.alloc (.cells #[.int .i64 k,.int .i64 a0,.int .i64 a1,.int .i64 a2,.int .i64 o0,.int .i64 o1,.int .i64 o2,.int .i64 o3,.bool o4,.int .i64 n0,.int .i64 n1,.int .i64 n2,.int .i64 n3,.bool n4] 114)).alloc (.cells #[.int .i64 0,.int .i64 0,.int .i64 0,.int .i64 0,.bool false,.bool false] 108))) vB);have HE:=Zh (he.below (w':=((w.alloc (.cells #[.int .i64 k,.int .i64 a0,.int .i64 a1,.int .i64 a2,.int .i64 o0,.int .i64 o1,.int .i64 o2,.int .i64 o3,.bool o4,.int .i64 n0,.int .i64 n1,.int .i64 n2,.int .i64 n3,.bool n4] 114)).alloc (.cells #[.int .i64 0,.int .i64 0,.int .i64 0,.int .i64 0,.bool false,.bool false] 108))) vB);have XA:Bk ((w.alloc (.cells #[.int .i64 k,.int .i64 a0,.int .i64 a1,.int .i64 a2,.int .i64 o0,.int .i64 o1,.int .i64 o2,.int .i64 o3,.bool o4,.int .i64 n0,.int .i64 n1,.int .i64 n2,.int .i64 n3,.bool n4] 114)).alloc (.cells #[.int .i64 0,.int .i64 0,.int .i64 0,.int .i64 0,.bool false,.bool false] 108)) w.heap.size 114 #[.int .i64 k,.int .i64 a0,.int .i64 a1,.int .i64 a2,.int .i64 o0,.int .i64 o1,.int .i64 o2,.int .i64 o3,.bool o4,.int .i64 n0,.int .i64 n1,.int .i64 n2,.int .i64 n3,.bool n4]:=(Bk.at_ rfl).alloc _;have X4:Bk ((w.alloc (.cells #[.int .i64 k,.int .i64 a0,.int .i64 a1,.int .i64 a2,.int .i64 o0,.int .i64 o1,.int .i64 o2,.int .i64 o3,.bool o4,.int .i64 n0,.int .i64 n1,.int .i64 n2,.int .i64 n3,.bool n4] 114)).alloc (.cells #[.int .i64 0,.int .i64 0,.int .i64 0,.int .i64 0,.bool false,.bool false] 108)) (w.heap.size+1) 108 #[.int .i64 0,.int .i64 0,.int .i64 0,.int .i64 0,.bool false,.bool false]:=Bk.at_ Zs;have HC:Hid (Below w.heap.size w ((w.alloc (.cells #[.int .i64 k,.int .i64 a0,.int .i64 a1,.int .i64 a2,.int .i64 o0,.int .i64 o1,.int .i64 o2,.int .i64 o3,.bool o4,.int .i64 n0,.int .i64 n1,.int .i64 n2,.int .i64 n3,.bool n4] 114)).alloc (.cells #[.int .i64 0,.int .i64 0,.int .i64 0,.int .i64 0,.bool false,.bool false] 108))):=Zh vB;have hz:w.heap.size+1<((w.alloc (.cells #[.int .i64 k,.int .i64 a0,.int .i64 a1,.int .i64 a2,.int .i64 o0,.int .i64 o1,.int .i64 o2,.int .i64 o3,.bool o4,.int .i64 n0,.int .i64 n1,.int .i64 n2,.int .i64 n3,.bool n4] 114)).alloc (.cells #[.int .i64 0,.int .i64 0,.int .i64 0,.int .i64 0,.bool false,.bool false] 108)).heap.size:=Zs;have HLT:=Zh h.lt;clear h he)
 go_enter Tryz.func42,Tryz.ntmps42
 go_wp2_with fail
 refine(Fo HH.out ⟨k,⟨a0,a1,a2⟩,⟨o0,o1,o2,o3,o4⟩,⟨n0,n1,n2,n3,n4⟩⟩).mono ?_
 rintro e w1 ⟨rfl,hb1⟩
 rw[HVR.out.1]
 have H1:=Zh (HH.out.below hb1);have E1:=Zh (HE.out.below hb1)
 have XA1:=XA.Ac hb1;have X41:=X4.Ac hb1
 have C1:Hid (Below w.heap.size w w1):=Zh (HC.out.trans (hb1.mono HC.out.size))
 clear HH HE XA X4 hb1 HC
 have c3:=H1.out.cells.2.2.2.1
 have f3:=H1.out.bk.free 3
 have hg1:=H1.out.bk.lt
 have hgx:g≠w.heap.size:=Zo
 have hgy:g≠w.heap.size+1:=Zo
 have XA2:=Zh (XA1.Ax (p:=⟨g,3,none⟩) (Ne.symm hgx) (.int .i64 (wrap64 (p.steps+1))))
 have X42:=Zh (X41.Ax (p:=⟨g,3,none⟩) (Ne.symm hgy) (.int .i64 (wrap64 (p.steps+1))))
 go_wp2_with (refine wpList_load_mid Zr _ _ Zr w.heap.size 0 Zr [.int .i64 k,.int .i64 a0,.int .i64 a1,.int .i64 a2,.int .i64 o0,.int .i64 o1,.int .i64 o2,.int .i64 o3,.bool o4,.int .i64 n0,.int .i64 n1,.int .i64 n2,.int .i64 n3,.bool n4] _ XA2.out.range Tryz.underlying114 Zr Zk ?_)
 have P2:=H1.out.B5 (wrap64 (p.steps+1))
 have hcs:Ak [g] w1 (w1.setCell ⟨g,3,none⟩ (.int .i64 (wrap64 (p.steps+1)))):=Ak.Ar (b:=0) (Xs _ _ _ _) (λb e=>by injection e with e;simp[e])
 have E2:=E1.out.BV hcs (by simp;omega)
 refine(Fm P2 E2 ⟨k,⟨a0,a1,a2⟩,⟨o0,o1,o2,o3,o4⟩,⟨n0,n1,n2,n3,n4⟩⟩ HVR.out.1).mono ?_
 intro e w2 hr
 rw[show({p with steps:=wrap64 (p.steps+1)}:Pl).right ⟨k,⟨a0,a1,a2⟩,⟨o0,o1,o2,o3,o4⟩,⟨n0,n1,n2,n3,n4⟩⟩=true from HVR.out.2.1] at hr
 obtain⟨rfl,hb2⟩:=hr
 have H2:=Zh (P2.below hb2)
 have XA3:=XA2.out.Ac hb2
 have X43:=Zh (X42.out.Ac hb2)
 have C2:Hid (Ak (Zb g bb sb fr) w w2):=Zh (((Ak.Ag C1.out).trans (hcs.mono (λx hx=>Or.inl (by rw[List.mem_singleton.1 hx];exact Xw.2 (Or.inl rfl))))).trans (Ak.Ag hb2))
 have y0:=XA3.cell 0
 have XA4:=Zh XA3
 simp at y0
 have hz2:w.heap.size+1<w2.heap.size:=X43.out.lt
 clear P2 hcs E2 hb2 XA2 X42 XA3 XA1 X41 H1 E1 C1 c3 f3 hz
 have hk4:k=4:=HVR.out.2.2
 subst hk4
 have y12:=XA4.out.cell 12
 simp at y12
 cases hf:p.free with
 |nil=>
  have HF:=Zh hf
  clear hf hfl
  go_wp2_with fail
  refine(Pq H2.out n3 HF.out).mono ?_
  rintro e w3 ⟨rfl,hb3⟩
  have H3:=Zh (H2.out.below hb3)
  have X44:=Zh (X43.out.Ac hb3)
  have C3:Hid (Ak (Zb g bb sb fr) w w3):=Zh (C2.out.trans (Ak.Ag hb3))
  have hz3:w.heap.size+1<w3.heap.size:=X44.out.lt
  clear hb3 H2 X43 C2 hz2 XA4 y0 y12
  go_wp2_with (refine vM X44.out ?_;intro w6 hst3)
  have s0:=hst3.bk.cell 0;have s1:=hst3.bk.cell 1;have s2:=hst3.bk.cell 2;have s3:=hst3.bk.cell 3;have s4:=hst3.bk.cell 4;have s5:=hst3.bk.cell 5
  simp at s0 s1 s2 s3 s4 s5
  refine bodyPost_ret (v:=.tuple #[.agg #[.int .i64 0,.int .i64 0,.int .i64 0,.int .i64 0,.bool false,.bool false],.nilIface]) (by simp[results,Tryz.results42,go_sem,s0,s1,s2,s3,s4,s5]) rfl ?_
  have ea:p.act ⟨4,⟨a0,a1,a2⟩,⟨o0,o1,o2,o3,o4⟩,⟨n0,n1,n2,n3,n4⟩⟩=({p with steps:=wrap64 (p.steps+1)},Xj.zero):=by
   unfold Pl.act;rw[FU];show({p with steps:=wrap64 (p.steps+1)}:Pl).alloc n3=_;unfold Pl.alloc;rw[show({p with steps:=wrap64 (p.steps+1)}:Pl).free=[] from HF.out];rfl
  rw[ea]
  have c6:Ak [w.heap.size+1] w3 w6:=Ak.Ar (b:=0) hst3.grown (λb' e=>by injection e with e;simp[e])
  have hlt:=HLT.out
  exact⟨rfl,fr,fv,H3.out.BV c6 (λx hx h1=>by have:=hlt x hx;rw[List.mem_singleton.1 h1] at this;omega),C3.out.seq (F1:=[w.heap.size+1]) (λx hx=>by rw[List.mem_singleton.1 hx];right;omega) c6,λx hx=>Or.inl hx⟩
 |cons f0 fr0=>
  obtain⟨n,hn⟩:∃n,p.free.getLast?=some n:=by rw[hf];exact⟨_,List.getLast?_cons⟩
  have hsp:=WQ hn
  have hne:=HFV.out n (by rw[hsp];simp)
  obtain⟨i,rfl,hi⟩:=I4 hne
  obtain⟨fb,off,cp,e,hcp⟩:=Ds H2.out.fo (by show 0<p.free.length;rw[hf];simp)
  have HA:=Zh (Pp H2.out n3 p.free.dropLast i hsp hi (by rw[List.length_dropLast];omega) fb off cp e hcp)
  have HN:=Zh hn
  have HEF:=Zh e
  clear hf hfl hsp hne e hn
  go_wp2_with fail
  refine HA.out.mono ?_
  rintro e w3 ⟨rfl,hp3,hc3⟩
  have H3:=Zh hp3
  have hlt:=HLT.out
  have X44:=Zh (X43.out.BV hc3 (λhx=>by have:=hlt _ hx;omega))
  have C3:Hid (Ak (Zb g bb sb fr) w w3):=Zh (C2.out.trans hc3)
  have hz3:w.heap.size+1<w3.heap.size:=X44.out.lt
  clear hp3 hc3 H2 X43 C2 hz2 XA4 y0 y12 HA
  rw[show(⟨⟨(i:Int)+1,wr ((({p with steps:=wrap64 (p.steps+1)}:Pl).slot ((i:Int)+1)).As+1),0,0,false⟩,true⟩:Xj).l.toArray=#[.int .i64 ((i:Int)+1),.int .i64 (wr ((p.slot ((i:Int)+1)).As+1)),.int .i64 0,.int .i64 0,.bool false,.bool true] from rfl]
  generalize hG:wr ((p.slot ((i:Int)+1)).As+1)=G
  have HG:=Zh hG
  clear hG
  go_wp2_with (refine vM X44.out ?_;intro w6 hst3)
  have s0:=hst3.bk.cell 0;have s1:=hst3.bk.cell 1;have s2:=hst3.bk.cell 2;have s3:=hst3.bk.cell 3;have s4:=hst3.bk.cell 4;have s5:=hst3.bk.cell 5
  simp at s0 s1 s2 s3 s4 s5
  refine bodyPost_ret (v:=.tuple #[.agg #[.int .i64 ((i:Int)+1),.int .i64 G,.int .i64 0,.int .i64 0,.bool false,.bool true],.nilIface]) (by simp[results,Tryz.results42,go_sem,s0,s1,s2,s3,s4,s5]) rfl ?_
  have ea:p.act ⟨4,⟨a0,a1,a2⟩,⟨o0,o1,o2,o3,o4⟩,⟨n0,n1,n2,n3,n4⟩⟩=({p with steps:=wrap64 (p.steps+1),free:=p.free.dropLast,slot:=Ap p.slot ((i:Int)+1) (E4 p ((i:Int)+1) n3),made:=wr (p.made+1)},⟨⟨(i:Int)+1,G,0,0,false⟩,true⟩):=by
   unfold Pl.act;rw[FU];show({p with steps:=wrap64 (p.steps+1)}:Pl).alloc n3=_;unfold Pl.alloc;rw[show({p with steps:=wrap64 (p.steps+1)}:Pl).free.getLast?=some ((i:Int)+1) from HN.out,←HG.out];rfl
  rw[ea]
  have c6:Ak [w.heap.size+1] w3 w6:=Ak.Ar (b:=0) hst3.grown (λb' e=>by injection e with e;simp[e])
  have ef:fr.v.ownBlock=some fb:=by rw[HEF.out];rfl
  have hsub:∀x∈Zb g bb sb ⟨some ⟨fb,off,none⟩,p.free.dropLast.length,cp⟩,x∈Zb g bb sb fr:=λx hx=>by
   rcases Xw.1 hx with h|h|h|h
   ·exact Xw.2 (Or.inl h)
   ·exact Xw.2 (Or.inr (Or.inl h))
   ·exact Xw.2 (Or.inr (Or.inr (Or.inl h)))
   ·exact Xw.2 (Or.inr (Or.inr (Or.inr (by rw[ef];exact h))))
  exact⟨rfl,_,fv,H3.out.BV c6 (λx hx h1=>by have:=hlt x (hsub x hx);rw[List.mem_singleton.1 h1] at this;omega),C3.out.seq (F1:=[w.heap.size+1]) (λx hx=>by rw[List.mem_singleton.1 hx];right;omega) c6,λx hx=>Or.inl (hsub x hx)⟩
theorem EY(w:World)(v:Value)(l:List Int)(h:Own w 3 1 v l.length (Y5 l))(hl:l.length<=100000)(x:Int)(b:Nat)(hb:Bk w b 3 #[.int .i64 x])(t:TypeId):
  ∃v' w',(Builtin.append_ #[45,45] t #[v,.slice (some ⟨b,0,none⟩) 1 1]).run Tryz.prog w=.ok v' w'/\
   Own w' 3 1 v' (l++[x]).length (Y5 (l++[x]))/\w.grownBy w' v.ownBlock/\Em w v v':=by
 have IZ:∀l:List Int,rows (λn=>[Value.int .i64 n]) l=Y5 l:=λl=>by
  induction l with
  |nil=>rfl
  |cons a l ih=>rw[DC,ih];rfl
 have h1:=AX (f:=λn:Int=>[Value.int .i64 n]) (sz:=1) (E:=3) (λ_=>rfl) (λx u hu=>by rw[List.mem_singleton.1 hu];rfl) Tryz.underlying45 MU rfl Zd Zd w v l (by rw[IZ];exact h) hl x b hb t
 rw[IZ] at h1
 exact h1
theorem PB.Be{w w2:World}{g bb sb:Nat}{p:Pl}{fr u:BA}{fv:Value}{l:List Int}(h:PB w g bb sb p fr fv)(ho:Own w2 3 1 u.v l.length (Y5 l))(hg:w.grownBy w2 fr.v.ownBlock)(hf:Em w fr.v u.v):
  PB (w2.setCell ⟨g,2,none⟩ u.v) g bb sb {p with free:=l} u fv/\Ak (Zb g bb sb fr) w (w2.setCell ⟨g,2,none⟩ u.v):=by
 have l1:=h.bk.lt;have l2:=h.bo.lt;have l3:=h.so.lt
 have b1:Bk w2 g _ _:=h.bk.grown hg (λe=>h.f1 e.symm)
 have b2:Bk w2 bb _ _:=h.bo.grown hg (λe=>h.f2 e.symm)
 have b3:Bk w2 sb _ _:=h.so.grown hg (λe=>h.f3 e.symm)
 have g1:u.v.ownBlock≠some g:=λe=>(hf g e).elim h.f1 (λh'=>by omega)
 have g2:u.v.ownBlock≠some bb:=λe=>(hf bb e).elim h.f2 (λh'=>by omega)
 have g3:u.v.ownBlock≠some sb:=λe=>(hf sb e).elim h.f3 (λh'=>by omega)
 have hg2:=Xs w2 g 2 u.v
 refine⟨⟨by rw[←set2 p bb sb fr u fv];exact b1.Eo 2 u.v,b2.Ax (p:=⟨g,2,none⟩) (Ne.symm h.n1) _,b3.Ax (p:=⟨g,2,none⟩) (Ne.symm h.n2) _,ho.grown hg2 (Or.inr g1),h.fZ,h.n1,h.n2,h.n3,g1,g2,g3,h.fE,h.Vh⟩,?_⟩
 exact(Ak.Ar (b:=0) hg λb e=>Xw.2 (Or.inr (Or.inr (Or.inr e)))).trans (Ak.Ar (b:=0) hg2 λb e=>by injection e with e;exact Xw.2 (Or.inl e.symm))
theorem PB.xY{w:World}{g bb sb:Nat}{p:Pl}{fr:BA}{fv:Value}(h:PB w g bb sb p fr fv){i:Nat}(hi:i<p.ns):
  PB (w.setCell ⟨sb,i*52+1,none⟩ (.bool false)) g bb sb {p with slot:=Ap p.slot ((i:Int)+1) {p.slot ((i:Int)+1) with used:=false}} fr fv:=by
 have hg2:=Xs w sb (i*52+1) (.bool false)
 have e:p.Az.toArray.setIfInBounds (i*52+1) (.bool false)=({p with slot:=Ap p.slot ((i:Int)+1) {p.slot ((i:Int)+1) with used:=false}}:Pl).Az.toArray:=by
  apply Array.toList_inj.1;have h2:=KK Bo (λ(j:Nat)=>p.slot ((j:Int)+1)) p.ns i hi;have h4:=KJ Bo (λ(j:Nat)=>p.slot ((j:Int)+1)) (λ(j:Nat)=>Ap p.slot ((i:Int)+1) {p.slot ((i:Int)+1) with used:=false} ((j:Int)+1)) p.ns i hi (λj hj=>Yi _ _ Zo);simp only[A9] at h4;simp only[Array.toList_setIfInBounds];show p.Az.set (i*52+1) (.bool false)=({p with slot:=_}:Pl).Az;unfold Pl.Az;simp only;rw[h4,h2];have hl:(rows Bg ((List.range i).map λ(j:Nat)=>p.slot ((j:Int)+1))).length=i*52:=by rw[Y0 Bo];simp
  generalize rows Bg ((List.range i).map λ(j:Nat)=>p.slot ((j:Int)+1))=A at*;generalize rows Bg ((List.range (p.ns-i-1)).map λ(j:Nat)=>p.slot (((i+1+j:Nat):Int)+1))=B at*;rw[←hl];have hs:=Bo (p.slot ((i:Int)+1));rw[show A.length+52=A.length+(Bg (p.slot ((i:Int)+1))).length from by rw[hs],List.take_left' rfl,FA,List.drop_left' rfl];have t2:∀(x y z:Value) (r:List Value),(A++x::y::r).set (A.length+1) z=A++x::z::r:=λx y z r=>by rw[List.set_append];simp;intro h;omega
  unfold Bg;simp only[List.cons_append,List.nil_append,List.append_assoc];exact t2 _ _ _ _
 exact⟨h.bk.Ax (p:=⟨sb,i*52+1,none⟩) h.n2 _,h.bo.Ax (p:=⟨sb,i*52+1,none⟩) h.n3 _,by rw[←e];exact h.so.Eo (i*52+1) _,h.fo.grown hg2 (Or.inr h.f3),h.fZ,h.n1,h.n2,h.n3,h.f1,h.f2,h.f3,h.fE,h.Vh⟩
theorem XE{w:World}{g bb sb:Nat}{p:Pl}{fr:BA}{fv:Value}(h:PB w g bb sb p fr fv)(he:AQ w)(hg40:7<=g)(a:Bn)(hk:a.kind=5)(hv:p.valid a=true)(hr:p.right a=true)(hfl:p.free.length<=5000):
  Calls Tryz.prog 42 #[.pointer (some ⟨g,0,none⟩),.agg a.l.toArray] w (Vc w g bb sb (Zb g bb sb fr) (p.act a)):=by
 have HVR:=Zh (And.intro hv (And.intro hr hk))
 clear hv hr hk
 (obtain⟨k,⟨a0,a1,a2⟩,⟨o0,o1,o2,o3,o4⟩,⟨n0,n1,n2,n3,n4⟩⟩:=a)
 show Calls Tryz.prog 42 #[.pointer (some ⟨g,0,none⟩),.agg #[.int .i64 k,.int .i64 a0,.int .i64 a1,.int .i64 a2,.int .i64 o0,.int .i64 o1,.int .i64 o2,.int .i64 o3,.bool o4,.int .i64 n0,.int .i64 n1,.int .i64 n2,.int .i64 n3,.bool n4]] w _
 (have hgl:=h.bk.lt;have hwl:=he.lt;have HH:=Zh (h.below (w':=((w.alloc (.cells #[.int .i64 k,.int .i64 a0,.int .i64 a1,.int .i64 a2,.int .i64 o0,.int .i64 o1,.int .i64 o2,.int .i64 o3,.bool o4,.int .i64 n0,.int .i64 n1,.int .i64 n2,.int .i64 n3,.bool n4] 114)).alloc (.cells #[.int .i64 0,.int .i64 0,.int .i64 0,.int .i64 0,.bool false,.bool false] 108))) vB);have HE:=Zh (he.below (w':=((w.alloc (.cells #[.int .i64 k,.int .i64 a0,.int .i64 a1,.int .i64 a2,.int .i64 o0,.int .i64 o1,.int .i64 o2,.int .i64 o3,.bool o4,.int .i64 n0,.int .i64 n1,.int .i64 n2,.int .i64 n3,.bool n4] 114)).alloc (.cells #[.int .i64 0,.int .i64 0,.int .i64 0,.int .i64 0,.bool false,.bool false] 108))) vB);have XA:Bk ((w.alloc (.cells #[.int .i64 k,.int .i64 a0,.int .i64 a1,.int .i64 a2,.int .i64 o0,.int .i64 o1,.int .i64 o2,.int .i64 o3,.bool o4,.int .i64 n0,.int .i64 n1,.int .i64 n2,.int .i64 n3,.bool n4] 114)).alloc (.cells #[.int .i64 0,.int .i64 0,.int .i64 0,.int .i64 0,.bool false,.bool false] 108)) w.heap.size 114 #[.int .i64 k,.int .i64 a0,.int .i64 a1,.int .i64 a2,.int .i64 o0,.int .i64 o1,.int .i64 o2,.int .i64 o3,.bool o4,.int .i64 n0,.int .i64 n1,.int .i64 n2,.int .i64 n3,.bool n4]:=(Bk.at_ rfl).alloc _;have X4:Bk ((w.alloc (.cells #[.int .i64 k,.int .i64 a0,.int .i64 a1,.int .i64 a2,.int .i64 o0,.int .i64 o1,.int .i64 o2,.int .i64 o3,.bool o4,.int .i64 n0,.int .i64 n1,.int .i64 n2,.int .i64 n3,.bool n4] 114)).alloc (.cells #[.int .i64 0,.int .i64 0,.int .i64 0,.int .i64 0,.bool false,.bool false] 108)) (w.heap.size+1) 108 #[.int .i64 0,.int .i64 0,.int .i64 0,.int .i64 0,.bool false,.bool false]:=Bk.at_ Zs;have HC:Hid (Below w.heap.size w ((w.alloc (.cells #[.int .i64 k,.int .i64 a0,.int .i64 a1,.int .i64 a2,.int .i64 o0,.int .i64 o1,.int .i64 o2,.int .i64 o3,.bool o4,.int .i64 n0,.int .i64 n1,.int .i64 n2,.int .i64 n3,.bool n4] 114)).alloc (.cells #[.int .i64 0,.int .i64 0,.int .i64 0,.int .i64 0,.bool false,.bool false] 108))):=Zh vB;have hz:w.heap.size+1<((w.alloc (.cells #[.int .i64 k,.int .i64 a0,.int .i64 a1,.int .i64 a2,.int .i64 o0,.int .i64 o1,.int .i64 o2,.int .i64 o3,.bool o4,.int .i64 n0,.int .i64 n1,.int .i64 n2,.int .i64 n3,.bool n4] 114)).alloc (.cells #[.int .i64 0,.int .i64 0,.int .i64 0,.int .i64 0,.bool false,.bool false] 108)).heap.size:=Zs;have HLT:=Zh h.lt;clear h he)
 go_enter Tryz.func42,Tryz.ntmps42
 go_wp2_with fail
 refine(Fo HH.out ⟨k,⟨a0,a1,a2⟩,⟨o0,o1,o2,o3,o4⟩,⟨n0,n1,n2,n3,n4⟩⟩).mono ?_
 rintro e w1 ⟨rfl,hb1⟩
 rw[HVR.out.1]
 have H1:=Zh (HH.out.below hb1);have E1:=Zh (HE.out.below hb1)
 have XA1:=XA.Ac hb1;have X41:=X4.Ac hb1
 have C1:Hid (Below w.heap.size w w1):=Zh (HC.out.trans (hb1.mono HC.out.size))
 clear HH HE XA X4 hb1 HC
 have c3:=H1.out.cells.2.2.2.1
 have f3:=H1.out.bk.free 3
 have hg1:=H1.out.bk.lt
 have hgx:g≠w.heap.size:=Zo
 have hgy:g≠w.heap.size+1:=Zo
 have XA2:=Zh (XA1.Ax (p:=⟨g,3,none⟩) (Ne.symm hgx) (.int .i64 (wrap64 (p.steps+1))))
 have X42:=Zh (X41.Ax (p:=⟨g,3,none⟩) (Ne.symm hgy) (.int .i64 (wrap64 (p.steps+1))))
 go_wp2_with (refine wpList_load_mid Zr _ _ Zr w.heap.size 0 Zr [.int .i64 k,.int .i64 a0,.int .i64 a1,.int .i64 a2,.int .i64 o0,.int .i64 o1,.int .i64 o2,.int .i64 o3,.bool o4,.int .i64 n0,.int .i64 n1,.int .i64 n2,.int .i64 n3,.bool n4] _ XA2.out.range Tryz.underlying114 Zr Zk ?_)
 have P2:=H1.out.B5 (wrap64 (p.steps+1))
 have hcs:Ak [g] w1 (w1.setCell ⟨g,3,none⟩ (.int .i64 (wrap64 (p.steps+1)))):=Ak.Ar (b:=0) (Xs _ _ _ _) (λb e=>by injection e with e;simp[e])
 have E2:=E1.out.BV hcs (by simp;omega)
 refine(Fm P2 E2 ⟨k,⟨a0,a1,a2⟩,⟨o0,o1,o2,o3,o4⟩,⟨n0,n1,n2,n3,n4⟩⟩ HVR.out.1).mono ?_
 intro e w2 hr
 rw[show({p with steps:=wrap64 (p.steps+1)}:Pl).right ⟨k,⟨a0,a1,a2⟩,⟨o0,o1,o2,o3,o4⟩,⟨n0,n1,n2,n3,n4⟩⟩=true from HVR.out.2.1] at hr
 obtain⟨rfl,hb2⟩:=hr
 have H2:=Zh (P2.below hb2)
 have XA3:=XA2.out.Ac hb2
 have X43:=Zh (X42.out.Ac hb2)
 have C2:Hid (Ak (Zb g bb sb fr) w w2):=Zh (((Ak.Ag C1.out).trans (hcs.mono (λx hx=>Or.inl (by rw[List.mem_singleton.1 hx];exact Xw.2 (Or.inl rfl))))).trans (Ak.Ag hb2))
 have y0:=XA3.cell 0
 have XA4:=Zh XA3
 simp at y0
 have hz2:w.heap.size+1<w2.heap.size:=X43.out.lt
 clear P2 hcs E2 hb2 XA2 X42 XA3 XA1 X41 H1 E1 C1 c3 f3 hz
 have hk5:k=5:=HVR.out.2.2
 subst hk5
 have hne:p.BD o0=true:=HVR.out.1
 obtain⟨i,rfl,hi⟩:=I4 hne
 have y4:=XA4.out.cell 4
 simp at y4
 clear hne
 go_upto_region 15 with(fail)
 have hns:p.ns<=2000:=H2.out.Vh
 have c1:=H2.out.cells.2.1
 simp only at c1
 refine X8 (λw'=>w'.cell? ⟨g,1,none⟩=some (.slice (some ⟨sb,0,none⟩) p.ns p.ns)/\w'.cell? ⟨w.heap.size,4,none⟩=some (.int .i64 ((i:Int)+1))) 8 Zk ⟨c1,y4⟩ (λhS=>?_)
 have H3:=Zh (H2.out.below (Below.refl _ _).drew)
 have X44:=Zh X43.out.drew
 have XA5:=Zh XA4.out.drew
 have C3:Hid (Ak (Zb g bb sb fr) w w2.drew):=Zh (C2.out.trans (Ak.Ag (Below.refl _ _).drew))
 have hz3:w.heap.size+1<w2.drew.heap.size:=hz2
 clear H2 X43 C2 hz2 XA4 y0 y4 c1
 generalize w2.drew=w3 at*
 ((try simp only[ZL]);refine vT (fuel:=4) hS [0,1,2,3,4,5,6] ?_;simp only[Xy,Xr,List.toList_toArray];(repeat (first|go_big_quiet_skip|(go_big_quiet_want;first|(go_big_quiet_op;go_big_quiet_on)|(apply Exists.intro;refine⟨λw' hS'=>?_,?_⟩;(· (obtain⟨c1,y4⟩:=hS';go_simp;first|done|rfl|exact⟨rfl,rfl⟩));go_big_quiet_on;simp only[ZL]))));refine wpQuiet_nil ?_;(try dsimp only))
 (refine Xi 7 Zk (λK hK=>?_);simp only[Xr,List.toList_toArray])
 go_wp2_with fail
 refine hK.out _ _ (λ_=>hS) ?_
 clear hK
 have c0:=(H3.out.two hi).2
 have f0:=H3.out.so.free (i*52+1)
 simp only at c0
 ((refine Xi 8 Zk (λK hK=>?_);simp only[Xr,List.toList_toArray]);go_wp2_with fail;refine hK.out _ _ (λh=>absurd h Zo) ?_;clear hK)
 ((refine Xi 9 Zk (λK hK=>?_);simp only[Xr,List.toList_toArray]);go_wp2_with fail;refine hK.out _ _ (λh=>absurd h Zo) ?_;clear hK)
 (refine Xi 10 Zk (λK hK=>?_);simp only[Xr,List.toList_toArray])
 go_wp2_with fail
 refine hK.out _ _ (λh=>absurd h Zo) ?_
 clear hK hS
 refine Ye Zk ?_ _
 have P4:=H3.out.xY hi
 have hcs:Ak [sb] w3 (w3.setCell ⟨sb,i*52+1,none⟩ (.bool false)):=Ak.Ar (b:=0) (Xs _ _ _ _) (λb e=>by injection e with e;simp[e])
 have ms:sb∈Zb g bb sb fr:=Xw.2 (Or.inr (Or.inr (Or.inl rfl)))
 have hlt:=HLT.out
 have hsbx:sb<w.heap.size:=hlt sb ms
 have H4:=Zh P4
 have X45:=Zh (X44.out.BV hcs (by simp;omega))
 have XA6:=Zh (XA5.out.BV hcs (by simp;omega))
 have C4:Hid (Ak (Zb g bb sb fr) w (w3.setCell ⟨sb,i*52+1,none⟩ (.bool false))):=Zh (C3.out.trans (hcs.mono (λx hx=>Or.inl (by rw[List.mem_singleton.1 hx];exact ms))))
 have hz4:w.heap.size+1<(w3.setCell ⟨sb,i*52+1,none⟩ (.bool false)).heap.size:=X45.out.lt
 clear P4 hcs H3 X44 XA5 C3 hz3 c0 f0
 generalize w3.setCell ⟨sb,i*52+1,none⟩ (.bool false)=w4 at*
 go_upto_region 16 with(fail)
 have c2:=H4.out.cells.2.2.1
 have y4:=XA6.out.cell 4
 simp at y4
 refine X8 (λw'=>w'.cell? ⟨g,2,none⟩=some fr.v/\w'.cell? ⟨w.heap.size,4,none⟩=some (.int .i64 ((i:Int)+1))) 10 Zk ⟨c2,y4⟩ (λhS=>?_)
 have H5:=Zh (H4.out.below (Below.refl _ _).drew)
 have X46:=Zh X45.out.drew
 have XA7:=Zh XA6.out.drew
 have C5:Hid (Ak (Zb g bb sb fr) w w4.drew):=Zh (C4.out.trans (Ak.Ag (Below.refl _ _).drew))
 clear H4 X45 XA6 C4 hz4 c2 y4
 generalize w4.drew=w5 at*
 ((try simp only[ZL]);refine vT (fuel:=5) hS [0,1,2,3,4,5,6,7] ?_;simp only[Xy,Xr,List.toList_toArray];(repeat (first|go_big_quiet_skip|(go_big_quiet_want;first|(go_big_quiet_op;go_big_quiet_on)|(apply Exists.intro;refine⟨λw' hS'=>?_,?_⟩;(· (obtain⟨c2,y4⟩:=hS';go_simp;first|done|rfl|exact⟨rfl,rfl⟩));go_big_quiet_on;simp only[ZL]))));refine wpQuiet_nil ?_;(try dsimp only))
 (refine Xi 8 Zk (λK hK=>?_);simp only[Xr,List.toList_toArray])
 go_wp2_with fail
 have H6:=Zh (H5.out.alloc (.cells #[.int .i64 ((i:Int)+1)] 3))
 have X47:=Zh (X46.out.alloc (.cells #[.int .i64 ((i:Int)+1)] 3))
 have XA8:=Zh (XA7.out.alloc (.cells #[.int .i64 ((i:Int)+1)] 3))
 have C6:Hid (Ak (Zb g bb sb fr) w (w5.alloc (.cells #[.int .i64 ((i:Int)+1)] 3))):=Zh (C5.out.trans (Ak.Ag ((Below.refl _ _).alloc (Nat.le_refl _) _)))
 obtain⟨v',w7,hrun,ho,hg,hfr⟩:=EY _ fr.v p.free H6.out.fo Zo ((i:Int)+1) w5.heap.size (Bk.at_ rfl) 45
 obtain⟨va,vc,rfl,_⟩:=Yq ho
 have HR:=Zh hrun
 have hS6:_/\_:=⟨H6.out.cells.2.2.1,XA8.out.cell 4⟩
 refine hK.out _ _ (λ_=>hS6) ?_
 have hz5:w.heap.size+1<w5.heap.size:=X46.out.lt
 clear hK hS hS6 X46 XA7 C5 H5
 have HP8:=Zh (H6.out.Be (l:=p.free++[(i:Int)+1]) (u:=⟨va,_,vc⟩) ho hg hfr)
 have HFR:=Zh hfr
 have b7:Bk w7 g 106 _:=H6.out.bk.grown hg (λe=>H6.out.f1 e.symm)
 have c2:=b7.cell 2
 have f2:=b7.free 2
 simp at c2
 have XA9:=XA8.out.grown hg (λe=>by have:=hlt _ (Xw.2 (Or.inr (Or.inr (Or.inr e.symm))));omega)
 have X48:=Zh (X47.out.grown hg (λe=>by have:=hlt _ (Xw.2 (Or.inr (Or.inr (Or.inr e.symm))));omega))
 have y4:=XA9.cell 4
 simp at y4
 clear ho hg hfr hrun b7 X47 XA8 XA9
 generalize(p.free++[(i:Int)+1]).length=fl at*
 (refine Xi 9 Zk (λK hK=>?_);simp only[Xr,List.toList_toArray])
 go_wp2_with (at_builtin;refine Ya Zr _ _ _ _ _ _ _ Zr Zr Zr HR.out ?_)
 refine hK.out _ _ (λ_=>⟨c2,y4⟩) ?_
 clear hK HR y4
 ((refine Xi 10 Zk (λK hK=>?_);simp only[Xr,List.toList_toArray]);go_wp2_with fail;refine hK.out _ _ (λh=>absurd h Zo) ?_;clear hK)
 ((refine Xi 11 Zk (λK hK=>?_);simp only[Xr,List.toList_toArray]);go_wp2_with fail;refine hK.out _ _ (λh=>absurd h Zo) ?_;clear hK)
 (refine Xi 12 Zk (λK hK=>?_);simp only[Xr,List.toList_toArray])
 go_wp2_with fail
 refine hK.out _ _ (λh=>absurd h Zo) ?_
 clear hK
 refine Ye Zk ?_ _
 have X49:=Zh (X48.out.Ax (p:=⟨g,2,none⟩) (by simp;omega) (.slice va fl vc))
 have H9:Hid (PB (w7.setCell ⟨g,2,none⟩ (.slice va fl vc)) g bb sb _ ⟨va,fl,vc⟩ fv):=Zh HP8.out.1
 have C9:Hid (Ak (Zb g bb sb fr) w (w7.setCell ⟨g,2,none⟩ (.slice va fl vc))):=Zh (C6.out.trans HP8.out.2)
 have hz9:w.heap.size+1<(w7.setCell ⟨g,2,none⟩ (.slice va fl vc)).heap.size:=X49.out.lt
 have hz6:=C6.out.size
 clear X48 HP8 C6 H6 c2 f2
 generalize w7.setCell ⟨g,2,none⟩ (.slice va fl vc)=w8 at*
 go_wp2_with (refine vM X49.out ?_;intro w9 hst3)
 have s0:=hst3.bk.cell 0;have s1:=hst3.bk.cell 1;have s2:=hst3.bk.cell 2;have s3:=hst3.bk.cell 3;have s4:=hst3.bk.cell 4;have s5:=hst3.bk.cell 5
 simp at s0 s1 s2 s3 s4 s5
 refine bodyPost_ret (v:=.tuple #[.agg #[.int .i64 0,.int .i64 0,.int .i64 0,.int .i64 0,.bool false,.bool true],.nilIface]) (by simp[results,Tryz.results42,go_sem,s0,s1,s2,s3,s4,s5]) rfl ?_
 have ea:p.act ⟨5,⟨a0,a1,a2⟩,⟨(i:Int)+1,o1,o2,o3,o4⟩,⟨n0,n1,n2,n3,n4⟩⟩=({p with steps:=wrap64 (p.steps+1),slot:=Ap p.slot ((i:Int)+1) {p.slot ((i:Int)+1) with used:=false},free:=p.free++[(i:Int)+1]},⟨.zero,true⟩):=by
  unfold Pl.act;rw[FU];simp only;rw[show({p with steps:=wrap64 (p.steps+1)}:Pl).right ⟨5,⟨a0,a1,a2⟩,⟨(i:Int)+1,o1,o2,o3,o4⟩,⟨n0,n1,n2,n3,n4⟩⟩=true from HVR.out.2.1];rfl
 rw[ea]
 have c6:Ak [w.heap.size+1] w8 w9:=Ak.Ar (b:=0) hst3.grown (λb' e=>by injection e with e;simp[e])
 have hsub:∀x∈Zb g bb sb ⟨va,fl,vc⟩,x∈Zb g bb sb fr\/w5.heap.size<x+1:=λx hx=>by
  rcases Xw.1 hx with h|h|h|h
  ·exact Or.inl (Xw.2 (Or.inl h))
  ·exact Or.inl (Xw.2 (Or.inr (Or.inl h)))
  ·exact Or.inl (Xw.2 (Or.inr (Or.inr (Or.inl h))))
  ·exact(HFR.out x h).imp (λh=>Xw.2 (Or.inr (Or.inr (Or.inr h)))) (λh=>by simp at h;omega)
 exact ⟨rfl,_,fv,H9.out.BV c6 (fun x hx h1=>by
  rw[List.mem_singleton.1 h1] at hx;rcases hsub _ hx with h|h
  ·have:=hlt _ h;omega
  ·omega),C9.out.seq (F1:=[w.heap.size+1]) (λx hx=>by rw[List.mem_singleton.1 hx];right;omega) c6,λx hx=>(hsub x hx).imp id (λh=>by omega)⟩
end Go.Proofs.YtaipogljokblkaaGreatDoor
