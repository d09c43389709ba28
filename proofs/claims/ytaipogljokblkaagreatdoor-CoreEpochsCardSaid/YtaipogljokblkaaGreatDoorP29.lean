/- Core: PM2, PN2. -/
import Derived.Test.YtaipogljokblkaaGreatDoorP28
set_option linter.all false
set_option maxRecDepth 100000
set_option maxHeartbeats 8000000
namespace Go.Proofs.YtaipogljokblkaaGreatDoor
open Go Go.RowKit
def lD{w:World}{g K L:Nat}{p:Pl}{fr:B5}{fv:Value}(h:PB w g K L p fr fv)(he:AT w)(ap:7<=g)(a:Bx)(hk:a.kind=4)(W:∀x∈p.free,p.BY x=true)(X:p.free.length<=5000):
  Kp 42 #[.pointer (some ⟨g,0,none⟩),.agg a.l.toArray] w (WS w g K L (Zu g K L fr) (p.act a)):=by
 have hv:p.valid a=true:=by unfold Pl.valid;rw[hk];rfl
 have Y:p.right a=true:=by unfold Pl.right;rw[hk];rfl
 have H:=eR (fy hv (fy Y hk))
 have ai:=eR W
 clear hv Y hk W
 (obtain⟨k,⟨m,o,q⟩,⟨r,s,u,y,z⟩,⟨n0,n1,n2,d,B⟩⟩:=a)
 show Kp 42 #[.pointer (some ⟨g,0,none⟩),.agg #[.int .i64 k,.int .i64 m,.int .i64 o,.int .i64 q,.int .i64 r,.int .i64 s,.int .i64 u,.int .i64 y,.bool z,.int .i64 n0,.int .i64 n1,.int .i64 n2,.int .i64 d,.bool B]] w _
 (have aq:=h.bk.lt;have ar:=he.lt;have HH:=eR (h.below (w':=((w.alloc (.cells #[.int .i64 k,.int .i64 m,.int .i64 o,.int .i64 q,.int .i64 r,.int .i64 s,.int .i64 u,.int .i64 y,.bool z,.int .i64 n0,.int .i64 n1,.int .i64 n2,.int .i64 d,.bool B] 114)).alloc (.cells #[.int .i64 0,.int .i64 0,.int .i64 0,.int .i64 0,.bool false,.bool false] 108))) vB);have HE:=eR (he.below (w':=((w.alloc (.cells #[.int .i64 k,.int .i64 m,.int .i64 o,.int .i64 q,.int .i64 r,.int .i64 s,.int .i64 u,.int .i64 y,.bool z,.int .i64 n0,.int .i64 n1,.int .i64 n2,.int .i64 d,.bool B] 114)).alloc (.cells #[.int .i64 0,.int .i64 0,.int .i64 0,.int .i64 0,.bool false,.bool false] 108))) vB);have XA:Bk ((w.alloc (.cells #[.int .i64 k,.int .i64 m,.int .i64 o,.int .i64 q,.int .i64 r,.int .i64 s,.int .i64 u,.int .i64 y,.bool z,.int .i64 n0,.int .i64 n1,.int .i64 n2,.int .i64 d,.bool B] 114)).alloc (.cells #[.int .i64 0,.int .i64 0,.int .i64 0,.int .i64 0,.bool false,.bool false] 108)) w.heap.size 114 #[.int .i64 k,.int .i64 m,.int .i64 o,.int .i64 q,.int .i64 r,.int .i64 s,.int .i64 u,.int .i64 y,.bool z,.int .i64 n0,.int .i64 n1,.int .i64 n2,.int .i64 d,.bool B]:=(Bk.at_ rfl).alloc _;have X4:Bk ((w.alloc (.cells #[.int .i64 k,.int .i64 m,.int .i64 o,.int .i64 q,.int .i64 r,.int .i64 s,.int .i64 u,.int .i64 y,.bool z,.int .i64 n0,.int .i64 n1,.int .i64 n2,.int .i64 d,.bool B] 114)).alloc (.cells #[.int .i64 0,.int .i64 0,.int .i64 0,.int .i64 0,.bool false,.bool false] 108)) (w.heap.size+1) 108 #[.int .i64 0,.int .i64 0,.int .i64 0,.int .i64 0,.bool false,.bool false]:=Bk.at_ Zs;have HC:Hid (Below w.heap.size w ((w.alloc (.cells #[.int .i64 k,.int .i64 m,.int .i64 o,.int .i64 q,.int .i64 r,.int .i64 s,.int .i64 u,.int .i64 y,.bool z,.int .i64 n0,.int .i64 n1,.int .i64 n2,.int .i64 d,.bool B] 114)).alloc (.cells #[.int .i64 0,.int .i64 0,.int .i64 0,.int .i64 0,.bool false,.bool false] 108))):=eR vB;have hz:w.heap.size+1<((w.alloc (.cells #[.int .i64 k,.int .i64 m,.int .i64 o,.int .i64 q,.int .i64 r,.int .i64 s,.int .i64 u,.int .i64 y,.bool z,.int .i64 n0,.int .i64 n1,.int .i64 n2,.int .i64 d,.bool B] 114)).alloc (.cells #[.int .i64 0,.int .i64 0,.int .i64 0,.int .i64 0,.bool false,.bool false] 108)).heap.size:=Zs;have Z:=eR h.lt;clear h he)
 go_enter Tryz.func42,Tryz.ntmps42
 go_wp2_with fail
 refine(FQ HH.out ⟨k,⟨m,o,q⟩,⟨r,s,u,y,z⟩,⟨n0,n1,n2,d,B⟩⟩).mono ?_
 rintro e w1 ⟨rfl,C⟩
 rw[H.out.1]
 have H1:=eR (HH.out.below C);have E1:=eR (HE.out.below C)
 have aa:=XA.Af C;have ab:=X4.Af C
 have C1:Hid (Below w.heap.size w w1):=eR (HC.out.trans (C.mono HC.out.size))
 clear HH HE XA X4 C HC
 have c3:=H1.out.cells.2.2.2.1
 have f3:=H1.out.bk.free 3
 have au:=H1.out.bk.lt
 have aj:g≠w.heap.size:=Zo
 have ak:g≠w.heap.size+1:=Zo
 have N:=eR (aa.A5 (p:=⟨g,3,none⟩) (Ne.symm aj) (.int .i64 (wrap64 (p.steps+1))))
 have ad:=eR (ab.A5 (p:=⟨g,3,none⟩) (Ne.symm ak) (.int .i64 (wrap64 (p.steps+1))))
 go_wp2_with (refine ny Zr _ _ Zr w.heap.size 0 Zr [.int .i64 k,.int .i64 m,.int .i64 o,.int .i64 q,.int .i64 r,.int .i64 s,.int .i64 u,.int .i64 y,.bool z,.int .i64 n0,.int .i64 n1,.int .i64 n2,.int .i64 d,.bool B] _ N.out.range Tryz.underlying114 Zr Zk ?_)
 have P2:=H1.out.BN (wrap64 (p.steps+1))
 have O:Aq [g] w1 (w1.setCell ⟨g,3,none⟩ (.int .i64 (wrap64 (p.steps+1)))):=Aq.Ax (b:=0) (X2 _ _ _ _) (λb e=>by injection e with e;simp[e])
 have E2:=E1.out.CJ O (by simp;omega)
 refine(FP P2 E2 ⟨k,⟨m,o,q⟩,⟨r,s,u,y,z⟩,⟨n0,n1,n2,d,B⟩⟩ H.out.1).mono ?_
 intro e w2 Y
 rw[show({p with steps:=wrap64 (p.steps+1)}:Pl).right ⟨k,⟨m,o,q⟩,⟨r,s,u,y,z⟩,⟨n0,n1,n2,d,B⟩⟩=true from H.out.2.1] at Y
 obtain⟨rfl,D⟩:=Y
 have V:=eR (P2.below D)
 have P:=N.out.Af D
 have E:=eR (ad.out.Af D)
 have C2:Hid (Aq (Zu g K L fr) w w2):=eR (((Aq.Ai C1.out).trans (O.mono (λx j=>fq (by rw[ft.1 j];exact Ya.2 (fq rfl))))).trans (Aq.Ai D))
 have y0:=P.cell 0
 have Q:=eR P
 simp at y0
 have ae:w.heap.size+1<w2.heap.size:=E.out.lt
 clear P2 O E2 D N ad P aa ab H1 E1 C1 c3 f3 hz
 have al:k=4:=H.out.2.2
 subst al
 have R:=Q.out.cell 12
 simp at R
 cases hf:p.free with
 |nil=>
  have HF:=eR hf
  clear hf X
  go_wp2_with fail
  refine(QH V.out d HF.out).mono ?_
  rintro e S ⟨rfl,I⟩
  have H3:=eR (V.out.below I)
  have F:=eR (E.out.Af I)
  have C3:Hid (Aq (Zu g K L fr) w S):=eR (C2.out.trans (Aq.Ai I))
  have am:w.heap.size+1<S.heap.size:=F.out.lt
  clear I V E C2 ae Q y0 R
  go_wp2_with (refine vM F.out ?_;intro w6 c)
  have s0:=c.bk.cell 0;have s1:=c.bk.cell 1;have s2:=c.bk.cell 2;have s3:=c.bk.cell 3;have s4:=c.bk.cell 4;have s5:=c.bk.cell 5
  simp at s0 s1 s2 s3 s4 s5
  refine js (v:=.tuple #[.agg #[.int .i64 0,.int .i64 0,.int .i64 0,.int .i64 0,.bool false,.bool false],.nilIface]) (by simp[results,Tryz.results42,go_sem,s0,s1,s2,s3,s4,s5]) rfl ?_
  have ea:p.act ⟨4,⟨m,o,q⟩,⟨r,s,u,y,z⟩,⟨n0,n1,n2,d,B⟩⟩=({p with steps:=wrap64 (p.steps+1)},Xr.zero):=by
   unfold Pl.act;rw[Gx];show({p with steps:=wrap64 (p.steps+1)}:Pl).alloc d=_;unfold Pl.alloc;rw[show({p with steps:=wrap64 (p.steps+1)}:Pl).free=[] from HF.out];rfl
  rw[ea]
  have c6:Aq [w.heap.size+1] S w6:=Aq.Ax (b:=0) c.grown (λb' e=>by injection e with e;simp[e])
  have J:=Z.out
  exact⟨rfl,fr,fv,H3.out.CJ c6 (λx j h1=>by have:=J x j;rw[ft.1 h1] at this;omega),C3.out.seq (F1:=[w.heap.size+1]) (λx j=>by rw[ft.1 j];right;omega) c6,λx j=>fq j⟩
 |cons f0 av=>
  obtain⟨n,hn⟩:∃n,p.free.getLast?=some n:=by rw[hf];exact⟨_,List.getLast?_cons⟩
  have T:=aE hn
  have af:=ai.out n (by rw[T];simp)
  obtain⟨i,rfl,hi⟩:=IT af
  obtain⟨fb,ag,cp,e,an⟩:=Fa V.out.fo (by show 0<p.free.length;rw[hf];simp)
  have HA:=eR (QG V.out d p.free.dropLast i T hi (by rw[List.length_dropLast];omega) fb ag cp e an)
  have HN:=eR hn
  have ao:=eR e
  clear hf X T af e hn
  go_wp2_with fail
  refine HA.out.mono ?_
  rintro e S ⟨rfl,ah,U⟩
  have H3:=eR ah
  have J:=Z.out
  have F:=eR (E.out.CJ U (λj=>by have:=J _ j;omega))
  have C3:Hid (Aq (Zu g K L fr) w S):=eR (C2.out.trans U)
  have am:w.heap.size+1<S.heap.size:=F.out.lt
  clear ah U V E C2 ae Q y0 R HA
  rw[show(⟨⟨(i:Int)+1,wr ((({p with steps:=wrap64 (p.steps+1)}:Pl).slot ((i:Int)+1)).AB+1),0,0,false⟩,true⟩:Xr).l.toArray=#[.int .i64 ((i:Int)+1),.int .i64 (wr ((p.slot ((i:Int)+1)).AB+1)),.int .i64 0,.int .i64 0,.bool false,.bool true] from rfl]
  generalize hG:wr ((p.slot ((i:Int)+1)).AB+1)=G
  have HG:=eR hG
  clear hG
  go_wp2_with (refine vM F.out ?_;intro w6 c)
  have s0:=c.bk.cell 0;have s1:=c.bk.cell 1;have s2:=c.bk.cell 2;have s3:=c.bk.cell 3;have s4:=c.bk.cell 4;have s5:=c.bk.cell 5
  simp at s0 s1 s2 s3 s4 s5
  refine js (v:=.tuple #[.agg #[.int .i64 ((i:Int)+1),.int .i64 G,.int .i64 0,.int .i64 0,.bool false,.bool true],.nilIface]) (by simp[results,Tryz.results42,go_sem,s0,s1,s2,s3,s4,s5]) rfl ?_
  have ea:p.act ⟨4,⟨m,o,q⟩,⟨r,s,u,y,z⟩,⟨n0,n1,n2,d,B⟩⟩=({p with steps:=wrap64 (p.steps+1),free:=p.free.dropLast,slot:=Ar p.slot ((i:Int)+1) (Fe p ((i:Int)+1) d),made:=wr (p.made+1)},⟨⟨(i:Int)+1,G,0,0,false⟩,true⟩):=by
   unfold Pl.act;rw[Gx];show({p with steps:=wrap64 (p.steps+1)}:Pl).alloc d=_;unfold Pl.alloc;rw[show({p with steps:=wrap64 (p.steps+1)}:Pl).free.getLast?=some ((i:Int)+1) from HN.out,←HG.out];rfl
  rw[ea]
  have c6:Aq [w.heap.size+1] S w6:=Aq.Ax (b:=0) c.grown (λb' e=>by injection e with e;simp[e])
  have ef:fr.v.ownBlock=some fb:=by rw[ao.out];rfl
  have M:∀x∈Zu g K L ⟨some ⟨fb,ag,none⟩,p.free.dropLast.length,cp⟩,x∈Zu g K L fr:=λx j=>by
   rcases Ya.1 j with h|h|h|h
   ·exact Ya.2 (fq h)
   ·exact Ya.2 (db (fq h))
   ·exact Ya.2 (d2 (fq h))
   ·exact Ya.2 (d2 (db (by rw[ef];exact h)))
  exact⟨rfl,_,fv,H3.out.CJ c6 (λx j h1=>by have:=J x (M x j);rw[ft.1 h1] at this;omega),C3.out.seq (F1:=[w.heap.size+1]) (λx j=>by rw[ft.1 j];right;omega) c6,λx j=>fq (M x j)⟩
def FF(w:World)(v:Value)(l:List Int)(h:Own w 3 1 v l.length (BF l))(d:l.length<=100000)(x:Int)(b:Nat)(e:Bk w b 3 #[.int .i64 x])(t:TypeId):
  ∃v' w',(Builtin.append_ #[45,45] t #[v,.slice (some ⟨b,0,none⟩) 1 1]).run Tryz.prog w=.ok v' w'/\
   Own w' 3 1 v' (l++[x]).length (BF (l++[x]))/\w.grownBy w' v.ownBlock/\Gi w v v':=by
 have rows_int:∀l:List Int,rows (λn=>[Value.int .i64 n]) l=BF l:=λl=>by
  induction l with
  |nil=>rfl
  |cons a l g=>rw[E9,g];rfl
 have c:=Cb (f:=λn:Int=>[Value.int .i64 n]) (sz:=1) (E:=3) (λ_=>rfl) (λx u i=>by rw[ft.1 i];rfl) Tryz.underlying45 Tu rfl Zd Zd w v l (by rw[rows_int];exact h) d x b e t
 rw[rows_int] at c
 exact c
def PB.A7{w w2:World}{g a c:Nat}{p:Pl}{fr u:B5}{i:Value}{l:List Int}(h:PB w g a c p fr i)(n:Own w2 3 1 u.v l.length (BF l))(f:w.grownBy w2 fr.v.ownBlock)(j:Gi w fr.v u.v):
  PB (w2.setCell ⟨g,2,none⟩ u.v) g a c {p with free:=l} u i/\Aq (Zu g a c fr) w (w2.setCell ⟨g,2,none⟩ u.v):=by
 have l1:=h.bk.lt;have l2:=h.bo.lt;have y:=h.so.lt
 have o:Bk w2 g _ _:=h.bk.grown f (λe=>h.f1 e.symm)
 have q:Bk w2 a _ _:=h.bo.grown f (λe=>h.f2 e.symm)
 have r:Bk w2 c _ _:=h.so.grown f (λe=>h.f3 e.symm)
 have k:u.v.ownBlock≠some g:=λe=>(j g e).elim h.f1 (λm=>Zo)
 have s:u.v.ownBlock≠some a:=λe=>(j a e).elim h.f2 (λm=>Zo)
 have x:u.v.ownBlock≠some c:=λe=>(j c e).elim h.f3 (λm=>Zo)
 have d:=X2 w2 g 2 u.v
 refine⟨⟨by rw[←K0 p a c fr u i];exact o.Ez 2 u.v,q.A5 (p:=⟨g,2,none⟩) (Ne.symm h.n1) _,r.A5 (p:=⟨g,2,none⟩) (Ne.symm h.n2) _,n.grown d (db k),h.dZ,h.n1,h.n2,h.n3,k,s,x,h.kI,h.WW⟩,?_⟩
 exact(Aq.Ax (b:=0) f λb e=>Ya.2 (d2 (db e))).trans (Aq.Ax (b:=0) d λb e=>by injection e with e;exact Ya.2 (fq e.symm))
def PB.vf{w:World}{g c a:Nat}{p:Pl}{fr:B5}{d:Value}(h:PB w g c a p fr d){i:Nat}(f:i<p.ns):
  PB (w.setCell ⟨a,i*52+1,none⟩ (.bool false)) g c a {p with slot:=Ar p.slot ((i:Int)+1) {p.slot ((i:Int)+1) with used:=false}} fr d:=by
 have b:=X2 w a (i*52+1) (.bool false)
 have e:p.A2.toArray.setIfInBounds (i*52+1) (.bool false)=({p with slot:=Ar p.slot ((i:Int)+1) {p.slot ((i:Int)+1) with used:=false}}:Pl).A2.toArray:=by
  apply kx.1;have l:=Lw By (λ(j:Nat)=>p.slot ((j:Int)+1)) p.ns i f;have k:=Lv By (λ(j:Nat)=>p.slot ((j:Int)+1)) (λ(j:Nat)=>Ar p.slot ((i:Int)+1) {p.slot ((i:Int)+1) with used:=false} ((j:Int)+1)) p.ns i f (λj o=>BM _ _ Zo);simp only[AP] at k;simp only[mi];show p.A2.set (i*52+1) (.bool false)=({p with slot:=_}:Pl).A2;unfold Pl.A2;simp only;rw[k,l];have m:(rows Bp ((List.range i).map λ(j:Nat)=>p.slot ((j:Int)+1))).length=i*52:=by rw[Zb By];simp
  generalize rows Bp ((List.range i).map λ(j:Nat)=>p.slot ((j:Int)+1))=A at*;generalize rows Bp ((List.range (p.ns-i-1)).map λ(j:Nat)=>p.slot (((i+1+j:Nat):Int)+1))=B at*;rw[←m];have n:=By (p.slot ((i:Int)+1));rw[show A.length+52=A.length+(Bp (p.slot ((i:Int)+1))).length from by rw[n],nz rfl,Gd,List.drop_left' rfl];have t2:∀(x y z:Value) (r:List Value),(A++x::y::r).set (A.length+1) z=A++x::z::r:=λx y z r=>by rw[List.set_append];simp;intro h;omega
  unfold Bp;simp only[ot,nV,jz];exact t2 _ _ _ _
 exact⟨h.bk.A5 (p:=⟨a,i*52+1,none⟩) h.n2 _,h.bo.A5 (p:=⟨a,i*52+1,none⟩) h.n3 _,by rw[←e];exact h.so.Ez (i*52+1) _,h.fo.grown b (db h.f3),h.dZ,h.n1,h.n2,h.n3,h.f1,h.f2,h.f3,h.kI,h.WW⟩
def aU{w:World}{g D j:Nat}{p:Pl}{fr:B5}{fv:Value}(h:PB w g D j p fr fv)(he:AT w)(a4:7<=g)(a:Bx)(hk:a.kind=5)(hv:p.valid a=true)(hr:p.right a=true)(a6:p.free.length<=5000):
  Kp 42 #[.pointer (some ⟨g,0,none⟩),.agg a.l.toArray] w (WS w g D j (Zu g D j fr) (p.act a)):=by
 have E:=eR (fy hv (fy hr hk))
 clear hv hr hk
 (obtain⟨k,⟨n,o,q⟩,⟨F,r,s,y,z⟩,⟨n0,n1,n2,B,C⟩⟩:=a)
 show Kp 42 #[.pointer (some ⟨g,0,none⟩),.agg #[.int .i64 k,.int .i64 n,.int .i64 o,.int .i64 q,.int .i64 F,.int .i64 r,.int .i64 s,.int .i64 y,.bool z,.int .i64 n0,.int .i64 n1,.int .i64 n2,.int .i64 B,.bool C]] w _
 (have a7:=h.bk.lt;have a8:=he.lt;have HH:=eR (h.below (w':=((w.alloc (.cells #[.int .i64 k,.int .i64 n,.int .i64 o,.int .i64 q,.int .i64 F,.int .i64 r,.int .i64 s,.int .i64 y,.bool z,.int .i64 n0,.int .i64 n1,.int .i64 n2,.int .i64 B,.bool C] 114)).alloc (.cells #[.int .i64 0,.int .i64 0,.int .i64 0,.int .i64 0,.bool false,.bool false] 108))) vB);have HE:=eR (he.below (w':=((w.alloc (.cells #[.int .i64 k,.int .i64 n,.int .i64 o,.int .i64 q,.int .i64 F,.int .i64 r,.int .i64 s,.int .i64 y,.bool z,.int .i64 n0,.int .i64 n1,.int .i64 n2,.int .i64 B,.bool C] 114)).alloc (.cells #[.int .i64 0,.int .i64 0,.int .i64 0,.int .i64 0,.bool false,.bool false] 108))) vB);have XA:Bk ((w.alloc (.cells #[.int .i64 k,.int .i64 n,.int .i64 o,.int .i64 q,.int .i64 F,.int .i64 r,.int .i64 s,.int .i64 y,.bool z,.int .i64 n0,.int .i64 n1,.int .i64 n2,.int .i64 B,.bool C] 114)).alloc (.cells #[.int .i64 0,.int .i64 0,.int .i64 0,.int .i64 0,.bool false,.bool false] 108)) w.heap.size 114 #[.int .i64 k,.int .i64 n,.int .i64 o,.int .i64 q,.int .i64 F,.int .i64 r,.int .i64 s,.int .i64 y,.bool z,.int .i64 n0,.int .i64 n1,.int .i64 n2,.int .i64 B,.bool C]:=(Bk.at_ rfl).alloc _;have X4:Bk ((w.alloc (.cells #[.int .i64 k,.int .i64 n,.int .i64 o,.int .i64 q,.int .i64 F,.int .i64 r,.int .i64 s,.int .i64 y,.bool z,.int .i64 n0,.int .i64 n1,.int .i64 n2,.int .i64 B,.bool C] 114)).alloc (.cells #[.int .i64 0,.int .i64 0,.int .i64 0,.int .i64 0,.bool false,.bool false] 108)) (w.heap.size+1) 108 #[.int .i64 0,.int .i64 0,.int .i64 0,.int .i64 0,.bool false,.bool false]:=Bk.at_ Zs;have HC:Hid (Below w.heap.size w ((w.alloc (.cells #[.int .i64 k,.int .i64 n,.int .i64 o,.int .i64 q,.int .i64 F,.int .i64 r,.int .i64 s,.int .i64 y,.bool z,.int .i64 n0,.int .i64 n1,.int .i64 n2,.int .i64 B,.bool C] 114)).alloc (.cells #[.int .i64 0,.int .i64 0,.int .i64 0,.int .i64 0,.bool false,.bool false] 108))):=eR vB;have hz:w.heap.size+1<((w.alloc (.cells #[.int .i64 k,.int .i64 n,.int .i64 o,.int .i64 q,.int .i64 F,.int .i64 r,.int .i64 s,.int .i64 y,.bool z,.int .i64 n0,.int .i64 n1,.int .i64 n2,.int .i64 B,.bool C] 114)).alloc (.cells #[.int .i64 0,.int .i64 0,.int .i64 0,.int .i64 0,.bool false,.bool false] 108)).heap.size:=Zs;have au:=eR h.lt;clear h he)
 go_enter Tryz.func42,Tryz.ntmps42
 go_wp2_with fail
 refine(FQ HH.out ⟨k,⟨n,o,q⟩,⟨F,r,s,y,z⟩,⟨n0,n1,n2,B,C⟩⟩).mono ?_
 rintro e w1 ⟨rfl,G⟩
 rw[E.out.1]
 have H1:=eR (HH.out.below G);have E1:=eR (HE.out.below G)
 have ae:=XA.Af G;have af:=X4.Af G
 have C1:Hid (Below w.heap.size w w1):=eR (HC.out.trans (G.mono HC.out.size))
 clear HH HE XA X4 G HC
 have c3:=H1.out.cells.2.2.2.1
 have f3:=H1.out.bk.free 3
 have a9:=H1.out.bk.lt
 have av:g≠w.heap.size:=Zo
 have aw:g≠w.heap.size+1:=Zo
 have R:=eR (ae.A5 (p:=⟨g,3,none⟩) (Ne.symm av) (.int .i64 (wrap64 (p.steps+1))))
 have ag:=eR (af.A5 (p:=⟨g,3,none⟩) (Ne.symm aw) (.int .i64 (wrap64 (p.steps+1))))
 go_wp2_with (refine ny Zr _ _ Zr w.heap.size 0 Zr [.int .i64 k,.int .i64 n,.int .i64 o,.int .i64 q,.int .i64 F,.int .i64 r,.int .i64 s,.int .i64 y,.bool z,.int .i64 n0,.int .i64 n1,.int .i64 n2,.int .i64 B,.bool C] _ R.out.range Tryz.underlying114 Zr Zk ?_)
 have P2:=H1.out.BN (wrap64 (p.steps+1))
 have m:Aq [g] w1 (w1.setCell ⟨g,3,none⟩ (.int .i64 (wrap64 (p.steps+1)))):=Aq.Ax (b:=0) (X2 _ _ _ _) (λb e=>by injection e with e;simp[e])
 have E2:=E1.out.CJ m (by simp;omega)
 refine(FP P2 E2 ⟨k,⟨n,o,q⟩,⟨F,r,s,y,z⟩,⟨n0,n1,n2,B,C⟩⟩ E.out.1).mono ?_
 intro e w2 hr
 rw[show({p with steps:=wrap64 (p.steps+1)}:Pl).right ⟨k,⟨n,o,q⟩,⟨F,r,s,y,z⟩,⟨n0,n1,n2,B,C⟩⟩=true from E.out.2.1] at hr
 obtain⟨rfl,J⟩:=hr
 have H2:=eR (P2.below J)
 have S:=R.out.Af J
 have T:=eR (ag.out.Af J)
 have C2:Hid (Aq (Zu g D j fr) w w2):=eR (((Aq.Ai C1.out).trans (m.mono (λx I=>fq (by rw[ft.1 I];exact Ya.2 (fq rfl))))).trans (Aq.Ai J))
 have y0:=S.cell 0
 have U:=eR S
 simp at y0
 have ah:w.heap.size+1<w2.heap.size:=T.out.lt
 clear P2 m E2 J R ag S ae af H1 E1 C1 c3 f3 hz
 have ax:k=5:=E.out.2.2
 subst ax
 have ai:p.BY F=true:=E.out.1
 obtain⟨i,rfl,hi⟩:=IT ai
 have H:=U.out.cell 4
 simp at H
 clear ai
 go_upto_region 15 with(fail)
 have ba:p.ns<=2000:=H2.out.WW
 have c1:=H2.out.cells.2.1
 simp only at c1
 refine Yh (λL=>L.cell? ⟨g,1,none⟩=some (.slice (some ⟨j,0,none⟩) p.ns p.ns)/\L.cell? ⟨w.heap.size,4,none⟩=some (.int .i64 ((i:Int)+1))) 8 Zk ⟨c1,H⟩ (λhS=>?_)
 have H3:=eR (H2.out.below (fx _ _).drew)
 have aj:=eR T.out.drew
 have ak:=eR U.out.drew
 have C3:Hid (Aq (Zu g D j fr) w w2.drew):=eR (C2.out.trans (Aq.Ai (fx _ _).drew))
 have ay:w.heap.size+1<w2.drew.heap.size:=ah
 clear H2 T C2 ah U y0 H c1
 generalize w2.drew=w3 at*
 ((try simp only[ZL]);refine vT (fuel:=4) hS [0,1,2,3,4,5,6] ?_;simp only[Yb,Xv,fs];(repeat (first|go_big_quiet_skip|(go_big_quiet_want;first|(go_big_quiet_op;go_big_quiet_on)|(apply g7;refine⟨λL V=>?_,?_⟩;(· (obtain⟨c1,H⟩:=V;go_simp;first|done|rfl|exact⟨rfl,rfl⟩));go_big_quiet_on;simp only[ZL]))));refine gw ?_;(try dsimp only))
 (refine Xn 7 Zk (λK c=>?_);simp only[Xv,fs])
 go_wp2_with fail
 refine c.out _ _ (λ_=>hS) ?_
 clear c
 have c0:=(H3.out.two hi).2
 have f0:=H3.out.so.free (i*52+1)
 simp only at c0
 ((refine Xn 8 Zk (λK c=>?_);simp only[Xv,fs]);go_wp2_with fail;refine c.out _ _ (λh=>absurd h Zo) ?_;clear c)
 ((refine Xn 9 Zk (λK c=>?_);simp only[Xv,fs]);go_wp2_with fail;refine c.out _ _ (λh=>absurd h Zo) ?_;clear c)
 (refine Xn 10 Zk (λK c=>?_);simp only[Xv,fs])
 go_wp2_with fail
 refine c.out _ _ (λh=>absurd h Zo) ?_
 clear c hS
 refine Yk Zk ?_ _
 have P4:=H3.out.vf hi
 have m:Aq [j] w3 (w3.setCell ⟨j,i*52+1,none⟩ (.bool false)):=Aq.Ax (b:=0) (X2 _ _ _ _) (λb e=>by injection e with e;simp[e])
 have ms:j∈Zu g D j fr:=Ya.2 (d2 (fq rfl))
 have M:=au.out
 have a5:j<w.heap.size:=M j ms
 have H4:=eR P4
 have W:=eR (aj.out.CJ m (by simp;omega))
 have X:=eR (ak.out.CJ m (by simp;omega))
 have C4:Hid (Aq (Zu g D j fr) w (w3.setCell ⟨j,i*52+1,none⟩ (.bool false))):=eR (C3.out.trans (m.mono (λx I=>fq (by rw[ft.1 I];exact ms))))
 have az:w.heap.size+1<(w3.setCell ⟨j,i*52+1,none⟩ (.bool false)).heap.size:=W.out.lt
 clear P4 m H3 aj ak C3 ay c0 f0
 generalize w3.setCell ⟨j,i*52+1,none⟩ (.bool false)=w4 at*
 go_upto_region 16 with(fail)
 have Y:=H4.out.cells.2.2.1
 have H:=X.out.cell 4
 simp at H
 refine Yh (λL=>L.cell? ⟨g,2,none⟩=some fr.v/\L.cell? ⟨w.heap.size,4,none⟩=some (.int .i64 ((i:Int)+1))) 10 Zk ⟨Y,H⟩ (λhS=>?_)
 have H5:=eR (H4.out.below (fx _ _).drew)
 have Z:=eR W.out.drew
 have am:=eR X.out.drew
 have C5:Hid (Aq (Zu g D j fr) w w4.drew):=eR (C4.out.trans (Aq.Ai (fx _ _).drew))
 clear H4 W X C4 az Y H
 generalize w4.drew=w5 at*
 ((try simp only[ZL]);refine vT (fuel:=5) hS [0,1,2,3,4,5,6,7] ?_;simp only[Yb,Xv,fs];(repeat (first|go_big_quiet_skip|(go_big_quiet_want;first|(go_big_quiet_op;go_big_quiet_on)|(apply g7;refine⟨λL V=>?_,?_⟩;(· (obtain⟨Y,H⟩:=V;go_simp;first|done|rfl|exact⟨rfl,rfl⟩));go_big_quiet_on;simp only[ZL]))));refine gw ?_;(try dsimp only))
 (refine Xn 8 Zk (λK c=>?_);simp only[Xv,fs])
 go_wp2_with fail
 have H6:=eR (H5.out.alloc (.cells #[.int .i64 ((i:Int)+1)] 3))
 have an:=eR (Z.out.alloc (.cells #[.int .i64 ((i:Int)+1)] 3))
 have aa:=eR (am.out.alloc (.cells #[.int .i64 ((i:Int)+1)] 3))
 have C6:Hid (Aq (Zu g D j fr) w (w5.alloc (.cells #[.int .i64 ((i:Int)+1)] 3))):=eR (C5.out.trans (Aq.Ai ((fx _ _).alloc (Nat.le_refl _) _)))
 obtain⟨v',w7,N,ho,hg,ab⟩:=FF _ fr.v p.free H6.out.fo Zo ((i:Int)+1) w5.heap.size (Bk.at_ rfl) 45
 obtain⟨O,P,rfl,_⟩:=AN ho
 have HR:=eR N
 have ao:_/\_:=⟨H6.out.cells.2.2.1,aa.out.cell 4⟩
 refine c.out _ _ (λ_=>ao) ?_
 have bc:w.heap.size+1<w5.heap.size:=Z.out.lt
 clear c hS ao Z am C5 H5
 have ad:=eR (H6.out.A7 (l:=p.free++[(i:Int)+1]) (u:=⟨O,_,P⟩) ho hg ab)
 have a3:=eR ab
 have b7:Bk w7 g 106 _:=H6.out.bk.grown hg (λe=>H6.out.f1 e.symm)
 have Y:=b7.cell 2
 have f2:=b7.free 2
 simp at Y
 have ap:=aa.out.grown hg (λe=>by have:=M _ (Ya.2 (d2 (db e.symm)));omega)
 have aq:=eR (an.out.grown hg (λe=>by have:=M _ (Ya.2 (d2 (db e.symm)));omega))
 have H:=ap.cell 4
 simp at H
 clear ho hg ab N b7 an aa ap
 generalize(p.free++[(i:Int)+1]).length=fl at*
 (refine Xn 9 Zk (λK c=>?_);simp only[Xv,fs])
 go_wp2_with (at_builtin;refine Yj Zr _ _ _ _ _ _ _ Zr Zr Zr HR.out ?_)
 refine c.out _ _ (λ_=>⟨Y,H⟩) ?_
 clear c HR H
 ((refine Xn 10 Zk (λK c=>?_);simp only[Xv,fs]);go_wp2_with fail;refine c.out _ _ (λh=>absurd h Zo) ?_;clear c)
 ((refine Xn 11 Zk (λK c=>?_);simp only[Xv,fs]);go_wp2_with fail;refine c.out _ _ (λh=>absurd h Zo) ?_;clear c)
 (refine Xn 12 Zk (λK c=>?_);simp only[Xv,fs])
 go_wp2_with fail
 refine c.out _ _ (λh=>absurd h Zo) ?_
 clear c
 refine Yk Zk ?_ _
 have ar:=eR (aq.out.A5 (p:=⟨g,2,none⟩) (by simp;omega) (.slice O fl P))
 have H9:Hid (PB (w7.setCell ⟨g,2,none⟩ (.slice O fl P)) g D j _ ⟨O,fl,P⟩ fv):=eR ad.out.1
 have C9:Hid (Aq (Zu g D j fr) w (w7.setCell ⟨g,2,none⟩ (.slice O fl P))):=eR (C6.out.trans ad.out.2)
 have bd:w.heap.size+1<(w7.setCell ⟨g,2,none⟩ (.slice O fl P)).heap.size:=ar.out.lt
 have be:=C6.out.size
 clear aq ad C6 H6 Y f2
 generalize w7.setCell ⟨g,2,none⟩ (.slice O fl P)=w8 at*
 go_wp2_with (refine vM ar.out ?_;intro w9 d)
 have s0:=d.bk.cell 0;have s1:=d.bk.cell 1;have s2:=d.bk.cell 2;have s3:=d.bk.cell 3;have s4:=d.bk.cell 4;have s5:=d.bk.cell 5
 simp at s0 s1 s2 s3 s4 s5
 refine js (v:=.tuple #[.agg #[.int .i64 0,.int .i64 0,.int .i64 0,.int .i64 0,.bool false,.bool true],.nilIface]) (by simp[results,Tryz.results42,go_sem,s0,s1,s2,s3,s4,s5]) rfl ?_
 have ea:p.act ⟨5,⟨n,o,q⟩,⟨(i:Int)+1,r,s,y,z⟩,⟨n0,n1,n2,B,C⟩⟩=({p with steps:=wrap64 (p.steps+1),slot:=Ar p.slot ((i:Int)+1) {p.slot ((i:Int)+1) with used:=false},free:=p.free++[(i:Int)+1]},⟨.zero,true⟩):=by
  unfold Pl.act;rw[Gx];simp only;rw[show({p with steps:=wrap64 (p.steps+1)}:Pl).right ⟨5,⟨n,o,q⟩,⟨(i:Int)+1,r,s,y,z⟩,⟨n0,n1,n2,B,C⟩⟩=true from E.out.2.1];rfl
 rw[ea]
 have c6:Aq [w.heap.size+1] w8 w9:=Aq.Ax (b:=0) d.grown (λb' e=>by injection e with e;simp[e])
 have Q:∀x∈Zu g D j ⟨O,fl,P⟩,x∈Zu g D j fr\/w5.heap.size<x+1:=λx I=>by
  rcases Ya.1 I with h|h|h|h
  ·exact fq (Ya.2 (fq h))
  ·exact fq (Ya.2 (db (fq h)))
  ·exact fq (Ya.2 (d2 (fq h)))
  ·exact(a3.out x h).imp (λh=>Ya.2 (d2 (db h))) (λh=>by simp at h;omega)
 exact ⟨rfl,_,fv,H9.out.CJ c6 (fun x I h1=>by
  rw[ft.1 h1] at I;rcases Q _ I with h|h
  ·have:=M _ h;omega
  ·omega),C9.out.seq (F1:=[w.heap.size+1]) (λx I=>by rw[ft.1 I];right;omega) c6,λx I=>(Q x I).imp id (λh=>Zo)⟩
