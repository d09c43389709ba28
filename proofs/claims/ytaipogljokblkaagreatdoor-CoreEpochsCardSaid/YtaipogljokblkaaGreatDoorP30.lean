/- Core: PO2, PP2, PQ2, VM. -/
import Derived.Test.YtaipogljokblkaaGreatDoorP29
import Derived.Test.YtaipogljokblkaaGreatDoorP27
set_option linter.all false
set_option maxRecDepth 100000
set_option maxHeartbeats 8000000
namespace Go.Proofs.YtaipogljokblkaaGreatDoor
open Go Go.RowKit
def Dt(n:Int)(T:TypeId)(u:Value)(w:World):
  Kp 31 #[.int .i64 n,.iface T u] w λe w'=>
   e=.returned (.iface 143 (.pointer (some ⟨w.heap.size,0,none⟩)))/\w.alloc (.cells #[.int .i64 n,.iface T u] 145)=w':=by
 go_enter Tryz.func31,Tryz.ntmps31
 go_wp2
 go_ret
 exact⟨rfl,rfl⟩
def set5(p:Pl)(a b:Nat)(fr:B5)(c u:Value):(#[.slice (some ⟨a,0,none⟩) p.nb p.nb,.slice (some ⟨b,0,none⟩) p.ns p.ns,fr.v,.int .i64 p.steps,.int .i64 p.made,c]:Array Value).setIfInBounds 5 u=#[.slice (some ⟨a,0,none⟩) p.nb p.nb,.slice (some ⟨b,0,none⟩) p.ns p.ns,fr.v,.int .i64 p.steps,.int .i64 p.made,u]:=rfl
def PB.qj{w:World}{g a b:Nat}{p:Pl}{fr:B5}{d:Value}(h:PB w g a b p fr d)(T:TypeId)(q:Addr):PB (w.setCell ⟨g,5,none⟩ (.iface T (.pointer (some q)))) g a b {p with fault:=true} fr (.iface T (.pointer (some q))):=by
 have c:=X2 w g 5 (.iface T (.pointer (some q)));exact⟨by rw[←set5 p a b fr d];exact h.bk.Ez 5 _,h.bo.A5 (p:=⟨g,5,none⟩) (Ne.symm h.n1) _,h.so.A5 (p:=⟨g,5,none⟩) (Ne.symm h.n2) _,h.fo.grown c (db h.f1),⟨_,_,rfl⟩,h.n1,h.n2,h.n3,h.f1,h.f2,h.f3,h.kI,h.WW⟩
def Wn{w:World}{g H I:Nat}{p:Pl}{fr:B5}{fv:Value}(h:PB w g H I p fr fv)(he:AT w)(ak:7<=g)(a:Bx)(hv:p.valid a=true)(Z:p.right a=false):
  Kp 42 #[.pointer (some ⟨g,0,none⟩),.agg a.l.toArray] w (WS w g H I (Zu g H I fr) (p.act a)):=by
 have E:=eR (fy hv Z)
 clear hv Z
 (obtain⟨k,⟨m,n,o⟩,⟨r,s,u,y,z⟩,⟨n0,n1,n2,B,C⟩⟩:=a)
 show Kp 42 #[.pointer (some ⟨g,0,none⟩),.agg #[.int .i64 k,.int .i64 m,.int .i64 n,.int .i64 o,.int .i64 r,.int .i64 s,.int .i64 u,.int .i64 y,.bool z,.int .i64 n0,.int .i64 n1,.int .i64 n2,.int .i64 B,.bool C]] w _
 (have al:=h.bk.lt;have am:=he.lt;have HH:=eR (h.below (w':=((w.alloc (.cells #[.int .i64 k,.int .i64 m,.int .i64 n,.int .i64 o,.int .i64 r,.int .i64 s,.int .i64 u,.int .i64 y,.bool z,.int .i64 n0,.int .i64 n1,.int .i64 n2,.int .i64 B,.bool C] 114)).alloc (.cells #[.int .i64 0,.int .i64 0,.int .i64 0,.int .i64 0,.bool false,.bool false] 108))) vB);have HE:=eR (he.below (w':=((w.alloc (.cells #[.int .i64 k,.int .i64 m,.int .i64 n,.int .i64 o,.int .i64 r,.int .i64 s,.int .i64 u,.int .i64 y,.bool z,.int .i64 n0,.int .i64 n1,.int .i64 n2,.int .i64 B,.bool C] 114)).alloc (.cells #[.int .i64 0,.int .i64 0,.int .i64 0,.int .i64 0,.bool false,.bool false] 108))) vB);have XA:Bk ((w.alloc (.cells #[.int .i64 k,.int .i64 m,.int .i64 n,.int .i64 o,.int .i64 r,.int .i64 s,.int .i64 u,.int .i64 y,.bool z,.int .i64 n0,.int .i64 n1,.int .i64 n2,.int .i64 B,.bool C] 114)).alloc (.cells #[.int .i64 0,.int .i64 0,.int .i64 0,.int .i64 0,.bool false,.bool false] 108)) w.heap.size 114 #[.int .i64 k,.int .i64 m,.int .i64 n,.int .i64 o,.int .i64 r,.int .i64 s,.int .i64 u,.int .i64 y,.bool z,.int .i64 n0,.int .i64 n1,.int .i64 n2,.int .i64 B,.bool C]:=(Bk.at_ rfl).alloc _;have X4:Bk ((w.alloc (.cells #[.int .i64 k,.int .i64 m,.int .i64 n,.int .i64 o,.int .i64 r,.int .i64 s,.int .i64 u,.int .i64 y,.bool z,.int .i64 n0,.int .i64 n1,.int .i64 n2,.int .i64 B,.bool C] 114)).alloc (.cells #[.int .i64 0,.int .i64 0,.int .i64 0,.int .i64 0,.bool false,.bool false] 108)) (w.heap.size+1) 108 #[.int .i64 0,.int .i64 0,.int .i64 0,.int .i64 0,.bool false,.bool false]:=Bk.at_ Zs;have HC:Hid (Below w.heap.size w ((w.alloc (.cells #[.int .i64 k,.int .i64 m,.int .i64 n,.int .i64 o,.int .i64 r,.int .i64 s,.int .i64 u,.int .i64 y,.bool z,.int .i64 n0,.int .i64 n1,.int .i64 n2,.int .i64 B,.bool C] 114)).alloc (.cells #[.int .i64 0,.int .i64 0,.int .i64 0,.int .i64 0,.bool false,.bool false] 108))):=eR vB;have hz:w.heap.size+1<((w.alloc (.cells #[.int .i64 k,.int .i64 m,.int .i64 n,.int .i64 o,.int .i64 r,.int .i64 s,.int .i64 u,.int .i64 y,.bool z,.int .i64 n0,.int .i64 n1,.int .i64 n2,.int .i64 B,.bool C] 114)).alloc (.cells #[.int .i64 0,.int .i64 0,.int .i64 0,.int .i64 0,.bool false,.bool false] 108)).heap.size:=Zs;have aa:=eR h.lt;clear h he)
 go_enter Tryz.func42,Tryz.ntmps42
 go_wp2_with fail
 refine(FQ HH.out ⟨k,⟨m,n,o⟩,⟨r,s,u,y,z⟩,⟨n0,n1,n2,B,C⟩⟩).mono ?_
 rintro e w1 ⟨rfl,D⟩
 rw[E.out.1]
 have H1:=eR (HH.out.below D);have E1:=eR (HE.out.below D)
 have ab:=XA.Af D;have ad:=X4.Af D
 have C1:Hid (Below w.heap.size w w1):=eR (HC.out.trans (D.mono HC.out.size))
 clear HH HE XA X4 D HC
 have c3:=H1.out.cells.2.2.2.1
 have f3:=H1.out.bk.free 3
 have an:=H1.out.bk.lt
 have ah:g≠w.heap.size:=Zo
 have ae:g≠w.heap.size+1:=Zo
 have R:=eR (ab.A5 (p:=⟨g,3,none⟩) (Ne.symm ah) (.int .i64 (wrap64 (p.steps+1))))
 have af:=eR (ad.A5 (p:=⟨g,3,none⟩) (Ne.symm ae) (.int .i64 (wrap64 (p.steps+1))))
 go_wp2_with (refine ny Zr _ _ Zr w.heap.size 0 Zr [.int .i64 k,.int .i64 m,.int .i64 n,.int .i64 o,.int .i64 r,.int .i64 s,.int .i64 u,.int .i64 y,.bool z,.int .i64 n0,.int .i64 n1,.int .i64 n2,.int .i64 B,.bool C] _ R.out.range Tryz.underlying114 Zr Zk ?_)
 have P2:=H1.out.BN (wrap64 (p.steps+1))
 have S:Aq [g] w1 (w1.setCell ⟨g,3,none⟩ (.int .i64 (wrap64 (p.steps+1)))):=Aq.Ax (b:=0) (X2 _ _ _ _) (λb e=>by injection e with e;simp[e])
 have E2:=E1.out.CJ S (by simp;omega)
 refine(FP P2 E2 ⟨k,⟨m,n,o⟩,⟨r,s,u,y,z⟩,⟨n0,n1,n2,B,C⟩⟩ E.out.1).mono ?_
 intro e i Z
 rw[show({p with steps:=wrap64 (p.steps+1)}:Pl).right ⟨k,⟨m,n,o⟩,⟨r,s,u,y,z⟩,⟨n0,n1,n2,B,C⟩⟩=false from E.out.2] at Z
 obtain⟨⟨T9,q9,rfl⟩,F⟩:=Z
 have Q:=eR (P2.below F)
 have T:=R.out.Af F
 have U:=eR (af.out.Af F)
 have C2:Hid (Aq (Zu g H I fr) w i):=eR (((Aq.Ai C1.out).trans (S.mono (λx j=>fq (by rw[ft.1 j];exact Ya.2 (fq rfl))))).trans (Aq.Ai F))
 have y0:=T.cell 0
 have ao:=eR T
 simp at y0
 have ap:w.heap.size+1<i.heap.size:=U.out.lt
 have c3:=Q.out.cells.2.2.2.1
 have c5:=Q.out.cells.2.2.2.2.2
 have f5:=Q.out.bk.free 5
 have ag:=Q.out.bk.lt
 simp only at c3
 have aq:w.heap.size<i.heap.size:=Zo
 clear P2 S E2 F R af T ab ad H1 E1 C1 f3 hz
 cases J:p.fault with
 |true=>
  have G:=Q.out.dZ
  rw[show({p with steps:=wrap64 (p.steps+1)}:Pl).fault=true from J] at G
  obtain⟨T8,q8,rfl⟩:=G
  go_wp2_with fail
  have HX:Hid (PB i g H I {p with steps:=wrap64 (p.steps+1),fault:=true} fr (.iface T8 (.pointer (some q8)))):=eR (by have h:=Q.out;rw[show({p with steps:=wrap64 (p.steps+1)}:Pl)={p with steps:=wrap64 (p.steps+1),fault:=true} from by cases p;simp only at J;subst J;rfl] at h;exact h)
  have XX:=U
  have CX:=C2
  refine(Nm k _).mono ?_
  rintro e V ⟨rfl,d⟩
  obtain⟨⟨⟨K,L,M,N,O⟩,P⟩,W⟩:∃q,q=Pl.refused k:=⟨_,rfl⟩
  have HQ:=eR W
  rw[←W]
  clear W
  rw[show(⟨⟨K,L,M,N,O⟩,P⟩:Xr).l.toArray=#[.int .i64 K,.int .i64 L,.int .i64 M,.int .i64 N,.bool O,.bool P] from rfl]
  have X5:=eR (XX.out.Af d.below)
  have H5:=eR (HX.out.below d.below)
  have C5:Hid (Aq (Zu g H I fr) w V):=eR (CX.out.trans (d.mono (λx j=>by cases j)))
  have ai:w.heap.size+1<V.heap.size:=X5.out.lt
  clear d
  go_wp2_with (refine vM X5.out ?_;intro w6 c)
  have s0:=c.bk.cell 0;have s1:=c.bk.cell 1;have s2:=c.bk.cell 2;have s3:=c.bk.cell 3;have s4:=c.bk.cell 4;have s5:=c.bk.cell 5
  simp at s0 s1 s2 s3 s4 s5
  refine js (v:=.tuple #[.agg #[.int .i64 K,.int .i64 L,.int .i64 M,.int .i64 N,.bool O,.bool P],.nilIface]) (by simp[results,Tryz.results42,go_sem,s0,s1,s2,s3,s4,s5]) rfl ?_
  have ea:p.act ⟨k,⟨m,n,o⟩,⟨r,s,u,y,z⟩,⟨n0,n1,n2,B,C⟩⟩=({p with steps:=wrap64 (p.steps+1),fault:=true},⟨⟨K,L,M,N,O⟩,P⟩):=by
   unfold Pl.act;rw[Gx];simp only;rw[show({p with steps:=wrap64 (p.steps+1)}:Pl).right ⟨k,⟨m,n,o⟩,⟨r,s,u,y,z⟩,⟨n0,n1,n2,B,C⟩⟩=false from E.out.2,HQ.out];rfl
  rw[ea]
  have c6:Aq [w.heap.size+1] V w6:=Aq.Ax (b:=0) c.grown (λb' e=>by injection e with e;simp[e])
  have X:=aa.out
  exact⟨rfl,fr,_,H5.out.CJ c6 (λx j h1=>by have:=X x j;rw[ft.1 h1] at this;omega),C5.out.seq (F1:=[w.heap.size+1]) (λx j=>by rw[ft.1 j];right;omega) c6,λx j=>fq j⟩
 |false=>
  have G:=Q.out.dZ
  rw[show({p with steps:=wrap64 (p.steps+1)}:Pl).fault=false from J] at G
  obtain rfl:=G
  go_wp2_with fail
  refine(Dt _ T9 _ i).mono ?_
  rintro e w3 ⟨rfl,rfl⟩
  go_wp2_with fail
  have Y:Below i.heap.size i (i.alloc (.cells #[.int .i64 (wrap64 (p.steps+1)),.iface T9 (.pointer (some q9))] 145)):=(fx _ _).alloc (Nat.le_refl _) _
  have e1:(i.alloc (.cells #[.int .i64 (wrap64 (p.steps+1)),.iface T9 (.pointer (some q9))] 145)).setCell ⟨g,5,none⟩ (.iface 143 (.pointer (some ⟨i.heap.size,0,none⟩)))=(i.setCell ⟨g,5,none⟩ (.iface 143 (.pointer (some ⟨i.heap.size,0,none⟩)))).alloc (.cells #[.int .i64 (wrap64 (p.steps+1)),.iface T9 (.pointer (some q9))] 145):=by simp[go_sem,ag]
  have HX:Hid (PB _ g H I {p with steps:=wrap64 (p.steps+1),fault:=true} fr (.iface 143 (.pointer (some ⟨i.heap.size,0,none⟩)))):=eR (e1▸((Q.out.below Y).qj 143 ⟨i.heap.size,0,none⟩))
  have aj:Aq (Zu g H I fr) (i.alloc (.cells #[.int .i64 (wrap64 (p.steps+1)),.iface T9 (.pointer (some q9))] 145)) _:=Aq.Ax (b:=0) (X2 _ g 5 (.iface 143 (.pointer (some ⟨i.heap.size,0,none⟩)))) (λb e=>by injection e with e;exact Ya.2 (fq e.symm))
  have CX:Hid (Aq (Zu g H I fr) w _):=eR (e1▸(C2.out.trans ((Aq.Ai Y).trans aj)))
  have XX:=eR (e1▸((U.out.Af Y).A5 (p:=⟨g,5,none⟩) (Ne.symm ae) (.iface 143 (.pointer (some ⟨i.heap.size,0,none⟩)))))
  refine(Nm k _).mono ?_
  rintro e V ⟨rfl,d⟩
  obtain⟨⟨⟨K,L,M,N,O⟩,P⟩,W⟩:∃q,q=Pl.refused k:=⟨_,rfl⟩
  have HQ:=eR W
  rw[←W]
  clear W
  rw[show(⟨⟨K,L,M,N,O⟩,P⟩:Xr).l.toArray=#[.int .i64 K,.int .i64 L,.int .i64 M,.int .i64 N,.bool O,.bool P] from rfl]
  have X5:=eR (XX.out.Af d.below)
  have H5:=eR (HX.out.below d.below)
  have C5:Hid (Aq (Zu g H I fr) w V):=eR (CX.out.trans (d.mono (λx j=>by cases j)))
  have ai:w.heap.size+1<V.heap.size:=X5.out.lt
  clear d
  go_wp2_with (refine vM X5.out ?_;intro w6 c)
  have s0:=c.bk.cell 0;have s1:=c.bk.cell 1;have s2:=c.bk.cell 2;have s3:=c.bk.cell 3;have s4:=c.bk.cell 4;have s5:=c.bk.cell 5
  simp at s0 s1 s2 s3 s4 s5
  refine js (v:=.tuple #[.agg #[.int .i64 K,.int .i64 L,.int .i64 M,.int .i64 N,.bool O,.bool P],.nilIface]) (by simp[results,Tryz.results42,go_sem,s0,s1,s2,s3,s4,s5]) rfl ?_
  have ea:p.act ⟨k,⟨m,n,o⟩,⟨r,s,u,y,z⟩,⟨n0,n1,n2,B,C⟩⟩=({p with steps:=wrap64 (p.steps+1),fault:=true},⟨⟨K,L,M,N,O⟩,P⟩):=by
   unfold Pl.act;rw[Gx];simp only;rw[show({p with steps:=wrap64 (p.steps+1)}:Pl).right ⟨k,⟨m,n,o⟩,⟨r,s,u,y,z⟩,⟨n0,n1,n2,B,C⟩⟩=false from E.out.2,HQ.out];rfl
  rw[ea]
  have c6:Aq [w.heap.size+1] V w6:=Aq.Ax (b:=0) c.grown (λb' e=>by injection e with e;simp[e])
  have X:=aa.out
  exact⟨rfl,fr,_,H5.out.CJ c6 (λx j h1=>by have:=X x j;rw[ft.1 h1] at this;omega),C5.out.seq (F1:=[w.heap.size+1]) (λx j=>by rw[ft.1 j];right;omega) c6,λx j=>fq j⟩
def ZG{w:World}{g k m:Nat}{p:Pl}{fr:B5}{v:Value}(h:PB w g k m p fr v)(d:AT w)(b:7<=g)(a:Bx)(e:p.valid a=true)(n:∀x∈p.free,p.BY x=true)(i:p.free.length<=5000):
  Kp 42 #[.pointer (some ⟨g,0,none⟩),.agg a.l.toArray] w (WS w g k m (Zu g k m fr) (p.act a)):=by
 cases j:p.right a with
 |false=>exact Wn h d b a e j
 |true=>
  have c:a.kind=1\/a.kind=2\/a.kind=3\/a.kind=4\/a.kind=5:=by
   have o:=e;unfold Pl.valid at o;by_cases q:a.kind=1
   ·exact fq q
   by_cases r:a.kind=2
   ·exact db (fq r)
   by_cases s:a.kind=3
   ·exact d2 (fq s)
   by_cases t:a.kind=4
   ·exact d2 (db (fq t))
   by_cases u:a.kind=5
   ·exact d2 (db (db u))
   ·rw[show(a.kind==1)=false from by simp[q],show(a.kind==2)=false from by simp[r],show(a.kind==3)=false from by simp[s],show(a.kind==4)=false from by simp[t],show(a.kind==5)=false from by simp[u]] at o;cases o
  rcases c with c|c|c|c|c
  ·exact JN h d b a e j (fq c)
  ·exact JN h d b a e j (db (fq c))
  ·exact JN h d b a e j (db (db c))
  ·exact lD h d b a c n i
  ·exact aU h d b a c e j i
end Go.Proofs.YtaipogljokblkaaGreatDoor
namespace Go.Proofs.YtaipogljokblkaaGreatDoor
open Go Go.RowKit
def NG(w:World)(g:Nat)(p:Pl)(F:List Nat):Prop:=∃a b c d,PB w g a b p c d/\F=Zu g a b c
def sh(w0 w:World):Prop:=∀b,b<7->w.heap[b]?=w0.heap[b]?
section
variable{w w' w0:World}{g:Nat}{p:Pl}{F:List Nat}
def NG.same(h:NG w g p F)(a:∀b∈F,w'.heap[b]?=w.heap[b]?):NG w' g p F:=by
 obtain⟨c,d,e,f,h,rfl⟩:=h;exact⟨c,d,e,f,⟨h.bk.same (a g (Ya.2 (fq rfl))),h.bo.same (a c (Ya.2 (db (fq rfl)))),h.so.same (a d (Ya.2 (d2 (fq rfl)))),h.fo.kept λb i=>a b (Ya.2 (d2 (db i))),h.dZ,h.n1,h.n2,h.n3,h.f1,h.f2,h.f3,h.kI,h.WW⟩,rfl⟩
def NG.lt(h:NG w g p F):∀b∈F,b<w.heap.size:=by obtain⟨a,c,d,e,h,rfl⟩:=h;exact h.lt
def NG.mem(h:NG w g p F):g∈F:=by obtain⟨a,b,c,d,h,rfl⟩:=h;exact Ya.2 (fq rfl)
def sh.trans{w1:World}(h:sh w0 w)(c:sh w w1):sh w0 w1:=λb a=>(c b a).trans (h b a)
def AT.low(h:AT w0)(b:sh w0 w)(d:7<=w.heap.size):AT w:=by
 have c:∀{a:Nat} {v:Value},a<7->w0.cell? ⟨a,0,none⟩=some v->w.cell? ⟨a,0,none⟩=some v:=λha f=>by
  rw[←f];unfold World.cell?;rw[b _ ha]
 exact ⟨h.arg.imp fun T=>ol fun q e=>c Zd e,h.nil_.imp fun T=>ol fun q e=>c Zd e,h.full.imp fun T=>ol fun q e=>c Zd e,h.state.imp fun T=>ol fun q e=>c Zd e,
  h.A7.imp λT=>ol λq e=>c Zd e,h.tj.imp λT=>ol λq e=>c Zd e,h.tc.imp λT=>ol λq e=>c Zd e,d⟩
end
def RP(w0:World)(gr:Nat)(jv:Value)(gh:Nat)(M:MR)(o:Option Xz)(p:Pl)(w:World)(F:Nat->Prop):Prop:=
 sh w0 w/\∃a c,Mo gr jv M o w a/\NG w gh p c/\(∀b,a b->b∉c)/\(∀b,a b->7<=b)/\(∀b∈c,7<=b)/\∀b,F b↔a b\/b∈c\/b<7
section
variable{w0 w w':World}{gr gh:Nat}{jv:Value}{M M':MR}{o:Option Xz}{p p':Pl}{F:Nat->Prop}
def RP.AL(h:RP w0 gr jv gh M o p w F)(d:∀b,F b->w'.heap[b]?=w.heap[b]?):RP w0 gr jv gh M o p w' F:=by
 obtain⟨e,f,i,j,k,l,m,n,c⟩:=h;exact⟨e.trans λb a=>d b ((c b).2 (db (db a))),f,i,j.AL λb a=>d b ((c b).2 (fq a)),k.same λb a=>d b ((c b).2 (db (fq a))),l,m,n,c⟩
def RP.size(h:RP w0 gr jv gh M o p w F):7<w.heap.size:=by
 obtain⟨c,d,e,f,a,i,j,b,k⟩:=h;have:=b gh a.mem;have:=a.lt gh a.mem;omega
def RP.lt(h:RP w0 gr jv gh M o p w F):∀b,F b->b<w.heap.size:=by
 have f:=h.size;obtain⟨i,j,k,c,d,l,m,n,e⟩:=h;intro b a;rcases(e b).1 a with a|a|a
 ·exact c.lt b a
 ·exact d.lt b a
 ·omega
def SM{V:Value}(h:RP w0 gr jv gh M o p w F){f:Nat}{args:Array Value}(u:∀l,Le w gr M l->Kp f args w (Jb (λw F=>Le w gr M' F) V l w))(Φ:Hg)(j:Nat)(v:∀w F,RP w0 gr jv gh M' o p w F->Φ.P j w F):
  Kp f args w λm w'=>m=.returned V/\Fx Φ j F none w w':=by
 have H:=h.size
 obtain⟨x,y,n,z,c,q,r,A,d⟩:=h
 refine(OB z u ⟨λ_ w F=>Mo gr jv M' o w F,λ_ _ _ _ h B=>h.AL B⟩ 0 λw F h=>h).mono λm w' C=>?_
 obtain⟨p1,O⟩:=C
 obtain⟨s,D,e,E⟩:=O.fin
 have i:∀b,b<w.heap.size->¬y b->w'.heap[b]?=w.heap[b]?:=λb a k=>O.Wc b a Zs k
 refine⟨p1,O.os,O.tape,O.output,O.size,λb a _ k=>i b a λh=>k ((d b).2 (fq h)),λb=>s b\/b∈n\/b<7,v _ _ ⟨x.trans λb a=>i b Zo λh=>by have:=r b h;omega,s,n,D,c.same λb a=>i b (c.lt b a) λh=>q b h a,λb a t=>?_,λb a=>?_,A,λb=>j3⟩,λb a=>?_,λb a=>?_⟩
 ·rcases e b a with h|h
  ·exact q b h t
  ·have:=c.lt b t;omega
 ·rcases e b a with h|h
  ·exact r b h
  ·omega
 ·rcases a with a|a
  ·exact(e b a).imp (λh=>(d b).2 (fq h)) id
  ·exact fq ((d b).2 (db a))
 ·have G:w.heap.size<=w'.heap.size:=O.size;rcases a with a|a|a
  ·exact E b a
  ·have:=c.lt b a;omega
  ·omega
def yF{V:Value}(h:RP w0 gr jv gh M o p w F){f:Nat}{args:Array Value}(u:∀Fh,NG w gh p Fh->(∀b∈Fh,7<=b)->sh w0 w->Kp f args w (Jb (λw F=>NG w gh p' F) V Fh w))(Φ:Hg)(j:Nat)(v:∀w F,RP w0 gr jv gh M o p' w F->Φ.P j w F):
  Kp f args w λm w'=>m=.returned V/\Fx Φ j F none w w':=by
 have C:=h.size
 obtain⟨n,q,Fh,c,x,r,y,e,d⟩:=h
 refine(u Fh x e n).mono λm w' z=>?_
 obtain⟨s,p1,t,i,O⟩:=z
 have k:∀b,b<w.heap.size->b∉Fh->w'.heap[b]?=w.heap[b]?:=λb a l=>O.A5 b a l
 refine⟨p1,O.os,O.tape,O.output,O.size,λb a _ l=>k b a λh=>l ((d b).2 (db (fq h))),λb=>q b\/b∈s\/b<7,v _ _ ⟨n.trans λb a=>k b Zo λh=>by have:=e b h;omega,q,s,c.AL λb a=>k b (c.lt b a) λh=>r b a h,t,λb a A=>?_,y,λb a=>?_,λb=>j3⟩,λb a=>?_,λb a=>?_⟩
 ·rcases i b A with h|h
  ·exact r b a h
  ·have:=c.lt b a;omega
 ·rcases i b a with h|h
  ·exact e b h
  ·omega
 ·rcases a with a|a|a
  ·exact fq ((d b).2 (fq a))
  ·exact(i b a).imp (λh=>(d b).2 (db (fq h))) id
  ·exact fq ((d b).2 (db (db a)))
 ·have B:w.heap.size<=w'.heap.size:=O.size;rcases a with a|a|a
  ·have:=c.lt b a;omega
  ·exact t.lt b a
  ·omega
end
def yN(V:MV)(a:Bx):V.real a=Hx (G5 V) V.Ef a:=by
 unfold MV.real Hx;show _=bif V.call.kind==6 then bif V.Ef then-1 else bif V.eng==3 then 1 else bif V.eng==5 then 1 else 0 else _;cases V.call.kind==6
 ·simp only[gx];show _=bif V.call.kind==8 then bif !(a.kind==4) then-1 else 0 else bif V.call.kind==3 then 0 else bif V.call.kind==4 then 0 else bif V.call.kind==5 then 0 else bif V.call.kind==9 then 0 else-1;cases V.call.kind==8
  ·cases V.call.kind==3<;>cases V.call.kind==4<;>cases V.call.kind==5<;>cases V.call.kind==9<;>rfl
  ·rfl
 ·cases V.Ef<;>cases V.eng==3<;>cases V.eng==5<;>rfl
structure WN(V:MV)(p:Pl):Prop where
 Ac:V.Ac≠0
 step:V.M.R.step≠0
 rite:TR V.M
 at_:Na V.M
 valid:p.valid V.M.R.AH=true
 free:∀x∈p.free,p.BY x=true
 len:p.free.length<=5000
 go:Qi {V with M:=V.M.Ah (p.act V.M.R.AH).2}
def Vx{w:World}{g:Nat}{p:Pl}{F:List Nat}(h:NG w g p F)(i:AT w)(j:7<=g)(a:Bx)(k:p.valid a=true)(b:∀x∈p.free,p.BY x=true)(c:p.free.length<=5000):
  Kp 42 #[.pointer (some ⟨g,0,none⟩),.agg a.l.toArray] w (Jb (λw F=>NG w g (p.act a).1 F) (.tuple #[.agg (p.act a).2.l.toArray,.nilIface]) F w):=by
 obtain⟨m,n,t,u,h,rfl⟩:=h
 refine(ZG h i j a k b c).mono λv w' q=>?_
 obtain⟨p1,d,e,p2,r,s⟩:=q
 exact⟨_,p1,⟨m,n,d,e,p2,rfl⟩,s,r⟩
def oQ(V:MV)(p:Pl)(gv gr gh:Nat)(jv:Value)(w0 w:World)(F:Nat->Prop)(W:AT w0)(d:Bk w gv 126 ((G5 V).l (.pointer (some ⟨gr,0,none⟩)) jv).toArray)(h:RP w0 gr jv gh V.M V.Bl p w F)(v:¬F gv)(ok:WN V p):
  Kp 37 #[.pointer (some ⟨gv,0,none⟩),.pointer (some ⟨gh,0,none⟩)] w λD w'=>
   D=.returned (.tuple #[.agg (V.step p).2.2.l.toArray,.nilIface])/\Bk w' gv 126 ((G5 (V.step p).1).l (.pointer (some ⟨gr,0,none⟩)) jv).toArray/\CI (λb=>b=gv\/F b) w w'/\
   ∃F':Nat->Prop,RP w0 gr jv gh (V.step p).1.M (V.step p).1.Bl (V.step p).2.1 w' F'/\¬F' gv/\∀b,F' b->F b\/w.heap.size<=b:=by
 obtain⟨a,ha⟩:∃a,a=V.M.R.AH:=⟨_,rfl⟩
 obtain⟨c,m⟩:∃c:MV,c={V with M:=V.M.Ah (p.act V.M.R.AH).2}:=⟨_,rfl⟩
 have ev:G5 c=G5 V:=by rw[m];rfl
 have X:c.Bl=V.Bl:=by rw[m]
 have Y:c.M=V.M.Ah (p.act V.M.R.AH).2:=by rw[m]
 have E:Qi c:=by rw[m];exact ok.go
 have G:7<=gh:=by obtain⟨q,A,x,j,k,H,I,B,s⟩:=h;exact B gh k.mem
 have y:jv.oneCell'=true:=by obtain⟨q,A,x,j,_⟩:=h;exact j.one
 have J:(V.M.R.step==0)=false:=by simp[ok.step]
 have Z:V.step p=(c.advance,(p.act V.M.R.AH).1,bif c.advance.Ac==0 then⟨true,c.advance.BR,c.real V.M.R.AH⟩ else⟨false,.zero,c.real V.M.R.AH⟩):=by rw[m];rfl
 rw[Z]
 let u:Hg:=⟨fun i w F=>if i = 0 then RP w0 gr jv gh V.M V.Bl p w F else if i = 1 then RP w0 gr jv gh V.M V.Bl (p.act V.M.R.AH).1 w F else if i = 2 then RP w0 gr jv gh c.M c.Bl (p.act V.M.R.AH).1 w F else RP w0 gr jv gh c.advance.M c.advance.Bl (p.act V.M.R.AH).1 w F,
  λi w w' F h C=>by
   split at h
   ·rename_i q;rw[ga q];exact h.AL C
   ·rename_i q;rw[fw q];split at h
    ·rename_i j;rw[ga j];exact h.AL C
    ·rename_i j;rw[fw j];split at h
     ·rename_i k;rw[ga k];exact h.AL C
     ·rename_i k;rw[fw k];exact h.AL C⟩
 have hq:=eZ (Φ:=u) (F:=F) (G5 V) ⟨gr,0,none⟩ jv ⟨gh,0,none⟩ V.M.R.AH (p.act V.M.R.AH).2 c.Ef (G5 c.advance) gv w d y (by show(V.Ac==0)=false;simp[ok.Ac])
  (λw F (n:RP w0 gr jv gh V.M V.Bl p w F) _=>SM (M':=V.M) n (λQ j=>yG j J) u 0 λw F h=>h)
  (λw F (n:RP w0 gr jv gh V.M V.Bl p w F) _=>yF n (λx k B q=>Vx k (W.low q (Nat.le_of_lt n.size)) G V.M.R.AH ok.valid ok.free ok.len) u 1 λw F h=>h)
  (λw F (n:RP w0 gr jv gh V.M V.Bl (p.act V.M.R.AH).1 w F) _=>SM (M':=c.M) n (λQ j=>by rw[Y];exact vg _ j ok.rite ok.at_) u 2 λw F h=>by show RP w0 gr jv gh c.M c.Bl _ w F;rw[X];exact h)
  (λw F (n:RP w0 gr jv gh c.M c.Bl (p.act V.M.R.AH).1 w F) _=>SM (M':=c.M) n (λQ j=>SX j) u 2 λw F h=>h)
  (fun g w F hB (n:RP w0 gr jv gh c.M c.Bl (p.act V.M.R.AH).1 w F) v aa=>by
   have hz:=n.size;obtain⟨q,A,x,j,k,H,I,B,s⟩:=n;refine(aI c g gr jv w A (by rw[ev];exact hB) j (λh=>v ((s g).2 (fq h))) E).mono λD w' K=>?_;obtain⟨p1,p2,r,F',L,S,T,z⟩:=K;have ab:w.heap.size<=w'.heap.size:=r.size;have N:∀b,b<w.heap.size->b≠g->¬A b->w'.heap[b]?=w.heap[b]?:=λb d O P=>r.A5 b d λh=>by rcases h with h|h;exact O h;exact P h
   refine⟨p1,p2,r.os,r.tape,r.output,r.size,λb d O P=>N b d (λe=>O (by rw[e])) λh=>P ((s b).2 (fq h)),λb=>F' b\/b∈x\/b<7,?_,λb d=>?_,λb d=>?_⟩
   ·show RP w0 gr jv gh c.advance.M c.advance.Bl _ w' _;refine⟨q.trans λb d=>N b Zo (λe=>v ((s g).2 (d2 Zo))) λh=>by have:=I b h;omega,F',x,L,k.same λb d=>N b (k.lt b d) (λe=>v ((s g).2 (db (fq (by rw[←e];exact d))))) λh=>H b h d,λb d U=>?_,λb d=>?_,B,λb=>j3⟩
    ·rcases z b d with h|h
     ·exact H b h U
     ·have:=k.lt b U;omega
    ·rcases z b d with h|h
     ·exact I b h
     ·omega
   ·rcases d with d|d
    ·exact(z b d).imp (λh=>(s b).2 (fq h)) id
    ·exact fq ((s b).2 (db d))
   ·rcases d with d|d|d
    ·exact T b d
    ·have:=k.lt b d;omega
    ·omega)
  h v h.lt
 refine hq.mono λD w' K=>?_
 obtain⟨p1,p2,r,F',L,S,T,z⟩:=K
 refine⟨?_,p2,r,F',L,S,z⟩
 rw[p1,yN]
 rw[show Hx (G5 c) c.Ef V.M.R.AH=Hx (G5 V) c.Ef V.M.R.AH from by rw[ev]]
 rfl
