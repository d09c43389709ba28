/- Core: PI, PJ2, PL2, PK. -/
import Derived.Test.YtaipogljokblkaaGreatDoorE26
import Derived.Test.YtaipogljokblkaaGreatDoorE01
import Derived.Test.YtaipogljokblkaaGreatDoorE13
set_option linter.all false
set_option maxRecDepth 100000
set_option maxHeartbeats 8000000
namespace Go.Proofs.YtaipogljokblkaaGreatDoor
open Go Go.RowKit
set_option linter.unusedSimpArgs false
set_option linter.unusedVariables false
set_option linter.unusedSectionVars false
theorem Ke(l m:List Int):Y5 (l++m)=Y5 l++Y5 m:=by simp[Y5]
theorem WQ{l:List Int}{n:Int}(h:l.getLast?=some n):l=l.dropLast++[n]:=by
 have hne:l≠[]:=by intro e;subst e;simp at h
 rw[List.getLast?_eq_some_getLast hne] at h;injection h with h;rw[←h,List.dropLast_concat_getLast]
theorem mT{w:World}{g off cap:Nat}{l:List Int}{n:Int}(h:Own w 3 1 (.slice (some ⟨g,off,none⟩) (l++[n]).length cap) (l++[n]).length (Y5 (l++[n]))):
  Own w 3 1 (.slice (some ⟨g,off,none⟩) l.length cap) l.length (Y5 l):=by
 rcases h.2 with⟨h',_⟩|⟨g',off',cap',A,R,hv,hk,rfl,hn,hm,hs⟩
 ·cases h'
 ·cases hv;rw[List.length_append] at hn;simp only[List.length_cons,List.length_nil] at hn;refine⟨by rw[CY,Nat.mul_one],.inr ⟨g,A.length,cap,A,Y5 [n]++R,rfl,?_,rfl,by omega,hm,?_⟩⟩
  ·rw[Ke] at hk;simp only[List.append_assoc] at hk;exact hk
  ·rw[CY] at hs ⊢;simp only[List.length_append,List.length_cons,List.length_nil,CY] at hs ⊢;omega
theorem mS{w:World}{g off cap:Nat}{l:List Int}{n:Int}(h:Own w 3 1 (.slice (some ⟨g,off,none⟩) (l++[n]).length cap) (l++[n]).length (Y5 (l++[n]))):w.cell? ⟨g,off+l.length,none⟩=some (.int .i64 n):=
 Cc h l.length _ (by rw[Ke,List.getElem?_append_right (by rw[CY];omega),CY];simp[Y5])
theorem Pq{w:World}{g bb sb:Nat}{p:Pl}{fr:BA}{fv:Value}(h:PB w g bb sb p fr fv)(A4:Int)(hf:p.free=[]):
  Calls Tryz.prog 64 #[.pointer (some ⟨g,0,none⟩),.int .i64 A4] w (λe w'=>e=.returned (.agg #[.int .i64 0,.int .i64 0,.int .i64 0,.int .i64 0,.bool false,.bool false])/\Below w.heap.size w w'):=by
 obtain⟨_,_,c2,_,_,_⟩:=h.cells
 obtain⟨a,c,e,_⟩:=Yq h.fo
 rw[e,hf] at c2
 have hgl:=h.bk.lt
 clear h e
 simp only[List.length_nil] at c2
 go_enter Tryz.func64,Tryz.ntmps64
 go_wp2_with fail
 refine bodyPost_ret (v:=.agg #[.int .i64 0,.int .i64 0,.int .i64 0,.int .i64 0,.bool false,.bool false]) (by simp[results,Tryz.results64,go_sem]) rfl ?_
 exact⟨rfl,vB⟩
theorem set2(p:Pl)(bb sb:Nat)(fr u:BA)(fv:Value):(#[.slice (some ⟨bb,0,none⟩) p.nb p.nb,.slice (some ⟨sb,0,none⟩) p.ns p.ns,fr.v,.int .i64 p.steps,.int .i64 p.made,fv]:Array Value).setIfInBounds 2 u.v=#[.slice (some ⟨bb,0,none⟩) p.nb p.nb,.slice (some ⟨sb,0,none⟩) p.ns p.ns,u.v,.int .i64 p.steps,.int .i64 p.made,fv]:=rfl
theorem PB.frees{w:World}{g bb sb:Nat}{p:Pl}{fr u:BA}{fv:Value}(h:PB w g bb sb p fr fv){l:List Int}(ho:Own w 3 1 u.v l.length (Y5 l))(hu:u.v.ownBlock=fr.v.ownBlock):
  PB (w.setCell ⟨g,2,none⟩ u.v) g bb sb {p with free:=l} u fv:=by
 have hg2:=Xs w g 2 u.v
 exact⟨by rw[←set2 p bb sb fr u fv];exact h.bk.Eo 2 u.v,h.bo.Ax (p:=⟨g,2,none⟩) (Ne.symm h.n1) _,h.so.Ax (p:=⟨g,2,none⟩) (Ne.symm h.n2) _,ho.grown hg2 (Or.inr (by rw[hu];exact h.f1)),h.fZ,h.n1,h.n2,h.n3,by rw[hu];exact h.f1,by rw[hu];exact h.f2,by rw[hu];exact h.f3,h.fE,h.Vh⟩
def E4(p:Pl)(n A4:Int):IK:=⟨wr ((p.slot n).As+1),true,Ap (λ_=>.zero) 9 (Yy A4)⟩
def Uk(A4:Int):List Value:=rows Xe.l ((List.range 10).map λ(j:Nat)=>Ap (λ_=>Xe.zero) 9 (Yy A4) (j:Int))
theorem Tw(p:Pl)(n A4:Int):Bg (E4 p n A4)=.int .i64 (wr ((p.slot n).As+1))::.bool true::Uk A4:=rfl
theorem cQ(p:Pl)(i:Nat)(A4:Int)(hi:i<p.ns):
  ({p with slot:=Ap p.slot ((i:Int)+1) (E4 p ((i:Int)+1) A4)}:Pl).Az.toArray.toList=
   ((p.Az.toArray.setIfInBounds (i*52) (.int .i64 (wr ((p.slot ((i:Int)+1)).As+1)))).setIfInBounds (i*52+1) (.bool true)).toList.take (i*52+2)++Uk A4++
   ((p.Az.toArray.setIfInBounds (i*52) (.int .i64 (wr ((p.slot ((i:Int)+1)).As+1)))).setIfInBounds (i*52+1) (.bool true)).toList.drop (i*52+2+50):=by
 have h1:({p with slot:=Ap p.slot ((i:Int)+1) (E4 p ((i:Int)+1) A4)}:Pl).Az=p.Az.take (i*52)++Bg (E4 p ((i:Int)+1) A4)++p.Az.drop (i*52+52):=by
  have h2:=KJ Bo (λ(j:Nat)=>p.slot ((j:Int)+1)) (λ(j:Nat)=>Ap p.slot ((i:Int)+1) (E4 p ((i:Int)+1) A4) ((j:Int)+1)) p.ns i hi (λj hj=>Yi _ _ Zo);simp only[A9] at h2;exact h2
 have hl:i*52+52<=p.Az.length:=by rw[p.Kj];omega
 show({p with slot:=Ap p.slot ((i:Int)+1) (E4 p ((i:Int)+1) A4)}:Pl).Az=_
 rw[h1,Tw]
 simp only[Array.toList_setIfInBounds]
 generalize p.Az=L at*
 have hA:(L.take (i*52)).length=i*52:=by rw[List.length_take];omega
 have e:L=L.take (i*52)++(L.drop (i*52)):=(List.take_append_drop _ _).symm
 obtain⟨a,b,r,hr⟩:∃a b r,L.drop (i*52)=a::b::r:=by
  match hd:L.drop (i*52) with
  |[]=>have:=congrArg List.length hd;rw[List.length_drop] at this;simp at this;omega
  |[a]=>have:=congrArg List.length hd;rw[List.length_drop] at this;simp at this;omega
  |a::b::r=>exact⟨a,b,r,rfl⟩
 generalize L.take (i*52)=A at*
 rw[hr] at e
 subst e
 rw[←hA]
 have s1:∀u v:Value,((A++a::b::r).set A.length u).set (A.length+1) v=A++u::v::r:=λu v=>by
  have t1:∀(x y z:Value),(A++x::y::r).set A.length z=A++z::y::r:=λx y z=>by rw[List.set_append];simp
  have t2:∀(x y z:Value),(A++x::y::r).set (A.length+1) z=A++x::z::r:=λx y z=>by rw[List.set_append];simp;intro h;omega
  rw[t1,t2]
 rw[s1]
 have s2:∀u v:Value,(A++u::v::r).take (A.length+2)=A++[u,v]:=λu v=>by rw[take_add];rfl
 have s3:∀u v:Value,(A++u::v::r).drop (A.length+2+50)=r.drop 50:=λu v=>by rw[Nat.add_assoc,FA];rfl
 rw[s2,s3,s3]
 simp
theorem set4(p:Pl)(bb sb:Nat)(fr:BA)(fv:Value)(m:Int):(#[.slice (some ⟨bb,0,none⟩) p.nb p.nb,.slice (some ⟨sb,0,none⟩) p.ns p.ns,fr.v,.int .i64 p.steps,.int .i64 p.made,fv]:Array Value).setIfInBounds 4 (.int .i64 m)=#[.slice (some ⟨bb,0,none⟩) p.nb p.nb,.slice (some ⟨sb,0,none⟩) p.ns p.ns,fr.v,.int .i64 p.steps,.int .i64 m,fv]:=rfl
theorem PB.mades{w:World}{g bb sb:Nat}{p:Pl}{fr:BA}{fv:Value}(h:PB w g bb sb p fr fv)(m:Int):PB (w.setCell ⟨g,4,none⟩ (.int .i64 m)) g bb sb {p with made:=m} fr fv:=by
 have hg2:=Xs w g 4 (.int .i64 m);exact⟨by rw[←set4 p bb sb fr fv m];exact h.bk.Eo 4 _,h.bo.Ax (p:=⟨g,4,none⟩) (Ne.symm h.n1) _,h.so.Ax (p:=⟨g,4,none⟩) (Ne.symm h.n2) _,h.fo.grown hg2 (Or.inr h.f1),h.fZ,h.n1,h.n2,h.n3,h.f1,h.f2,h.f3,h.fE,h.Vh⟩
def RetAl(w:World)(g bb sb:Nat)(p:Pl)(u:BA)(fv:Value)(A4:Int)(l:List Int)(n:Int)(F:List Nat)(e:Ending)(w':World):Prop:=
 e=.returned (.agg (⟨⟨n,wr ((p.slot n).As+1),0,0,false⟩,true⟩:Xj).l.toArray)/\PB w' g bb sb {p with free:=l,slot:=Ap p.slot n (E4 p n A4),made:=wr (p.made+1)} u fv/\Ak F w w'
theorem Pp{w:World}{g bb sb:Nat}{p:Pl}{fr:BA}{fv:Value}(h:PB w g bb sb p fr fv)(A4:Int)(l:List Int)(i:Nat)(hf:p.free=l++[(i:Int)+1])(hi:i<p.ns)(hl:l.length<=5000)(fb off cp:Nat)(e:fr.v=.slice (some ⟨fb,off,none⟩) p.free.length cp)(hcp:p.free.length<=cp):
  Calls Tryz.prog 64 #[.pointer (some ⟨g,0,none⟩),.int .i64 A4] w (RetAl w g bb sb p ⟨some ⟨fb,off,none⟩,l.length,cp⟩ fv A4 l ((i:Int)+1) (Zb g bb sb fr)):=by
 obtain⟨_,c1,c2,_,c4,_⟩:=h.cells
 have ho:=h.fo
 rw[e,hf] at ho
 have hla:=mS ho
 have HIN:=Zh (mT ho)
 rw[e,hf] at c2
 rw[hf] at hcp
 have hlen:(l++[(i:Int)+1]).length=l.length+1:=by simp
 rw[hlen] at c2 hcp
 obtain⟨q0,q1⟩:=h.two hi
 have HH:=Zh h
 have hgl:=h.bk.lt
 have hsl:=h.so.lt
 have hfl:fb<w.heap.size:=h.fo.lt (by rw[e];rfl)
 have hns:=h.Vh
 have E:=Zh e;have HF:=Zh hf
 clear h ho e hf hlen
 go_enter Tryz.func64,Tryz.ntmps64
 go_wp2_with fail
 go_quiet (fail)
 have W1:Below w.heap.size w ((w.alloc (.cells #[.int .i64 0,.int .i64 0,.int .i64 0,.int .i64 0,.bool false,.bool false] 108)).drewN nq):=below_drewN ((Below.refl _ _).alloc (Nat.le_refl _) _) _
 have Z4:Bk ((w.alloc (.cells #[.int .i64 0,.int .i64 0,.int .i64 0,.int .i64 0,.bool false,.bool false] 108)).drewN nq) w.heap.size 108 #[.int .i64 0,.int .i64 0,.int .i64 0,.int .i64 0,.bool false,.bool false]:=(Bk.at_ (g:=w.heap.size) (w:=w) rfl).drewN nq
 generalize(w.alloc (.cells #[.int .i64 0,.int .i64 0,.int .i64 0,.int .i64 0,.bool false,.bool false] 108)).drewN nq=w1 at*
 have W2:Below w.heap.size w w1.drew:=W1.drew
 have Z5:=Z4.drew
 clear W1 Z4
 go_upto_region 4 with(fail)
 have k1:=(M7 W2).1
 refine X8 (λw'=>w'.cell? ⟨g,2,none⟩=some (.slice (some ⟨fb,off,none⟩) (l.length+1) cp)) 12 Zk ((k1 g 2 hgl).trans c2) (λhS=>?_)
 have c2:=hS
 have P2:Hid (PB w1.drew g bb sb p fr fv):=Zh (HH.out.below W2)
 have hz:=W2.size
 have HW:=Zh W2
 have f2:=P2.out.bk.free 2
 clear k1 W2
 generalize w1.drew=w2 at*
 ((try simp only[ZL]);refine vT (fuel:=5) hS [0,1,2,3,4,5,6,7,8,9] ?_;simp only[Xy,Xr,List.toList_toArray];(repeat (first|go_big_quiet_skip|(go_big_quiet_want;first|(go_big_quiet_op;go_big_quiet_on)|(apply Exists.intro;refine⟨λw' hS'=>?_,?_⟩;(· (have c2:=hS';go_simp;first|done|rfl|exact⟨rfl,rfl⟩));go_big_quiet_on;simp only[ZL]))));refine wpQuiet_nil ?_;(try dsimp only))
 (refine Xi 10 Zk (λK hK=>?_);simp only[Xr,List.toList_toArray])
 go_wp2_with fail
 refine hK.out _ _ (λ_=>hS) ?_
 clear hK
 (refine Xi 11 Zk (λK hK=>?_);simp only[Xr,List.toList_toArray])
 go_wp2_with fail
 refine hK.out _ _ (λ_=>hS) ?_
 clear hK hS
 ((refine Xi 12 Zk (λK hK=>?_);simp only[Xr,List.toList_toArray]);go_wp2_with fail;refine hK.out _ _ (λh=>absurd h Zo) ?_;clear hK)
 ((refine Xi 13 Zk (λK hK=>?_);simp only[Xr,List.toList_toArray]);go_wp2_with fail;refine hK.out _ _ (λh=>absurd h Zo) ?_;clear hK)
 (refine Xi 14 Zk (λK hK=>?_);simp only[Xr,List.toList_toArray])
 go_wp2_with fail
 refine hK.out _ _ (λh=>absurd h Zo) ?_
 clear hK
 refine Ye Zk ?_ _
 have HIN2:Hid (Own w2 3 1 (.slice (some ⟨fb,off,none⟩) l.length cp) l.length (Y5 l)):=Zh (HIN.out.kept λb hb=>HW.out.block b (by have:=HIN.out.lt hb;exact this))
 have P3:=P2.out.frees (u:=⟨some ⟨fb,off,none⟩,l.length,cp⟩) HIN2.out (by rw[E.out];rfl)
 have Z6:Bk (w2.setCell ⟨g,2,none⟩ (.slice (some ⟨fb,off,none⟩) l.length cp)) w.heap.size 108 #[.int .i64 0,.int .i64 0,.int .i64 0,.int .i64 0,.bool false,.bool false]:=Z5.Ax (p:=⟨g,2,none⟩) (by simp;omega) _
 have HW3:Hid (Ak (Zb g bb sb fr) w (w2.setCell ⟨g,2,none⟩ (.slice (some ⟨fb,off,none⟩) l.length cp))):=Zh ((Ak.Ag HW.out).trans (Ak.Ar (b:=0) (Xs _ _ _ _) (λb e=>by injection e with e;exact Xw.2 (Or.inl e.symm))))
 have P3:=Zh (show PB (w2.setCell ⟨g,2,none⟩ (.slice (some ⟨fb,off,none⟩) l.length cp)) g bb sb {p with free:=l} ⟨some ⟨fb,off,none⟩,l.length,cp⟩ fv from P3)
 clear HIN2 P2 Z5 f2 c2
 generalize w2.setCell ⟨g,2,none⟩ (.slice (some ⟨fb,off,none⟩) l.length cp)=w3 at*
 have hz3:w.heap.size<=w3.heap.size:=HW3.out.size
 have k1:=P3.out.cells.2.1
 have k4:=P3.out.cells.2.2.2.2.1
 have k5:=P3.out.bk.free 4
 have u0:=P3.out.two hi
 have v0:=u0.1;have v1:=u0.2
 have f0:=P3.out.so.free (i*52)
 have f1:=P3.out.so.free (i*52+1)
 simp only at k1 k4 v0 v1
 have hgl3:=P3.out.bk.lt
 have hsl3:=P3.out.so.lt
 have n2:=P3.out.n2
 clear u0 c1 c4 q0 q1 hla
 go_wp2_with fail
 refine(uC A4 _).mono ?_
 rintro e w4 ⟨rfl,hc4⟩
 rw[show(Yy A4).l.toArray=#[.int .i64 0,.int .i64 0,.int .i64 0,.int .i64 A4,.bool false] from rfl]
 have S3:=((P3.out.so.Eo (i*52) (.int .i64 (wr ((p.slot ((i:Int)+1)).As+1)))).Eo (i*52+1) (.bool true))
 rw[FU] at S3
 have S4:=Zh (S3.Ac hc4.below)
 have G4:=Zh (((P3.out.bk.Ax (p:=⟨sb,i*52,none⟩) n2 (.int .i64 (wrap64 ((p.slot ((i:Int)+1)).As+1)))).Ax (p:=⟨sb,i*52+1,none⟩) n2 (.bool true)).Ac hc4.below)
 have Z7:=Zh (((Z6.Ax (p:=⟨sb,i*52,none⟩) (by simp;omega) (.int .i64 (wrap64 ((p.slot ((i:Int)+1)).As+1)))).Ax (p:=⟨sb,i*52+1,none⟩) (by simp;omega) (.bool true)).Ac hc4.below)
 have HSN:Hid _:=Zh (cQ {p with free:=l} i A4 hi)
 simp only[FU] at HSN
 have hsz:Hid (i*52+2+50<=((p.Az.toArray.setIfInBounds (i*52) (.int .i64 (wrap64 ((p.slot ((i:Int)+1)).As+1)))).setIfInBounds (i*52+1) (.bool true)).size):=Zh (by simp[p.Kj];omega)
 have C4:=Zh hc4
 have BO4:=Zh (((P3.out.bo.Ax (p:=⟨sb,i*52,none⟩) P3.out.n3 (.int .i64 (wrap64 ((p.slot ((i:Int)+1)).As+1)))).Ax (p:=⟨sb,i*52+1,none⟩) P3.out.n3 (.bool true)).Ac hc4.below)
 have FO4:=Zh (((P3.out.fo.grown (Xs w3 sb (i*52) (.int .i64 (wrap64 ((p.slot ((i:Int)+1)).As+1)))) (Or.inr P3.out.f3)).grown (Xs _ sb (i*52+1) (.bool true)) (Or.inr P3.out.f3)).below hc4.below)
 have hgz:Hid (w3.heap.size<=w4.heap.size):=Zh (by have:=hc4.size;simpa [World.setCell] using this)
 clear hc4 S3 v0 v1 f0 f1 Z6
 go_wp2_with (first|(refine Za Zr _ _ _ Zr sb (i*52+2) _ Zr Zr _ _ (({p with free:=l,slot:=Ap p.slot ((i:Int)+1) (E4 p ((i:Int)+1) A4)}:Pl).Az.toArray) S4.out (by exact hsz.out) Zk Zr (by exact HSN.out) ?_;intro w5 hst;have P5:PB w5 g bb sb {p with free:=l,slot:=Ap p.slot ((i:Int)+1) (E4 p ((i:Int)+1) A4)} ⟨some ⟨fb,off,none⟩,l.length,cp⟩ fv:=⟨hst.Ax G4.out n2,hst.Ax BO4.out P3.out.n3,hst.bk,FO4.out.grown hst.grown (Or.inr P3.out.f3),P3.out.fZ,P3.out.n1,n2,P3.out.n3,P3.out.f1,P3.out.f2,P3.out.f3,P3.out.fE,P3.out.Vh⟩;have j4:=P5.cells.2.2.2.2.1;have jf:=P5.bk.free 4;have jg:=(P5.two hi).1;simp only[A9] at j4 jg;have Z8:=Zh (hst.Ax Z7.out Zo);have HST:=Zh hst;have HP5:=Zh P5;have hsl5:=P5.so.lt;clear hst P5)|(refine IF Zr _ _ _ Zr w.heap.size _ Zr Zr _ _ (Z8.out.Ax (p:=⟨g,4,none⟩) (by simp;omega) _) Zr Zk Zr ?_;intro w6 hst3))
 have r0:=hst3.bk.cell 0;have r1:=hst3.bk.cell 1;have r2:=hst3.bk.cell 2;have r3:=hst3.bk.cell 3;have r4:=hst3.bk.cell 4;have r5:=hst3.bk.cell 5
 simp at r0 r1 r2 r3 r4 r5
 refine bodyPost_ret (v:=.agg #[.int .i64 ((i:Int)+1),.int .i64 (E4 p ((i:Int)+1) A4).As,.int .i64 0,.int .i64 0,.bool false,.bool true]) (by simp[results,Tryz.results64,go_sem,r0,r1,r2,r3,r4,r5]) rfl ?_
 have PM:=HP5.out.mades (wr (p.made+1))
 rw[FU] at PM
 have hlt:=HH.out.lt
 have c6:Ak [w.heap.size] _ w6:=Ak.Ar (b:=0) hst3.grown (λb' e=>by injection e with e;simp[e])
 have ef:fr.v.ownBlock=some fb:=by rw[E.out];rfl
 have PM6:=PM.BV c6 (fun b hb hx=>by
  have:b<w.heap.size:=hlt b (by rcases Xw.1 hb with h|h|h|h;exact Xw.2 (Or.inl h);exact Xw.2 (Or.inr (Or.inl h));exact Xw.2 (Or.inr (Or.inr (Or.inl h)));exact Xw.2 (Or.inr (Or.inr (Or.inr (by rw[ef];exact h)))));rw[List.mem_singleton.1 hx] at this;omega)
 have ms:sb∈Zb g bb sb fr:=Xw.2 (Or.inr (Or.inr (Or.inl rfl)))
 have mg:g∈Zb g bb sb fr:=Xw.2 (Or.inl rfl)
 have cs1:Ak (Zb g bb sb fr) w3 (w3.setCell ⟨sb,i*52,none⟩ (.int .i64 (wrap64 ((p.slot ((i:Int)+1)).As+1)))):=Ak.Ar (b:=0) (Xs _ _ _ _) (λb e=>by injection e with e;rw[←e];exact ms)
 have cs2:Ak (Zb g bb sb fr) (w3.setCell ⟨sb,i*52,none⟩ (.int .i64 (wrap64 ((p.slot ((i:Int)+1)).As+1)))) _:=Ak.Ar (b:=0) (Xs _ sb (i*52+1) (.bool true)) (λb e=>by injection e with e;rw[←e];exact ms)
 have cs3:Ak (Zb g bb sb fr) w4 w5:=Ak.Ar (b:=0) HST.out.grown (λb e=>by injection e with e;rw[←e];exact ms)
 have cs4:Ak (Zb g bb sb fr) w5 _:=Ak.Ar (b:=0) (Xs w5 g 4 (.int .i64 (wrap64 (p.made+1)))) (λb e=>by injection e with e;rw[←e];exact mg)
 have call:=((((HW3.out.trans cs1).trans cs2).trans (C4.out.mono (λx hx=>by cases hx))).trans cs3).trans cs4
 refine⟨rfl,by rw[FU];exact PM6,call.seq (F1:=[w.heap.size]) (λx hx=>by rw[List.mem_singleton.1 hx];right;omega) c6⟩
theorem kP(s:IK)(k:Nat)(y:Xe)(hk:k<10):Bg {s with cell:=Ap s.cell k y}=(Bg s).take (2+k*5)++y.l++(Bg s).drop (2+k*5+5):=by
 have h:=KJ Ng (λ(j:Nat)=>s.cell (j:Int)) (λ(j:Nat)=>Ap s.cell k y (j:Int)) 10 k hk (λj hj=>Yi _ _ Zo);simp only[A9] at h;unfold Bg;simp only;rw[h];have e:([Value.int .i64 s.As,.bool s.used]:List Value).length=2:=rfl;rw[show 2+k*5=([Value.int .i64 s.As,.bool s.used]:List Value).length+k*5 from rfl,take_add,Nat.add_assoc,FA];simp only[List.append_assoc]
theorem place{w:World}{g bb sb:Nat}{p:Pl}{fr:BA}{fv:Value}(h:PB w g bb sb p fr fv)(a:X9)(hv:p.has a=true):
  ∃b o T cs,Calls Tryz.prog 34 #[.pointer (some ⟨g,0,none⟩),.agg a.l.toArray] w (qS ⟨b,o,none⟩ w)/\b∈Zb g bb sb fr/\Bk w b T cs/\w.rangeAt b o (p.get a).l/\o+5<=cs.size/\
   ∀y:Xe,∃cs':Array Value,cs'.toList=cs.toList.take o++y.l++cs.toList.drop (o+5)/\∀w',Bk w' b T cs'->Ak [b] w w'->PB w' g bb sb (p.put a y) fr fv:=by
 obtain⟨a0,a1,a2⟩:=a
 unfold Pl.has at hv
 simp only at hv
 have Ax:∀{w':World} {b:Nat},Ak [b] w w'->(∀x∈Zb g bb sb fr,x≠b->w'.heap[x]?=w.heap[x]?):=λhc x hx hne=>hc.Ax x (h.lt x hx) (by simpa using hne)
 have mg:g∈Zb g bb sb fr:=Xw.2 (Or.inl rfl)
 have mb:bb∈Zb g bb sb fr:=Xw.2 (Or.inr (Or.inl rfl))
 have ms:sb∈Zb g bb sb fr:=Xw.2 (Or.inr (Or.inr (Or.inl rfl)))
 have mf:∀b,fr.v.ownBlock=some b->b∈Zb g bb sb fr:=λb hb=>Xw.2 (Or.inr (Or.inr (Or.inr hb)))
 cases h0:(a0==0) with
 |true=>
  rw[h0] at hv
  simp at hv
  obtain⟨h1,h2,h3⟩:=hv
  obtain⟨i,rfl⟩:∃i:Nat,a2=i:=⟨a2.toNat,by omega⟩
  have hi:i<p.nb:=Zo
  obtain rfl:a0=0:=by simpa using h0
  refine⟨bb,i*5,_,_,Pc h i a1 hi,mb,h.bo,h.board hi,by simp[p.XZ];omega,λy=>⟨(p.put ⟨0,a1,i⟩ y).Br.toArray,?_,λw' hb hc=>?_⟩⟩
  ·have h2:=KJ Ng (λ(j:Nat)=>p.board (j:Int)) (λ(j:Nat)=>Ap p.board (i:Int) y (j:Int)) p.nb i hi (λj hj=>Yi _ _ Zo);simp only[A9] at h2;exact h2
  ·exact⟨h.bk.same (Ax hc g mg h.n1),hb,h.so.same (Ax hc sb ms (Ne.symm h.n3)),h.fo.kept λb hb=>Ax hc b (mf b hb) (λe=>h.f2 (by rw[hb,e])),h.fZ,h.n1,h.n2,h.n3,h.f1,h.f2,h.f3,h.fE,h.Vh⟩
 |false=>
  rw[h0] at hv
  simp only[cond_false,Bool.and_eq_true,decide_eq_true_eq] at hv
  obtain⟨he,h2,h3⟩:=hv
  obtain⟨i,rfl,hi⟩:=I4 he
  obtain⟨k,rfl⟩:∃k:Nat,a2=k:=⟨a2.toNat,by omega⟩
  have hk:k<10:=Zo
  have eg:p.get ⟨(i:Int)+1,a1,k⟩=(p.slot ((i:Int)+1)).cell k:=by unfold Pl.get;simp only[h0];rfl
  have ep:∀y,p.put ⟨(i:Int)+1,a1,k⟩ y={p with slot:=Ap p.slot ((i:Int)+1) {p.slot ((i:Int)+1) with cell:=Ap (p.slot ((i:Int)+1)).cell k y}}:=λy=>by unfold Pl.put;simp only[h0];rfl
  rw[eg]
  refine⟨sb,i*52+2+k*5,_,_,Pb h i k a1 hi hk,ms,h.so,h.cell hi hk,by simp[p.Kj];omega,λy=>⟨(p.put ⟨(i:Int)+1,a1,k⟩ y).Az.toArray,?_,λw' hb hc=>?_⟩⟩
  ·rw[ep];have h2:=KK Bo (λ(j:Nat)=>p.slot ((j:Int)+1)) p.ns i hi;have h4:=KK Bo (λ(j:Nat)=>Ap p.slot ((i:Int)+1) {p.slot ((i:Int)+1) with cell:=Ap (p.slot ((i:Int)+1)).cell k y} ((j:Int)+1)) p.ns i hi;have e1:(List.range i).map (λ(j:Nat)=>Ap p.slot ((i:Int)+1) {p.slot ((i:Int)+1) with cell:=Ap (p.slot ((i:Int)+1)).cell k y} ((j:Int)+1))=(List.range i).map λ(j:Nat)=>p.slot ((j:Int)+1):=List.map_congr_left λj hj=>Yi _ _ (by have:=List.mem_range.1 hj;omega);have e2:((List.range (p.ns-i-1)).map λ(j:Nat)=>Ap p.slot ((i:Int)+1) {p.slot ((i:Int)+1) with cell:=Ap (p.slot ((i:Int)+1)).cell k y} (((i+1+j:Nat):Int)+1))=(List.range (p.ns-i-1)).map λ(j:Nat)=>p.slot (((i+1+j:Nat):Int)+1):=List.map_congr_left λj _=>Yi _ _ Zo;simp only[A9] at h4;rw[e1,e2,kP _ _ _ hk] at h4;show({p with slot:=_}:Pl).Az=p.Az.take (i*52+2+k*5)++y.l++p.Az.drop (i*52+2+k*5+5);unfold Pl.Az;simp only;rw[h4,h2];have hl:(rows Bg ((List.range i).map λ(j:Nat)=>p.slot ((j:Int)+1))).length=i*52:=by rw[Y0 Bo];simp
   generalize rows Bg ((List.range i).map λ(j:Nat)=>p.slot ((j:Int)+1))=A at*;generalize rows Bg ((List.range (p.ns-i-1)).map λ(j:Nat)=>p.slot (((i+1+j:Nat):Int)+1))=B at*;have hs:=Bo (p.slot ((i:Int)+1));generalize Bg (p.slot ((i:Int)+1))=S at*;rw[←hl,show A.length+2+k*5=A.length+(2+k*5) from by omega,show A.length+(2+k*5)+5=A.length+(2+k*5+5) from by omega,take_add,FA,List.take_append_of_le_length Zo,List.drop_append_of_le_length Zo];simp only[List.append_assoc]
  ·rw[ep] at hb ⊢;exact⟨h.bk.same (Ax hc g mg h.n2),h.bo.same (Ax hc bb mb h.n3),hb,h.fo.kept λb hb=>Ax hc b (mf b hb) (λe=>h.f3 (by rw[hb,e])),h.fZ,h.n1,h.n2,h.n3,h.f1,h.f2,h.f3,h.fE,h.Vh⟩
theorem PB.AG{w w':World}{g bb sb:Nat}{p:Pl}{fr:BA}{fv:Value}(h:PB w g bb sb p fr fv)(hk:∀x∈Zb g bb sb fr,w'.heap[x]?=w.heap[x]?):PB w' g bb sb p fr fv:=
 ⟨h.bk.same (hk g (Xw.2 (Or.inl rfl))),h.bo.same (hk bb (Xw.2 (Or.inr (Or.inl rfl)))),h.so.same (hk sb (Xw.2 (Or.inr (Or.inr (Or.inl rfl))))),h.fo.kept λb hb=>hk b (Xw.2 (Or.inr (Or.inr (Or.inr hb)))),h.fZ,h.n1,h.n2,h.n3,h.f1,h.f2,h.f3,h.fE,h.Vh⟩
def RetTo(w:World)(g bb sb b:Nat)(fr:BA)(fv:Value)(r:Pl × Xj)(e:Ending)(w':World):Prop:=e=.returned (.agg r.2.l.toArray)/\PB w' g bb sb r.1 fr fv/\Ak [b] w w'
theorem bZ{w:World}{g bb sb:Nat}{p:Pl}{fr:BA}{fv:Value}(h:PB w g bb sb p fr fv)(a:Bn)(b o:Nat)(T:TypeId)(cs:Array Value)(hb:Bk w b T cs)(hx:w.rangeAt b o (p.get a.Ay).l)(ho:o+5<=cs.size)
  (hp:∀y:Xe,∃cs':Array Value,cs'.toList=cs.toList.take o++y.l++cs.toList.drop (o+5)/\∀w',Bk w' b T cs'->Ak [b] w w'->PB w' g bb sb (p.put a.Ay y) fr fv)(hk:a.kind=1\/a.kind=2\/a.kind=3):
  Calls Tryz.prog 65 #[.pointer (some ⟨b,o,none⟩),.agg a.l.toArray] w (RetTo w g bb sb b fr fv (p.touch a)):=by
 have AG:∀{w'},Bk w' b T cs->Ak [b] w w'->PB w' g bb sb p fr fv:=λh1 hc=>h.AG λx hx=>by
  by_cases e:x=b
  ·subst e;unfold Bk at h1 hb;rw[h1,hb]
  ·exact hc.Ax x (h.lt x hx) (by simpa using e)
 rcases hk with hk|hk|hk
 ·refine(VG w b o T cs (p.get a.Ay) a hb hx hk).mono λe w' hr=>?_;obtain⟨he,h1,hc⟩:=hr;have ec:p.touch a=(p,⟨p.get a.Ay,true⟩):=by unfold Pl.touch;rw[hk];rfl
  rw[ec];exact⟨he,AG h1 hc,hc⟩
 ·obtain⟨cs',h2,h3⟩:=hp a.new;refine(VF w b o T cs cs' a hb ho hk h2).mono λe w' hr=>?_;obtain⟨he,h1,hc⟩:=hr;have ec:p.touch a=(p.put a.Ay a.new,⟨.zero,true⟩):=by unfold Pl.touch;rw[hk];rfl
  rw[ec];exact⟨he,h3 w' h1 hc,hc⟩
 ·obtain⟨cs',h2,h3⟩:=hp a.new;refine(VE w b o T cs cs' (p.get a.Ay) a hb hx ho hk h2).mono λe w' hr=>?_;unfold aB at hr;have ec:p.touch a=bif Dm (p.get a.Ay) a.Bb then(p.put a.Ay a.new,⟨p.get a.Ay,true⟩) else(p,⟨p.get a.Ay,false⟩):=by unfold Pl.touch;rw[hk];rfl
  rw[ec];cases hs:Dm (p.get a.Ay) a.Bb with
  |true=>
   rw[hs] at hr;obtain⟨he,h1,hc⟩:=hr;exact⟨he,h3 w' h1 hc,hc⟩
  |false=>
   rw[hs] at hr;obtain⟨he,h1,hc⟩:=hr;exact⟨he,AG h1 hc,hc⟩
theorem set3(p:Pl)(bb sb:Nat)(fr:BA)(fv:Value)(m:Int):(#[.slice (some ⟨bb,0,none⟩) p.nb p.nb,.slice (some ⟨sb,0,none⟩) p.ns p.ns,fr.v,.int .i64 p.steps,.int .i64 p.made,fv]:Array Value).setIfInBounds 3 (.int .i64 m)=#[.slice (some ⟨bb,0,none⟩) p.nb p.nb,.slice (some ⟨sb,0,none⟩) p.ns p.ns,fr.v,.int .i64 m,.int .i64 p.made,fv]:=rfl
theorem PB.B5{w:World}{g bb sb:Nat}{p:Pl}{fr:BA}{fv:Value}(h:PB w g bb sb p fr fv)(m:Int):PB (w.setCell ⟨g,3,none⟩ (.int .i64 m)) g bb sb {p with steps:=m} fr fv:=by
 have hg2:=Xs w g 3 (.int .i64 m);exact⟨by rw[←set3 p bb sb fr fv m];exact h.bk.Eo 3 _,h.bo.Ax (p:=⟨g,3,none⟩) (Ne.symm h.n1) _,h.so.Ax (p:=⟨g,3,none⟩) (Ne.symm h.n2) _,h.fo.grown hg2 (Or.inr h.f1),h.fZ,h.n1,h.n2,h.n3,h.f1,h.f2,h.f3,h.fE,h.Vh⟩
theorem AQ.BV{w w':World}{F:List Nat}(h:AQ w)(hc:Ak F w w')(hF:∀b∈F,7<=b):AQ w':=by
 obtain ⟨h1,h2,h3,h4,h5,h6,h7,h8⟩:=h;have k:∀ {b:Nat},b < 7→(∃ T q,w.cell? ⟨b,0,none⟩ = some (.iface T (.pointer (some q))))→∃ T q,w'.cell? ⟨b,0,none⟩ = some (.iface T (.pointer (some q))):=fun {b} hb ⟨T,q,e⟩=>⟨T,q,by
  have:=hc.Ax b Zo (λhx=>by have:=hF b hx;omega);unfold World.cell? at*;rw[this];exact e⟩
 exact⟨k Zd h1,k Zd h2,k Zd h3,k Zd h4,k Zd h5,k Zd h6,k Zd h7,Nat.le_trans h8 hc.size⟩
theorem Bk.range{w:World}{b:Nat}{T:TypeId}{cs:List Value}(h:Bk w b T cs.toArray):w.rangeAt b 0 cs:=λj u hu=>by rw[Nat.zero_add,h.cell];simpa using hu
def Vc(w:World)(g bb sb:Nat)(F:List Nat)(r:Pl × Xj)(e:Ending)(w':World):Prop:=
 e=.returned (.tuple #[.agg r.2.l.toArray,.nilIface])/\∃fr fv,PB w' g bb sb r.1 fr fv/\Ak F w w'/\∀x∈Zb g bb sb fr,x∈F\/w.heap.size<=x
theorem J0{w:World}{g bb sb:Nat}{p:Pl}{fr:BA}{fv:Value}(h:PB w g bb sb p fr fv)(he:AQ w)(hg40:7<=g)(a:Bn)(hv:p.valid a=true)(hr:p.right a=true)(hk:a.kind=1\/a.kind=2\/a.kind=3):
  Calls Tryz.prog 42 #[.pointer (some ⟨g,0,none⟩),.agg a.l.toArray] w (Vc w g bb sb (Zb g bb sb fr) (p.act a)):=by
 have HVR:=Zh (And.intro hv (And.intro hr hk))
 clear hv hr hk
 (obtain⟨k,⟨a0,a1,a2⟩,⟨o0,o1,o2,o3,o4⟩,⟨n0,n1,n2,n3,n4⟩⟩:=a)
 show Calls Tryz.prog 42 #[.pointer (some ⟨g,0,none⟩),.agg #[.int .i64 k,.int .i64 a0,.int .i64 a1,.int .i64 a2,.int .i64 o0,.int .i64 o1,.int .i64 o2,.int .i64 o3,.bool o4,.int .i64 n0,.int .i64 n1,.int .i64 n2,.int .i64 n3,.bool n4]] w _
 (have hgl:=h.bk.lt;have hwl:=he.lt;have HH:=Zh (h.below (w':=((w.alloc (.cells #[.int .i64 k,.int .i64 a0,.int .i64 a1,.int .i64 a2,.int .i64 o0,.int .i64 o1,.int .i64 o2,.int .i64 o3,.bool o4,.int .i64 n0,.int .i64 n1,.int .i64 n2,.int .i64 n3,.bool n4] 114)).alloc (.cells #[.int .i64 0,.int .i64 0,.int .i64 0,.int .i64 0,.bool false,.bool false] 108))) vB);have HE:=Zh (he.below (w':=((w.alloc (.cells #[.int .i64 k,.int .i64 a0,.int .i64 a1,.int .i64 a2,.int .i64 o0,.int .i64 o1,.int .i64 o2,.int .i64 o3,.bool o4,.int .i64 n0,.int .i64 n1,.int .i64 n2,.int .i64 n3,.bool n4] 114)).alloc (.cells #[.int .i64 0,.int .i64 0,.int .i64 0,.int .i64 0,.bool false,.bool false] 108))) vB);have XA:Bk ((w.alloc (.cells #[.int .i64 k,.int .i64 a0,.int .i64 a1,.int .i64 a2,.int .i64 o0,.int .i64 o1,.int .i64 o2,.int .i64 o3,.bool o4,.int .i64 n0,.int .i64 n1,.int .i64 n2,.int .i64 n3,.bool n4] 114)).alloc (.cells #[.int .i64 0,.int .i64 0,.int .i64 0,.int .i64 0,.bool false,.bool false] 108)) w.heap.size 114 #[.int .i64 k,.int .i64 a0,.int .i64 a1,.int .i64 a2,.int .i64 o0,.int .i64 o1,.int .i64 o2,.int .i64 o3,.bool o4,.int .i64 n0,.int .i64 n1,.int .i64 n2,.int .i64 n3,.bool n4]:=(Bk.at_ rfl).alloc _;have X4:Bk ((w.alloc (.cells #[.int .i64 k,.int .i64 a0,.int .i64 a1,.int .i64 a2,.int .i64 o0,.int .i64 o1,.int .i64 o2,.int .i64 o3,.bool o4,.int .i64 n0,.int .i64 n1,.int .i64 n2,.int .i64 n3,.bool n4] 114)).alloc (.cells #[.int .i64 0,.int .i64 0,.int .i64 0,.int .i64 0,.bool false,.bool false] 108)) (w.heap.size+1) 108 #[.int .i64 0,.int .i64 0,.int .i64 0,.int .i64 0,.bool false,.bool false]:=Bk.at_ Zs;have HC:Hid (Below w.heap.size w ((w.alloc (.cells #[.int .i64 k,.int .i64 a0,.int .i64 a1,.int .i64 a2,.int .i64 o0,.int .i64 o1,.int .i64 o2,.int .i64 o3,.bool o4,.int .i64 n0,.int .i64 n1,.int .i64 n2,.int .i64 n3,.bool n4] 114)).alloc (.cells #[.int .i64 0,.int .i64 0,.int .i64 0,.int .i64 0,.bool false,.bool false] 108))):=Zh vB;have hz:w.heap.size+1<((w.alloc (.cells #[.int .i64 k,.int .i64 a0,.int .i64 a1,.int .i64 a2,.int .i64 o0,.int .i64 o1,.int .i64 o2,.int .i64 o3,.bool o4,.int .i64 n0,.int .i64 n1,.int .i64 n2,.int .i64 n3,.bool n4] 114)).alloc (.cells #[.int .i64 0,.int .i64 0,.int .i64 0,.int .i64 0,.bool false,.bool false] 108)).heap.size:=Zs;have HLT:=Zh h.lt;clear h he)
 go_enter Tryz.func42,Tryz.ntmps42
 go_wp2_with fail
 refine(Fo HH.out ⟨k,⟨a0,a1,a2⟩,⟨o0,o1,o2,o3,o4⟩,⟨n0,n1,n2,n3,n4⟩⟩).mono ?_
 rintro e w1 ⟨rfl,hb1⟩
 rw[HVR.out.1]
 have H1:=Zh (HH.out.below hb1);have E1:=Zh (HE.out.below hb1)
 have XA1:=XA.Ac hb1;have X41:=X4.Ac hb1
 have C1:Hid (Below w.heap.size w w1):=Zh (HC.out.trans (hb1.mono HC.out.size))
 clear HH HE XA X4 hb1 HC
 have c3:=H1.out.cells.2.2.2.1
 have f3:=H1.out.bk.free 3
 have hg1:=H1.out.bk.lt
 have hgx:g≠w.heap.size:=Zo
 have hgy:g≠w.heap.size+1:=Zo
 have XA2:=Zh (XA1.Ax (p:=⟨g,3,none⟩) (Ne.symm hgx) (.int .i64 (wrap64 (p.steps+1))))
 have X42:=Zh (X41.Ax (p:=⟨g,3,none⟩) (Ne.symm hgy) (.int .i64 (wrap64 (p.steps+1))))
 go_wp2_with (refine wpList_load_mid Zr _ _ Zr w.heap.size 0 Zr [.int .i64 k,.int .i64 a0,.int .i64 a1,.int .i64 a2,.int .i64 o0,.int .i64 o1,.int .i64 o2,.int .i64 o3,.bool o4,.int .i64 n0,.int .i64 n1,.int .i64 n2,.int .i64 n3,.bool n4] _ XA2.out.range Tryz.underlying114 Zr Zk ?_)
 have P2:=H1.out.B5 (wrap64 (p.steps+1))
 have hcs:Ak [g] w1 (w1.setCell ⟨g,3,none⟩ (.int .i64 (wrap64 (p.steps+1)))):=Ak.Ar (b:=0) (Xs _ _ _ _) (λb e=>by injection e with e;simp[e])
 have E2:=E1.out.BV hcs (by simp;omega)
 refine(Fm P2 E2 ⟨k,⟨a0,a1,a2⟩,⟨o0,o1,o2,o3,o4⟩,⟨n0,n1,n2,n3,n4⟩⟩ HVR.out.1).mono ?_
 intro e w2 hr
 rw[show({p with steps:=wrap64 (p.steps+1)}:Pl).right ⟨k,⟨a0,a1,a2⟩,⟨o0,o1,o2,o3,o4⟩,⟨n0,n1,n2,n3,n4⟩⟩=true from HVR.out.2.1] at hr
 obtain⟨rfl,hb2⟩:=hr
 have H2:=Zh (P2.below hb2)
 have XA3:=XA2.out.Ac hb2
 have X43:=Zh (X42.out.Ac hb2)
 have C2:Hid (Ak (Zb g bb sb fr) w w2):=Zh (((Ak.Ag C1.out).trans (hcs.mono (λx hx=>Or.inl (by rw[List.mem_singleton.1 hx];exact Xw.2 (Or.inl rfl))))).trans (Ak.Ag hb2))
 have y0:=XA3.cell 0
 have XA4:=Zh XA3
 simp at y0
 have hz2:w.heap.size+1<w2.heap.size:=X43.out.lt
 clear P2 hcs E2 hb2 XA2 X42 XA3 XA1 X41 H1 E1 C1 c3 f3 hz
 have hk4:(k==4)=false:=by have:=HVR.out.2.2;simp;omega
 have hk5:(k==5)=false:=by have:=HVR.out.2.2;simp;omega
 go_upto_region 18 with(fail)
 refine X8 (λw'=>Bk w' w.heap.size 114 #[.int .i64 k,.int .i64 a0,.int .i64 a1,.int .i64 a2,.int .i64 o0,.int .i64 o1,.int .i64 o2,.int .i64 o3,.bool o4,.int .i64 n0,.int .i64 n1,.int .i64 n2,.int .i64 n3,.bool n4]) 6 Zk XA4.out.drew (λhS=>?_)
 have H3:=Zh (H2.out.below (Below.refl _ _).drew)
 have X44:=Zh X43.out.drew
 have C3:Hid (Ak (Zb g bb sb fr) w w2.drew):=Zh (C2.out.trans (Ak.Ag (Below.refl _ _).drew))
 have hz3:w.heap.size+1<w2.drew.heap.size:=hz2
 clear H2 X43 C2 hz2 XA4 y0
 generalize w2.drew=w3 at*
 have hvh:({p with steps:=wrap64 (p.steps+1)}:Pl).has ⟨a0,a1,a2⟩=true:=by
  have h1:=HVR.out.1;have h2:=HVR.out.2.2;unfold Pl.valid at h1;simp only at h1;rw[show(k==1||(k==2||k==3))=true from by rcases h2 with h|h|h<;>subst h<;>rfl] at h1;exact h1
 obtain⟨b,o,T,cs,hcell,hbm,hbk,hrg,hsz,hput⟩:=place H3.out ⟨a0,a1,a2⟩ hvh
 have HP:=Zh (And.intro hcell (And.intro hbk (And.intro hrg hput)))
 have hblt:=H3.out.lt b hbm
 have hbx:b≠w.heap.size:=λe=>by
  rcases Xw.1 hbm with h1|h1|h1|h1
  ·omega
  ·have:=HLT.out bb (Xw.2 (Or.inr (Or.inl rfl)));omega
  ·have:=HLT.out sb (Xw.2 (Or.inr (Or.inr (Or.inl rfl))));omega
  ·have:=HLT.out b (Xw.2 (Or.inr (Or.inr (Or.inr h1))));omega
 have hbw:b<w.heap.size:=HLT.out b hbm
 clear hcell hbk hrg hput hvh
 ((try simp only[ZL]);refine vT (fuel:=4) hS [0,1,2,4] ?_;simp only[Xy,Xr,List.toList_toArray];(repeat (first|go_big_quiet_skip|(go_big_quiet_want;first|(go_big_quiet_op;go_big_quiet_on)|(apply Exists.intro;refine⟨λw' hS'=>?_,?_⟩;(· (have y0:=hS'.cell 0;have y1:=hS'.cell 1;have y2:=hS'.cell 2;have y3:=hS'.cell 3;have y4:=hS'.cell 4;have y5:=hS'.cell 5;have y6:=hS'.cell 6;have y7:=hS'.cell 7;have y8:=hS'.cell 8;have y9:=hS'.cell 9;have ya:=hS'.cell 10;have yb:=hS'.cell 11;have yc:=hS'.cell 12;have yd:=hS'.cell 13;simp at y0 y1 y2 y3 y4 y5 y6 y7 y8 y9 ya yb yc yd;go_simp;first|done|rfl|exact⟨rfl,rfl⟩));go_big_quiet_on;simp only[ZL]))));refine wpQuiet_nil ?_;(try dsimp only))
 (refine Xi 3 Zk (λK hK=>?_);simp only[Xr,List.toList_toArray])
 go_wp2_with fail
 refine HP.out.1.mono ?_
 rintro e w4 ⟨rfl,hb4⟩
 have hlt4:=hb4.size
 have H4:=Zh (H3.out.below hb4)
 have HT:=Zh (bZ H4.out ⟨k,⟨a0,a1,a2⟩,⟨o0,o1,o2,o3,o4⟩,⟨n0,n1,n2,n3,n4⟩⟩ b o T cs (HP.out.2.1.Ac hb4) (λj u hu=>by rw[(M7 hb4).1 b _ hblt];exact HP.out.2.2.1 j u hu) hsz (λy=>by obtain⟨cs',h1,h2⟩:=HP.out.2.2.2 y;exact⟨cs',h1,λw' h3 hc=>h2 w' h3 ((Ak.Ag hb4).trans hc)⟩) HVR.out.2.2)
 have hS4:=hS.Ac hb4
 have X45:=Zh (X44.out.Ac hb4)
 have C4:Hid (Ak (Zb g bb sb fr) w w4):=Zh (C3.out.trans (Ak.Ag hb4))
 have hz4:w.heap.size+1<w4.heap.size:=Zo
 clear hb4 H3 HP X44 C3 hz3 hblt
 go_wp2_with fail
 refine hK.out _ _ (λ_=>hS4) ?_
 clear hK hS
 (refine Xi 5 Zk (λK hK=>?_);simp only[Xr,List.toList_toArray])
 go_wp2_with fail
 refine HT.out.mono ?_
 rintro e w5 ⟨rfl,hp5,hc5⟩
 have HP5:=Zh hp5
 have C5:Hid (Ak (Zb g bb sb fr) w w5):=Zh (C4.out.trans (hc5.mono (λx hx=>Or.inl (by rw[List.mem_singleton.1 hx];exact hbm))))
 have hS5:=hS4.BV hc5 (by simp;omega)
 have X46:=Zh (X45.out.BV hc5 (by simp;omega))
 have hz5:w.heap.size+1<w5.heap.size:=by have:=hc5.size;omega
 clear hp5 hc5 HT C4 X45 hz4 H4
 obtain⟨q,hq⟩:∃q,q=({p with steps:=wrap64 (p.steps+1)}:Pl).touch ⟨k,⟨a0,a1,a2⟩,⟨o0,o1,o2,o3,o4⟩,⟨n0,n1,n2,n3,n4⟩⟩:=⟨_,rfl⟩
 have HQ:=Zh hq
 rw[←hq] at HP5 ⊢
 clear hq
 obtain⟨q1,⟨⟨r0,r1,r2,r3,r4⟩,r5⟩⟩:=q
 rw[show(⟨⟨r0,r1,r2,r3,r4⟩,r5⟩:Xj).l.toArray=#[.int .i64 r0,.int .i64 r1,.int .i64 r2,.int .i64 r3,.bool r4,.bool r5] from rfl]
 go_wp2_with fail
 refine hK.out _ _ (λ_=>hS5) ?_
 clear hK hS4
 (refine Xi 6 Zk (λK hK=>?_);simp only[Xr,List.toList_toArray])
 go_wp2_with (refine vM X46.out ?_;intro w6 hst3)
 refine hK.out _ _ (λh=>absurd h Zo) ?_
 clear hK
 ((refine Xi 7 Zk (λK hK=>?_);simp only[Xr,List.toList_toArray]);go_wp2_with fail;refine hK.out _ _ (λh=>absurd h Zo) ?_;clear hK)
 refine Ye Zk ?_ _
 go_wp2_with fail
 have s0:=hst3.bk.cell 0;have s1:=hst3.bk.cell 1;have s2:=hst3.bk.cell 2;have s3:=hst3.bk.cell 3;have s4:=hst3.bk.cell 4;have s5:=hst3.bk.cell 5
 simp at s0 s1 s2 s3 s4 s5
 refine bodyPost_ret (v:=.tuple #[.agg #[.int .i64 r0,.int .i64 r1,.int .i64 r2,.int .i64 r3,.bool r4,.bool r5],.nilIface]) (by simp[results,Tryz.results42,go_sem,s0,s1,s2,s3,s4,s5]) rfl ?_
 have ea:p.act ⟨k,⟨a0,a1,a2⟩,⟨o0,o1,o2,o3,o4⟩,⟨n0,n1,n2,n3,n4⟩⟩=(q1,⟨⟨r0,r1,r2,r3,r4⟩,r5⟩):=by
  rw[HQ.out];unfold Pl.act;rw[FU];simp only;rw[show({p with steps:=wrap64 (p.steps+1)}:Pl).right ⟨k,⟨a0,a1,a2⟩,⟨o0,o1,o2,o3,o4⟩,⟨n0,n1,n2,n3,n4⟩⟩=true from HVR.out.2.1,hk4,hk5];rfl
 rw[ea]
 have c6:Ak [w.heap.size+1] w5 w6:=Ak.Ar (b:=0) hst3.grown (λb' e=>by injection e with e;simp[e])
 have hlt:=HLT.out
 exact⟨rfl,fr,fv,HP5.out.BV c6 (λx hx h1=>by have:=hlt x hx;rw[List.mem_singleton.1 h1] at this;omega),C5.out.seq (F1:=[w.heap.size+1]) (λx hx=>by rw[List.mem_singleton.1 hx];right;omega) c6,λx hx=>Or.inl hx⟩
end Go.Proofs.YtaipogljokblkaaGreatDoor
