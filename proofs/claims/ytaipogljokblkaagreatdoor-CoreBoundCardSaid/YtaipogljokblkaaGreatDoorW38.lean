/- Core: LK, QF, DcA, QK, QG, QI. -/
import Derived.Test.YtaipogljokblkaaGreatDoorW37
import Derived.Test.YtaipogljokblkaaGreatDoorW27
import Derived.Test.YtaipogljokblkaaGreatDoorW28
import Derived.Test.YtaipogljokblkaaGreatDoorW01
import Derived.Test.YtaipogljokblkaaGreatDoorW33
import Derived.Test.YtaipogljokblkaaGreatDoorW08
import Derived.Test.YtaipogljokblkaaGreatDoorW32
set_option linter.all false
set_option maxRecDepth 100000
set_option maxHeartbeats 8000000
namespace Go.Proofs.YtaipogljokblkaaGreatDoor
open Go Go.RowKit
set_option linter.unusedSimpArgs false
set_option linter.unusedVariables false
set_option linter.unusedSectionVars false
section
variable{st:Int}{n t:Nat}{J:Yz}{c:Xf}{x:Xj}{M:MR}
theorem WS(h:AD n t M)(ht:t<=90000):VO M:=
 ⟨h.OA,h.O9,⟨h.Q7,h.Qd⟩,h.eng,Nat.le_trans h.nl Zo,Nat.le_trans h.Qr.length_le (Nat.le_trans h.nl ht),Nat.le_trans h.sl Zd⟩
theorem dI(h:AD n t M)(hb:LZ st n M c):MJ M:=by
 obtain⟨hc,ha,hp⟩:=hb.b;have he:=h.eng;have hl:=OF h.Q7 h.Qd;unfold MJ;rcases hp with⟨hs,hp⟩|⟨hs,k3,k6,k8⟩|⟨hs,hk⟩|⟨hs,hk,he,i0,i9⟩|⟨hs,hk,i0,i9,a1,a2,ao⟩|⟨hs,hk,i0,i9,he,ao,wo,wn⟩|⟨hs,hk,i0,i9,ao⟩|⟨hs,hk⟩|⟨hs,hk,ho⟩|⟨hs,hk,ho⟩|⟨hs,hk⟩|⟨hs,hk,he⟩|⟨hs,hk,he,i0,il⟩|⟨hs,hk,he⟩|⟨hs,hk,he⟩|⟨hs,hk⟩
 ·exact Or.inl hs
 ·exact Or.inr (Or.inl hs)
 ·exact Or.inr (Or.inr (Or.inl hs))
 ·exact Or.inr (Or.inr (Or.inr (Or.inl ⟨hs,he,i0,i9⟩)))
 ·exact Or.inr (Or.inr (Or.inr (Or.inr (Or.inl ⟨hs,by rw[hc];exact i0,by rw[hc];exact i9⟩))))
 ·exact Or.inr (Or.inr (Or.inr (Or.inr (Or.inr (Or.inl ⟨hs,he,by rw[hc];exact i0,by rw[hc];exact i9⟩)))))
 ·exact Or.inr (Or.inr (Or.inr (Or.inr (Or.inr (Or.inr (Or.inl hs))))))
 ·exact Or.inr (Or.inr (Or.inr (Or.inr (Or.inr (Or.inr (Or.inr (Or.inl hs)))))))
 ·exact Or.inr (Or.inr (Or.inr (Or.inr (Or.inr (Or.inr (Or.inr (Or.inr (Or.inl hs))))))))
 ·exact Or.inr (Or.inr (Or.inr (Or.inr (Or.inr (Or.inr (Or.inr (Or.inr (Or.inr (Or.inl hs)))))))))
 ·exact Or.inr (Or.inr (Or.inr (Or.inr (Or.inr (Or.inr (Or.inr (Or.inr (Or.inr (Or.inr (Or.inl hs))))))))))
 ·exact Or.inr (Or.inr (Or.inr (Or.inr (Or.inr (Or.inr (Or.inr (Or.inr (Or.inr (Or.inr (Or.inr (Or.inl hs)))))))))))
 ·exact Or.inr (Or.inr (Or.inr (Or.inr (Or.inr (Or.inr (Or.inr (Or.inr (Or.inr (Or.inr (Or.inr (Or.inr (Or.inl ⟨hs,by unfold mG;omega,i0,by omega⟩))))))))))))
 ·exact Or.inr (Or.inr (Or.inr (Or.inr (Or.inr (Or.inr (Or.inr (Or.inr (Or.inr (Or.inr (Or.inr (Or.inr (Or.inr (Or.inl hs)))))))))))))
 ·exact Or.inr (Or.inr (Or.inr (Or.inr (Or.inr (Or.inr (Or.inr (Or.inr (Or.inr (Or.inr (Or.inr (Or.inr (Or.inr (Or.inr (Or.inl ⟨hs,Or.inr (Or.inr (Or.inl he))⟩))))))))))))))
 ·obtain⟨d,r,hd,_⟩:=hb.rN hs;exact Or.inr (Or.inr (Or.inr (Or.inr (Or.inr (Or.inr (Or.inr (Or.inr (Or.inr (Or.inr (Or.inr (Or.inr (Or.inr (Or.inr (Or.inr ⟨hs,d,r,hd,h.Qr.subset (by rw[hd];exact List.mem_cons_self ..)⟩))))))))))))))
theorem vI(h:JO st n c)(h12:c.kind≠12):Tb c:=by
 unfold Tb;rcases h with⟨hk,_⟩|⟨hk,_⟩|⟨hk,_⟩|⟨hk,_,h0,h9,hj⟩|⟨hk,ho⟩|hk|⟨hk,_⟩|⟨hk,_⟩|hk
 ·exact Or.inr (Or.inr (Or.inl hk))
 ·exact Or.inr (Or.inr (Or.inr (Or.inl hk)))
 ·exact Or.inr (Or.inr (Or.inr (Or.inr (Or.inl hk))))
 ·exact Or.inr (Or.inr (Or.inr (Or.inr (Or.inr (Or.inl ⟨hk,h0,h9,hj⟩)))))
 ·exact Or.inr (Or.inr (Or.inr (Or.inr (Or.inr (Or.inr (Or.inl ⟨hk,ho⟩))))))
 ·exact Or.inr (Or.inr (Or.inr (Or.inr (Or.inr (Or.inr (Or.inr (Or.inl hk)))))))
 ·exact Or.inr (Or.inr (Or.inr (Or.inr (Or.inr (Or.inr (Or.inr (Or.inr (Or.inl hk))))))))
 ·exact Or.inr (Or.inr (Or.inr (Or.inr (Or.inr (Or.inr (Or.inr (Or.inr (Or.inr (Or.inl hk)))))))))
 ·exact absurd hk h12
theorem oZ(h:JI st n J c)(hc:c.kind≠12):J.Ok:=by
 cases J with
 |pile J=>trivial
 |Ti J=>trivial
 |lit J=>trivial
 |RF J=>
  obtain⟨_,h⟩:=h;have hb:=h.b;rcases h.pc with⟨_,h⟩|⟨_,h⟩
  ·exact absurd h hc
  refine⟨?_,hb.kind,hb.k0,hb.k1,hb.w0,hb.w1,λe=>?_,hb.b0,hb.b1,λe=>?_,hb.c0,hb.c1,λe=>?_,λe=>?_⟩
  ·unfold SZ at h;omega
  ·rcases h with hp|hp|⟨hp,ho⟩|⟨hp,h8,ho⟩|⟨hp|hp,hn,ho⟩|⟨hp,hn,ho,hwk⟩|⟨hp,hn,ho,hwk⟩|⟨hp|hp|hp,ho⟩|⟨hp,I,hi,hI⟩|hp|hp|hp|hp<;>first|(exfalso;omega)|exact ho
  ·rcases h with hp|hp|⟨hp,ho⟩|⟨hp,h8,ho⟩|⟨hp|hp,hn,ho⟩|⟨hp,hn,ho,hwk⟩|⟨hp,hn,ho,hwk⟩|⟨hp|hp|hp,ho⟩|⟨hp,I,hi,hI⟩|hp|hp|hp|hp<;>first|(exfalso;omega)|exact ho
  ·rcases h with hp|hp|⟨hp,ho⟩|⟨hp,h8,ho⟩|⟨hp|hp,hn,ho⟩|⟨hp,hn,ho,hwk⟩|⟨hp,hn,ho,hwk⟩|⟨hp|hp|hp,ho⟩|⟨hp,I,hi,hI⟩|hp|hp|hp|hp<;>first|(exfalso;omega)|(obtain⟨W,h1,_⟩:=hwk;exact⟨W,h1⟩)|(obtain⟨W,h1⟩:=hwk;exact⟨W,h1⟩)
  ·rcases h with hp|hp|⟨hp,ho⟩|⟨hp,h8,ho⟩|⟨hp|hp,hn,ho⟩|⟨hp,hn,ho,hwk⟩|⟨hp,hn,ho,hwk⟩|⟨hp|hp|hp,ho⟩|⟨hp,I,hi,hI⟩|hp|hp|hp|hp<;>first|(exfalso;omega)|exact⟨I,hi⟩
 |RW J=>
  obtain⟨_,h⟩:=h;have hb:=h.b;refine⟨λC e=>(hb.Ab C e).b.lv,λe=>?_⟩;have no:∀{P:Prop},RA J.Ab->P:=λh=>by obtain⟨C,h⟩:=h;rw[e] at h;cases h
  rcases h.pc with⟨_,h⟩|⟨_,h⟩
  ·exact absurd h hc
  rcases h with hp|⟨hk,hp,hc8⟩|⟨hk,hp,hn⟩|⟨hk,hp,hn,ho⟩|⟨hk,hp,hn,ho⟩|⟨hk,hp,hl,hn,ho⟩|⟨hk,hp,hl,hn,ho⟩|⟨hk,hp,hl,hn,ho⟩|⟨hk,hp,ho⟩|⟨hk,hp,hn,ho⟩|⟨hk,hp,hl,hn,ho⟩|⟨hk,hp,hn,ho⟩|⟨hk,hp,hn,ho⟩|⟨hk,hp,hn,ho⟩
  ·have:=hb.op;exact Or.inl ⟨hp,by omega⟩
  ·exact Or.inr ⟨hk,Or.inl hp⟩
  ·exact Or.inr ⟨hk,Or.inr hp⟩
  all_goals first|exact no ho|exact no ho.so
structure RS(st:Int)(n t:Nat)(s:JM)(c:Xf):Prop where
 BJ:JI st n s.1 c
 xI:c.kind≠12
 rp:PC st n c (rep s)
 base:AD n t s.2
theorem RS.next{s:JM}(h:RS st n t s c)(h12:((ask s).kind==12)=false)(hb:JC (Iu s)=false):RS st n (t+1) (Iu s) (ask s)/\DV (ask s)=true:=by
 have h12':(ask s).kind≠12:=by simpa using h12
 obtain⟨q1,q2,q3⟩:=IA h.BJ h.xI h.rp;have e:Iu s=((s.1.next (rep s)).1,s.2.Ag (ask s)):=by unfold Iu;rw[h12];rfl
 obtain⟨r1,r2⟩:=mY h.base (Or.inl ⟨q2,h12'⟩);have h0:(s.2.Ag (ask s)).R.step=0:=by rw[e] at hb;unfold JC at hb;simpa using hb
 refine⟨?_,?_⟩
 ·rw[e];refine⟨q1,h12',?_,r1⟩;rcases r2 with r|r
  ·exact absurd h0 r.1
  ·exact r.2
 ·cases hi:DV (ask s) with
  |true=>rfl
  |false=>exact absurd h0 (IK s.2 q2 hi h12')
theorem Uq:∀(k m t:Nat) (s:JM) (c:Xf),RS st n t s c->Calm Yz.next k (s.1.next (rep s)).1 (ask s)->Ki (m+k+1) s
 |k,m,t,s,c,h,hq=>by
  intro h12 hb;obtain⟨q,hi⟩:=h.next h12 hb;cases k with
  |zero=>rw[show Calm Yz.next 0 (s.1.next (rep s)).1 (ask s)=(DV (ask s)=false) from rfl,hi] at hq;cases hq
  |succ k=>
   have e:(Iu s).1=(s.1.next (rep s)).1:=rfl;have:=Uq k m (t+1) (Iu s) (ask s) q (by have:=hq hi (rep (Iu s));rw[←e] at this;exact this);exact this
theorem eO{s:JM}(h:RS st n t s c):∀k,(∀i≤k,JC (Cr i s)=false)->(∀i<k,((ask (Cr i s)).kind==12)=false)->
  k<=3/\∃c,RS st n (t+k) (Cr k s) c/\(k=0\/(DV c=true/\Calm Yz.next (4-k) (Cr k s).1 c)):=by
 intro k
 induction k with
 |zero=>exact λ_ _=>⟨by decide,c,h,Or.inl rfl⟩
 |succ k ih=>
  intro hb h12
  obtain⟨hk,c',q,hc⟩:=ih (λi hi=>hb i Zo) λi hi=>h12 i Zo
  have b1:JC (Iu (Cr k s))=false:=hb (k+1) (Nat.le_refl _)
  obtain⟨q',hi⟩:=q.next (h12 k Zo) b1
  have hq:Calm Yz.next (4-(k+1)) (Cr (k+1) s).1 (ask (Cr k s)):=by
   have e:(Cr (k+1) s).1=((Cr k s).1.next (rep (Cr k s))).1:=rfl;rw[e];rcases hc with hc|⟨hci,hc⟩
   ·subst hc;exact(IA q.BJ q.xI q.rp).2.2
   ·obtain⟨j,hj⟩:∃j,4-k=j+1:=⟨3-k,by omega⟩;rw[hj] at hc;have:=hc hci (rep (Cr k s));rw[show 4-(k+1)=j from by omega];exact this
  have h3:k+1<=3:=by
   rcases Nat.lt_or_ge k 3 with h|h
   ·omega
   ·have:k=3:=Zo;subst this;have hq:DV (ask (Cr 3 s))=false:=hq;rw[hi] at hq;cases hq
  exact⟨h3,_,by have:=q';rwa [Nat.add_assoc] at this,Or.inr ⟨hi,hq⟩⟩
theorem xL{V:MV}(h:VL st n t V)(ht:t<=80000):PT V:=by
 have main:∀J,V.BJ=some J->JI st n J V.call->V.call.kind≠12->(V.Ae=1\/V.Ae=2)->PT V:=λJ hj q h12 hd=>by
  have hs:V.Ey=false->RS st n t (J,V.M) V.call:=λhb=>by
   have h0:V.M.R.step=0:=by unfold MV.Ey at hb;simpa using hb
   refine⟨q,h12,?_,h.base⟩;rcases h.at_ with h|h
   ·exact absurd h0 h.1
   ·exact h.2
  refine Or.inl ⟨hd,J,hj,λk hb hk=>?_,λhb=>Uq 3 1 t _ _ (hs hb) (IA q h12 (hs hb).rp).2.2⟩;obtain⟨h3,c,r,_⟩:=eO (hs (hb 0 Zo)) k hb hk;refine⟨oZ r.BJ r.xI,WS r.base Zo,λe=>?_⟩;exact vI (IA r.BJ r.xI r.rp).2.1 (by simpa using e)
 rcases h.BJ with⟨hd,e,J,hj,q⟩|⟨hd,e,hc,J,hj,q⟩|⟨hd,e⟩|⟨hd,e⟩
 ·exact main J hj q (by rw[e];decide) (Or.inl hd)
 ·exact main J hj q e (Or.inr hd)
 ·exact Or.inr ⟨by omega,by omega⟩
 ·exact Or.inr ⟨by omega,by omega⟩
theorem tJ{V:MV}{p:Pl}(h:VI st n t V)(hd:V.Ae≠0)(hp:HI st n p)(ht:t<=70000)(hn:n<=1024):jF V p:=by
 obtain⟨h0,hb,hv⟩:=RH h hd hp;refine⟨hd,h0,WS h.base Zo,dI h.base hb,(Zv hp hb.b.2.1).1,λx hx=>?_,?_,xL hv Zo⟩
 ·have:=hp.VM x hx;unfold Pl.BL;rw[hp.ns];simp;omega
 ·have:=hp.len;omega
theorem hH{V:MV}{o:Bl}(h:VI st n t V)(h0:V.Ae=0)(ho:Zy st o)(ht:t<=70000):VO V.M/\V.M.R.step=0/\PT (MV.Ag {V with op:=o,BJ:=some (Yz.new V.st o),BR:=.zero} 1 Yv):=by
 refine⟨WS h.base Zo,?_,xL (SM h h0 ho) Zo⟩;rcases h.at_ with h|h
 ·exact h.2
 ·rcases h.2.2 with h|h|h|h<;>(have:=h.1;omega)
end
def PaS(w:World)(gp gh:Nat)(P:Ar)(tv bv:BB)(ro:List Fy)(lab:Nat->Nat)(w':World):Prop:=
 ∃Fh Ft lab',Eh w' gp gh P tv bv ro Fh Ft lab'/\CG (λb=>lab b<1000) w w'/\∀b,lab' b<1000->lab b<1000\/w.heap.size<=b
def Ar.mB(P:Ar)(k:Nat)(T:MT)(V:MV):Ar:={P with AB:=P.AB.set k {T with V:=V}}
section
variable{w w':World}{gp gh:Nat}{P:Ar}{tv bv:BB}{ro:List Fy}{Fh:List Nat}{Ft:Nat->Nat->Prop}{lab:Nat->Nat}{k:Nat}{T:MT}
theorem AJ{α:Type}{l:List α}{k:Nat}{x:α}(h:l[k]?=some x):k<l.length:=by
 rcases Nat.lt_or_ge k l.length with h'|h'
 ·exact h'
 ·rw[List.getElem?_eq_none h'] at h;cases h
theorem Eh.upV(h:Eh w gp gh P tv bv ro Fh Ft lab)(h40:7<=w.heap.size)(hT:P.AB[k]?=some T)(hr:k<ro.length){V':MV}{p':Pl}{Fv Fv':Nat->Prop}{Fh':List Nat}
  (hF:∀b,Ft k b↔Fv b\/ro[k].q.v.ownBlock=some b)(hFv:∀b,Fv b->ro[k].q.v.ownBlock≠some b)(hV:VB w' ro[k].gv V' Fv')(hp:PQ w' gh p' Fh')(nV:∀b,Fv' b->Fv b\/b∈Fh\/w.heap.size<=b)(nh:∀b∈Fh',Fv b\/b∈Fh\/w.heap.size<=b)(dj:∀b∈Fh',¬Fv' b)
  (hc:CG (λb=>Fv b\/b∈Fh) w w'):PaS w gp gh {P with heap:=p',AB:=P.AB.set k {T with V:=V'}} tv bv ro lab w':=by
 have hk:=AJ hT
 have Md:=h.Md
 obtain⟨t1,t2,Fv0,hv0,hq,hq1,hq2⟩:=h.th k ro[k] T (List.getElem?_eq_getElem hr) hT
 have l4:∀b,Fv b->lab b=4+k:=λb hb=>h.l4 k b hk ((hF b).2 (Or.inl hb))
 have lq:∀b,ro[k].q.v.ownBlock=some b->lab b=4+k:=λb hb=>h.l4 k b hk ((hF b).2 (Or.inr hb))
 have Av:∀b c,lab b=c->c≠3->c≠4+k->b<w.heap.size->w'.heap[b]?=w.heap[b]?:=λb c e c3 c4 hb=>hc.Av b hb λhx=>by
  rcases hx with hx|hx
  ·exact c4 (by rw[←e,l4 b hx])
  ·exact c3 (by rw[←e,h.l3 b hx])
 have qfar:∀b,ro[k].q.v.ownBlock=some b->w'.heap[b]?=w.heap[b]?:=λb hb=>hc.Av b (hq.lt hb) λhx=>by
  rcases hx with hx|hx
  ·exact hFv b hx hb
  ·have:=h.l3 b hx;have:=lq b hb;omega
 have nV':∀b,Fv' b->lab b=3\/lab b=4+k\/w.heap.size<=b:=λb hb=>(nV b hb).elim (λh'=>Or.inr (Or.inl (l4 b h'))) λh'=>h'.imp (h.l3 b) Or.inr
 have n3:∀b∈Fh',lab b=3\/lab b=4+k\/w.heap.size<=b:=λb hb=>(nh b hb).elim (λh'=>Or.inr (Or.inl (l4 b h'))) λh'=>h'.imp (h.l3 b) Or.inr
 obtain⟨Ft',lab',p1,p2⟩:=h.Ah (w2:=w') (P':={P with heap:=p',AB:=P.AB.set k {T with V:=V'}}) (bv':=bv) (Fh':=Fh') (ro':=ro) (r':=ro[k]) (T':={T with V:=V'}) (F':=λb=>Fv' b\/ro[k].q.v.ownBlock=some b) hk rfl Zs rfl
  (h.bk.same (Av gp 0 h.l0 Zd Zo h.bk.lt)) (h.K5.kept λb hb=>Av b 1 (h.l1 b hb) Zd Zo (h.K5.lt hb)) (h.Kw.kept λb hb=>Av b 2 (h.l2 b hb) Zd Zo (h.Kw.lt hb)) hp
  ⟨t1,t2,Fv',hV,hq.kept qfar,λb hb e=>(nV b hb).elim (λh'=>hFv b h' e) λh'=>h'.elim (λh'=>by have:=h.l3 b h';have:=lq b e;omega) λh'=>by have:=hq.lt e;omega,λ_=>Iff.rfl⟩
  (λi b hi hl hb=>Av b (4+i) (h.l4 i b hl hb) Zo Zo (h.aP hl b hb)) hc.size h40
  (λb hb=>Or.inl (h.l2 b hb)) n3 (λb hb=>hb.elim (nV' b) λh'=>Or.inr (Or.inl (lq b h')))
  (λb h2 h3=>by have e2:=h.l2 b h2;have:=h.Kw.lt h2;have:=n3 b h3;omega)
  (λb h2 h4=>by have e2:=h.l2 b h2;have:=h.Kw.lt h2;exact h4.elim (λh4=>by have:=nV' b h4;omega) λh4=>by have:=lq b h4;omega)
  (fun b h3 h4=>h4.elim (fun h4=>dj b h3 h4) fun h4=>by
   have e4:=lq b h4;have hlt:=hq.lt h4;rcases nh b h3 with h'|h'|h'
   ·exact hFv b h' h4
   ·have:=h.l3 b h';omega
   ·omega)
 refine⟨Fh',Ft',lab',p1,⟨hc.os,hc.tape,hc.output,hc.size,λb hb hf=>hc.Av b hb λhx=>hf ?_⟩,p2⟩
 rcases hx with hx|hx
 ·have:=l4 b hx;omega
 ·have:=h.l3 b hx;omega
theorem vG(h:Eh w gp gh P tv bv ro Fh Ft lab)(he:AO w)(hT:P.AB[k]?=some T)(hr:k<ro.length)(o:Bl)(hf:GM T.V.st o)(hd:T.V.Ae=0)(ok:VO T.V.M)(hs:T.V.M.R.step=0)
  (hgo:PT (MV.Ag {T.V with op:=o,BJ:=some (Yz.new T.V.st o),BR:=.zero} 1 Yv)):
  Calls Tryz.prog 36 #[.pointer (some ⟨ro[k].gv,0,none⟩),.agg o.l.toArray] w λen w'=>en=.returned .nilIface/\PaS w gp gh (P.mB k T (T.V.Ih o)) tv bv ro lab w':=by
 have hk:=AJ hT
 obtain⟨t1,t2,Fv,hv,hq,hq1,hq2⟩:=h.th k ro[k] T (List.getElem?_eq_getElem hr) hT
 obtain⟨gr,jv,F1,b1,b2,b3,b4⟩:=id hv
 refine(pP T.V o ro[k].gv gr jv w F1 he hf hd b1 b2 b3 ok hs hgo).mono λen w' hp=>?_
 obtain⟨jw,p1,p2,p3,F',p4,p5,p6,p7⟩:=hp
 have hFlt:∀b,Fv b->b<w.heap.size:=hv.lt
 have hl4:∀b,Fv b->lab b=4+k:=λb hb=>h.l4 k b hk ((hq2 b).2 (Or.inl hb))
 have hcc:CG Fv w w':=⟨p3.os,p3.tape,p3.output,p3.size,λb hb hf=>p3.Av b hb λhx=>hf ((b4 b).2 hx)⟩
 have hpb:PQ w' gh P.heap Fh:=h.hp.same λb hb=>hcc.Av b (h.hp.lt b hb) λhx=>by have:=hl4 b hx;have:=h.l3 b hb;omega
 have hgv:Fv ro[k].gv:=(b4 _).2 (Or.inl rfl)
 refine⟨p1,h.upV he.lt hT hr hq2 hq1 (V':=T.V.Ih o) (Fv':=λb=>b=ro[k].gv\/F' b) ⟨gr,jw,F',p2,p4,p5,λ_=>Iff.rfl⟩ hpb (λb hb=>?_) (λb hb=>Or.inr (Or.inl hb)) (λb hb hx=>?_) ⟨hcc.os,hcc.tape,hcc.output,hcc.size,λb hb hf=>hcc.Av b hb λhx=>hf (Or.inl hx)⟩⟩
 ·rcases hb with rfl|hb
  ·exact Or.inl hgv
  ·exact(p7 b hb).elim (λh'=>Or.inl ((b4 b).2 (Or.inr h'))) λh'=>Or.inr (Or.inr h')
 ·have h3:=h.l3 b hb;have hlt:=h.hp.lt b hb;rcases hx with rfl|hx
  ·have:=hl4 _ hgv;omega
  ·rcases p7 b hx with h'|h'
   ·have:=hl4 b ((b4 b).2 (Or.inr h'));omega
   ·omega
theorem ZP(h:Eh w gp gh P tv bv ro Fh Ft lab)(he:AO w)(hT:P.AB[k]?=some T)(hr:k<ro.length)(ok:jF T.V P.heap):
  Calls Tryz.prog 37 #[.pointer (some ⟨ro[k].gv,0,none⟩),.pointer (some ⟨gh,0,none⟩)] w λen w'=>en=.returned (.tuple #[.agg (T.V.step P.heap).2.2.l.toArray,.nilIface])/\
   PaS w gp gh {P with heap:=(T.V.step P.heap).2.1,AB:=P.AB.set k {T with V:=(T.V.step P.heap).1}} tv bv ro lab w':=by
 have hk:=AJ hT
 obtain⟨t1,t2,Fv,hv,hq,hq1,hq2⟩:=h.th k ro[k] T (List.getElem?_eq_getElem hr) hT
 obtain⟨gr,jv,F1,b1,b2,b3,b4⟩:=id hv
 have hl4:∀b,Fv b->lab b=4+k:=λb hb=>h.l4 k b hk ((hq2 b).2 (Or.inl hb))
 have hF1:∀b,F1 b->lab b=4+k:=λb hb=>hl4 b ((b4 b).2 (Or.inr hb))
 have hgv:Fv ro[k].gv:=(b4 _).2 (Or.inl rfl)
 have Md:=h.Md
 have low:∀b,lab b<1000->7<=b:=λb hb=>by
  rcases Nat.lt_or_ge b 7 with h'|h'
  ·have:=h.low b h';omega
  ·exact h'
 have hRP:RP w gr jv gh T.V.M T.V.BJ P.heap w (λb=>F1 b\/b∈Fh\/b<7):=⟨λ_ _=>rfl,F1,Fh,b2,h.hp,λb hb hx=>by have:=hF1 b hb;have:=h.l3 b hx;omega,λb hb=>low b (by have:=hF1 b hb;omega),λb hb=>low b (by have:=h.l3 b hb;omega),λ_=>Iff.rfl⟩
 refine(lI T.V P.heap ro[k].gv gr gh jv w w _ he b1 hRP (λhx=>?_) ok).mono λen w' hp=>?_
 ·rcases hx with hx|hx|hx
  ·exact b3 hx
  ·have:=hl4 _ hgv;have:=h.l3 _ hx;omega
  ·have:=low _ (by have:=hl4 _ hgv;omega:lab ro[k].gv<1000);omega
 ·obtain⟨p1,p2,p3,F',⟨q0,F2,Fh',q1,q2,q3,q4,q5,q6⟩,p5,p6⟩:=hp;have n2:∀b,7<=b->F' b->Fv b\/b∈Fh\/w.heap.size<=b:=λb h40 hb=>by
   rcases p6 b hb with(h'|h'|h')|h'
   ·exact Or.inl ((b4 b).2 (Or.inr h'))
   ·exact Or.inr (Or.inl h')
   ·omega
   ·exact Or.inr (Or.inr h')
  refine⟨p1,h.upV he.lt hT hr hq2 hq1 (V':=(T.V.step P.heap).1) (Fv':=λb=>b=ro[k].gv\/F2 b) ⟨gr,jv,F2,p2,q1,λhx=>p5 ((q6 _).2 (Or.inl hx)),λ_=>Iff.rfl⟩ q2 (λb hb=>?_) (λb hb=>n2 b (q5 b hb) ((q6 b).2 (Or.inr (Or.inl hb)))) (λb hb hx=>?_) ⟨p3.os,p3.tape,p3.output,p3.size,λb hb hf=>?_⟩⟩
  ·rcases hb with rfl|hb
   ·exact Or.inl hgv
   ·exact n2 b (q4 b hb) ((q6 b).2 (Or.inl hb))
  ·rcases hx with rfl|hx
   ·exact p5 ((q6 _).2 (Or.inr (Or.inl hb)))
   ·exact q3 b hx hb
  ·by_cases h40:b<7
   ·exact q0 b h40
   ·refine p3.Av b hb λhx=>hf ?_;rcases hx with rfl|hx|hx|hx
    ·exact Or.inl hgv
    ·exact Or.inl ((b4 b).2 (Or.inr hx))
    ·exact Or.inr hx
    ·exact absurd hx h40
end
end Go.Proofs.YtaipogljokblkaaGreatDoor
namespace Go.Proofs.YtaipogljokblkaaGreatDoor.Fn
open Go Go.RowKit
theorem oF(s:ByteArray)(k:Nat)(p:Addr)(w:World)(hc:w.cell? p=some (.string (rest s k)))(hf:w.frozen? p=false):
  Calls Tryz.prog 28 #[.pointer (some p)] w λe w'=>e=.returned (.int .i64 (Jd s k))/\w.setCell p (.string (rest s (k+1)))=w':=by
 by_cases h:k<s.size
 ·have h1:0<(rest s k).size:=by rw[Mr];omega
  have hh:=fE s k h h1;have hst:=fD s k;generalize hr:rest s k=r at*;generalize hr':rest s (k+1)=r' at*;have hne:r.toList.isEmpty=false:=IW h1;have H1:=Zh hh;clear hh;have H2:=Zh hst;clear hst;clear hr hr';go_enter Tryz.func28,Tryz.ntmps28;go_wp2;go_ret;exact⟨tS (by rw[←H1.out];exact jR _),by rw[H2.out]⟩
 ·have hb:Jd s k=0:=by unfold Jd;rw[dif_neg h]
  have he:rest s (k+1)=rest s k:=by rw[I5 s k Zo,I5 s (k+1) Zo]
  rw[he,So hc,hb];have h0:=I5 s k Zo;rw[h0] at hc;clear he hb h0;go_enter Tryz.func28,Tryz.ntmps28;go_wp2;go_ret;exact⟨rfl,rfl⟩
def Ga(st kind x y:Int):KS:=
 if kind=1\/kind=4 then⟨kind,0,256*x+y,0⟩
 else if kind=6 then⟨kind,x,y,if st=5 then y%3+1 else 0⟩
 else if kind=7\/kind=8 then⟨kind,x,0,0⟩
 else⟨kind,0,0,0⟩
theorem qB(st kind x y:Int)(w:World)(hx0:0<=x)(hx1:x<=255)(hy0:0<=y)(hy1:y<=255):
  Calls Tryz.prog 30 #[.int .i64 st,.int .i64 kind,.int .i64 x,.int .i64 y] w (RetV (Ga st kind x y).v w):=by
 go_enter Tryz.func30,Tryz.ntmps30
 go_wp2
 all_goals
  go_returns
  refine⟨?_,by go_grown⟩
  simp_all [Ga,KS.v]
def BE(st:Int):List Int:=if st=1 then[1,2,3] else if st=2 then[4,5] else if 3<=st/\st<=5 then[6,7,8] else[]
theorem gQ(st:Int)(w:World)(h1:1<=st)(h5:st<=5):
  Calls Tryz.prog 29 #[.int .i64 st] w λe w'=>e=.returned (.slice (some ⟨w.heap.size,0,none⟩) (BE st).length (BE st).length)/\
   w.alloc (.cells ((BE st).map (Value.int .i64)).toArray 3)=w':=by
 go_enter Tryz.func29,Tryz.ntmps29
 go_wp2
 all_goals
  go_returns
  simp_all [BE]
structure CL where
 Bt:Int
 op:KS
 deriving DecidableEq
structure wP where
 st:Int
 en:Int
 th:Int
 sl:Int
 no:Int
 ops:List CL
 E9:List Int
 deriving DecidableEq
def CL.cells(t:CL):List Value:=[.int .i64 t.Bt,.int .i64 t.op.kind,.int .i64 t.op.key,.int .i64 t.op.val,.int .i64 t.op.Aj]
def Dk(l:List CL):List Value:=l.flatMap CL.cells
def AA(l:List Int):List Value:=l.map (Value.int .i64)
def Sl(w:World)(B sz:Nat)(A:Option Addr)(n:Nat)(xs:List Value):Prop:=
 xs.length=n*sz/\(0<n->∃b off,A=some ⟨b,off,none⟩/\b<B/\∀j u,xs[j]?=some u->w.cell? ⟨b,off+j,none⟩=some u)
section
variable{w w':World}{B B' sz n:Nat}{A:Option Addr}{xs:List Value}
theorem Sl.A5(h:Sl w B sz A n xs)(hk:∀b o,b<B->w'.cell? ⟨b,o,none⟩=w.cell? ⟨b,o,none⟩):Sl w' B sz A n xs:=
 ⟨h.1,fun hn=>by
  obtain⟨b,off,e,hb,hc⟩:=h.2 hn;exact⟨b,off,e,hb,λj u hu=>(hk _ _ hb).trans (hc j u hu)⟩⟩
theorem Sl.more(h:Sl w B sz A n xs)(hB:B<=B'):Sl w B' sz A n xs:=
 ⟨h.1,fun hn=>by
  obtain⟨b,off,e,hb,hc⟩:=h.2 hn;exact⟨b,off,e,by omega,hc⟩⟩
theorem Sl.below(h:Sl w B sz A n xs)(hb:Below B w w'):Sl w' B sz A n xs:=h.A5 λb o hp=>hb.cell (p:=⟨b,o,none⟩) hp
theorem Sl.SU{C:Nat}(h:Sl w B sz A n xs)(hb:Below C w w')(hBC:B<=C):Sl w' B sz A n xs:=h.below (hb.mono hBC)
theorem Sl.XY{base:Nat}{e:TypeId}{c:Nat}(h:w.ownsRow base e sz (.slice A n c) n xs):Sl w w.heap.size sz A n xs:=by
 refine⟨h.1,λhn=>?_⟩;obtain⟨g,cap,hv,_,hlt⟩:=h.form hn;have hA:A=some ⟨g,0,none⟩:=by injection hv
 subst hA;have hc:=h.cells (g:=g) rfl;refine⟨g,0,rfl,hlt,λj u hu=>?_⟩;have:=hc j u hu;simp only[Addr.add] at this;split at this
 ·rename_i h0;subst h0;simpa using this
 ·simpa using this
end
theorem Dh(l:List Int):(AA l).length=l.length:=by simp[AA]
theorem KG(l:List Int)(i:Nat)(h:i<l.length):(AA l)[i]?=some (.int .i64 l[i]):=by simp[AA,h]
theorem Wv(l:List CL):∀(i:Nat) (_:i<l.length) (j:Nat),j<5->(Dk l)[i*5+j]?=(l[i]).cells[j]?:=by
 induction l with
 |nil=>intro i h;simp at h
 |cons a l ih=>
  intro i h j hj;have ha:(CL.cells a).length=5:=rfl;cases i with
  |zero=>
   simp only[Dk,List.flatMap_cons,Nat.zero_mul,Nat.zero_add,List.getElem_cons_zero];rw[List.getElem?_append_left Zo]
  |succ i=>
   simp only[Dk,List.flatMap_cons,List.getElem_cons_succ];rw[List.getElem?_append_right Zo,ha,show(i+1)*5+j-5=i*5+j from by omega];exact ih i (by simpa using h) j hj
theorem Sl.pick{w:World}{B:Nat}{A:Option Addr}{l:List Int}(h:Sl w B 1 A l.length (AA l)){i:Nat}(hi:i<l.length):
  ∃b off,A=some ⟨b,off,none⟩/\b<B/\w.cell? ⟨b,off+i,none⟩=some (.int .i64 l[i]):=by
 obtain⟨b,off,e,hb,hc⟩:=h.2 Zo
 exact⟨b,off,e,hb,hc i _ (KG l i hi)⟩
theorem Sl.yK{w:World}{B:Nat}{A:Option Addr}{l:List CL}(h:Sl w B 5 A l.length (Dk l)){i:Nat}(hi:i<l.length):
  ∃b off,A=some ⟨b,off,none⟩/\b<B/\w.cell? ⟨b,off+i*5,none⟩=some (.int .i64 l[i].Bt)/\w.cell? ⟨b,off+i*5+1,none⟩=some (.int .i64 l[i].op.kind)/\
   w.cell? ⟨b,off+i*5+2,none⟩=some (.int .i64 l[i].op.key)/\w.cell? ⟨b,off+i*5+3,none⟩=some (.int .i64 l[i].op.val)/\w.cell? ⟨b,off+i*5+4,none⟩=some (.int .i64 l[i].op.Aj):=by
 obtain⟨b,off,e,hb,hc⟩:=h.2 Zo
 have g:=Wv l i hi
 exact⟨b,off,e,hb,hc _ _ (g 0 Zo),hc _ _ (g 1 Zo),hc _ _ (g 2 Zo),hc _ _ (g 3 Zo),hc _ _ (g 4 Zo)⟩
def wP.v(x:wP)(A:Option Addr)(c:Nat)(A':Option Addr)(c':Nat):Value:=
 .agg #[.int .i64 x.st,.int .i64 x.en,.int .i64 x.th,.int .i64 x.sl,.int .i64 x.no,.slice A x.ops.length c,.slice A' x.E9.length c']
end Go.Proofs.YtaipogljokblkaaGreatDoor.Fn
namespace Go.Proofs.YtaipogljokblkaaGreatDoor
open Go Go.RowKit
def YH(o:Fn.KS):Bl:=⟨o.kind,o.key,o.val,o.Aj⟩
def Ar.put(P:Ar)(t:Fn.CL):Ar:=
 match P.AB[t.Bt.toNat]? with
 |some T=>P.queue t.Bt.toNat T (YH t.op)
 |none=>P
def Ar.fill(P:Ar)(l:List Fn.CL):Ar:=l.foldl Ar.put P
structure PU(st:Int)(n k:Nat)(P:Ar):Prop where
 s:P.st=st
 z:P.AB.length=n
 b:P.A4=[]
 t:∀(i:Nat) (T:MT),P.AB[i]?=some T->0<=T.Cs/\T.Cs<=k/\T.queue.length<=k
theorem PU.put{st:Int}{n k:Nat}{P:Ar}(h:PU st n k P)(t:Fn.CL):PU st n (k+1) (P.put t):=by
 unfold Ar.put;cases hT:P.AB[t.Bt.toNat]? with
 |none=>exact⟨h.s,h.z,h.b,λi T hi=>by have:=h.t i T hi;omega⟩
 |some T=>
  refine⟨h.s,?_,h.b,λi T' hi=>?_⟩
  ·show(P.AB.set _ _).length=n;rw[List.length_set];exact h.z
  ·have hi:(P.AB.set t.Bt.toNat {T with queue:=T.queue++[YH t.op],Cs:=T.Cs+1})[i]?=some T':=hi;have hk:=AJ hT;by_cases e:t.Bt.toNat=i
   ·subst e;rw[List.getElem?_set_self hk] at hi;injection hi with hi;subst hi;have:=h.t _ _ hT;simp;omega
   ·rw[List.getElem?_set_ne e] at hi;have:=h.t i T' hi;omega
theorem Rh(P:Ar)(l:List Fn.CL)(k:Nat)(h:k<l.length):P.fill (l.take (k+1))=(P.fill (l.take k)).put l[k]:=by
 unfold Ar.fill;rw[List.take_add_one,List.getElem?_eq_getElem h,Option.toList_some,List.foldl_append];rfl
theorem PU.fill{st:Int}{n:Nat}{P:Ar}(h:PU st n 0 P)(l:List Fn.CL):∀k,k<=l.length->PU st n k (P.fill (l.take k)):=by
 intro k;induction k with
 |zero=>intro _;exact h
 |succ k ih=>
  intro hk;rw[Rh P l k hk];exact(ih Zo).put _
theorem YK(st eng most:Int)(n ns:Nat):PU st n 0 (Ar.fresh st eng most n ns n):=
 ⟨rfl,Ar.MB _ _ _ _ _ _,rfl,fun i T hi=>by
  unfold Ar.fresh at hi;simp only at hi;rw[List.getElem?_map] at hi;cases hr:(List.range n)[i]? with
  |none=>rw[hr] at hi;cases hi
  |some j=>rw[hr] at hi;injection hi with hi;subst hi;exact⟨Int.le_refl _,Int.le_refl _,Nat.le_refl _⟩⟩
structure xT(w wr:World)(st eng most:Int)(n ns gp gh:Nat)(ops:List Fn.CL)(x:Array Value)(k:Nat):Prop where
 p:∃tv bv ro Fh Ft lab,Eh wr gp gh ((Ar.fresh st eng most n ns n).fill (ops.take k)) tv bv ro Fh Ft lab/\∀b,lab b<1000->w.heap.size<b
 c:Bk wr w.heap.size 47 x
 b:Below w.heap.size w wr
 e:AO wr
theorem xT.below{w wr wr':World}{st eng most:Int}{n ns gp gh:Nat}{ops:List Fn.CL}{x:Array Value}{k:Nat}(h:xT w wr st eng most n ns gp gh ops x k)(hb:Below wr.heap.size wr wr'):xT w wr' st eng most n ns gp gh ops x k:=by
 obtain⟨tv,bv,ro,Fh,Ft,lab,hp,hl⟩:=h.p;exact⟨⟨tv,bv,ro,Fh,Ft,lab,hp.below hb,hl⟩,h.c.Ad hb,h.b.trans (hb.mono h.b.size),h.e.below hb⟩
theorem xT.next{w wr wr':World}{st eng most:Int}{n ns gp gh:Nat}{ops:List Fn.CL}{x:Array Value}{k:Nat}{lab:Nat->Nat}(h:xT w wr st eng most n ns gp gh ops x k)(h40:7<=w.heap.size)(hl:∀b,lab b<1000->w.heap.size<b)(hr:xS wr gp gh ((Ar.fresh st eng most n ns n).fill (ops.take (k+1))) lab wr'):xT w wr' st eng most n ns gp gh ops x (k+1):=by
 obtain⟨tv,bv,ro,Fh,Ft,lab',hp,hc,hl'⟩:=hr;have hz:=h.b.size;have hcl:=h.c.lt;have Av:∀b,b<=w.heap.size->b<wr.heap.size->wr'.heap[b]?=wr.heap[b]?:=λb hb h1=>hc.Av b h1 λh2=>by have:=hl b h2;omega
 exact ⟨⟨tv,bv,ro,Fh,Ft,lab',hp,fun b hb=>(hl' b hb).elim (hl b) fun h'=>by omega⟩,h.c.same (Av _ (Nat.le_refl _) hcl),
  h.b.trans ⟨hc.os,hc.tape,hc.output,hc.size,λb hb=>Av b Zo Zo⟩,h.e.low (λb hb=>Av b Zo Zo) (by have:=hc.size;omega)⟩
theorem Rx(st eng most:Int)(n ns:Nat)(w:World)(he:AO w)(a0:1<=st)(b0:st<=5)(a1:1<=eng)(b1:eng<=5)(a2:1<=n)(b2:n<=6)(b3:ns<=1024)(a4:1<=most)(b4:most<=64)(hs:st=2\/st=4->1<=ns)
  (ops:List Fn.CL)(A A':Option Go.Addr)(c c' pn:Nat)(hl:Fn.Sl w w.heap.size 5 A ops.length (Fn.Dk ops))(h64:ops.length<=64)(hok:∀t∈ops,0<=t.Bt/\t.Bt<(n:Int)/\GM st (YH t.op)):
  Calls Tryz.prog 13 #[.agg #[.int .i64 st,.int .i64 eng,.int .i64 (n:Int),.int .i64 (ns:Int),.int .i64 most,.slice A ops.length c,.slice A' pn c']] w λen w'=>∃gp gh tv bv ro Fh Ft lab,en=.returned (.pointer (some ⟨gp,0,none⟩))/\Eh w' gp gh ((Ar.fresh st eng most n ns n).fill ops) tv bv ro Fh Ft lab/\Below w.heap.size w w'/\∀b,lab b<1000->w.heap.size<=b:=by
 have hal:=(Below.refl w.heap.size w).alloc (Nat.le_refl _) (.cells #[.int .i64 st,.int .i64 eng,.int .i64 (n:Int),.int .i64 (ns:Int),.int .i64 most,.slice A ops.length c,.slice A' pn c'] 47)
 have HX:=Zh (Bk.at_ (w:=w) (cs:=#[.int .i64 st,.int .i64 eng,.int .i64 (n:Int),.int .i64 (ns:Int),.int .i64 most,.slice A ops.length c,.slice A' pn c']) (t:=47) rfl)
 have HC:=Zh hal
 have HE:=Zh (he.below hal)
 have HS:=Zh hl
 have HO:=Zh hok
 have HI:=Zh ((YK st eng most n ns).fill ops)
 have h40:=he.lt
 have hol:(ops.length:Int)<=64:=Zo
 clear he hal hl hok
 go_enter Tryz.func13,Tryz.ntmps13
 have y0:=HX.out.cell 0;have y1:=HX.out.cell 1;have y2:=HX.out.cell 2;have y3:=HX.out.cell 3;have y4:=HX.out.cell 4
 simp at y0 y1 y2 y3 y4
 go_wp2_with fail
 refine(XS st eng most n ns _ HE.out a0 b0 a1 b1 a2 b2 b3 a4 b4 hs).mono ?_
 rintro e w1 ⟨gp,gh,tv,bv,ro,Fh,Ft,lab,rfl,hp,hb,hlb⟩
 have HB:Hid (xT w w1 st eng most n ns gp gh ops #[.int .i64 st,.int .i64 eng,.int .i64 (n:Int),.int .i64 (ns:Int),.int .i64 most,.slice A ops.length c,.slice A' pn c'] 0):=Zh ⟨⟨tv,bv,ro,Fh,Ft,lab,hp,λb h=>by have:=hlb b h;simp at this;omega⟩,HX.out.Ad hb,HC.out.trans (hb.mono HC.out.size),HE.out.below hb⟩
 clear hp hb hlb HX HC HE y0 y1 y2 y3 y4
 go_wp2_with fail
 go_loopw [5] (λi wr=>∃(k:Nat),k<=ops.length/\i=.int .i64 k/\xT w wr st eng most n ns gp gh ops #[.int .i64 st,.int .i64 eng,.int .i64 (n:Int),.int .i64 (ns:Int),.int .i64 most,.slice A ops.length c,.slice A' pn c'] k) (λi _=>ops.length-(intOf i).toNat)
 case atStart=>exact⟨0,Nat.zero_le _,rfl,HB.out⟩
 case round=>
  obtain⟨k,hk,rfl,L⟩:=hrel
  have HL:=Zh L
  clear L
  have y5:=HL.out.c.cell 5
  simp at y5
  by_cases hlt:k<ops.length
  ·have hlt':(k:Int)<(ops.length:Int):=Zo;obtain⟨b,off,rfl,hbl,_⟩:=HS.out.yK hlt;go_upto_region 7 with(fail);have HL2:=Zh (HL.out.below (Below.refl wr.heap.size wr).drew);clear HL y5;have y5:=HL2.out.c.cell 5;simp at y5;obtain⟨b',off',e',_,e0,e1,e2,e3,e4⟩:=(HS.out.below HL2.out.b).yK hlt;cases e';obtain⟨o1,o2,o3⟩:=HO.out ops[k] (List.getElem_mem hlt);obtain⟨i,hi0⟩:=Int.eq_ofNat_of_zero_le o1;rw[hi0] at e0 o2;have hI:=HI.out k hk;obtain⟨tv,bv,ro,Fh,Ft,lab,hp,hlb⟩:=HL2.out.p;obtain⟨T,hT⟩:∃T,((Ar.fresh st eng most n ns n).fill (ops.take k)).AB[i]?=some T:=⟨_,List.getElem?_eq_getElem (by rw[hI.z];omega)⟩;obtain⟨t1,t2,t3⟩:=hI.t i T hT;have hq:Calls Tryz.prog 9 #[.pointer (some ⟨gp,0,none⟩),.int .i64 (i:Int),.agg #[.int .i64 ops[k].op.kind,.int .i64 ops[k].op.key,.int .i64 ops[k].op.val,.int .i64 ops[k].op.Aj]] _ _:=fN hp HL2.out.e hT (YH ops[k].op) (by rw[hI.s];exact o3) t1 Zo Zo;have hput:((Ar.fresh st eng most n ns n).fill (ops.take k)).queue i T (YH ops[k].op)=(Ar.fresh st eng most n ns n).fill (ops.take (k+1)):=by
    rw[Rh _ _ _ hlt];unfold Ar.put;rw[hi0,Int.toNat_natCast,hT]
   rw[hput] at hq;have HQ:=Zh hlb;clear hput hT t1 t2 t3 hp hlb hI o1 o2 o3;refine Yb (λX=>X.cell? ⟨w.heap.size,5,none⟩=some (.slice (some ⟨b,off,none⟩) ops.length c)/\X.cell? ⟨b,off+k*5,none⟩=some (.int .i64 i)/\X.cell? ⟨b,off+k*5+1,none⟩=some (.int .i64 ops[k].op.kind)/\X.cell? ⟨b,off+k*5+2,none⟩=some (.int .i64 ops[k].op.key)/\X.cell? ⟨b,off+k*5+3,none⟩=some (.int .i64 ops[k].op.val)/\X.cell? ⟨b,off+k*5+4,none⟩=some (.int .i64 ops[k].op.Aj)) 15 Zk ⟨y5,e0,e1,e2,e3,e4⟩ (λhS=>?_);clear y5 e0 e1 e2 e3 e4;generalize wr.drew=w0 at*;((try simp only[ZL]);refine vT (fuel:=2) hS [0,1,2,3,4,5,6,7,8,9,10,11,12] ?_;simp only[Xv,Xp,List.toList_toArray];(repeat (first|go_big_quiet_skip|(go_big_quiet_want;first|(go_big_quiet_op;go_big_quiet_on)|(apply Exists.intro;refine⟨λw' hS'=>?_,?_⟩;(· ((obtain⟨q1,q2,q3,q4,q5,q6⟩:=hS');go_simp;first|done|rfl|exact⟨rfl,rfl⟩));go_big_quiet_on;simp only[ZL]))));refine wpQuiet_nil ?_;(try dsimp only));(refine Xh 13 Zk (λK hK=>?_);simp only[Xp,List.toList_toArray]);go_wp2_with fail;refine hq.mono ?_;rintro e w2 ⟨rfl,hr⟩;have HL3:=Zh (HL2.out.next h40 HQ.out hr);clear hr hq HQ HL2;have y5:=HL3.out.c.cell 5;simp at y5;obtain⟨b',off',e',_,e0,e1,e2,e3,e4⟩:=(HS.out.below HL3.out.b).yK hlt;cases e';rw[hi0] at e0;go_wp2_with fail;refine hK.out _ _ (λ_=>⟨y5,e0,e1,e2,e3,e4⟩) ?_;clear hK hS;have hS:=And.intro y5 (And.intro e0 (And.intro e1 (And.intro e2 (And.intro e3 e4))));clear y5 e0 e1 e2 e3 e4;((try simp only[ZL]);refine vT (fuel:=0) hS [14] ?_;simp only[Xv,Xp,List.toList_toArray];(repeat (first|go_big_quiet_skip|(go_big_quiet_want;first|(go_big_quiet_op;go_big_quiet_on)|(apply Exists.intro;refine⟨λw' hS'=>?_,?_⟩;(· (skip;go_simp;first|done|rfl|exact⟨rfl,rfl⟩));go_big_quiet_on;simp only[ZL]))));refine wpQuiet_nil ?_;(try dsimp only));refine Yg Zk ?_ _;go_wp2_with fail;refine⟨⟨k+1,by omega,by go_num,HL3.out⟩,by simp[intOf];omega⟩
  ·have hke:k=ops.length:=Zo;subst hke;have hlt':¬(ops.length:Int)<(ops.length:Int):=Zo;go_wp2_with fail;go_ret;obtain⟨tv,bv,ro,Fh,Ft,lab,hp,hlb⟩:=HL.out.p;rw[List.take_length] at hp;exact⟨gp,rfl,gh,tv,bv,ro,Fh,Ft,lab,hp,HL.out.b,λb hb=>Nat.le_of_lt (hlb b hb)⟩
theorem Un{α:Type}{l:List α}{k:Nat}{x:α}(h:l[k]?=some x):l.set k x=l:=by
 apply List.ext_getElem?;intro i;by_cases e:i=k
 ·subst e;rw[List.getElem?_set_self (AJ h),h]
 ·rw[List.getElem?_set_ne (λh=>e h.symm)]
section
variable{w w2:World}{gp gh:Nat}{P:Ar}{tv bv u:BB}{ro:List Fy}{Fh:List Nat}{Ft:Nat->Nat->Prop}{lab:Nat->Nat}{k:Nat}{T:MT}{x:Yp}
theorem Eh.mN(h:Eh w gp gh P tv bv ro Fh Ft lab)(h40:7<=w.heap.size)(hT:P.AB[k]?=some T)(hr:k<ro.length){g off n c:Nat}(ht:tv=⟨some ⟨g,off,none⟩,n,c⟩)(j:Nat)(v:Value)(r':Fy)(T':MT)(hr':r'.l=ro[k].l.set j v)(hj:j<4)(hth:jK w r' T' (Ft k)):
  ∃Fh Ft' lab',Eh (w.setCell ⟨g,off+k*4+j,none⟩ v) gp gh {P with AB:=P.AB.set k T'} tv bv (ro.set k r') Fh Ft' lab'/\∀b,lab' b<1000->lab b<1000\/w.heap.size<=b:=by
 have hk:=AJ hT
 have Md:=h.Md
 have hn:n=ro.length:=by have:=h.tvn;rw[ht] at this;rw[h.len];exact this
 subst ht
 have lg:lab g=1:=h.l1 g rfl
 have gr:=Xr w g (off+k*4+j) v
 have Av:∀b c,lab b=c->c≠1->b<w.heap.size->(w.setCell ⟨g,off+k*4+j,none⟩ v).heap[b]?=w.heap[b]?:=λb c e c1 hb=>gr.block b hb λe'=>c1 (by cases e';rw[←e,lg])
 have K5:=h.K5
 rw[show(⟨some ⟨g,off,none⟩,n,c⟩:BB).v=.slice (some ⟨g,off,none⟩) n c from rfl,hn] at K5
 have t2:=NC Us K5 k hr j v r' hr' hj
 rw[List.length_set] at t2
 obtain⟨Ft',lab',p1,p2⟩:=h.Ah (w2:=w.setCell ⟨g,off+k*4+j,none⟩ v) (P':={P with AB:=P.AB.set k T'}) (bv':=bv) (Fh':=Fh) (ro':=ro.set k r') (r':=r') (T':=T') (F':=Ft k) hk rfl rfl rfl
  (h.bk.same (Av gp 0 h.l0 Zd h.bk.lt)) (by rw[List.length_set,show(⟨some ⟨g,off,none⟩,n,c⟩:BB).v=.slice (some ⟨g,off,none⟩) n c from rfl,hn];exact t2) (h.Kw.kept λb hb=>Av b 2 (h.l2 b hb) Zd (h.Kw.lt hb)) (h.hp.same λb hb=>Av b 3 (h.l3 b hb) Zd (h.hp.lt b hb))
  (hth.A5 λb hb=>Av b (4+k) (h.l4 k b hk hb) Zo (h.aP hk b hb))
  (λi b hi hl hb=>Av b (4+i) (h.l4 i b hl hb) Zo (h.aP hl b hb)) (by simp[World.setCell]) h40
  (λb hb=>Or.inl (h.l2 b hb)) (λb hb=>Or.inl (h.l3 b hb)) (λb hb=>Or.inr (Or.inl (h.l4 k b hk hb)))
  (λb h2 h3=>by have:=h.l2 b h2;have:=h.l3 b h3;omega) (λb h2 h4=>by have:=h.l2 b h2;have:=h.l4 k b hk h4;omega) (λb h3 h4=>by have:=h.l3 b h3;have:=h.l4 k b hk h4;omega)
 exact⟨Fh,Ft',lab',p1,p2⟩
theorem Eh.A4(h:Eh w gp gh P tv bv ro Fh Ft lab)(h40:7<=w.heap.size)(hT:P.AB[k]?=some T)(hr:k<ro.length){l:List Yp}(bk:Bk w2 gp 74 #[.int .i64 P.st,.pointer (some ⟨gh,0,none⟩),tv.v,u.v])(ho:Own w2 42 10 u.v l.length (rows Yp.l l))
  (Av:∀b,b<w.heap.size->b≠gp->bv.v.ownBlock≠some b->w2.heap[b]?=w.heap[b]?)(hsz:w.heap.size<=w2.heap.size)(hf:∀b,u.v.ownBlock=some b->bv.v.ownBlock=some b\/w.heap.size<=b):
  ∃Fh Ft' lab',Eh w2 gp gh {P with A4:=l} tv u ro Fh Ft' lab'/\∀b,lab' b<1000->lab b<1000\/w.heap.size<=b:=by
 have hk:=AJ hT
 have Md:=h.Md
 have far':∀b c,lab b=c->c≠0->c≠2->b<w.heap.size->w2.heap[b]?=w.heap[b]?:=λb c e c0 c2 hb=>Av b hb (λe'=>c0 (by rw[←e,e',h.l0])) λe'=>c2 (by rw[←e,h.l2 b e'])
 have hth:=h.th k ro[k] T (List.getElem?_eq_getElem hr) hT
 have hu:∀b,u.v.ownBlock=some b->lab b=2\/w.heap.size<=b:=λb hb=>(hf b hb).imp (h.l2 b) id
 obtain⟨Ft',lab',p1,p2⟩:=h.Ah (w2:=w2) (P':={P with A4:=l}) (bv':=u) (Fh':=Fh) (ro':=ro) (r':=ro[k]) (T':=T) (F':=Ft k) hk (Un hT).symm Zs rfl
  bk (h.K5.kept λb hb=>far' b 1 (h.l1 b hb) Zd Zd (h.K5.lt hb)) ho (h.hp.same λb hb=>far' b 3 (h.l3 b hb) Zd Zd (h.hp.lt b hb))
  (hth.A5 λb hb=>far' b (4+k) (h.l4 k b hk hb) Zo Zo (h.aP hk b hb))
  (λi b hi hl hb=>far' b (4+i) (h.l4 i b hl hb) Zo Zo (h.aP hl b hb)) hsz h40
  hu (λb hb=>Or.inl (h.l3 b hb)) (λb hb=>Or.inr (Or.inl (h.l4 k b hk hb)))
  (λb h2 h3=>by have e3:=h.l3 b h3;have:=h.hp.lt b h3;have:=hu b h2;omega) (λb h2 h4=>by have e4:=h.l4 k b hk h4;have:=h.aP hk b h4;have:=hu b h2;omega) (λb h3 h4=>by have:=h.l3 b h3;have:=h.l4 k b hk h4;omega)
 exact⟨Fh,Ft',lab',p1,p2⟩
theorem Eh.wE(h:Eh w gp gh P tv bv ro Fh Ft lab)(h40:7<=w.heap.size)(hT:P.AB[k]?=some T)(hr:k<ro.length)(ho:Own w2 42 10 u.v (P.A4++[x]).length (rows Yp.l (P.A4++[x])))(hg:w.grownBy w2 bv.v.ownBlock)(hf:EW w bv.v u.v):
  ∃Fh Ft' lab',Eh (w2.setCell ⟨gp,3,none⟩ u.v) gp gh {P with A4:=P.A4++[x]} tv u ro Fh Ft' lab'/\∀b,lab' b<1000->lab b<1000\/w.heap.size<=b:=by
 have lgp:=h.bk.lt
 have nb:bv.v.ownBlock≠some gp:=λe=>by have:=h.l2 gp e;rw[h.l0] at this;omega
 have nu:u.v.ownBlock≠some gp:=λe=>(hf gp e).elim nb λh'=>by omega
 have gr:=Xr w2 gp 3 u.v
 refine h.A4 h40 hT hr (Yu ((h.bk.grown hg (λe=>nb e.symm)).E3 3 u.v) Zk) (ho.grown gr (Or.inr nu)) (λb hb h1 h2=>(gr.block b (Nat.lt_of_lt_of_le hb hg.size) λe=>h1 (by cases e;rfl)).trans (hg.block b hb λe=>h2 e.symm)) (Nat.le_trans hg.size gr.size) hf
theorem Eh.wD(h:Eh w gp gh P tv bv ro Fh Ft lab)(h40:7<=w.heap.size)(hT:P.AB[k]?=some T)(hr:k<ro.length){g off n c:Nat}(hb:bv=⟨some ⟨g,off,none⟩,n,c⟩)(i:Nat)(hi:i<P.A4.length):
  ∃Fh Ft' lab',Eh (w.setCell ⟨g,off+i*10+6,none⟩ (.bool true)) gp gh {P with A4:=P.A4.set i {P.A4[i] with real:=true}} tv bv ro Fh Ft' lab'/\∀b,lab' b<1000->lab b<1000\/w.heap.size<=b:=by
 have hn:n=P.A4.length:=by
  obtain⟨A,c',hv,_⟩:=Ys h.Kw;rw[hb] at hv;unfold BB.v at hv;injection hv
 subst hb
 have gr:=Xr w g (off+i*10+6) (.bool true)
 have l2:lab g=2:=h.l2 g rfl
 have ng:g≠gp:=λe=>by have:=h.l0;rw[e] at l2;omega
 have bo:=h.Kw
 rw[show(⟨some ⟨g,off,none⟩,n,c⟩:BB).v=.slice (some ⟨g,off,none⟩) n c from rfl,hn] at bo
 have t2:=NC V0 bo i hi 6 (.bool true) {P.A4[i] with real:=true} rfl Zd
 refine h.A4 h40 hT hr (h.bk.grown gr (λe=>ng (by cases e;rfl))) (by rw[List.length_set] at t2 ⊢;rw[show(⟨some ⟨g,off,none⟩,n,c⟩:BB).v=.slice (some ⟨g,off,none⟩) n c from rfl,hn];exact t2) (λb hb h1 h2=>gr.block b hb λe=>h2 (by cases e;rfl)) gr.size λb hb=>Or.inl hb
end
theorem Eh.same2{w w':World}{gp gh:Nat}{P:Ar}{tv bv:BB}{ro:List Fy}{Fh:List Nat}{Ft:Nat->Nat->Prop}{lab:Nat->Nat}(h:Eh w gp gh P tv bv ro Fh Ft lab)(hs:∀b,lab b<1000->b<w.heap.size->w'.heap[b]?=w.heap[b]?):Eh w' gp gh P tv bv ro Fh Ft lab:=by
 have Md:=h.Md;refine⟨h.bk.same (hs gp (by rw[h.l0];decide) h.bk.lt),h.K5.kept λb hb=>hs b (by rw[h.l1 b hb];decide) (h.K5.lt hb),h.Kw.kept λb hb=>hs b (by rw[h.l2 b hb];decide) (h.Kw.lt hb),h.hp.same λb hb=>hs b (by rw[h.l3 b hb];decide) (h.hp.lt b hb),h.len,λi r T h1 h2=>?_,h.l0,h.l1,h.l2,h.l3,h.l4,h.low,h.Md⟩;have hi:=AJ h2;exact(h.th i r T h1 h2).A5 λb hb=>hs b (by rw[h.l4 i b hi hb];omega) (h.aP hi b hb)
theorem S5{w:World}{gp gh:Nat}{P:Ar}{tv bv:BB}{ro:List Fy}{Fh:List Nat}{Ft:Nat->Nat->Prop}{lab:Nat->Nat}(h:Eh w gp gh P tv bv ro Fh Ft lab)(he:AO w){k:Nat}{T:MT}(hT:P.AB[k]?=some T)(hi:Ar.DT T=true):
  Calls Tryz.prog 17 #[.pointer (some ⟨gp,0,none⟩),.int .i64 (k:Int)] w λen w'=>(∃Ty q,en=.returned (.tuple #[.agg Yp.zero.l.toArray,.iface Ty (.pointer (some q))]))/\xS w gp gh P lab w':=by
 have hk:k<P.AB.length:=AJ hT
 have hhas:P.has (k:Int)=true:=by unfold Ar.has;simp;omega
 have hal:Below w.heap.size w (w.alloc (.cells Yp.zero.l.toArray 42)):=(Below.refl _ _).alloc (Nat.le_refl _) _
 have HP:=Zh (h.cut.below hal)
 have HE:=Zh (he.below hal)
 have HX:=Zh (Bk.at_ (w:=w) (g:=w.heap.size) (cs:=Yp.zero.l.toArray) (t:=42) rfl)
 have HC:=Zh hal
 have h40:=he.lt
 have hh:=L4 HP.out (k:Int)
 rw[hhas] at hh
 have hid:=OJ HP.out hT
 rw[hi] at hid
 clear h he hal
 go_enter Tryz.func17,Tryz.ntmps17
 go_upto_region 6 with(first|(go_at_call 24;refine hh.mono ?_;rintro e w1 ⟨rfl,rfl⟩)|(go_at_call 26;refine hid.mono ?_;rintro e w1 ⟨rfl,hb1⟩))
 have hb2:=hb1.trans ((Below.refl w1.heap.size w1).drew.mono hb1.size)
 have HP1:=Zh (HP.out.below hb2)
 have HE1:=Zh (HE.out.below hb2)
 have HX1:=Zh (HX.out.Ad hb2)
 have HC1:=Zh (HC.out.trans (hb2.mono HC.out.size))
 clear HP HE HX HC hb1 hb2 hh hid
 obtain⟨Ty,q,hst⟩:=HE1.out.state
 refine Yb (λX=>X.cell? ⟨4,0,none⟩=some (.iface Ty (.pointer (some q)))) 3 Zk hst (λhS=>?_)
 generalize w1.drew=W1 at*
 ((try simp only[ZL]);refine vT (fuel:=2) hS [0,1] ?_;simp only[Xv,Xp,List.toList_toArray];(repeat (first|go_big_quiet_skip|(go_big_quiet_want;first|(go_big_quiet_op;go_big_quiet_on)|(apply Exists.intro;refine⟨λw' hS'=>?_,?_⟩;(· (skip;go_simp;first|done|rfl|exact⟨rfl,rfl⟩));go_big_quiet_on;simp only[ZL]))));refine wpQuiet_nil ?_;(try dsimp only))
 (refine Xh 2 Zk (λK hK=>?_);simp only[Xp,List.toList_toArray])
 go_wp2_with (refine vM HX1.out ?_;intro W2 hstd;have HZ:=Zh hstd.bk;have HG:=Zh hstd.grown;clear hstd)
 have hst2:W2.cell? ⟨4,0,none⟩=some (.iface Ty (.pointer (some q))):=(FQ (HG.out.block 4 (by have:=HC1.out.size;omega) (λe=>by injection e with e;omega)) 0).trans hst
 refine hK.out _ _ (λ_=>hst2) ?_
 clear hK hS hst hst2
 ((refine Xh 3 Zk (λK hK=>?_);simp only[Xp,List.toList_toArray]);go_wp2_with fail;refine hK.out _ _ (λh=>absurd h Zo) ?_;clear hK)
 refine Yg Zk ?_ _
 have HD:Hid (xS w gp gh P lab W2):=Zh (by
  have hzw:w.heap.size<W1.heap.size:=HX1.out.lt;refine⟨tv,bv,ro,Fh,Ft,_,HP1.out.same2 λx hx hl=>HG.out.block x hl λe=>?_,⟨HG.out.os.trans HC1.out.os,HG.out.tape.trans HC1.out.tape,HG.out.output.trans HC1.out.output,Nat.le_trans HC1.out.size HG.out.size,λx hx _=>(HG.out.block x Zo λe=>by cases e;omega).trans (HC1.out.block x hx)⟩,λb hb=>?_⟩
  ·cases e;have hx:(if w.heap.size<w.heap.size then lab w.heap.size else 1000)<1000:=hx;rw[if_neg Zo] at hx;omega
  ·have hb:(if b<w.heap.size then lab b else 1000)<1000:=hb;split at hb
   ·exact Or.inl hb
   ·omega)
 have z0:=HZ.out.cell 0;have z1:=HZ.out.cell 1;have z2:=HZ.out.cell 2;have z3:=HZ.out.cell 3;have z4:=HZ.out.cell 4;have z5:=HZ.out.cell 5;have z6:=HZ.out.cell 6;have z7:=HZ.out.cell 7;have z8:=HZ.out.cell 8;have z9:=HZ.out.cell 9
 simp at z0 z1 z2 z3 z4 z5 z6 z7 z8 z9
 clear HZ HG HP1 HE1 HX1 HC1
 go_wp2_with fail
 refine bodyPost_ret (v:=.tuple #[.agg Yp.zero.l.toArray,.iface Ty (.pointer (some q))]) (by simp[results,Tryz.results17,go_sem,Yp.l,Bl.l,DQ.l,Yp.zero,Bl.zero,DQ.zero,z0,z1,z2,z3,z4,z5,z6,z7,z8,z9]) rfl ?_
 exact⟨⟨Ty,q,rfl⟩,HD.out⟩
end Go.Proofs.YtaipogljokblkaaGreatDoor
