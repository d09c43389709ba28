/- Core: LO, LP, LQ, LR, QO, BeN. -/
import Derived.Test.YtaipogljokblkaaGreatDoorW38
import Derived.Test.YtaipogljokblkaaGreatDoorW32
import Derived.Test.YtaipogljokblkaaGreatDoorW01
import Derived.Test.YtaipogljokblkaaGreatDoorW47
import Derived.Test.YtaipogljokblkaaGreatDoorW33
set_option linter.all false
set_option maxRecDepth 100000
set_option maxHeartbeats 8000000
namespace Go.Proofs.YtaipogljokblkaaGreatDoor
open Go Go.RowKit
set_option linter.unusedSimpArgs false
set_option linter.unusedVariables false
set_option linter.unusedSectionVars false
structure GI(st:Int)(n nt t:Nat)(P:Ar):Prop where
 s:P.st=st
 z:P.AB.length=nt
 h:HI st n P.heap
 b:P.A4.length<=t
 v:∀(i:Nat) (T:MT),P.AB[i]?=some T->VI st n t T.V/\(∀o∈T.queue,Zy st o)/\-1<=T.last/\T.last<(P.A4.length:Int)
section
variable{st:Int}{n nt t k:Nat}{P:Ar}{T:MT}
theorem Uz(h:VI st n t T.V)(hq:∀o∈T.queue,Zy st o)(hi:Ar.DT T=false):VI st n (t+6) (Ar.ready T).V/\(Ar.ready T).V.Ae≠0/\(∀o∈(Ar.ready T).queue,Zy st o)/\(Ar.ready T).last=T.last:=by
 unfold Ar.ready;unfold Ar.DT at hi;cases hb:T.V.busy with
 |true=>
  refine⟨h.up Zo,λe=>?_,hq,rfl⟩;have e:T.V.Ae=0:=e;unfold MV.busy at hb;rw[e] at hb;cases hb
 |false=>
  have h0:T.V.Ae=0:=by unfold MV.busy at hb;simpa using hb
  rw[hb] at hi;cases hc:T.queue with
  |nil=>rw[hc] at hi;cases hi
  |cons o r=>
   have ho:=hq o (by rw[hc];exact List.mem_cons_self ..);obtain⟨g1,g2⟩:=vH h h0 ho;exact⟨g1,g2,λx hx=>hq x (by rw[hc];exact List.mem_cons_of_mem _ hx),rfl⟩
theorem aF(h:GI st n nt t P)(hT:P.AB[k]?=some T)(hi:Ar.DT T=false)(ht:t<=60000)(hn:n<=1024):
  (T.V.busy=false->∀o r,T.queue=o::r->GM T.V.st o/\VO T.V.M/\T.V.M.R.step=0/\PT (MV.Ag {T.V with op:=o,BJ:=some (Yz.new T.V.st o),BR:=.zero} 1 Yv))/\jF (Ar.ready T).V P.heap/\
  GI st n nt (t+12) (P.EA k T).1/\Ny P.heap (P.EA k T).1.heap:=by
 obtain⟨v1,v2,v3,v4⟩:=h.v k T hT
 obtain⟨r1,r2,r3,r4⟩:=Uz v1 v2 hi
 obtain⟨s1,s2,s3⟩:=tE r1 r2 h.h
 have hbl:(P.EA k T).1.A4.length=P.A4.length+1:=by
  unfold Ar.EA;simp only[List.length_append,List.length_cons,List.length_nil];cases((Ar.ready T).V.step P.heap).2.2.real==1&&decide (0<=T.last)<;>simp
 refine⟨λhb o r hq=>?_,tJ r1 r2 h.h Zo hn,⟨h.s,?_,s2,by rw[hbl];have:=h.b;omega,λi T' hi'=>?_⟩,s3⟩
 ·have h0:T.V.Ae=0:=by unfold MV.busy at hb;simpa using hb
  have ho:=v2 o (by rw[hq];exact List.mem_cons_self ..);obtain⟨g1,g2,g3⟩:=hH v1 h0 ho Zo;exact⟨by rw[v1.VT];exact ho,g1,g2,g3⟩
 ·show(P.AB.set _ _).length=nt;rw[List.length_set];exact h.z
 ·rw[hbl];have hi':(P.AB.set k {Ar.ready T with V:=((Ar.ready T).V.step P.heap).1,last:=P.A4.length})[i]?=some T':=hi';have hk:k<P.AB.length:=by
   rcases Nat.lt_or_ge k P.AB.length with h|h
   ·exact h
   ·rw[List.getElem?_eq_none h] at hT;cases hT
  by_cases e:k=i
  ·subst e;rw[List.getElem?_set_self hk] at hi';injection hi' with hi';subst hi';exact⟨s1.up Zo,r3,by show(-1:Int)<=(P.A4.length:Int);omega,by show(P.A4.length:Int)<_;omega⟩
  ·rw[List.getElem?_set_ne e] at hi';obtain⟨u1,u2,u3,u4⟩:=h.v i T' hi';exact⟨u1.up Zo,u2,u3,by omega⟩
end
structure HB(n:Nat)(p:Pl):Prop where
 nb:p.nb=85
 ns:p.ns=n
 VM:∀x∈p.free,1<=x/\x<=(n:Int)
 qD:p.free.Nodup
 hO:∀x∈p.free,(p.slot x).used=false
 bd:∀r,CI n (p.board r)/\(p.board r).tg=0
 cell:∀s f,CI n ((p.slot s).cell f)
section
variable{n:Nat}{p:Pl}{st:Int}
theorem HB.fresh(n:Nat):HB n (Pl.fresh 85 n):=by
 refine⟨rfl,rfl,λx hx=>?_,?_,λx hx=>rfl,λr=>⟨Yq,rfl⟩,λs f=>Yq⟩
 ·unfold Pl.fresh Pl.down at hx;simp at hx;obtain⟨i,hi,rfl⟩:=hx;omega
 ·show(Pl.down n n).Nodup;unfold Pl.down;unfold List.Nodup;rw[List.pairwise_map];exact List.Pairwise.imp (λh=>by omega) List.nodup_range
theorem HB.stored(h:HB n p)(fd:Int){y:Xd}(hy:CI n y)(ht:y.tg=0):HB n (p.stored fd y):=
 ⟨h.nb,h.ns,h.VM,h.qD,h.hO,fun r=>by
  show CI n (Ah p.board fd y r)/\(Ah p.board fd y r).tg=0;by_cases e:r=fd
  ·subst e;rw[Xy];exact⟨hy,ht⟩
  ·rw[Bw _ _ e];exact h.bd r,h.cell⟩
theorem HB.alloc(h:HB n p){l:List Int}{m:Int}(hf:p.free=l++[m]):HB n (p.act Pl.A6).1/\CH n (p.act Pl.A6).2.word/\(p.act Pl.A6).1.board=p.board:=by
 have e1:p.free.getLast?=some m:=by rw[hf];simp
 have e2:p.free.dropLast=l:=by rw[hf];simp
 have e:p.act Pl.A6=({p with steps:=wr (p.steps+1),free:=l,slot:=Ah p.slot m ⟨wr ((p.slot m).Ap+1),true,Ah (λ_=>.zero) 9 (Y5 0)⟩,made:=wr (p.made+1)},⟨⟨m,wr ((p.slot m).Ap+1),0,0,false⟩,true⟩):=by
  show Pl.alloc {p with steps:=wr (p.steps+1)} _=_;unfold Pl.alloc;simp only[e1,e2];rfl
 rw[e];have hm:=h.VM m (by rw[hf];simp);have hnd:=h.qD;rw[hf] at hnd;refine⟨⟨h.nb,h.ns,λx hx=>h.VM x (by rw[hf];exact List.mem_append_left _ hx),(List.nodup_append.1 hnd).1,λx hx=>?_,h.bd,λs f=>?_⟩,⟨hm.1,hm.2⟩,rfl⟩
 ·have hne:x≠m:=λe=>by
   subst e;exact(List.nodup_append.1 hnd).2.2 x hx x Zs rfl
  show(Ah p.slot m _ x).used=false;rw[Bw _ _ hne];exact h.hO x (by rw[hf];exact List.mem_append_left _ hx)
 ·show CI n ((Ah p.slot m _ s).cell f);by_cases e:s=m
  ·subst e;rw[Xy];show CI n (Ah (λ_=>Xd.zero) 9 (Y5 0) f);by_cases e:f=9
   ·subst e;rw[Xy];exact Cg
   ·rw[Bw _ _ e];exact Yq
  ·rw[Bw _ _ e];exact h.cell s f
theorem HB.hi(h:HB n p)(hs:st=2->CH n (p.board 0)):HI st n p:=
 ⟨h.nb,h.ns,h.VM,h.qD,h.hO,fun r _ _=>⟨(h.bd r).1,fun e _ e0=>by
  have e0:r=0:=e0;subst e0;exact hs e⟩,λs f _ _ _ _=>h.cell s f⟩
theorem vC(st:Int)(n:Nat)(hs:st=2\/st=4->1<=n):HB n (Pl.laid st n)/\(st=2->CH n ((Pl.laid st n).board 0)):=by
 have h0:HB n (Pl.begun n):=(HB.fresh n).stored 24 (Cg) rfl;unfold Pl.laid;by_cases s2:st=2
 ·subst s2;obtain⟨l,m,hf⟩:=GJ n (hs (Or.inl rfl));obtain⟨h1,h2,_⟩:=h0.alloc hf;have h3:CH n (AF ((Pl.begun n).act Pl.A6).2.word):=h2;have h4:CI n (AF ((Pl.begun n).act Pl.A6).2.word):=E7 h3;show HB n (Pl.begun n).EI/\(_->CH n ((Pl.begun n).EI.board 0));refine⟨(h1.stored 0 h4 rfl).stored 1 h4 rfl,λ_=>?_⟩;have e:∀(p1:Pl) (y:Xd),((p1.stored 0 y).stored 1 y).board 0=y:=λp1 y=>rfl;show CH n ((Pl.begun n).EI.board 0);unfold Pl.EI;rw[e];exact h3
 ·rw[show(st==2)=false from by simp[s2]];by_cases s4:st=4
  ·subst s4;obtain⟨l,m,hf⟩:=GJ n (hs (Or.inr rfl));obtain⟨h1,h2,_⟩:=h0.alloc hf;have h3:CI n (AF ((Pl.begun n).act Pl.A6).2.word):=E7 h2;exact⟨(h1.stored 8 h3 rfl).stored 16 (Cg) rfl,λe=>absurd e Zd⟩
  ·rw[show(st==4)=false from by simp[s4]];exact⟨h0,λe=>absurd e s2⟩
end
section
variable{st eng me th most:Int}{n nt t:Nat}{P:Ar}
theorem pR(a1:1<=eng)(b1:eng<=5)(m0:0<=me)(m1:me<6)(t0:1<=th)(t1:th<=6):VI st n 0 (MV.fresh st eng me th most):=
 ⟨rfl,⟨m0,m1,t0,t1,by show eng=1\/eng=2\/eng=3\/eng=4\/eng=5;omega,Nat.le_refl _,List.Sublist.refl _,Nat.zero_le _,λd hd=>by cases hd⟩,Or.inl ⟨rfl,rfl⟩⟩
theorem OS(hs:st=2\/st=4->1<=n)(a1:1<=eng)(b1:eng<=5)(t0:1<=nt)(t1:nt<=6):GI st n nt 0 (Ar.fresh st eng most nt n nt):=by
 obtain⟨l1,l2⟩:=vC st n hs;refine⟨rfl,Ar.MB _ _ _ _ _ _,l1.hi l2,Nat.le_refl _,λi T hi=>?_⟩;unfold Ar.fresh at hi;simp only at hi;rw[List.getElem?_map] at hi;cases hr:(List.range nt)[i]? with
 |none=>rw[hr] at hi;cases hi
 |some j=>
  rw[hr] at hi;injection hi with hi;subst hi;have hj:j<nt:=by
   have:=List.mem_of_getElem? hr;simpa using this
  exact⟨pR a1 b1 Zo Zo Zo Zo,(λ(o:Bl) (ho:o∈([]:List Bl))=>by cases ho),by show(-1:Int)<=-1;omega,by show(-1:Int)<0;omega⟩
theorem GI.put(h:GI st n nt t P)(x:Fn.CL)(hx:Zy st (YH x.op)):GI st n nt t (P.put x):=by
 unfold Ar.put;cases hT:P.AB[x.Bt.toNat]? with
 |none=>exact h
 |some T=>
  have hk:x.Bt.toNat<P.AB.length:=by
   rcases Nat.lt_or_ge x.Bt.toNat P.AB.length with h|h
   ·exact h
   ·rw[List.getElem?_eq_none h] at hT;cases hT
  refine⟨h.s,?_,h.h,h.b,λi T' hi=>?_⟩
  ·show(P.AB.set _ _).length=nt;rw[List.length_set];exact h.z
  ·have hi:(P.AB.set x.Bt.toNat {T with queue:=T.queue++[YH x.op],Cs:=T.Cs+1})[i]?=some T':=hi;by_cases e:x.Bt.toNat=i
   ·subst e;rw[List.getElem?_set_self hk] at hi;injection hi with hi;subst hi;obtain⟨v1,v2,v3,v4⟩:=h.v _ T hT;refine⟨v1,λo ho=>?_,v3,v4⟩;have ho:o∈T.queue++[YH x.op]:=ho;rcases List.mem_append.1 ho with ho|ho
    ·exact v2 o ho
    ·simp at ho;subst ho;exact hx
   ·rw[List.getElem?_set_ne e] at hi;exact h.v i T' hi
theorem GI.fill:∀(l:List Fn.CL) (P:Ar),GI st n nt t P->(∀x∈l,Zy st (YH x.op))->GI st n nt t (P.fill l)
 |[],_,h,_=>h
 |x::l,P,h,hl=>GI.fill l (P.put x) (h.put x (hl x (List.mem_cons_self ..))) λy hy=>hl y (List.mem_cons_of_mem _ hy)
end
namespace Fn
theorem YF{st:Int}(h1:1<=st)(h5:st<=5)(b:Nat):KF st b∈BE st:=by
 have hl:0<(BE st).length:=by
  obtain rfl|rfl|rfl|rfl|rfl:st=1\/st=2\/st=3\/st=4\/st=5:=Zo;all_goals decide
 unfold KF;rw[List.getElem?_eq_getElem (Nat.mod_lt b hl)];exact List.getElem_mem _
theorem hU{st k x y:Int}(h1:1<=st)(h5:st<=5)(hk:k∈BE st)(x0:0<=x)(x1:x<=255)(y0:0<=y)(y1:y<=255):J5 st (Ga st k x y)=true:=by
 rw[BA];have hst:st=1\/st=2\/st=3\/st=4\/st=5:=Zo;rcases hst with rfl|rfl|rfl|rfl|rfl<;>simp[BE] at hk;all_goals
  rcases hk with rfl|hk
  ·simp[Ga,EY];omega
  ·first
    |(rcases hk with rfl|rfl<;>simp[Ga,EY]<;>omega)
    |(subst hk;simp[Ga,EY])
theorem qM(s:ByteArray):1<=Ct s/\Ct s<=5:=by unfold Ct;omega
theorem LH{s:ByteArray}:∀t∈(dec s).ops,0<=t.Bt/\t.Bt<Ev s/\GM (Ct s) (YH t.op):=by
 intro t ht;have ht:t∈EL s (dN s):=ht;unfold EL at ht;obtain⟨i,_,rfl⟩:=List.mem_map.1 ht;have h6:1<=Ev s:=by unfold Ev;omega
 refine⟨Int.emod_nonneg _ Zo,Int.emod_lt_of_pos _ Zo,?_⟩;have hs:=qM s;have:=hU hs.1 hs.2 (YF hs.1 hs.2 (Jd s (7+4*i))) (x:=Jd s (8+4*i)) (y:=Jd s (9+4*i)) Zo (by have:=IL s (8+4*i);omega) Zo (by have:=IL s (9+4*i);omega);rw[BA] at this;exact this
end Fn
namespace Ar
def idle(P:Ar)(k:Nat):Bool:=match P.AB[k]? with
 |none=>true
 |some T=>DT T
def runT:Nat->Ar->Nat->Ar
 |0,P,_=>P
 |m+1,P,k=>match P.AB[k]? with
  |none=>P
  |some T=>bif DT T then P else runT m (P.EA k T).1 k
theorem Fg{P:Ar}{k:Nat}(h:P.idle k=true):∀m,runT m P k=P
 |0=>rfl
 |m+1=>by
  unfold runT;unfold idle at h;cases hT:P.AB[k]? with
  |none=>rfl
  |some T=>rw[hT] at h;simp only at h ⊢;rw[h];rfl
theorem Mp{P:Ar}{k:Nat}{T:MT}(hT:P.AB[k]?=some T)(h:DT T=false)(m:Nat):runT (m+1) P k=runT m (P.EA k T).1 k:=by
 show (match P.AB[k]? with
  |none=>P
  |some T=>bif DT T then P else runT m (P.EA k T).1 k)=_
 rw[hT];simp only;rw[h];rfl
def ET(m:Nat)(P:Ar):Nat->Ar
 |0=>P
 |k+1=>runT m (ET m P k) k
end Ar
def PP:Prop:=∀{w:World} {gp gh:Nat} {P:Ar} {tv bv:BB} {ro:List Fy} {Fh:List Nat} {Ft:Nat->Nat->Prop} {lab:Nat->Nat} (_:Eh w gp gh P tv bv ro Fh Ft lab) (_:AO w) {k:Nat} {T:MT} (_:P.AB[k]?=some T) (_:Ar.DT T=false)
  (_:T.V.busy=false->∀o r,T.queue=o::r->GM T.V.st o/\VO T.V.M/\T.V.M.R.step=0/\PT (MV.Ag {T.V with op:=o,BJ:=some (Yz.new T.V.st o),BR:=.zero} 1 Yv)) (_:jF (Ar.ready T).V P.heap) (_:-1<=T.last) (_:T.last<(P.A4.length:Int)) (_:P.A4.length<=100000),
  Calls Tryz.prog 17 #[.pointer (some ⟨gp,0,none⟩),.int .i64 (k:Int)] w λen w'=>en=.returned (.tuple #[.agg (P.EA k T).2.l.toArray,.nilIface])/\xS w gp gh (P.EA k T).1 lab w'
structure PW(w0 w:World)(gp gh:Nat)(st:Int)(n nt t:Nat)(P:Ar):Prop where
 p:∃tv bv ro Fh Ft lab,Eh w gp gh P tv bv ro Fh Ft lab/\∀b,lab b<1000->w0.heap.size<=b
 g:GI st n nt t P
 e:AO w
 b:Below w0.heap.size w0 w
 z:7<=w0.heap.size
section
variable{w0 w w':World}{gp gh:Nat}{st:Int}{n nt t k:Nat}{P P':Ar}{T:MT}{lab:Nat->Nat}
theorem PW.next(h:PW w0 w gp gh st n nt t P)(hl:∀b,lab b<1000->w0.heap.size<=b)(hr:xS w gp gh P' lab w'){t':Nat}(hg:GI st n nt t' P'):PW w0 w' gp gh st n nt t' P':=by
 obtain⟨tv,bv,ro,Fh,Ft,lab',hp,hc,hl'⟩:=hr;have hz:=h.b.size;have h40:=h.z;have Av:∀b,b<w0.heap.size->w'.heap[b]?=w.heap[b]?:=λb hb=>hc.Av b Zo λh2=>by have:=hl b h2;omega
 exact ⟨⟨tv,bv,ro,Fh,Ft,lab',hp,fun b hb=>(hl' b hb).elim (hl b) fun h'=>by omega⟩,hg,h.e.low (fun b hb=>Av b Zo) (by have:=hc.size;omega),
  h.b.trans ⟨hc.os,hc.tape,hc.output,hc.size,Av⟩,h40⟩
theorem PW.below(h:PW w0 w gp gh st n nt t P)(hb:Below w.heap.size w w'):PW w0 w' gp gh st n nt t P:=by
 obtain⟨tv,bv,ro,Fh,Ft,lab,hp,hl⟩:=h.p;exact⟨⟨tv,bv,ro,Fh,Ft,lab,hp.below hb,hl⟩,h.g,h.e.below hb,h.b.trans (hb.mono h.b.size),h.z⟩
theorem PW.AB(h:PW w0 w gp gh st n nt t P)(hk:k<nt):∃T,P.AB[k]?=some T:=⟨_,List.getElem?_eq_getElem (by rw[h.g.z];exact hk)⟩
theorem PW.idle(h:PW w0 w gp gh st n nt t P)(hT:P.AB[k]?=some T):Calls Tryz.prog 26 #[.pointer (some ⟨gp,0,none⟩),.int .i64 (k:Int)] w λen w'=>en=.returned (.bool (Ar.DT T))/\PW w0 w' gp gh st n nt t P:=by
 obtain⟨tv,bv,ro,Fh,Ft,lab,hp,hl⟩:=h.p;refine(OJ hp hT).mono ?_;rintro e w1 ⟨rfl,hb⟩;exact⟨rfl,h.below hb⟩
theorem PW.pick(hP:PP)(h:PW w0 w gp gh st n nt t P)(hT:P.AB[k]?=some T)(hi:Ar.DT T=false)(ht:t<=60000)(hn:n<=1024):
  Calls Tryz.prog 17 #[.pointer (some ⟨gp,0,none⟩),.int .i64 (k:Int)] w λen w'=>en=.returned (.tuple #[.agg (P.EA k T).2.l.toArray,.nilIface])/\PW w0 w' gp gh st n nt (t+12) (P.EA k T).1:=by
 obtain⟨tv,bv,ro,Fh,Ft,lab,hp,hl⟩:=h.p
 obtain⟨g1,g2,g3,_⟩:=aF h.g hT hi ht hn
 have hv:=h.g.v k T hT
 have hb:=h.g.b
 refine(hP hp h.e hT hi g1 g2 hv.2.2.1 hv.2.2.2 Zo).mono ?_
 rintro e w1 ⟨rfl,hr⟩
 exact⟨rfl,h.next hl hr g3⟩
theorem PW.nQ(h:PW w0 w gp gh st n nt t P)(hT:P.AB[k]?=some T)(hi:Ar.DT T=true):
  Calls Tryz.prog 17 #[.pointer (some ⟨gp,0,none⟩),.int .i64 (k:Int)] w λen w'=>(∃Ty q,en=.returned (.tuple #[.agg Yp.zero.l.toArray,.iface Ty (.pointer (some q))]))/\PW w0 w' gp gh st n nt t P:=by
 obtain⟨tv,bv,ro,Fh,Ft,lab,hp,hl⟩:=h.p
 refine(S5 hp h.e hT hi).mono ?_
 rintro e w1 ⟨he,hr⟩
 exact⟨he,h.next hl hr h.g⟩
end
theorem xF(x:Xn):x.l.length=7:=rfl
theorem ntone(x:Xn):∀u∈x.l,u.oneCell'=true:=by intro u hu;simp[Xn.l,Xd.l] at hu;rcases hu with rfl|rfl|rfl|rfl|rfl|rfl|rfl<;>rfl
theorem gE(l:List Xn):∀u∈rows Xn.l l,u.oneCell'=true:=by
 intro u hu;unfold rows at hu;obtain⟨x,_,hx⟩:=List.mem_flatMap.1 hu;exact ntone x u hx
theorem Pp(w:World)(A:Option Addr)(c:Nat)(l:List Xn)(h:Own w 201 7 (.slice A l.length c) l.length (rows Xn.l l))(hl:l.length<=100000):
  Calls Tryz.prog 82 #[.slice A l.length c] w (Ta w 201 7 l.length (rows Xn.l l)):=by
 cases A with
 |none=>
  have hn:l.length=0/\c=0:=by
   rcases h.2 with⟨h',h0⟩|⟨g,off,cap,A,R,hv,_⟩
   ·injection h' with e1 e2 e3;exact⟨h0,e3⟩
   ·cases hv
  obtain⟨hn,rfl⟩:=hn
  have hnil:rows Xn.l l=[]:=List.eq_nil_of_length_eq_zero (by rw[Yx xF,hn])
  rw[hnil,hn]
  have hq:∀w,(binOp .eql 64 (.slice none 0 0) (.slice none 0 0)).run Tryz.prog w=.ok (.bool true) w:=λw=>Lib.run_eql_slice_nil (P:=Tryz.prog) w 64 201 none 0 0 0 0 Tryz.underlying64
  go_enter Tryz.func82,Tryz.ntmps82
  go_wp2_with fail
  go_ret
  exact⟨_,rfl,Own.nil,Below.refl _ _,λb e=>by cases e⟩
 |some a=>
  obtain⟨g,off,ha⟩:∃g off,a=⟨g,off,none⟩:=by
   rcases h.2 with⟨h',h0⟩|⟨g,off,cap,A,R,hv,_⟩
   ·cases h'
   ·cases hv;exact⟨_,_,rfl⟩
  subst ha
  have hq:∀w,(binOp .eql 64 (.slice (some ⟨g,off,none⟩) l.length c) (.slice none 0 0)).run Tryz.prog w=.ok (.bool false) w:=λw=>Lib.run_eql_slice_nil (P:=Tryz.prog) w 64 201 (some ⟨g,off,none⟩) l.length c 0 0 Tryz.underlying64
  obtain⟨inf,hi,hz,hz1,hz2⟩:=info_parts Ly
  obtain⟨v',w',hrun,ho,hgr,hf⟩:=Py (w.alloc (.cells #[] 201)) 64 201 inf _ 7 56 Tryz.underlying64 hi hz hz1 hz2 rfl Zo w.heap.size (Bk.at_ rfl) ⟨g,off,none⟩ l.length c (rows Xn.l l) (Yx xF l)
   (λj u hu=>by rw[Addr.add_lit];exact BW (h.alloc _) j u hu) (gE l) (by simp only[maxLen];omega) Zo
  have hB:Below w.heap.size w w':=((Below.refl _ _).alloc (Nat.le_refl _) _).trans (JD hgr Zs (by intro b e;cases e))
  have hF:∀b,v'.ownBlock=some b->w.heap.size<=b:=λb e=>by
   rcases hf b e with h1|h1
   ·cases h1;exact Nat.le_refl _
   ·simp at h1;omega
  have HE:=Zh (And.intro ho (And.intro hB hF));clear ho hB hF hgr hf h
  go_enter Tryz.func82,Tryz.ntmps82
  go_wp2_with (at_builtin;refine Ye Zr _ _ _ _ _ _ _ Zr Zr Zr hrun ?_)
  go_ret
  exact⟨_,rfl,HE.out⟩
def Zw(w:World)(n:Nat)(en:Ending)(w':World):Prop:=∃A c,en=.returned (.slice A n c)/\Below w.heap.size w w'
theorem Zw.of{w w':World}{n:Nat}{l:List Xn}{en:Ending}(h:Ta w 201 7 n (rows Xn.l l) en w'):Zw w n en w':=by
 obtain⟨v,rfl,h1,h2,_⟩:=h;obtain⟨A,c,rfl,_⟩:=Ys h1;exact⟨A,c,rfl,h2⟩
theorem WT{w:World}{gr:Nat}{M:MR}{F:List Nat}(h:KR w gr M F)(hl:M.ns.length<=100000):
  Calls Tryz.prog 60 #[.pointer (some ⟨gr,0,none⟩)] w (Zw w M.ns.length):=by
 obtain⟨a,b,c,h,_⟩:=h
 obtain⟨A,cc,hv,_⟩:=Ys h.on
 have ho:=h.on
 have c98:=(wY h.bk).1
 rw[hv] at ho c98
 have hq:=Pp w A cc M.ns ho hl
 clear h ho hv
 go_enter Tryz.func60,Tryz.ntmps60
 go_wp2_with fail
 refine hq.mono ?_
 rintro e w1 hr
 obtain⟨A',c',rfl,hb⟩:=Zw.of hr
 clear hr hq
 go_wp2_with fail
 go_ret
 exact⟨_,_,rfl,hb⟩
theorem VU{w:World}{gv:Nat}{V:MV}{F:Nat->Prop}(h:VB w gv V F)(hl:V.M.ns.length<=100000):
  Calls Tryz.prog 38 #[.pointer (some ⟨gv,0,none⟩)] w (Zw w V.M.ns.length):=by
 obtain⟨gr,jv,F1,h1,h2,_,_⟩:=h
 have hr:∃Fr,KR w gr V.M Fr:=by
  cases hj:V.BJ with
  |none=>rw[hj] at h2;obtain⟨_,Fr,h,_⟩:=h2;exact⟨Fr,h⟩
  |some J=>rw[hj] at h2;obtain⟨Fr,_,h,_⟩:=h2;exact⟨Fr,h⟩
 obtain⟨Fr,hr⟩:=hr
 have hq:=WT hr hl
 have c2:w.cell? ⟨gv,2,none⟩=some (.pointer (some ⟨gr,0,none⟩)):=h1.cell 2
 clear h1 h2 hr
 generalize V.M.ns.length=n at*
 go_enter Tryz.func38,Tryz.ntmps38
 go_wp2_with fail
 refine hq.mono ?_
 rintro e w1 ⟨A',c',rfl,hb⟩
 clear hq
 go_wp2_with fail
 go_ret
 exact⟨_,_,rfl,hb⟩
theorem XF{w:World}{gp gh:Nat}{P:Ar}{tv bv:BB}{ro:List Fy}{Fh:List Nat}{Ft:Nat->Nat->Prop}{lab:Nat->Nat}(h:Eh w gp gh P tv bv ro Fh Ft lab){k:Nat}{T:MT}(hT:P.AB[k]?=some T)(hl:T.V.M.ns.length<=100000):
  Calls Tryz.prog 18 #[.pointer (some ⟨gp,0,none⟩),.int .i64 (k:Int)] w (Zw w T.V.M.ns.length):=by
 have hk:k<P.AB.length:=by
  rcases Nat.lt_or_ge k P.AB.length with h|h
  ·exact h
  ·rw[List.getElem?_eq_none h] at hT;cases hT
 have hhas:P.has (k:Int)=true:=by unfold Ar.has;simp;omega
 have h1:=L4 h (k:Int)
 rw[hhas] at h1
 obtain⟨g,off,c,rfl,hr,hc⟩:=h.WR hk
 have hth:=h.th k ro[k] T (List.getElem?_eq_getElem hr) hT
 obtain⟨t1,t2,Fv,hv,hq,_⟩:=hth
 have c2:=h.bk.cell 2
 simp[BB.v] at c2
 have r0:=hc 0 _ rfl
 simp[Fy.l] at r0
 have hn:=VU hv hl
 clear h hc hv hq t1 t2 hl
 generalize T.V.M.ns.length=n at*
 generalize hgk:ro[k]=rk at*
 go_enter Tryz.func18,Tryz.ntmps18
 go_wp2_with (first|(go_at_call 24;refine h1.mono ?_;rintro e w1 ⟨rfl,rfl⟩)|(go_at_call 38;refine hn.mono ?_;rintro e w2 ⟨A',c',rfl,hb2⟩))
 go_ret
 exact⟨_,_,rfl,hb2⟩
end Go.Proofs.YtaipogljokblkaaGreatDoor
