/- Core: LO, LP, LQ, LR, EbC, EbD, QG, QI, QO. -/
import Derived.Test.YtaipogljokblkaaGreatDoorE39
import Derived.Test.YtaipogljokblkaaGreatDoorE38
import Derived.Test.YtaipogljokblkaaGreatDoorE01
import Derived.Test.YtaipogljokblkaaGreatDoorE47
import Derived.Test.YtaipogljokblkaaGreatDoorE46
set_option linter.all false
set_option maxRecDepth 100000
set_option maxHeartbeats 8000000
namespace Go.Proofs.YtaipogljokblkaaGreatDoor
open Go Go.RowKit
set_option linter.unusedSimpArgs false
set_option linter.unusedVariables false
set_option linter.unusedSectionVars false
structure GI(st:Int)(n nt t:Nat)(P:Ai):Prop where
 s:P.st=st
 z:P.A8.length=nt
 h:HI st n P.heap
 b:P.Ao.length<=t
 v:∀(i:Nat) (T:MT),P.A8[i]?=some T->VI st n t T.V/\(∀o∈T.queue,Sm st o)/\-1<=T.last/\T.last<(P.Ao.length:Int)
section
variable{st:Int}{n nt t k:Nat}{P:Ai}{T:MT}
theorem N7(h:VI st n t T.V)(hq:∀o∈T.queue,Sm st o)(hi:Ai.Co T=false):VI st n (t+6) (Ai.ready T).V/\(Ai.ready T).V.Ae≠0/\(∀o∈(Ai.ready T).queue,Sm st o)/\(Ai.ready T).last=T.last:=by
 unfold Ai.ready;unfold Ai.Co at hi;cases hb:T.V.busy with
 |true=>
  refine⟨h.up Zo,λe=>?_,hq,rfl⟩;have e:T.V.Ae=0:=e;unfold MV.busy at hb;rw[e] at hb;cases hb
 |false=>
  have h0:T.V.Ae=0:=by unfold MV.busy at hb;simpa using hb
  rw[hb] at hi;cases hc:T.queue with
  |nil=>rw[hc] at hi;cases hi
  |cons o r=>
   have ho:=hq o (by rw[hc];exact List.mem_cons_self ..);obtain⟨g1,g2⟩:=uS h h0 ho;exact⟨g1,g2,λx hx=>hq x (by rw[hc];exact List.mem_cons_of_mem _ hx),rfl⟩
theorem Z0(h:GI st n nt t P)(hT:P.A8[k]?=some T)(hi:Ai.Co T=false)(ht:t<=60000)(hn:n<=1024):
  (T.V.busy=false->∀o r,T.queue=o::r->DR T.V.st o/\Vj T.V.M/\T.V.M.R.step=0/\ON (MV.Aj {T.V with op:=o,BF:=some (Xx.new T.V.st o),A5:=.zero} 1 AB))/\iD (Ai.ready T).V P.heap/\
  GI st n nt (t+12) (P.Cg k T).1/\MG P.heap (P.Cg k T).1.heap:=by
 obtain⟨v1,v2,v3,v4⟩:=h.v k T hT
 obtain⟨r1,r2,r3,r4⟩:=N7 v1 v2 hi
 obtain⟨s1,s2,s3⟩:=sP r1 r2 h.h
 have hbl:(P.Cg k T).1.Ao.length=P.Ao.length+1:=by
  unfold Ai.Cg;simp only[List.length_append,List.length_cons,List.length_nil];cases((Ai.ready T).V.step P.heap).2.2.real==1&&decide (0<=T.last)<;>simp
 refine⟨λhb o r hq=>?_,sT r1 r2 h.h Zo hn,⟨h.s,?_,s2,by rw[hbl];have:=h.b;omega,λi T' hi'=>?_⟩,s3⟩
 ·have h0:T.V.Ae=0:=by unfold MV.busy at hb;simpa using hb
  have ho:=v2 o (by rw[hq];exact List.mem_cons_self ..);obtain⟨g1,g2,g3⟩:=fV v1 h0 ho Zo;exact⟨by rw[v1.aO];exact ho,g1,g2,g3⟩
 ·show(P.A8.set _ _).length=nt;rw[List.length_set];exact h.z
 ·rw[hbl];have hi':(P.A8.set k {Ai.ready T with V:=((Ai.ready T).V.step P.heap).1,last:=P.Ao.length})[i]?=some T':=hi';have hk:k<P.A8.length:=by
   rcases Nat.lt_or_ge k P.A8.length with h|h
   ·exact h
   ·rw[List.getElem?_eq_none h] at hT;cases hT
  by_cases e:k=i
  ·subst e;rw[List.getElem?_set_self hk] at hi';injection hi' with hi';subst hi';exact⟨s1.up Zo,r3,by show(-1:Int)<=(P.Ao.length:Int);omega,by show(P.Ao.length:Int)<_;omega⟩
  ·rw[List.getElem?_set_ne e] at hi';obtain⟨u1,u2,u3,u4⟩:=h.v i T' hi';exact⟨u1.up Zo,u2,u3,by omega⟩
end
structure HB(n:Nat)(p:Pl):Prop where
 nb:p.nb=85
 ns:p.ns=n
 Xo:∀x∈p.free,1<=x/\x<=(n:Int)
 Uz:p.free.Nodup
 fW:∀x∈p.free,(p.slot x).used=false
 bd:∀r,CE n (p.board r)/\(p.board r).tg=0
 cell:∀s f,CE n ((p.slot s).cell f)
section
variable{n:Nat}{p:Pl}{st:Int}
theorem HB.fresh(n:Nat):HB n (Pl.fresh 85 n):=by
 refine⟨rfl,rfl,λx hx=>?_,?_,λx hx=>rfl,λr=>⟨Yr,rfl⟩,λs f=>Yr⟩
 ·unfold Pl.fresh Pl.down at hx;simp at hx;obtain⟨i,hi,rfl⟩:=hx;omega
 ·show(Pl.down n n).Nodup;unfold Pl.down;unfold List.Nodup;rw[List.pairwise_map];exact List.Pairwise.imp (λh=>by omega) List.nodup_range
theorem HB.stored(h:HB n p)(fd:Int){y:Xe}(hy:CE n y)(ht:y.tg=0):HB n (p.stored fd y):=
 ⟨h.nb,h.ns,h.Xo,h.Uz,h.fW,fun r=>by
  show CE n (Ap p.board fd y r)/\(Ap p.board fd y r).tg=0;by_cases e:r=fd
  ·subst e;rw[A9];exact⟨hy,ht⟩
  ·rw[Yi _ _ e];exact h.bd r,h.cell⟩
theorem HB.alloc(h:HB n p){l:List Int}{m:Int}(hf:p.free=l++[m]):HB n (p.act Pl.A7).1/\CD n (p.act Pl.A7).2.word/\(p.act Pl.A7).1.board=p.board:=by
 have e1:p.free.getLast?=some m:=by rw[hf];simp
 have e2:p.free.dropLast=l:=by rw[hf];simp
 have e:p.act Pl.A7=({p with steps:=wr (p.steps+1),free:=l,slot:=Ap p.slot m ⟨wr ((p.slot m).As+1),true,Ap (λ_=>.zero) 9 (Yy 0)⟩,made:=wr (p.made+1)},⟨⟨m,wr ((p.slot m).As+1),0,0,false⟩,true⟩):=by
  show Pl.alloc {p with steps:=wr (p.steps+1)} _=_;unfold Pl.alloc;simp only[e1,e2];rfl
 rw[e];have hm:=h.Xo m (by rw[hf];simp);have hnd:=h.Uz;rw[hf] at hnd;refine⟨⟨h.nb,h.ns,λx hx=>h.Xo x (by rw[hf];exact List.mem_append_left _ hx),(List.nodup_append.1 hnd).1,λx hx=>?_,h.bd,λs f=>?_⟩,⟨hm.1,hm.2⟩,rfl⟩
 ·have hne:x≠m:=λe=>by
   subst e;exact(List.nodup_append.1 hnd).2.2 x hx x Zs rfl
  show(Ap p.slot m _ x).used=false;rw[Yi _ _ hne];exact h.fW x (by rw[hf];exact List.mem_append_left _ hx)
 ·show CE n ((Ap p.slot m _ s).cell f);by_cases e:s=m
  ·subst e;rw[A9];show CE n (Ap (λ_=>Xe.zero) 9 (Yy 0) f);by_cases e:f=9
   ·subst e;rw[A9];exact Cd
   ·rw[Yi _ _ e];exact Yr
  ·rw[Yi _ _ e];exact h.cell s f
theorem HB.hi(h:HB n p)(hs:st=2->CD n (p.board 0)):HI st n p:=
 ⟨h.nb,h.ns,h.Xo,h.Uz,h.fW,fun r _ _=>⟨(h.bd r).1,fun e _ e0=>by
  have e0:r=0:=e0;subst e0;exact hs e⟩,λs f _ _ _ _=>h.cell s f⟩
theorem RQ(st:Int)(n:Nat)(hs:st=2\/st=4->1<=n):HB n (Pl.laid st n)/\(st=2->CD n ((Pl.laid st n).board 0)):=by
 have h0:HB n (Pl.begun n):=(HB.fresh n).stored 24 (Cd) rfl;unfold Pl.laid;by_cases s2:st=2
 ·subst s2;obtain⟨l,m,hf⟩:=IA n (hs (Or.inl rfl));obtain⟨h1,h2,_⟩:=h0.alloc hf;have h3:CD n (Yt ((Pl.begun n).act Pl.A7).2.word):=h2;have h4:CE n (Yt ((Pl.begun n).act Pl.A7).2.word):=Eu h3;show HB n (Pl.begun n).Gb/\(_->CD n ((Pl.begun n).Gb.board 0));refine⟨(h1.stored 0 h4 rfl).stored 1 h4 rfl,λ_=>?_⟩;have e:∀(p1:Pl) (y:Xe),((p1.stored 0 y).stored 1 y).board 0=y:=λp1 y=>rfl;show CD n ((Pl.begun n).Gb.board 0);unfold Pl.Gb;rw[e];exact h3
 ·rw[show(st==2)=false from by simp[s2]];by_cases s4:st=4
  ·subst s4;obtain⟨l,m,hf⟩:=IA n (hs (Or.inr rfl));obtain⟨h1,h2,_⟩:=h0.alloc hf;have h3:CE n (Yt ((Pl.begun n).act Pl.A7).2.word):=Eu h2;exact⟨(h1.stored 8 h3 rfl).stored 16 (Cd) rfl,λe=>absurd e Zd⟩
  ·rw[show(st==4)=false from by simp[s4]];exact⟨h0,λe=>absurd e s2⟩
end
section
variable{st eng me th most:Int}{n nt t:Nat}{P:Ai}
theorem Od(a1:1<=eng)(b1:eng<=5)(m0:0<=me)(m1:me<6)(t0:1<=th)(t1:th<=6):VI st n 0 (MV.fresh st eng me th most):=
 ⟨rfl,⟨m0,m1,t0,t1,by show eng=1\/eng=2\/eng=3\/eng=4\/eng=5;omega,Nat.le_refl _,List.Sublist.refl _,Nat.zero_le _,λd hd=>by cases hd⟩,Or.inl ⟨rfl,rfl⟩⟩
theorem oN(hs:st=2\/st=4->1<=n)(a1:1<=eng)(b1:eng<=5)(t0:1<=nt)(t1:nt<=6):GI st n nt 0 (Ai.fresh st eng most nt n nt):=by
 obtain⟨l1,l2⟩:=RQ st n hs;refine⟨rfl,Ai.LS _ _ _ _ _ _,l1.hi l2,Nat.le_refl _,λi T hi=>?_⟩;unfold Ai.fresh at hi;simp only at hi;rw[List.getElem?_map] at hi;cases hr:(List.range nt)[i]? with
 |none=>rw[hr] at hi;cases hi
 |some j=>
  rw[hr] at hi;injection hi with hi;subst hi;have hj:j<nt:=by
   have:=List.mem_of_getElem? hr;simpa using this
  exact⟨Od a1 b1 Zo Zo Zo Zo,(λ(o:A3) (ho:o∈([]:List A3))=>by cases ho),by show(-1:Int)<=-1;omega,by show(-1:Int)<0;omega⟩
theorem GI.put(h:GI st n nt t P)(x:Fn.Dj)(hx:Sm st (oI x.op)):GI st n nt t (P.put x):=by
 unfold Ai.put;cases hT:P.A8[x.Cj.toNat]? with
 |none=>exact h
 |some T=>
  have hk:x.Cj.toNat<P.A8.length:=by
   rcases Nat.lt_or_ge x.Cj.toNat P.A8.length with h|h
   ·exact h
   ·rw[List.getElem?_eq_none h] at hT;cases hT
  refine⟨h.s,?_,h.h,h.b,λi T' hi=>?_⟩
  ·show(P.A8.set _ _).length=nt;rw[List.length_set];exact h.z
  ·have hi:(P.A8.set x.Cj.toNat {T with queue:=T.queue++[oI x.op],Cw:=T.Cw+1})[i]?=some T':=hi;by_cases e:x.Cj.toNat=i
   ·subst e;rw[List.getElem?_set_self hk] at hi;injection hi with hi;subst hi;obtain⟨v1,v2,v3,v4⟩:=h.v _ T hT;refine⟨v1,λo ho=>?_,v3,v4⟩;have ho:o∈T.queue++[oI x.op]:=ho;rcases List.mem_append.1 ho with ho|ho
    ·exact v2 o ho
    ·simp at ho;subst ho;exact hx
   ·rw[List.getElem?_set_ne e] at hi;exact h.v i T' hi
theorem GI.fill:∀(l:List Fn.Dj) (P:Ai),GI st n nt t P->(∀x∈l,Sm st (oI x.op))->GI st n nt t (P.fill l)
 |[],_,h,_=>h
 |x::l,P,h,hl=>GI.fill l (P.put x) (h.put x (hl x (List.mem_cons_self ..))) λy hy=>hl y (List.mem_cons_of_mem _ hy)
end
namespace Fn
theorem WR{st:Int}(h1:1<=st)(h5:st<=5)(b:Nat):Ks st b∈B6 st:=by
 have hl:0<(B6 st).length:=by
  obtain rfl|rfl|rfl|rfl|rfl:st=1\/st=2\/st=3\/st=4\/st=5:=Zo;all_goals decide
 unfold Ks;rw[List.getElem?_eq_getElem (Nat.mod_lt b hl)];exact List.getElem_mem _
theorem fX{st k x y:Int}(h1:1<=st)(h5:st<=5)(hk:k∈B6 st)(x0:0<=x)(x1:x<=255)(y0:0<=y)(y1:y<=255):F6 st (FN st k x y)=true:=by
 rw[Bj];have hst:st=1\/st=2\/st=3\/st=4\/st=5:=Zo;rcases hst with rfl|rfl|rfl|rfl|rfl<;>simp[B6] at hk;all_goals
  rcases hk with rfl|hk
  ·simp[FN,EO];omega
  ·first
    |(rcases hk with rfl|rfl<;>simp[FN,EO]<;>omega)
    |(subst hk;simp[FN,EO])
theorem oY(s:ByteArray):1<=DJ s/\DJ s<=5:=by unfold DJ;omega
theorem ZU{s:ByteArray}:∀t∈(dec s).ops,0<=t.Cj/\t.Cj<GG s/\DR (DJ s) (oI t.op):=by
 intro t ht;have ht:t∈EB s (dN s):=ht;unfold EB at ht;obtain⟨i,_,rfl⟩:=List.mem_map.1 ht;have h6:1<=GG s:=by unfold GG;omega
 refine⟨Int.emod_nonneg _ Zo,Int.emod_lt_of_pos _ Zo,?_⟩;have hs:=oY s;have:=fX hs.1 hs.2 (WR hs.1 hs.2 (JS s (7+4*i))) (x:=JS s (8+4*i)) (y:=JS s (9+4*i)) Zo (by have:=IB s (8+4*i);omega) Zo (by have:=IB s (9+4*i);omega);rw[Bj] at this;exact this
end Fn
namespace Ai
def idle(P:Ai)(k:Nat):Bool:=match P.A8[k]? with
 |none=>true
 |some T=>Co T
def runT:Nat->Ai->Nat->Ai
 |0,P,_=>P
 |m+1,P,k=>match P.A8[k]? with
  |none=>P
  |some T=>bif Co T then P else runT m (P.Cg k T).1 k
theorem BL{P:Ai}{k:Nat}(h:P.idle k=true):∀m,runT m P k=P
 |0=>rfl
 |m+1=>by
  unfold runT;unfold idle at h;cases hT:P.A8[k]? with
  |none=>rfl
  |some T=>rw[hT] at h;simp only at h ⊢;rw[h];rfl
theorem Ef{P:Ai}{k:Nat}{T:MT}(hT:P.A8[k]?=some T)(h:Co T=false)(m:Nat):runT (m+1) P k=runT m (P.Cg k T).1 k:=by
 show (match P.A8[k]? with
  |none=>P
  |some T=>bif Co T then P else runT m (P.Cg k T).1 k)=_
 rw[hT];simp only;rw[h];rfl
def B8(m:Nat)(P:Ai):Nat->Ai
 |0=>P
 |k+1=>runT m (B8 m P k) k
end Ai
inductive PT(I:Ai->Prop)(G:Nat->Ai->Prop):Nat->Ai->Prop
 |z {b P} (hi:I P) (h:G b P):PT I G b P
 |s {b P T} (hi:I P) (hT:P.A8[0]?=some T) (hn:Ai.Co T=false) (h:PT I G b (P.Cg 0 T).1):PT I G (b+1) P
def Y8(l:List Ym):List Yu:=(l.filter (·.ends)).map (·.A5)
theorem U7:∀(l:List Ym) (i:Nat),Y8 (l.modify i λb=>{b with real:=true})=Y8 l
 |[],_=>by simp[Y8]
 |b::l,0=>by
  obtain⟨th,bg,op,rl,en,an⟩:=b;cases en<;>rfl
 |b::l,i+1=>by
  have ih:=U7 l i;unfold Y8 at ih ⊢;rw[List.modify_succ_cons];cases hb:b.ends with
  |true=>rw[List.filter_cons_of_pos hb,List.filter_cons_of_pos hb,List.map_cons,List.map_cons,ih]
  |false=>rw[List.filter_cons_of_neg (by rw[hb];decide),List.filter_cons_of_neg (by rw[hb];decide)];exact ih
section
variable{st:Int}{n nt t T0:Nat}{P:Ai}{T:MT}{V:MV}{F:Nat->MV->Pl->Prop}{G:Nat->Ai->Prop}{I:Ai->Prop}{b:Nat}{p:Pl}
theorem GI.down{t':Nat}(h:GI st n nt t P)(hb:P.Ao.length<=t')(hn:∀(i:Nat) (T:MT),P.A8[i]?=some T->T.V.M.ns.length<=t'):GI st n nt t' P:=
 ⟨h.s,h.z,h.h,hb,fun i T hi=>by
  obtain⟨v1,v2,v3,v4⟩:=h.v i T hi;exact⟨⟨v1.aO,⟨v1.base.PZ,v1.base.PY,v1.base.QM,v1.base.SN,v1.base.eng,hn i T hi,v1.base.Pm,v1.base.sl,v1.base.Pg⟩,v1.at_⟩,v2,v3,v4⟩⟩
theorem R8(h:V.Ae=0):V.quiet=true:=by unfold MV.quiet;rw[h];rfl
theorem R7(h:V.M.R.step≠0):V.quiet=true:=by unfold MV.quiet MV.DK;rw[show(V.M.R.step==0)=false by simp[h]];simp
theorem Zz(hd:V.Ae≠0)(h:V.M.R.step=0):V.quiet=false:=by unfold MV.quiet MV.DK;rw[h,show(V.Ae==0)=false by simp[hd]];rfl
theorem VI.quiet(h:VI st n t V):V.quiet=true:=by
 rcases h.at_ with h|h
 ·exact R8 h.1
 ·exact R7 h.1
theorem UU:∀(m:Nat) (V:MV),(MV.Lv m V).quiet=true->MV.Lv (m+1) V=MV.Lv m V
 |0,V,h=>by
  have h:V.quiet=true:=h;rw[Kh h];rfl
 |m+1,V,h=>by
  cases hq:V.quiet with
  |true=>rw[Kh hq,Kh hq]
  |false=>
   rw[OD hq] at h;rw[OD hq,OD hq];exact UU m V.GC h
theorem JT(h:V.quiet=true):V.advance=V:=Kh h 16
theorem QC(hq:V.quiet=false)(h:V.advance.quiet=true):V.advance=V.GC.advance:=by
 unfold MV.advance at h ⊢;rw[OD hq] at h ⊢;exact(UU 15 _ h).symm
theorem at_end(h:AT F b V p):V.advance.quiet=true->V.advance.Ae=0->F b V.advance p:=by
 induction h with
 |fin h0 h=>intro _ _;rw[JT (R8 h0)];exact h
 |@Lv b V p hd h0 _ ih=>
  intro h1 h2;have e:=QC (Zz hd h0) h1;rw[e] at h1 h2 ⊢;exact ih h1 h2
 |@Bu b V p hd h0 _ _ _=>
  intro _ h2;rw[JT (R7 h0)] at h2;exact absurd h2 hd
theorem eP(P:Ai)(k:Nat)(T:MT):Y8 (P.Cg k T).1.Ao=Y8 P.Ao++(bif ((Ai.ready T).V.step P.heap).2.2.over then[((Ai.ready T).V.step P.heap).2.2.A5] else[]):=by
 unfold Ai.Cg;simp only;generalize((Ai.ready T).V.step P.heap).2.2=r;have e1:∀c:Bool,Y8 (bif c then P.Ao.modify T.last.toNat (λb=>{b with real:=true}) else P.Ao)=Y8 P.Ao:=λc=>by
  cases c with
  |true=>exact U7 _ _
  |false=>rfl
 have e2:∀(l:List Ym) (x:Ym),Y8 (l++[x])=Y8 l++(bif x.ends then[x.A5] else[]):=λl x=>by
  unfold Y8;rw[List.filter_append,List.map_append];cases hx:x.ends with
  |true=>rw[List.filter_cons_of_pos hx];rfl
  |false=>rw[List.filter_cons_of_neg (by rw[hx];decide)];rfl
 rw[e2,e1]
theorem N8(h:T.V.busy=true):Ai.ready T=T:=by unfold Ai.ready;rw[h];rfl
theorem vK(h:V.Ae≠0):V.busy=true:=by unfold MV.busy;simp[h]
theorem vZ(h:AT F b V p)(hT0:T0+12<=60000)(hn:n<=1024):∀(P:Ai) (T:MT),P.A8=[T]->Ai.Co T=false->(Ai.ready T).V=V.advance->P.heap=p->GI st n 1 (T0+12) P->P.Ao.length+b<=T0->V.advance.Ae≠0->(T.V.busy=false->T.V.M.ns.length<=T0)->
  (∀b' P' T',F b' T'.V P'.heap->P'.A8=[T']->T'.V.Ae=0->T'.queue=(Ai.ready T).queue->Y8 P'.Ao=Y8 P.Ao++[T'.V.A5]->GI st n 1 (T0+12) P'->P'.Ao.length+b'<=T0->PT (GI st n 1 (T0+12)) G b' P')->PT (GI st n 1 (T0+12)) G b P:=by
 induction h with
 |fin h0 h=>
  intro P T hths hi hV hp hg hb hd hns fin
  rw[JT (R8 h0)] at hd
  exact absurd h0 hd
 |@Lv b V p hd h0 _ ih=>
  intro P T hths hi hV hp hg hb hdo hns fin
  have hT:P.A8[0]?=some T:=by rw[hths];rfl
  obtain⟨v1,v2,v3,v4⟩:=hg.v 0 T hT
  have hq:=(N7 v1 v2 hi).1.quiet
  rw[hV] at hq
  have e:=QC (Zz hd h0) hq
  rw[e] at hV hdo
  exact ih P T hths hi hV hp hg hb hdo hns fin
 |@Bu b V p hd h0 hl hat ih=>
  intro P T hths hi hV hp hg hb hdo hns fin
  have hT:P.A8[0]?=some T:=by rw[hths];rfl
  rw[JT (R7 h0)] at hV
  have hg0:GI st n 1 T0 P:=hg.down Zo λi T' hi'=>by
   rw[hths] at hi';cases i with
   |succ i=>simp at hi'
   |zero=>
    obtain rfl:T=T':=by simpa using hi'
    cases hbz:T.V.busy with
    |false=>exact hns hbz
    |true=>rw[N8 hbz] at hV;rw[hV];omega
  obtain⟨_,_,g3,_⟩:=Z0 hg0 hT hi Zo hn
  have e1:(P.Cg 0 T).1.A8=[{Ai.ready T with V:=((Ai.ready T).V.step P.heap).1,last:=P.Ao.length}]:=by
   show P.A8.set 0 _=_;rw[hths];rfl
  have e2:((Ai.ready T).V.step P.heap).1=MV.advance {V with M:=V.M.Av (p.act V.M.R.BN).2}:=by rw[hV,hp];rfl
  have e3:(P.Cg 0 T).1.heap=(p.act V.M.R.BN).1:=by
   show((Ai.ready T).V.step P.heap).2.1=_;rw[hV,hp];rfl
  have e4:(P.Cg 0 T).1.Ao.length=P.Ao.length+1:=by
   unfold Ai.Cg;simp only[List.length_append,List.length_cons,List.length_nil];cases((Ai.ready T).V.step P.heap).2.2.real==1&&decide (0<=T.last)<;>simp
  have hov:((Ai.ready T).V.step P.heap).2.2.over=(((Ai.ready T).V.step P.heap).1.Ae==0)/\(((Ai.ready T).V.step P.heap).2.2.over=true->((Ai.ready T).V.step P.heap).2.2.A5=((Ai.ready T).V.step P.heap).1.A5):=by
   unfold MV.step;simp only;cases(MV.advance {(Ai.ready T).V with M:=(Ai.ready T).V.M.Av (P.heap.act (Ai.ready T).V.M.R.BN).2}).Ae==0
   ·exact⟨rfl,λh=>by cases h⟩
   ·exact⟨rfl,λ_=>rfl⟩
  have e5:=eP P 0 T
  refine .s hg hT hi ?_
  have hT':(P.Cg 0 T).1.A8[0]?=some {Ai.ready T with V:=((Ai.ready T).V.step P.heap).1,last:=P.Ao.length}:=by rw[e1];rfl
  have hq:=(g3.v 0 _ hT').1.quiet
  have hq:((Ai.ready T).V.step P.heap).1.quiet=true:=hq
  rw[e2] at hq
  by_cases hz:(MV.advance {V with M:=V.M.Av (p.act V.M.R.BN).2}).Ae=0
  ·have hov1:((Ai.ready T).V.step P.heap).2.2.over=true:=by rw[hov.1,e2,hz];rfl
   rw[hov1,hov.2 hov1] at e5;refine fin b _ _ ?_ e1 ?_ rfl e5 g3 (by rw[e4];omega)
   ·show F b ((Ai.ready T).V.step P.heap).1 _;rw[e2,e3];exact at_end hat hq hz
   ·show((Ai.ready T).V.step P.heap).1.Ae=0;rw[e2];exact hz
  ·have hov1:((Ai.ready T).V.step P.heap).2.2.over=false:=by rw[hov.1,e2];simp[hz]
   rw[hov1,cond_false,List.append_nil] at e5;have hb2:((Ai.ready T).V.step P.heap).1.busy=true:=by rw[e2];exact vK hz
   have hrd:Ai.ready {Ai.ready T with V:=((Ai.ready T).V.step P.heap).1,last:=P.Ao.length}={Ai.ready T with V:=((Ai.ready T).V.step P.heap).1,last:=(P.Ao.length:Int)}:=N8 hb2;refine ih (P.Cg 0 T).1 {Ai.ready T with V:=((Ai.ready T).V.step P.heap).1,last:=P.Ao.length} e1 ?_ ?_ e3 g3 (by rw[e4];omega) hz ?_ λb' P' T' f1 f2 f3 f4 f5 f6 f7=>?_
   ·unfold Ai.Co;rw[show(MT.V {Ai.ready T with V:=((Ai.ready T).V.step P.heap).1,last:=(P.Ao.length:Int)}).busy=true from hb2];rfl
   ·rw[hrd];exact e2
   ·intro hbz;have hbz:((Ai.ready T).V.step P.heap).1.busy=false:=hbz;rw[hb2] at hbz;cases hbz
   ·exact fin b' P' T' f1 f2 f3 (by rw[f4,hrd]) (by rw[f5,e5]) f6 f7
end
def wA(st:Int):SS->List A3->List Yu
 |_,[]=>[]
 |X,o::r=>(spec st X o).1::wA st (spec st X o).2 r
def kE:Nat->Nat->Nat
 |_,0=>0
 |m,k+1=>11+Qw m+kE (m+1) k
def wO(A:List Yu)(_:Nat)(P:Ai):Prop:=∃T,P.A8=[T]/\T.V.Ae=0/\T.queue=[]/\Y8 P.Ao=A
section
variable{st e:Int}{n T0:Nat}
theorem zC(he:qW e)(hT0:T0+12<=60000)(hn:n<=1024):∀(ops:List A3) (m:Nat) (v:Vw) (X:SS) (P:Ai) (T:MT) (b:Nat) (A:List Yu),(∀o∈ops,Sm st o)->P.A8=[T]->T.V.Ae=0->T.queue=ops->EI e T.V.M P.heap v (4*ops.length) b->kE m ops.length+T.V.M.ns.length<=b->Rel st m v X->GI st n 1 (T0+12) P->P.Ao.length+b<=T0->Y8 P.Ao=A->PT (GI st n 1 (T0+12)) (wO (A++wA st X ops)) b P:=by
 intro ops;induction ops with
 |nil=>
  intro m v X P T b A ho hths hd hq hE hb hR hg hbt hA;exact .z hg ⟨T,hths,hd,hq,by rw[hA];exact(List.append_nil A).symm⟩
 |cons o r ih=>
  intro m v X P T b A ho hths hd hq hE hb hR hg hbt hA;have hT:P.A8[0]?=some T:=by rw[hths];rfl
  obtain⟨v1,v2,v3,v4⟩:=hg.v 0 T hT;have hbz:T.V.busy=false:=by unfold MV.busy;rw[hd];rfl
  have hi:Ai.Co T=false:=by unfold Ai.Co;rw[hbz,hq];rfl
  have hr2:=(N7 v1 v2 hi).2.1;have hrd:Ai.ready T={T with V:=T.V.Jw o,queue:=r}:=by unfold Ai.ready;rw[hbz,hq];rfl
  have hlen:4*(o::r).length=4+4*r.length:=by simp;omega
  rw[hlen] at hE;have htot:kE m (o::r).length=11+Qw m+kE (m+1) r.length:=rfl;have hat:=op_at (F:=λb' V' p'=>V'.A5=(spec st X o).1/\(∃v',Rel st (m+1) v' (spec st X o).2/\EI e V'.M p' v' (4*r.length) b')/\kE (m+1) r.length+V'.M.ns.length<=b') (n0:=kE (m+1) r.length) (V:=T.V) he hR (ho o (List.mem_cons_self ..)) v1.aO hE Zo λV' p' v' b' a1 a2 a3 a4 a5=>⟨a1,⟨v',a2,a4⟩,a5⟩;refine vZ hat hT0 hn P T hths hi (by rw[hrd];rfl) rfl hg hbt (by rw[hrd] at hr2;exact hr2) (λ_=>by omega) λb' P' T' f1 f2 f3 f4 f5 f6 f7=>?_;obtain⟨g1,⟨v',g2,g3⟩,g4⟩:=f1;rw[hrd] at f4;have:=ih (m+1) v' (spec st X o).2 P' T' b' (A++[(spec st X o).1]) (λx hx=>ho x (List.mem_cons_of_mem _ hx)) f2 f3 f4 g3 g4 g2 f6 f7 (by rw[f5,hA,g1]);rw[List.append_assoc] at this;exact this
theorem yX{I:Ai->Prop}{G:Nat->Ai->Prop}{b:Nat}{P:Ai}(h:PT I G b P)(hG:∀b P,G b P->P.idle 0=true):∃j,j<=b/\(∀i,I (Ai.runT i P 0))/\∃b',G b' (Ai.runT j P 0):=by
 induction h with
 |@z b P hi h=>exact⟨0,Nat.zero_le _,λi=>by rw[Ai.BL (hG _ _ h)];exact hi,b,h⟩
 |@s b P T hi hT hn _ ih=>
  obtain⟨j,h1,h2,h3⟩:=ih;refine⟨j+1,by omega,λi=>?_,?_⟩
  ·cases i with
   |zero=>exact hi
   |succ i=>rw[Ai.Ef hT hn];exact h2 i
  ·rw[Ai.Ef hT hn];exact h3
end
theorem SL:∀(k m:Nat),kE m k<=kE m (k+1)
 |0,m=>Nat.zero_le _
 |k+1,m=>Nat.add_le_add_left (SL k (m+1)) _
theorem PC:∀(i:Nat) (P:Ai),(Ai.runT i P 0).idle 0=true->Ai.runT (i+1) P 0=Ai.runT i P 0
 |0,P,h=>Ai.BL h 1
 |i+1,P,h=>by
  cases hT:P.A8[0]? with
  |none=>
   have hi:P.idle 0=true:=by unfold Ai.idle;rw[hT]
   rw[Ai.BL hi,Ai.BL hi]
  |some T=>
   cases hi:Ai.Co T with
   |true=>
    have hi:P.idle 0=true:=by unfold Ai.idle;rw[hT];exact hi
    rw[Ai.BL hi,Ai.BL hi]
   |false=>
    rw[Ai.Ef hT hi] at h;rw[Ai.Ef hT hi,Ai.Ef hT hi];exact PC i _ h
def X0:SS:=⟨[],⟨[],λ_=>false,1,0⟩⟩
def v0(st:Int):Vw:=⟨(Pl.laid st 200).board,λs=>((Pl.laid st 200).slot s).As,λs=>((Pl.laid st 200).slot s).used=true,λs f=>((Pl.laid st 200).slot s).cell f⟩
theorem qC:∃l,(Pl.begun 200).free=l++[1]/\l.length=199:=⟨Pl.down 200 199,Pl.JQ 200 199,Pl.Lc 200 199⟩
theorem uO{st:Int}(h1:1<=st)(h5:st<=5):199<=(Pl.laid st 200).free.length/\((Pl.laid st 200).board 24).nm=1/\(∀s,((Pl.laid st 200).slot s).used=true->s=1)/\(∀s f,0<=f->f<9->((Pl.laid st 200).slot s).cell f=.zero)/\
  ((st=1\/st=3\/st=5)->∀r,r≠24->(Pl.laid st 200).board r=.zero)/\
  (st=2->((Pl.laid st 200).slot 1).used=true/\((Pl.laid st 200).slot 1).As=1/\(Pl.laid st 200).board 0=⟨1,1,0,0,false⟩/\(Pl.laid st 200).board 1=⟨1,1,0,0,false⟩)/\
  (st=4->((Pl.laid st 200).slot 1).used=true/\((Pl.laid st 200).slot 1).As=1/\(Pl.laid st 200).board 8=⟨1,1,0,0,false⟩/\(Pl.laid st 200).board 16=Yy 1/\∀r,r≠8->r≠16->r≠24->(Pl.laid st 200).board r=.zero):=by
 obtain⟨l,hl,hll⟩:=qC
 have ha:(Pl.begun 200).act Pl.A7=({(Pl.begun 200).Bu with free:=l,slot:=Ap (Pl.begun 200).slot 1 ⟨wr (((Pl.begun 200).slot 1).As+1),true,Ap (λ_=>.zero) 9 (Yy 0)⟩,made:=wr ((Pl.begun 200).made+1)},⟨⟨1,wr (((Pl.begun 200).slot 1).As+1),0,0,false⟩,true⟩):=YI (p:=Pl.begun 200) hl
 have hu:∀s,(Ap (Pl.begun 200).slot 1 ⟨wr (((Pl.begun 200).slot 1).As+1),true,Ap (λ_=>.zero) 9 (Yy 0)⟩ s).used=true->s=1:=λs hs=>by
  rw[X2] at hs;by_cases e:s=1
  ·exact e
  ·rw[if_neg e] at hs;cases hs
 have hc:∀s f,0<=f->f<9->(Ap (Pl.begun 200).slot 1 ⟨wr (((Pl.begun 200).slot 1).As+1),true,Ap (λ_=>.zero) 9 (Yy 0)⟩ s).cell f=.zero:=λs f f0 f1=>by
  rw[X2];by_cases e:s=1
  ·rw[if_pos e];show Ap (λ_=>Xe.zero) 9 (Yy 0) f=.zero;rw[Yi _ _ Zo]
  ·rw[if_neg e];rfl
 have hb:∀r,r≠24->(Pl.begun 200).board r=.zero:=λr hr=>by show Ap (λ_=>Xe.zero) 24 (Yy 1) r=_;rw[Yi _ _ hr]
 by_cases s2:st=2
 ·subst s2;have e:Pl.laid 2 200=(Pl.begun 200).Gb:=rfl;have e':(Pl.begun 200).Gb=(((Pl.begun 200).act Pl.A7).1.stored 0 (Yt ((Pl.begun 200).act Pl.A7).2.word)).stored 1 (Yt ((Pl.begun 200).act Pl.A7).2.word):=rfl;rw[e,e',ha];refine⟨by show 199<=l.length;omega,rfl,hu,hc,λh=>by omega,λ_=>⟨rfl,rfl,rfl,rfl⟩,λh=>by omega⟩
 ·by_cases s4:st=4
  ·subst s4;have e:Pl.laid 4 200=(Pl.begun 200).Jm:=rfl;have e':(Pl.begun 200).Jm=(((Pl.begun 200).act Pl.A7).1.stored 8 (Yt ((Pl.begun 200).act Pl.A7).2.word)).stored 16 (Yy 1):=rfl;rw[e,e',ha];refine⟨by show 199<=l.length;omega,rfl,hu,hc,λh=>by omega,λh=>by omega,λ_=>⟨rfl,rfl,rfl,rfl,λr h8 h16 h24=>?_⟩⟩;show Ap (Ap (Pl.begun 200).board 8 _) 16 _ r=_;rw[Yi _ _ h16,Yi _ _ h8];exact hb r h24
  ·have e:Pl.laid st 200=Pl.begun 200:=by unfold Pl.laid;rw[show(st==2)=false by simp[s2],show(st==4)=false by simp[s4]];rfl
   rw[e];exact⟨by rw[hl];simp;omega,rfl,λs hs=>(by cases hs),λs f _ _=>rfl,λ_=>hb,λh=>absurd h s2,λh=>absurd h s4⟩
def qP(st e:Int)(l:List A3):Ai:=⟨st,Pl.laid st 200,[⟨MV.fresh st e 0 1 3,l,l.length,-1⟩],[]⟩
theorem ZS{st e:Int}(h1:1<=st)(h5:st<=5)(e1:1<=e)(e5:e<=5)(ops:List A3)(ho:∀o∈ops,Sm st o)(hl:ops.length<=40):
  (∀i,GI st 200 1 60000 (Ai.runT i (qP st e ops) 0))/\(Ai.runT 59999 (qP st e ops) 0).idle 0=true/\Y8 (Ai.runT 59999 (qP st e ops) 0).Ao=wA st X0 ops:=by
 have he:qW e:=by unfold qW;omega
 obtain⟨l1,l2,l3,l4,l5,l6,l7⟩:=uO h1 h5
 obtain⟨hb,hb2⟩:=RQ st 200 (λ_=>by decide)
 have hg:GI st 200 1 60000 (qP st e ops):=by
  refine⟨rfl,rfl,hb.hi hb2,Nat.zero_le _,λi T hi=>?_⟩;cases i with
  |succ i=>simp[qP] at hi
  |zero=>
   obtain rfl:_=T:=by simpa [qP] using hi
   exact⟨(Od e1 e5 Zd Zd Zd Zd).up (Nat.zero_le _),ho,by show(-1:Int)<=-1;omega,by show(-1:Int)<0;omega⟩
 have hE:EI e (MV.fresh st e 0 1 3).M (Pl.laid st 200) (v0 st) (4*ops.length) 59000:=by
  refine⟨rfl,⟨rfl,rfl,rfl⟩,⟨by rw[l2];decide,λr _ _=>rfl,λs hs=>⟨by rw[l3 s hs];decide,hs,rfl,λf _ _=>rfl⟩,λm hm=>(by cases hm),List.nodup_nil,λx hx=>⟨by have:=hb.Xo x hx;omega,hb.fW x hx⟩,hb.Uz,by omega⟩⟩
 have hR:Rel st 0 (v0 st) X0:=by
  have hs:st=1\/st=2\/st=3\/st=4\/st=5:=Zo;rcases hs with rfl|rfl|rfl|rfl|rfl
  ·have z:=l5 (Or.inl rfl);exact Or.inl ⟨rfl,[],by show((v0 1).root 0).sl=0;rw[show(v0 1).root 0=_ from z 0 Zd];rfl,List.nodup_nil,rfl⟩
  ·obtain⟨z1,z2,z3,z4⟩:=l6 rfl;have r0:(v0 2).root 0=⟨1,1,0,0,false⟩:=z3;have r1:(v0 2).root 1=⟨1,1,0,0,false⟩:=z4;have rf:(v0 2).Rf ⟨1,1,0,0,false⟩:=⟨by decide,z1,z2.symm⟩;refine Or.inr (Or.inl ⟨rfl,[],1,⟨by rw[r0],by rw[r0];exact rf,?_⟩,by simp,by rw[r1],by rw[r1];exact rf,rfl⟩);show((v0 2).cell 1 2).sl=0;rw[show(v0 2).cell 1 2=.zero from l4 1 2 Zd Zd];rfl
  ·have z:(v0 3).root 0=.zero:=l5 (Or.inr (Or.inl rfl)) 0 Zd;refine Or.inr (Or.inr (Or.inl ⟨rfl,⟨[],⟨?_,List.nodup_nil,AY Zd Zd,?_,λs hs=>(by cases hs),λh=>absurd rfl h⟩,rfl⟩,Nat.le_refl _⟩))
   ·show((v0 3).root 0).sl=0;rw[z];rfl
   ·show((v0 3).root 0).mark=false;rw[z];rfl
  ·obtain⟨z1,z2,z3,z4,z5⟩:=l7 rfl;have r8:(v0 4).root 8=⟨1,1,0,0,false⟩:=z3;have rf:(v0 4).Rf ⟨1,1,0,0,false⟩:=⟨by decide,z1,z2.symm⟩;have c2:(v0 4).cell 1 2=.zero:=l4 1 2 Zd Zd;refine Or.inr (Or.inr (Or.inr (Or.inl ⟨rfl,⟨by rw[r8];exact rf,⟨[],?_,rfl,λb _ _ h=>(by cases h)⟩,λb b1 b2 _=>⟨?_,λy hy=>(by cases hy)⟩,List.Pairwise.nil,?_,?_⟩,by decide⟩)))
   ·rw[r8];refine⟨?_,List.nodup_nil,Yd rf Zd Zd,?_,λs hs=>(by cases hs),λ_=>⟨λh=>(by cases h),rfl⟩⟩
    ·show((v0 4).cell 1 2).sl=0;rw[c2];rfl
    ·show((v0 4).cell 1 2).mark=false;rw[c2];rfl
   ·rw[show(v0 4).root (8+b)=.zero from z5 (8+b) Zo Zo Zo];rfl
   ·rw[show(v0 4).root 16=Yy 1 from z4];rfl
   ·rw[show(v0 4).root 17=.zero from z5 17 Zd Zd Zd];rfl
  ·have z:∀r:Int,r≠24->(v0 5).root r=.zero:=l5 (Or.inr (Or.inr rfl));refine Or.inr (Or.inr (Or.inr (Or.inr ⟨rfl,⟨λ_=>0,λ_=>[],⟨⟨λk k0 k3=>?_,λk k0 k3=>?_,λ_ _ _ s hs=>(by cases hs),λ_ _ _ s hs=>(by cases hs),λ_ _ _ s hs=>(by cases hs),λ_ _ _=>List.Pairwise.nil⟩,λs hs=>(by cases hs),λk _ _ s=>⟨λh=>(by cases h),λh=>(by cases h.1)⟩⟩,rfl⟩,Nat.le_refl _⟩)))
   ·show((v0 5).root k).sl=0;rw[z k Zo];rfl
   ·rw[z k Zo];rfl
 have ht:kE 0 ops.length<=59000:=by
  have h40:∀d,kE 0 ops.length<=kE 0 (ops.length+d):=λd=>by
   induction d with
   |zero=>exact Nat.le_refl _
   |succ d ih=>exact Nat.le_trans ih (SL _ _)
  have:=h40 (40-ops.length);rw[show ops.length+(40-ops.length)=40 by omega] at this;exact Nat.le_trans this Zd
 have hp:=zC (T0:=59988) he Zd Zd ops 0 (v0 st) X0 (qP st e ops) ⟨MV.fresh st e 0 1 3,ops,ops.length,-1⟩ 59000 [] ho rfl rfl rfl hE ht hR hg (show 0+59000<=59988 by decide) rfl
 obtain⟨j,j1,j2,b',T,j3,j4,j5,j6⟩:=yX hp λb P h=>by
  obtain⟨T,h1,h2,h3,_⟩:=h;unfold Ai.idle;rw[h1];show Ai.Co T=true;unfold Ai.Co MV.busy;rw[h2,h3];rfl
 have hid:(Ai.runT j (qP st e ops) 0).idle 0=true:=by
  unfold Ai.idle;rw[j3];show Ai.Co T=true;unfold Ai.Co MV.busy;rw[j4,j5];rfl
 have hst:∀d,Ai.runT (j+d) (qP st e ops) 0=Ai.runT j (qP st e ops) 0:=λd=>by
  induction d with
  |zero=>rfl
  |succ d ih=>rw[←ih] at hid;exact(PC _ _ hid).trans ih
 have hst:=hst (59999-j)
 rw[show j+(59999-j)=59999 by omega] at hst
 rw[hst]
 exact⟨j2,hid,by simpa using j6⟩
theorem T5{α:Type}{l:List α}{k:Nat}{x:α}(h:l[k]?=some x):l.set k x=l:=by
 apply List.ext_getElem?;intro i;by_cases e:i=k
 ·subst e;rw[List.getElem?_set_self (Bd h),h]
 ·rw[List.getElem?_set_ne (λh=>e h.symm)]
section
variable{w w2:World}{gp gh:Nat}{P:Ai}{tv bv u:BA}{ro:List FG}{Fh:List Nat}{Ft:Nat->Nat->Prop}{lab:Nat->Nat}{k:Nat}{T:MT}{x:Ym}
theorem Er.lH(h:Er w gp gh P tv bv ro Fh Ft lab)(h40:7<=w.heap.size)(hT:P.A8[k]?=some T)(hr:k<ro.length){g off n c:Nat}(ht:tv=⟨some ⟨g,off,none⟩,n,c⟩)(j:Nat)(v:Value)(r':FG)(T':MT)(hr':r'.l=ro[k].l.set j v)(hj:j<4)(hth:iI w r' T' (Ft k)):
  ∃Fh Ft' lab',Er (w.setCell ⟨g,off+k*4+j,none⟩ v) gp gh {P with A8:=P.A8.set k T'} tv bv (ro.set k r') Fh Ft' lab'/\∀b,lab' b<1000->lab b<1000\/w.heap.size<=b:=by
 have hk:=Bd hT
 have Oo:=h.Oo
 have hn:n=ro.length:=by have:=h.tvn;rw[ht] at this;rw[h.len];exact this
 subst ht
 have lg:lab g=1:=h.l1 g rfl
 have gr:=Xs w g (off+k*4+j) v
 have Ax:∀b c,lab b=c->c≠1->b<w.heap.size->(w.setCell ⟨g,off+k*4+j,none⟩ v).heap[b]?=w.heap[b]?:=λb c e c1 hb=>gr.block b hb λe'=>c1 (by cases e';rw[←e,lg])
 have KB:=h.KB
 rw[show(⟨some ⟨g,off,none⟩,n,c⟩:BA).v=.slice (some ⟨g,off,none⟩) n c from rfl,hn] at KB
 have t2:=MQ TD KB k hr j v r' hr' hj
 rw[List.length_set] at t2
 obtain⟨Ft',lab',p1,p2⟩:=h.Ap (w2:=w.setCell ⟨g,off+k*4+j,none⟩ v) (P':={P with A8:=P.A8.set k T'}) (bv':=bv) (Fh':=Fh) (ro':=ro.set k r') (r':=r') (T':=T') (F':=Ft k) hk rfl rfl rfl
  (h.bk.same (Ax gp 0 h.l0 Zd h.bk.lt)) (by rw[List.length_set,show(⟨some ⟨g,off,none⟩,n,c⟩:BA).v=.slice (some ⟨g,off,none⟩) n c from rfl,hn];exact t2) (h.K4.kept λb hb=>Ax b 2 (h.l2 b hb) Zd (h.K4.lt hb)) (h.hp.same λb hb=>Ax b 3 (h.l3 b hb) Zd (h.hp.lt b hb))
  (hth.AG λb hb=>Ax b (4+k) (h.l4 k b hk hb) Zo (h.fG hk b hb))
  (λi b hi hl hb=>Ax b (4+i) (h.l4 i b hl hb) Zo (h.fG hl b hb)) (by simp[World.setCell]) h40
  (λb hb=>Or.inl (h.l2 b hb)) (λb hb=>Or.inl (h.l3 b hb)) (λb hb=>Or.inr (Or.inl (h.l4 k b hk hb)))
  (λb h2 h3=>by have:=h.l2 b h2;have:=h.l3 b h3;omega) (λb h2 h4=>by have:=h.l2 b h2;have:=h.l4 k b hk h4;omega) (λb h3 h4=>by have:=h.l3 b h3;have:=h.l4 k b hk h4;omega)
 exact⟨Fh,Ft',lab',p1,p2⟩
theorem Er.Ao(h:Er w gp gh P tv bv ro Fh Ft lab)(h40:7<=w.heap.size)(hT:P.A8[k]?=some T)(hr:k<ro.length){l:List Ym}(bk:Bk w2 gp 74 #[.int .i64 P.st,.pointer (some ⟨gh,0,none⟩),tv.v,u.v])(ho:Own w2 42 10 u.v l.length (rows Ym.l l))
  (Ax:∀b,b<w.heap.size->b≠gp->bv.v.ownBlock≠some b->w2.heap[b]?=w.heap[b]?)(hsz:w.heap.size<=w2.heap.size)(hf:∀b,u.v.ownBlock=some b->bv.v.ownBlock=some b\/w.heap.size<=b):
  ∃Fh Ft' lab',Er w2 gp gh {P with Ao:=l} tv u ro Fh Ft' lab'/\∀b,lab' b<1000->lab b<1000\/w.heap.size<=b:=by
 have hk:=Bd hT
 have Oo:=h.Oo
 have far':∀b c,lab b=c->c≠0->c≠2->b<w.heap.size->w2.heap[b]?=w.heap[b]?:=λb c e c0 c2 hb=>Ax b hb (λe'=>c0 (by rw[←e,e',h.l0])) λe'=>c2 (by rw[←e,h.l2 b e'])
 have hth:=h.th k ro[k] T (List.getElem?_eq_getElem hr) hT
 have hu:∀b,u.v.ownBlock=some b->lab b=2\/w.heap.size<=b:=λb hb=>(hf b hb).imp (h.l2 b) id
 obtain⟨Ft',lab',p1,p2⟩:=h.Ap (w2:=w2) (P':={P with Ao:=l}) (bv':=u) (Fh':=Fh) (ro':=ro) (r':=ro[k]) (T':=T) (F':=Ft k) hk (T5 hT).symm Zs rfl
  bk (h.KB.kept λb hb=>far' b 1 (h.l1 b hb) Zd Zd (h.KB.lt hb)) ho (h.hp.same λb hb=>far' b 3 (h.l3 b hb) Zd Zd (h.hp.lt b hb))
  (hth.AG λb hb=>far' b (4+k) (h.l4 k b hk hb) Zo Zo (h.fG hk b hb))
  (λi b hi hl hb=>far' b (4+i) (h.l4 i b hl hb) Zo Zo (h.fG hl b hb)) hsz h40
  hu (λb hb=>Or.inl (h.l3 b hb)) (λb hb=>Or.inr (Or.inl (h.l4 k b hk hb)))
  (λb h2 h3=>by have e3:=h.l3 b h3;have:=h.hp.lt b h3;have:=hu b h2;omega) (λb h2 h4=>by have e4:=h.l4 k b hk h4;have:=h.fG hk b h4;have:=hu b h2;omega) (λb h3 h4=>by have:=h.l3 b h3;have:=h.l4 k b hk h4;omega)
 exact⟨Fh,Ft',lab',p1,p2⟩
theorem Er.vR(h:Er w gp gh P tv bv ro Fh Ft lab)(h40:7<=w.heap.size)(hT:P.A8[k]?=some T)(hr:k<ro.length)(ho:Own w2 42 10 u.v (P.Ao++[x]).length (rows Ym.l (P.Ao++[x])))(hg:w.grownBy w2 bv.v.ownBlock)(hf:Em w bv.v u.v):
  ∃Fh Ft' lab',Er (w2.setCell ⟨gp,3,none⟩ u.v) gp gh {P with Ao:=P.Ao++[x]} tv u ro Fh Ft' lab'/\∀b,lab' b<1000->lab b<1000\/w.heap.size<=b:=by
 have lgp:=h.bk.lt
 have nb:bv.v.ownBlock≠some gp:=λe=>by have:=h.l2 gp e;rw[h.l0] at this;omega
 have nu:u.v.ownBlock≠some gp:=λe=>(hf gp e).elim nb λh'=>by omega
 have gr:=Xs w2 gp 3 u.v
 refine h.Ao h40 hT hr (Yw ((h.bk.grown hg (λe=>nb e.symm)).Eo 3 u.v) Zk) (ho.grown gr (Or.inr nu)) (λb hb h1 h2=>(gr.block b (Nat.lt_of_lt_of_le hb hg.size) λe=>h1 (by cases e;rfl)).trans (hg.block b hb λe=>h2 e.symm)) (Nat.le_trans hg.size gr.size) hf
theorem Er.vQ(h:Er w gp gh P tv bv ro Fh Ft lab)(h40:7<=w.heap.size)(hT:P.A8[k]?=some T)(hr:k<ro.length){g off n c:Nat}(hb:bv=⟨some ⟨g,off,none⟩,n,c⟩)(i:Nat)(hi:i<P.Ao.length):
  ∃Fh Ft' lab',Er (w.setCell ⟨g,off+i*10+6,none⟩ (.bool true)) gp gh {P with Ao:=P.Ao.set i {P.Ao[i] with real:=true}} tv bv ro Fh Ft' lab'/\∀b,lab' b<1000->lab b<1000\/w.heap.size<=b:=by
 have hn:n=P.Ao.length:=by
  obtain⟨A,c',hv,_⟩:=Yq h.K4;rw[hb] at hv;unfold BA.v at hv;injection hv
 subst hb
 have gr:=Xs w g (off+i*10+6) (.bool true)
 have l2:lab g=2:=h.l2 g rfl
 have ng:g≠gp:=λe=>by have:=h.l0;rw[e] at l2;omega
 have bo:=h.K4
 rw[show(⟨some ⟨g,off,none⟩,n,c⟩:BA).v=.slice (some ⟨g,off,none⟩) n c from rfl,hn] at bo
 have t2:=MQ Q8 bo i hi 6 (.bool true) {P.Ao[i] with real:=true} rfl Zd
 refine h.Ao h40 hT hr (h.bk.grown gr (λe=>ng (by cases e;rfl))) (by rw[List.length_set] at t2 ⊢;rw[show(⟨some ⟨g,off,none⟩,n,c⟩:BA).v=.slice (some ⟨g,off,none⟩) n c from rfl,hn];exact t2) (λb hb h1 h2=>gr.block b hb λe=>h2 (by cases e;rfl)) gr.size λb hb=>Or.inl hb
end
end Go.Proofs.YtaipogljokblkaaGreatDoor
namespace Go.Proofs.YtaipogljokblkaaGreatDoor
open Go Go.RowKit
def Me:Prop:=∀{w:World} {gp gh:Nat} {P:Ai} {tv bv:BA} {ro:List FG} {Fh:List Nat} {Ft:Nat->Nat->Prop} {lab:Nat->Nat} (_:Er w gp gh P tv bv ro Fh Ft lab) (_:AQ w) {k:Nat} {T:MT} (_:P.A8[k]?=some T) (_:Ai.Co T=false)
  (_:T.V.busy=false->∀o r,T.queue=o::r->DR T.V.st o/\Vj T.V.M/\T.V.M.R.step=0/\ON (MV.Aj {T.V with op:=o,BF:=some (Xx.new T.V.st o),A5:=.zero} 1 AB)) (_:iD (Ai.ready T).V P.heap) (_:-1<=T.last) (_:T.last<(P.Ao.length:Int)) (_:P.Ao.length<=100000),
  Calls Tryz.prog 17 #[.pointer (some ⟨gp,0,none⟩),.int .i64 (k:Int)] w λen w'=>en=.returned (.tuple #[.agg (P.Cg k T).2.l.toArray,.nilIface])/\PaR w gp gh (P.Cg k T).1 lab w'
structure PW(w0 w:World)(gp gh:Nat)(st:Int)(n nt t:Nat)(P:Ai):Prop where
 p:∃tv bv ro Fh Ft lab,Er w gp gh P tv bv ro Fh Ft lab/\∀b,lab b<1000->w0.heap.size<=b
 g:GI st n nt t P
 e:AQ w
 b:Below w0.heap.size w0 w
 z:7<=w0.heap.size
section
variable{w0 w w':World}{gp gh:Nat}{st:Int}{n nt t k:Nat}{P P':Ai}{T:MT}{lab:Nat->Nat}
theorem PW.next(h:PW w0 w gp gh st n nt t P)(hl:∀b,lab b<1000->w0.heap.size<=b)(hr:PaR w gp gh P' lab w'){t':Nat}(hg:GI st n nt t' P'):PW w0 w' gp gh st n nt t' P':=by
 obtain⟨tv,bv,ro,Fh,Ft,lab',hp,hc,hl'⟩:=hr;have hz:=h.b.size;have h40:=h.z;have Ax:∀b,b<w0.heap.size->w'.heap[b]?=w.heap[b]?:=λb hb=>hc.Ax b Zo λh2=>by have:=hl b h2;omega
 exact ⟨⟨tv,bv,ro,Fh,Ft,lab',hp,fun b hb=>(hl' b hb).elim (hl b) fun h'=>by omega⟩,hg,h.e.low (fun b hb=>Ax b Zo) (by have:=hc.size;omega),
  h.b.trans ⟨hc.os,hc.tape,hc.output,hc.size,Ax⟩,h40⟩
theorem PW.below(h:PW w0 w gp gh st n nt t P)(hb:Below w.heap.size w w'):PW w0 w' gp gh st n nt t P:=by
 obtain⟨tv,bv,ro,Fh,Ft,lab,hp,hl⟩:=h.p;exact⟨⟨tv,bv,ro,Fh,Ft,lab,hp.below hb,hl⟩,h.g,h.e.below hb,h.b.trans (hb.mono h.b.size),h.z⟩
theorem PW.A8(h:PW w0 w gp gh st n nt t P)(hk:k<nt):∃T,P.A8[k]?=some T:=⟨_,List.getElem?_eq_getElem (by rw[h.g.z];exact hk)⟩
theorem PW.idle(h:PW w0 w gp gh st n nt t P)(hT:P.A8[k]?=some T):Calls Tryz.prog 26 #[.pointer (some ⟨gp,0,none⟩),.int .i64 (k:Int)] w λen w'=>en=.returned (.bool (Ai.Co T))/\PW w0 w' gp gh st n nt t P:=by
 obtain⟨tv,bv,ro,Fh,Ft,lab,hp,hl⟩:=h.p;refine(Us hp hT).mono ?_;rintro e w1 ⟨rfl,hb⟩;exact⟨rfl,h.below hb⟩
theorem PW.pick(hP:Me)(h:PW w0 w gp gh st n nt t P)(hT:P.A8[k]?=some T)(hi:Ai.Co T=false)(ht:t<=60000)(hn:n<=1024):
  Calls Tryz.prog 17 #[.pointer (some ⟨gp,0,none⟩),.int .i64 (k:Int)] w λen w'=>en=.returned (.tuple #[.agg (P.Cg k T).2.l.toArray,.nilIface])/\PW w0 w' gp gh st n nt (t+12) (P.Cg k T).1:=by
 obtain⟨tv,bv,ro,Fh,Ft,lab,hp,hl⟩:=h.p
 obtain⟨g1,g2,g3,_⟩:=Z0 h.g hT hi ht hn
 have hv:=h.g.v k T hT
 have hb:=h.g.b
 refine(hP hp h.e hT hi g1 g2 hv.2.2.1 hv.2.2.2 Zo).mono ?_
 rintro e w1 ⟨rfl,hr⟩
 exact⟨rfl,h.next hl hr g3⟩
end
end Go.Proofs.YtaipogljokblkaaGreatDoor
