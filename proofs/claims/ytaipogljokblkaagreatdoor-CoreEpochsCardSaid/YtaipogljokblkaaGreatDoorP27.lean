/- Core: JC, Rfs, CSteS, JS, JD, VK, VL. -/
import Derived.Test.YtaipogljokblkaaGreatDoorP25
import Derived.Test.YtaipogljokblkaaGreatDoorP26
import Derived.Test.YtaipogljokblkaaGreatDoorP23
import Derived.Test.YtaipogljokblkaaGreatDoorP16
set_option linter.all false
set_option maxRecDepth 100000
set_option maxHeartbeats 8000000
namespace Go.Proofs.YtaipogljokblkaaGreatDoor
open Go Go.RowKit
section
variable{J:Xc}{x:Xr}{c:Xi}
def MP(J:Xc)(c:Xi):(J.Fu c).1.walk=J.walk/\(J.Fu c).1.inner=J.inner:=by
 unfold Xc.Fu;cases b:(!(c.kind==12)) with
 |true=>exact⟨rfl,rfl⟩
 |false=>
  cases a:(!(c.BR.code==1)||J.op.kind==8) with
  |true=>simp only[a,i9,gx];exact⟨rfl,rfl⟩
  |false=>simp only[a,i9,gx];exact⟨trivial,trivial⟩
def aQ(J:Xc)(c:Xi)(o:Option Xf)(a b:Value):(Xc.Fu {J with inner:=o} c).1.l a b=(J.Fu c).1.l a b/\(Xc.Fu {J with inner:=o} c).2=(J.Fu c).2:=by
 unfold Xc.Fu;cases e:(!(c.kind==12)) with
 |true=>exact⟨rfl,rfl⟩
 |false=>
  cases d:(!(c.BR.code==1)||J.op.kind==8) with
  |true=>simp only[d,i9,gx];exact⟨rfl,rfl⟩
  |false=>simp only[d,i9,gx];exact⟨rfl,trivial⟩
def aR(J:Xc)(x:Xr):(J.GZ x).1.walk=J.walk:=by
 unfold Xc.GZ;cases h:J.inner with
 |none=>rfl
 |some I=>exact(MP _ _).1
def L4(J:Xc):J.perform.1.walk=J.walk:=by
 unfold Xc.perform;exact aR _ _
def LR(J:Xc):J.CD.1.walk=J.walk:=by
 unfold Xc.CD;cases(J.Ao==J.wanted)
 ·rfl
 ·exact L4 J
def Vt(J:Xc):J.DJ.1.walk=J.walk:=by unfold Xc.DJ;exact LR _
def PT(a:x.word.sl=0):(J.BC x).1.walk=J.walk/\(J.BC x).1.inner=J.inner:=by
 unfold Xc.BC;rw[show(!(x.word.sl==0))=false from by simp[a]];cases(J.Ao==0)<;>exact⟨rfl,rfl⟩
def Qb:(J.Ck x).1.walk=J.walk/\(J.Ck x).1.inner=J.inner:=by
 unfold Xc.Ck;cases(!x.ok)
 ·cases(J.op.kind==7)
  ·cases(J.size==8)
   ·cases(decide (J.count.nm<wr (2*J.size)))<;>exact⟨rfl,rfl⟩
   ·exact⟨rfl,rfl⟩
  ·exact⟨rfl,rfl⟩
 ·exact⟨rfl,rfl⟩
def Lx:(J.AD x).1.walk=J.walk/\(J.AD x).1.inner=J.inner:=by
 unfold Xc.AD;cases(x.word.nm==J.size)<;>exact⟨rfl,rfl⟩
def Jr(J:Xc)(x:Xr):(J.D8 x).1.inner=J.inner:=by
 unfold Xc.D8;simp only;cases(Cq J.walk x).2.2
 ·cases(Li (Cq J.walk x).1)<;>rfl
 ·rfl
def GB(h:J.pc=4\/J.pc=5\/J.pc=7\/J.pc=8):(J.Am x).1.inner=J.inner:=by
 unfold Xc.Am;rcases h with h|h|h|h<;>rw[h]
 ·exact Jr J.An x
 ·exact Jr J x
 ·rfl
 ·cases a:x.ok
  ·exact Jr J.An x
  ·rfl
def bO:(J.BC x).1.walk=J.walk:=by
 unfold Xc.BC;cases(!(x.word.sl==0))
 ·cases(J.Ao==0)<;>rfl
 ·exact LR _
end
section
variable{w:World}{g:Nat}{Fw Fi:List Nat}{pw pi:Option Go.Addr}{J:Xc}
def oI(x:Xr)(i:Bk w g 186 (J.l (.pointer pw) (.pointer pi)).toArray)(u:DD w (.pointer pw) J.walk Fw)(D:Gw w (.pointer pi) J.inner Fi)(N:(g::(Fw++Fi)).Nodup)(h:J.pc=11)(p:∃I,J.inner=some I):
  Kp 176 #[.pointer (some ⟨g,0,none⟩),.agg x.l.toArray] w (Jb (λw F=>NE w g (J.next x).1 F) (Yq (J.next x).2) (g::(Fw++Fi)) w):=by
 obtain⟨I,p⟩:=p
 rw[p] at D
 obtain⟨d,E,r,rfl,G⟩:=D
 obtain rfl:pi=some ⟨d,0,none⟩:=by injection r
 have O:J.next x=Xc.Fu {J with inner:=some (I.next x).1} (I.next x).2:=by rw[n11 h];unfold Xc.GZ;rw[p]
 rw[O]
 obtain⟨m,n⟩:=ja.1 N
 have r:=gH (Φ:=xl d I (I.next x).1) (F:=fun b=>b∈d :: E) J pw ⟨d,0,none⟩ x (I.next x).2 g w (by rw [DY h];exact i) (fun w F P Q=>by
  obtain⟨s,h1,H⟩:=(show ∃s,K5 w d I s/\∀b,F b↔b∈s from P);refine(dK I x d s w h1).mono λR v y=>?_;obtain⟨K,p1,p2,k,z⟩:=y;have A:=p2.lt;obtain⟨⟨q,j,rfl,_⟩,_⟩:=id p2;exact⟨p1,Tf z (λb i=>(H b).2 i) ⟨λb=>b∈d::j,⟨j,p2,λb=>j3⟩,λb i=>(k b i).imp (H b).2 id,A⟩⟩) ⟨d::E,G,λb=>j3⟩ (λhm=>m (gy.2 (db hm))) G.lt
 rw[DY h] at r
 refine r.mono λR v y=>?_
 obtain⟨p1,p2,k,K,z,A,X,L⟩:=y
 obtain⟨j,M,B⟩:=(show ∃j,K5 v d (I.next x).1 (d::j)/\∀b,K b↔b∈d::j from z)
 obtain⟨S,T⟩:=aQ J (I.next x).2 (some (I.next x).1) (.pointer pw) (.pointer (some ⟨d,0,none⟩))
 have U:∀b∈Fw,v.heap[b]?=w.heap[b]?:=λb hm=>k.A5 b (u.lt b hm) λo=>by
  rcases o with rfl|o
  ·exact m (gy.2 (fq hm))
  ·exact(h9.1 n).2.2 b hm b o rfl
 refine⟨g::(Fw++d::j),by rw[T];exact p1,⟨pw,some ⟨d,0,none⟩,Fw,d::j,rfl,by rw[S];exact p2,?_,?_,?_⟩,λb hm=>?_,⟨k.os,k.tape,k.output,k.size,λb i V=>k.A5 b i λo=>V (o.elim (λe=>by rw[e];simp) λe=>by simp only[gf,gy] at e ⊢;exact db (db e))⟩⟩
 ·rw[(MP _ _).1];exact u.same U
 ·rw[(MP _ _).2];exact⟨d,j,rfl,rfl,M⟩
 ·refine ja.2 ⟨λhm=>?_,h9.2 ⟨(h9.1 n).1,M.2,λa ha b i C=>?_⟩⟩
  ·rcases gy.1 hm with hm|hm
   ·exact m (gy.2 (fq hm))
   ·exact A ((B g).2 hm)
  ·subst C;rcases L a ((B a).2 i) with h1|h1
   ·exact(h9.1 n).2.2 a ha a h1 rfl
   ·have:=u.lt a ha;omega
 ·simp only[gf,gy] at hm ⊢;rcases hm with rfl|hm|hm
  ·exact fq (fq rfl)
  ·exact fq (db (fq hm))
  ·rcases L b ((B b).2 (by simp only[gf];exact hm)) with h1|h1
   ·exact fq (d2 (by simpa only[gf] using h1))
   ·exact db h1
def wS(J:Xc)(x:Xr)(g:Nat)(F:List Nat)(w:World)(h:NE w g J F)(ok:t7 J):
  Kp 176 #[.pointer (some ⟨g,0,none⟩),.agg x.l.toArray] w (Jb (λw F=>NE w g (J.next x).1 F) (Yq (J.next x).2) F w):=by
 obtain⟨pw,pi,Fw,Fi,rfl,j,d,k,i⟩:=h
 have s:=j.lt
 have y:[g].Nodup:=by simp
 rcases ok.pc with h|h|h|h|h|h|h|h|h|h|h|h|h|h|h|h
 ·rw[n0 h];exact(oK J pw pi x g w (by rw[DY h];exact j)).mono λm n a=>Cr d k i rfl rfl a.1 a.2.1 a.2.2
 ·rw[n1 h];by_cases A:x.word.nm=2
  ·have e:J.sized x=Xc.AG ({J with pc:=1}:Xc) 2:=by rw[DY h];unfold Xc.sized;rw[A];rfl
   rw[e];have b:=XT J pw pi x g w (by rw[DY h];exact j) ok.k0 ok.k1;rw[uj A] at b;exact b.mono λm n a=>Cr d k i rfl rfl a.1 a.2.1 a.2.2
  by_cases B:x.word.nm=4
  ·have e:J.sized x=Xc.AG ({J with pc:=1}:Xc) 4:=by rw[DY h];unfold Xc.sized;rw[B];rfl
   rw[e];have b:=XR J pw pi x g w (by rw[DY h];exact j) ok.k0 ok.k1;rw[uj B] at b;exact b.mono λm n a=>Cr d k i rfl rfl a.1 a.2.1 a.2.2
  by_cases C:x.word.nm=8
  ·have e:J.sized x=Xc.AG ({J with pc:=1}:Xc) 8:=by rw[DY h];unfold Xc.sized;rw[C];rfl
   rw[e];have b:=XP J pw pi x g w (by rw[DY h];exact j) ok.k0 ok.k1;rw[uj C] at b;exact b.mono λm n a=>Cr d k i rfl rfl a.1 a.2.1 a.2.2
  ·have D:(x.word.nm==2)=false:=by simp[A]
   have E:(x.word.nm==4)=false:=by simp[B]
   have G:(x.word.nm==8)=false:=by simp[C]
   have e:J.sized x=Xc.AG ({J with pc:=1}:Xc) 1:=by rw[DY h];unfold Xc.sized F0;rw[D,E,G];rfl
   rw[e];exact(XV J pw pi x g w (by rw[DY h];exact j) ok.k0 ok.k1 D E G).mono λm n a=>Cr d k i rfl rfl a.1 a.2.1 a.2.2
 ·rw[n2 h];by_cases t:x.word.sl=0
  ·have b:=oC J pw pi x g w (by rw[DY h];exact j) ok.b0 ok.b1;rw[DY h,zn t] at b;exact b.mono λm n a=>Cr d k i (PT t).1 (PT t).2 a.1 a.2.1 a.2.2
  ·have z:(x.word.sl==0)=false:=by simp[t]
   have o:=Eq.refl J.op.kind;have b:=wO _ ok.kind J pw pi x g w ok.w0 ok.w1 ok.k0 ok.k1 (by unfold ta;rw[Ng h o];exact j) (ok.way h) z;rw[Ng h o] at b;exact b.mono λm n a=>cD d k s i bO a
 ·rw[nC (fq h)];cases r:x.ok with
  |true=>
   have b:=oA J pw pi x g w (by rw[DY h];exact j) ok.c0 ok.c1;rw[DY h,ui r] at b;exact b.mono λm n a=>Cr d k i (by unfold Xc.Am;rw[h,r];rfl) (by unfold Xc.Am;rw[h,r];rfl) a.1 a.2.1 a.2.2
  |false=>
   have e:(J.Am x).1.walk=J.walk:=by unfold Xc.Am;rw[h,r];exact L4 J
   have o:=Eq.refl J.op.kind;have b:=wN _ ok.kind J pw pi x g w ok.w0 ok.w1 ok.k0 ok.k1 (by unfold ta;rw[Ng h o];exact j);rw[Ng h o,ui r] at b;exact b.mono λm n a=>cD d k s i e a
 ·rw[nC (db (fq h))];have b:=nY J pw pi x g w (by rw[DY h];exact j) y ok.c0 ok.c1;rw[DY h] at b;exact b.mono λm n a=>Ll d k i (GB (fq h)) Zs Zs a
 ·rw[nC (d2 (fq h))];obtain⟨W,u⟩:=ok.walk (fq h);rw[u] at d;obtain⟨p,v,rfl,q⟩:=d;obtain rfl:pw=some ⟨p,0,none⟩:=by injection v
  have b:=nW J W pi x g p w (by rw[cF h u];exact j) q (by have:=i;simp only[ot,nV,ja,gf] at this ⊢;simp;exact λe=>this.1 (fq e));rw[cF h u] at b;exact b.mono λm n a=>Ll (pw:=some ⟨p,0,none⟩) (Fw:=[p]) (by rw[u];exact⟨p,rfl,rfl,q⟩) k i (GB (db (fq h))) Zs Zs a
 ·rw[nC (d2 (db (fq h)))];have b:=nT J pw pi x g w (by rw[DY h];exact j) ok.c0 ok.c1;rw[DY h] at b;exact b.mono λm n a=>Cr d k i (by unfold Xc.Am;rw[h];rfl) (by unfold Xc.Am;rw[h];rfl) a.1 a.2.1 a.2.2
 ·rw[nC (d4 (fq h))];obtain⟨W,u⟩:=ok.walk (db h);rw[u] at d;obtain⟨p,v,rfl,q⟩:=d;obtain rfl:pw=some ⟨p,0,none⟩:=by injection v
  have b:=nR J W pi x g p w (by rw[cF h u];exact j) q (by have:=i;simp only[ot,nV,ja,gf] at this ⊢;simp;exact λe=>this.1 (fq e));rw[cF h u] at b;exact b.mono λm n a=>Ll (pw:=some ⟨p,0,none⟩) (Fw:=[p]) (by rw[u];exact⟨p,rfl,rfl,q⟩) k i (GB (d2 (fq h))) Zs Zs a
 ·rw[nC (d4 (db (fq h)))];cases r:x.ok with
  |true=>
   have b:=nP J pw pi x g w (by rw[DY h];exact j) ok.c0 ok.c1;rw[DY h,ui r] at b;exact b.mono λm n a=>Cr d k i (by unfold Xc.Am;rw[h,r];rfl) (by unfold Xc.Am;rw[h,r];rfl) a.1 a.2.1 a.2.2
  |false=>
   have b:=fK J pw pi x g w (by rw[DY h];exact j) y ok.c0 ok.c1 r;rw[DY h] at b;exact b.mono λm n a=>Ll d k i (GB (d2 (db h))) Zs Zs a
 ·rw[nC (d4 (d2 (fq h)))];by_cases t:x.word.sl=0
  ·have b:=nM J pw pi x g w (by rw[DY h];exact j) ok.c0 ok.c1;rw[DY h,zn t] at b;exact b.mono λm n a=>Cr d k i (by unfold Xc.Am;rw[h,t];rfl) (by unfold Xc.Am;rw[h,t];rfl) a.1 a.2.1 a.2.2
  ·have z:(x.word.sl==0)=false:=by simp[t]
   have e:(J.Am x).1.walk=J.walk:=by unfold Xc.Am;rw[h,z];exact Vt J
   have o:=Eq.refl J.op.kind;have b:=wM _ ok.kind J pw pi x g w ok.w0 ok.w1 ok.k0 ok.k1 (by unfold ta;rw[Ng h o];exact j) (ok.zq (fq h)) z;rw[Ng h o] at b;exact b.mono λm n a=>cD d k s i e a
 ·rw[nC (d4 (d2 (db h)))];have e:(J.Am x).1.walk=J.walk:=by unfold Xc.Am;rw[h];exact Vt J
  have o:=Eq.refl J.op.kind;have b:=nF _ ok.kind J pw pi x g w ok.w0 ok.w1 ok.k0 ok.k1 (by unfold ta;rw[Ng h o];exact j) (ok.zq (db h));rw[Ng h o] at b;exact b.mono λm n a=>cD d k s i e a
 ·exact oI x j d k i h (ok.inner h)
 ·rw[n12 h];have b:=gE J pw pi x g w (by rw[DY h];exact j);rw[DY h] at b;exact b.mono λm n a=>Cr d k i rfl rfl a.1 a.2.1 a.2.2
 ·rw[n13 h];have b:=gC J pw pi x g w (by rw[DY h];exact j);rw[DY h] at b;exact b.mono λm n a=>Cr d k i Qb.1 Qb.2 a.1 a.2.1 a.2.2
 ·rw[n14 h];have b:=gA J pw pi x g w (by rw[DY h];exact j);rw[DY h] at b;exact b.mono λm n a=>Cr d k i Lx.1 Lx.2 a.1 a.2.1 a.2.2
 ·rw[n15 h];have b:=fY J pw pi x g w (by rw[DY h];exact j);rw[DY h] at b;exact b.mono λm n a=>Cr d k i rfl rfl a.1 a.2.1 a.2.2
end
def oT(J:Xa)(x:Xr):Xa.next J x=bif J.pc==-1 then(J,J.last) else bif decide (101<=J.pc) then J.finish x else bif J.op.kind==6 then(bif decide (9<=J.pc) then J.raise x else J.insert x) else bif J.op.kind==7 then J.Ak x else J.get x:=by
 unfold Xa.next;cases J.pc==-1<;>cases decide (101<=J.pc)<;>cases J.op.kind==6<;>cases decide (9<=J.pc)<;>rfl
def oW(J:Xa)(C:Xb)(x:Xr):Env:=IB [J.ii,C.ii,x.ii,(Xb.step C x).1.ii,(Xb.step C x).2.1.ii,(Xb.step (Xb.new J.op.key) x).1.ii,(Xb.step (Xb.new J.op.key) x).2.1.ii,(Xb.step (Xb.new (wr (J.op.key+1))) x).1.ii,(Xb.step (Xb.new (wr (J.op.key+1))) x).2.1.ii,(FD C J.level).ii,(FD C (wr (J.level+1))).ii] [J.bb,C.bb,x.bb,(Xb.step C x).1.bb,(Xb.step C x).2.1.bb,[(Xb.step C x).2.2],(Xb.step (Xb.new J.op.key) x).1.bb,(Xb.step (Xb.new J.op.key) x).2.1.bb,[(Xb.step (Xb.new J.op.key) x).2.2],(Xb.step (Xb.new (wr (J.op.key+1))) x).1.bb,(Xb.step (Xb.new (wr (J.op.key+1))) x).2.1.bb,[(Xb.step (Xb.new (wr (J.op.key+1))) x).2.2,(FD C J.level).As.mark,(FD C (wr (J.level+1))).As.mark]]
def xW:St:=⟨[],[(1,191,(ct [vs 0 9,[.bV 0],vs 9 4,[.bV 1],vs 13 8,[.ptr 3 0],vs 21 4,[.bV 2],vs 25 3])),(3,284,(ct [vs 28 9,[.bV 3],vs 37 4,[.bV 4],vs 41 11,[.bV 5],vs 52 6,[.bV 6],vs 58 8,[.bV 7],vs 66 7,[.bV 8],vs 73 7,[.bV 9],vs 80 4,[.bV 10]]))],[],10,0⟩
def gQ:List SV:=[.c (.ptr 1 0),.agg ((ct [vs 84 4,[.bV 11,.bV 12]]))]
def vq:List X8:=[⟨true,206,284,(ct [vs 28 9,[.bV 3],vs 37 4,[.bV 4],vs 41 11,[.bV 5],vs 52 6,[.bV 6],vs 58 8,[.bV 7],vs 66 7,[.bV 8],vs 73 7,[.bV 9],vs 80 4,[.bV 10]]),[.agg ((ct [vs 84 4,[.bV 11,.bV 12]]))],.Jt [(true,(ct [vs 144 8,[.bV 21],vs 152 4,[.bV 22],vs 156 4])),(false,[.bV 23])],(ct [vs 88 9,[.bV 13],vs 97 4,[.bV 14],vs 101 11,[.bV 15],vs 112 6,[.bV 16],vs 118 8,[.bV 17],vs 126 7,[.bV 18],vs 133 7,[.bV 19],vs 140 4,[.bV 20]])⟩,⟨true,206,284,(ct [zs 9,[.bool (.lit false)],zs 4,[.bool (.lit false)],zs 11,[.bool (.lit false),.iV 18],zs 5,[.bool (.lit false)],zs 8,[.bool (.lit false)],zs 7,[.bool (.lit false)],zs 7,[.bool (.lit false)],zs 4,[.bool (.lit false)]]),[.agg ((ct [vs 84 4,[.bV 11,.bV 12]]))],.Jt [(true,(ct [vs 216 8,[.bV 32],vs 224 4,[.bV 33],vs 228 4])),(false,[.bV 34])],(ct [vs 160 9,[.bV 24],vs 169 4,[.bV 25],vs 173 11,[.bV 26],vs 184 6,[.bV 27],vs 190 8,[.bV 28],vs 198 7,[.bV 29],vs 205 7,[.bV 30],vs 212 4,[.bV 31]])⟩,⟨true,206,284,(ct [zs 9,[.bool (.lit false)],zs 4,[.bool (.lit false)],zs 11,[.bool (.lit false),.int (.add (.var 18) (.lit 1))],zs 5,[.bool (.lit false)],zs 8,[.bool (.lit false)],zs 7,[.bool (.lit false)],zs 7,[.bool (.lit false)],zs 4,[.bool (.lit false)]]),[.agg ((ct [vs 84 4,[.bV 11,.bV 12]]))],.Jt [(true,(ct [vs 288 8,[.bV 43],vs 296 4,[.bV 44],vs 300 4])),(false,[.bV 45])],(ct [vs 232 9,[.bV 35],vs 241 4,[.bV 36],vs 245 11,[.bV 37],vs 256 6,[.bV 38],vs 262 8,[.bV 39],vs 270 7,[.bV 40],vs 277 7,[.bV 41],vs 284 4,[.bV 42]])⟩,⟨true,208,284,(ct [vs 28 9,[.bV 3],vs 37 4,[.bV 4],vs 41 11,[.bV 5],vs 52 6,[.bV 6],vs 58 8,[.bV 7],vs 66 7,[.bV 8],vs 73 7,[.bV 9],vs 80 4,[.bV 10]]),[.c (.iV 25)],.Jt [(true,vs 304 3),(true,(ct [vs 307 4,[.bV 46]]))],(ct [vs 28 9,[.bV 3],vs 37 4,[.bV 4],vs 41 11,[.bV 5],vs 52 6,[.bV 6],vs 58 8,[.bV 7],vs 66 7,[.bV 8],vs 73 7,[.bV 9],vs 80 4,[.bV 10]])⟩,⟨true,208,284,(ct [vs 28 9,[.bV 3],vs 37 4,[.bV 4],vs 41 11,[.bV 5],vs 52 6,[.bV 6],vs 58 8,[.bV 7],vs 66 7,[.bV 8],vs 73 7,[.bV 9],vs 80 4,[.bV 10]]),[.c (.int (.add (.var 25) (.lit 1)))],.Jt [(true,vs 311 3),(true,(ct [vs 314 4,[.bV 47]]))],(ct [vs 28 9,[.bV 3],vs 37 4,[.bV 4],vs 41 11,[.bV 5],vs 52 6,[.bV 6],vs 58 8,[.bV 7],vs 66 7,[.bV 8],vs 73 7,[.bV 9],vs 80 4,[.bV 10]])⟩]
def oX(J:Xa)(C:Xb)(x:Xr)(b c:Nat)(w:World)(e:Bk w b 191 (({J with Ab:=some C}:Xa).l (.pointer (some ⟨c,0,none⟩))).toArray)(i:Bk w c 284 (C.l).toArray)(d:[b,c].Nodup)(j:yx C):Kp 195 #[.pointer (some ⟨b,0,none⟩),.agg x.l.toArray] w λk w'=>Gh (λw q F1=>Ci w q (Xa.next {J with Ab:=some C} x).1.Ab F1) 191 (λq=>(Xa.next {J with Ab:=some C} x).1.l q) (Yq (Xa.next {J with Ab:=some C} x).2) b [b,c] w k w':=by
 refine p2 (oW J C x) vq 60 xW gQ 23 191 284 (Xa.next {J with Ab:=some C} x) (λr=>Yq r.2) (λr q=>r.1.l q) (λr=>r.1.Ab.map λW=>W.l.toArray) (λr w q F1=>Ci w q r.1.Ab F1) (Yz (Cz Tryz.func206 λg w a=>Dz C x g w (j) a) (Yz (Cz Tryz.func206 λg w a=>Dz (Xb.new J.op.key) x g w (fq rfl) a) (Yz (Cz Tryz.func206 λg w a=>Dz (Xb.new (wr (J.op.key+1))) x g w (fq rfl) a) (Yz (Cz Tryz.func208 λg w a=>Rm C J.level g w a) (Yz (Cz Tryz.func208 λg w a=>Rm C (wr (J.level+1)) g w a) X6))))) CF (bl2 (Y1 e Zk) (Y1 i Zk)) d (λ_ _ h=>Gf h) (λ_ _ _ _ h m=>Ge h m) ?_;refine Ed (oT _ _) ?_;exact vS3
structure t8(J:Xa):Prop where
 Ab:∀C,J.Ab=some C->yx C
 none_:J.Ab=none->(J.pc=0/\(J.op.kind=6\/J.op.kind=7\/J.op.kind=8))\/(J.op.kind=6/\(J.pc=1\/J.pc=2\/J.pc=3\/J.pc=4))
def xU(J:Xa)(x:Xr)(g:Nat)(F:List Nat)(w:World)(h:WM w g J F)(ok:t8 J):
  Kp 195 #[.pointer (some ⟨g,0,none⟩),.agg x.l.toArray] w (Jb (λw F=>WM w g (J.next x).1 F) (Yq (J.next x).2) F w):=by
 obtain⟨⟨q,s,rfl,c,i⟩,p⟩:=h
 cases d:J.Ab with
 |none=>
  rw[d] at i
  obtain⟨rfl,rfl⟩:=i
  have e:∀{k n:Int},J.pc=n->J.op.kind=k->({J with pc:=n,op:={J.op with kind:=k},Ab:=none}:Xa)=J:=λm o=>by
   cases J;rename_i op _ _ _ _ _;cases op;simp only at d m o;subst d;subst m;subst o;rfl
  rcases ok.none_ d with⟨h0,b|b|b⟩|⟨b,h0|h0|h0|h0⟩
  ·have a:=UE J x g w (by rw[e h0 b];exact c) Zs;rw[e h0 b] at a;exact a
  ·have a:=UC J x g w (by rw[e h0 b];exact c) Zs;rw[e h0 b] at a;exact a
  ·have a:=UA J x g w (by rw[e h0 b];exact c) Zs;rw[e h0 b] at a;exact a
  ·have a:=U8 J x g w (by rw[e h0 b];exact c) Zs;rw[e h0 b] at a;exact a
  ·have a:=U6 J x g w (by rw[e h0 b];exact c) Zs;rw[e h0 b] at a;exact a
  ·have a:=U4 J x g w (by rw[e h0 b];exact c) Zs;rw[e h0 b] at a;exact a
  ·have a:=U2 J x g w (by rw[e h0 b];exact c) Zs;rw[e h0 b] at a;exact a
 |some C=>
  rw[d] at i
  obtain⟨r,rfl,rfl,j⟩:=i
  have e:({J with Ab:=some C}:Xa)=J:=by cases J;simp only at d;subst d;rfl
  have a:=oX J C x g r w (by rw[e];exact c) j p (ok.Ab C d)
  rw[e] at a
  exact a
def Mr(w:World)(v:Value)(J:Xz)(F:List Nat):Prop:=
 match J with
 |.pile J=>∃g,v=.iface 127 (.pointer (some ⟨g,0,none⟩))/\F=[g]/\Bk w g 175 J.l.toArray
 |.Wu J=>∃g,v=.iface 130 (.pointer (some ⟨g,0,none⟩))/\F=[g]/\Bk w g 179 J.l.toArray
 |.lit J=>∃g,v=.iface 133 (.pointer (some ⟨g,0,none⟩))/\K5 w g J F
 |.Lm J=>∃g,v=.iface 136 (.pointer (some ⟨g,0,none⟩))/\NE w g J F
 |.N8 J=>∃g,v=.iface 139 (.pointer (some ⟨g,0,none⟩))/\WM w g J F
def Xz.Ok:Xz->Prop
 |.Lm J=>t7 J
 |.N8 J=>t8 J
 |_=>True
section
variable{w w':World}{v:Value}{J:Xz}{F:List Nat}
def Mr.same(h:Mr w v J F)(d:∀b∈F,w'.heap[b]?=w.heap[b]?):Mr w' v J F:=by
 cases J with
 |pile J=>obtain⟨g,rfl,rfl,c⟩:=h;exact⟨g,rfl,rfl,c.same (d g Zs)⟩
 |Wu J=>obtain⟨g,rfl,rfl,c⟩:=h;exact⟨g,rfl,rfl,c.same (d g Zs)⟩
 |lit J=>obtain⟨g,rfl,c⟩:=h;exact⟨g,rfl,c.same d⟩
 |Lm J=>obtain⟨g,rfl,c⟩:=h;exact⟨g,rfl,c.same d⟩
 |N8 J=>obtain⟨g,rfl,c⟩:=h;exact⟨g,rfl,c.same d⟩
def Mr.lt(h:Mr w v J F):∀b∈F,b<w.heap.size:=by
 cases J with
 |pile J=>obtain⟨g,rfl,rfl,c⟩:=h;intro b d;rw[ft.1 d];exact c.lt
 |Wu J=>obtain⟨g,rfl,rfl,c⟩:=h;intro b d;rw[ft.1 d];exact c.lt
 |lit J=>obtain⟨g,rfl,c⟩:=h;exact c.lt
 |Lm J=>obtain⟨g,rfl,c⟩:=h;exact c.lt
 |N8 J=>obtain⟨g,rfl,c⟩:=h;exact c.lt
def Mr.val(h:Mr w v J F):v.oneCell'=true/\ww v=false:=by
 cases J with
 |pile J=>obtain⟨g,rfl,_⟩:=h;exact⟨rfl,rfl⟩
 |Wu J=>obtain⟨g,rfl,_⟩:=h;exact⟨rfl,rfl⟩
 |lit J=>obtain⟨g,rfl,_⟩:=h;exact⟨rfl,rfl⟩
 |Lm J=>obtain⟨g,rfl,_⟩:=h;exact⟨rfl,rfl⟩
 |N8 J=>obtain⟨g,rfl,_⟩:=h;exact⟨rfl,rfl⟩
end
section
variable(a:Addr)(x:Value)(w:World)
def kJ:(callMethod (.iface 127 (.pointer (some a))) "Next" #[x]).run Tryz.prog w=.ok (.enter 135 #[.pointer (some a),x]) w:=Zk
def sL:(callMethod (.iface 130 (.pointer (some a))) "Next" #[x]).run Tryz.prog w=.ok (.enter 145 #[.pointer (some a),x]) w:=Zk
def sK:(callMethod (.iface 133 (.pointer (some a))) "Next" #[x]).run Tryz.prog w=.ok (.enter 154 #[.pointer (some a),x]) w:=Zk
def sI:(callMethod (.iface 136 (.pointer (some a))) "Next" #[x]).run Tryz.prog w=.ok (.enter 176 #[.pointer (some a),x]) w:=Zk
def sJ:(callMethod (.iface 139 (.pointer (some a))) "Next" #[x]).run Tryz.prog w=.ok (.enter 195 #[.pointer (some a),x]) w:=Zk
end
def Iy{v:Value}{x:Value}{b:Nat}{c:Array Value}{w:World}{Q:Ending->World->Prop}(d:(callMethod v "Next" #[x]).run Tryz.prog w=.ok (.enter b c) w)(e:Kp b c w Q):AY Tryz.prog DG #[v,x] w Q:=by
 unfold AY;rw[ga rfl];exact⟨v,b,c,rfl,d,e⟩
def sZ(J:Xz)(x:Xr)(v:Value)(F:List Nat)(w:World)(h:Mr w v J F)(ok:J.Ok):
  AY Tryz.prog DG #[v,.agg x.l.toArray] w (Jb (λw F=>Mr w v (J.next x).1 F) (Yq (J.next x).2) F w):=by
 cases J with
 |pile J=>
  obtain⟨g,rfl,rfl,c⟩:=h
  exact Iy (kJ _ _ _) ((rL J x g w c).mono λj w' d=>⟨[g],d.1,⟨g,rfl,rfl,d.2.1⟩,λb c=>fq c,d.2.2⟩)
 |Wu J=>
  obtain⟨g,rfl,rfl,c⟩:=h
  exact Iy (sL _ _ _) ((qu J x g w c).mono λj w' d=>⟨[g],d.1,⟨g,rfl,rfl,d.2.1⟩,λb c=>fq c,d.2.2⟩)
 |lit J=>
  obtain⟨g,rfl,c⟩:=h
  exact Iy (sK _ _ _) ((dK J x g F w c).mono λj w' d=>by obtain⟨e,p1,p2,f,i⟩:=d;exact⟨e,p1,⟨g,rfl,p2⟩,f,i⟩)
 |Lm J=>
  obtain⟨g,rfl,c⟩:=h
  exact Iy (sI _ _ _) ((wS J x g F w c ok).mono λj w' d=>by obtain⟨e,p1,p2,f,i⟩:=d;exact⟨e,p1,⟨g,rfl,p2⟩,f,i⟩)
 |N8 J=>
  obtain⟨g,rfl,c⟩:=h
  exact Iy (sJ _ _ _) ((xU J x g F w c ok).mono λj w' d=>by obtain⟨e,p1,p2,f,i⟩:=d;exact⟨e,p1,⟨g,rfl,p2⟩,f,i⟩)
abbrev JM:=Xz × MR
def rep(s:JM):Xr:=s.2.R.Az
def ask(s:JM):Xi:=(s.1.next (rep s)).2
def BJ(s:JM):JM:=((s.1.next (rep s)).1,s.2.Ag (bif (ask s).kind==12 then Y7 else ask s))
def JS(s:JM):Bool:=!(s.2.R.step==0)
def CT:Nat->JM->JM
 |0,s=>s
 |k+1,s=>BJ (CT k s)
def rounds:Nat->JM->List (Xi × Bool)
 |0,_=>[]
 |n+1,s=>(ask s,JS (BJ s))::rounds n (BJ s)
def dT(k:Nat)(s:JM):CT k (BJ s)=CT (k+1) s:=by
 induction k with
 |zero=>rfl
 |succ k a=>show BJ (CT k (BJ s))=BJ (CT (k+1) s);rw[a]
def WO(s:JM):Prop:=∀k,(∀i≤k,JS (CT i s)=false)->(∀i<k,((ask (CT i s)).kind==12)=false)->(CT k s).1.Ok/\TR (CT k s).2/\(((ask (CT k s)).kind==12)=false->QK (ask (CT k s)))
def Ky:Nat->JM->Prop
 |0,_=>False
 |n+1,s=>((ask s).kind==12)=false->JS (BJ s)=false->Ky n (BJ s)
def RJ(gr:Nat)(jv:Value)(M:MR)(J:Xz)(w:World)(F:Nat->Prop):Prop:=
 ∃a c,Le w gr M a/\Mr w jv J c/\(∀b∈a,b∉c)/\∀b,F b↔b∈a\/b∈c
section
variable{gr:Nat}{jv:Value}{M:MR}{J:Xz}{w w':World}{F:Nat->Prop}
def RJ.AL(h:RJ gr jv M J w F)(d:∀b,F b->w'.heap[b]?=w.heap[b]?):RJ gr jv M J w' F:=by
 obtain⟨e,f,g,i,j,a⟩:=h;exact⟨e,f,g.same λb c=>d b ((a b).2 (fq c)),i.same λb c=>d b ((a b).2 (db c)),j,a⟩
def RJ.lt(h:RJ gr jv M J w F):∀b,F b->b<w.heap.size:=by
 obtain⟨f,g,c,d,i,e⟩:=h;intro b a;rcases(e b).1 a with a|a
 ·exact c.lt b a
 ·exact d.lt b a
end
def Is(gr:Nat)(jv:Value)(s:JM):Hg:=⟨λi w F=>RJ gr jv (CT (i/2) s).2 (bif i%2==1 then(CT (i/2+1) s).1 else(CT (i/2) s).1) w F,λ_ _ _ _ h a=>h.AL a⟩
section
variable{gr:Nat}{jv:Value}{s:JM}{w:World}{F:Nat->Prop}
def IK{k:Nat}:(Is gr jv s).P (2*k) w F↔RJ gr jv (CT k s).2 (CT k s).1 w F:=by
 show RJ gr jv (CT (2*k/2) s).2 _ w F↔_;rw[show 2*k/2=k from Zo,show(2*k%2==1)=false from by simp];exact j3
def tp{k:Nat}:(Is gr jv s).P (2*k+1) w F↔RJ gr jv (CT k s).2 (CT (k+1) s).1 w F:=by
 show RJ gr jv (CT ((2*k+1)/2) s).2 _ w F↔_;rw[show(2*k+1)/2=k from Zo,show((2*k+1)%2==1)=true from by simp];exact j3
def L5{Φ:Hg}{j:Nat}{M':MR}{J:Xz}{V:Value}{k:Ending}{w':World}{f c:List Nat}(g:Mr w jv J c)(l:∀b∈f,b∉c)(i:∀b,F b↔b∈f\/b∈c)
  (p:∀w F,RJ gr jv M' J w F->Φ.P j w F)(q:Jb (λw F=>Le w gr M' F) V f w k w'):k=.returned V/\Fx Φ j F none w w':=by
 obtain⟨m,p1,p2,n,o⟩:=q
 have r:∀b∈c,w'.heap[b]?=w.heap[b]?:=λb a=>o.A5 b (g.lt b a) λe=>l b e a
 have d:=g.same r
 refine⟨p1,Tf o (λb a=>(i b).2 (fq a)) ⟨λb=>b∈m\/b∈c,p _ _ ⟨m,c,p2,d,λb a e=>?_,λb=>j3⟩,λb a=>?_,λb a=>?_⟩⟩
 ·rcases n b a with h|h
  ·exact l b h e
  ·have:=g.lt b e;omega
 ·rcases a with a|a
  ·exact(n b a).imp (λh=>(i b).2 (fq h)) id
  ·exact fq ((i b).2 (db a))
 ·rcases a with a|a
  ·exact p2.lt b a
  ·exact d.lt b a
def zD{Φ:Hg}{j:Nat}{M:MR}{k:Xz}{V:Value}{l:Ending}{w':World}{c e:List Nat}(f:Le w gr M c)(m:∀b∈c,b∉e)(g:∀b,F b↔b∈c\/b∈e)
  (q:∀w F,RJ gr jv M k w F->Φ.P j w F)(r:Jb (λw F=>Mr w jv k F) V e w l w'):l=.returned V/\Fx Φ j F none w w':=by
 obtain⟨n,p1,p2,o,p⟩:=r
 have t:∀b∈c,w'.heap[b]?=w.heap[b]?:=λb a=>p.A5 b (f.lt b a) λi=>m b a i
 have d:=f.same t
 refine⟨p1,Tf p (λb a=>(g b).2 (db a)) ⟨λb=>b∈c\/b∈n,q _ _ ⟨c,n,d,p2,λb a i=>?_,λb=>j3⟩,λb a=>?_,λb a=>?_⟩⟩
 ·rcases o b i with h|h
  ·exact m b a h
  ·have:=f.lt b a;omega
 ·rcases a with a|a
  ·exact fq ((g b).2 (fq a))
  ·exact(o b a).imp (λh=>(g b).2 (db h)) id
 ·rcases a with a|a
  ·exact d.lt b a
  ·exact p2.lt b a
def Gp(k:Nat):∀w F,(Is gr jv s).P (2*k) w F->(∀b,F b->b<w.heap.size)->Kp 72 #[.pointer (some ⟨gr,0,none⟩)] w λa w'=>a=.returned (.bool (JS (CT k s)))/\Fx (Is gr jv s) (2*k) F none w w':=λw F c _=>by
 obtain⟨l,m,d,e,g,i⟩:=IK.1 c;exact(SX d).mono λa w' j=>L5 e g i (λw F h=>IK.2 h) j
def FT(k:Nat):∀w F,(Is gr jv s).P (2*k) w F->(∀b,F b->b<w.heap.size)->Kp 73 #[.pointer (some ⟨gr,0,none⟩)] w λa w'=>a=.returned (.agg (rep (CT k s)).l.toArray)/\Fx (Is gr jv s) (2*k) F none w w':=λw F c _=>by
 obtain⟨m,n,d,e,g,i⟩:=IK.1 c;exact(qG d).mono λa w' j=>L5 e g i (λw F h=>IK.2 h) j
def Pb(k:Nat)(ok:(CT k s).1.Ok):∀w F,(Is gr jv s).P (2*k) w F->(∀b,F b->b<w.heap.size)->AY Tryz.prog DG #[jv,.agg (rep (CT k s)).l.toArray] w λa w'=>a=.returned (.agg (ask (CT k s)).l.toArray)/\Fx (Is gr jv s) (2*k+1) F none w w':=λw F c _=>by
 obtain⟨j,m,d,e,f,g⟩:=IK.1 c;exact(sZ _ _ _ _ _ e ok).mono λa w' i=>zD d f g (λw F h=>tp.2 h) i
def FU(k:Nat)(c:Xi)(g:(bif (ask (CT k s)).kind==12 then Y7 else ask (CT k s))=c)(ok:TR (CT k s).2)(a:JS (CT k s)=false)(i:QK c):∀w F,(Is gr jv s).P (2*k+1) w F->(∀b,F b->b<w.heap.size)->
  Kp 71 #[.pointer (some ⟨gr,0,none⟩),.agg c.l.toArray] w λd w'=>d=.returned .nilIface/\Fx (Is gr jv s) (2*k+2) F none w w':=λw F j _=>by
 obtain⟨t,u,m,n,o,p⟩:=tp.1 j
 have q:(CT k s).2.R.step=0:=by unfold JS at a;simpa using a
 refine(eF c m ok q i).mono λd w' r=>L5 n o p (λw F h=>?_) r
 have e:(CT (k+1) s).2=(CT k s).2.Ag c:=by show(BJ (CT k s)).2=_;unfold BJ;rw[g]
 exact(IK (k:=k+1)).2 (by rw[e];exact h)
end
def JH:QK Y7:=db (fq rfl)
def rq(V:Dp)(g gr:Nat)(jv:Value)(s:JM)(w:World)(F:Nat->Prop)(B:Bk w g 126 (V.l (.pointer (some ⟨gr,0,none⟩)) jv).toArray)(h:RJ gr jv s.2 s.1 w F)(C:¬F g)(ok:WO s)(st:JS s=false->Ky 5 s):
  Kp 56 #[.pointer (some ⟨g,2,none⟩)] w (KG (Is gr jv s) (QI V (JS s) (rounds 5 s)).2 F g 126 ((QI V (JS s) (rounds 5 s)).1.l (.pointer (some ⟨gr,0,none⟩)) jv).toArray (.tuple #[]) w):=by
 obtain⟨U,W,X,G,Y,Z⟩:=id h
 obtain⟨D,E⟩:=G.val
 have n:∀{k:Nat},((ask (CT k s)).kind==12)=true->(bif (ask (CT k s)).kind==12 then Y7 else ask (CT k s))=Y7:=λe=>by rw[e];rfl
 have o:∀{k:Nat},((ask (CT k s)).kind==12)=false->(bif (ask (CT k s)).kind==12 then Y7 else ask (CT k s))=ask (CT k s):=λe=>by rw[e];rfl
 cases u:JS s with
 |true=>
  have el:∀l,QI V true l=(V,0):=λl=>by unfold QI;cases V.Ac==0<;>rfl
  have d:∀{P:Prop},JS (CT 0 s)=false->P:=λh=>by rw[show JS (CT 0 s)=JS s from rfl,u] at h;cases h
  have q:=eI (Φ:=Is gr jv s) (F:=F) V ⟨gr,0,none⟩ jv (JS (CT 0 s)) (rep (CT 0 s)) (X3 0 0) (JS (CT 1 s)) (rep (CT 1 s)) (X3 0 0) (JS (CT 2 s)) (rep (CT 2 s)) (X3 0 0) (JS (CT 3 s)) (rep (CT 3 s)) (X3 0 0)
   (JS (CT 4 s)) (rep (CT 4 s)) (X3 0 0) (JS (CT 5 s)) g w B D E (λA=>by cases A)
   (Gp 0) (FT 0) (λa=>d a) (λa _=>d a) (λa _=>d a)
   (Gp 1) (FT 1) (λa _ _=>d a) (λa _ _ _=>d a) (λa _ _ _=>d a)
   (Gp 2) (FT 2) (λa _ _ _ _=>d a) (λa _ _ _ _ _=>d a) (λa _ _ _ _ _=>d a)
   (Gp 3) (FT 3) (λa _ _ _ _ _ _=>d a) (λa _ _ _ _ _ _ _=>d a) (λa _ _ _ _ _ _ _=>d a)
   (Gp 4) (FT 4) (λa _ _ _ _ _ _ _ _=>d a) (λa _ _ _ _ _ _ _ _ _=>d a) (λa _ _ _ _ _ _ _ _ _=>d a)
   (Gp 5) (IK (k:=0).2 h) C h.lt
  rw[show JS (CT 0 s)=true from u,el] at q
  rw[el]
  exact q
 |false=>
 replace st:=st u
 rw[←u]
 exact eI (Φ:=Is gr jv s) (F:=F) V ⟨gr,0,none⟩ jv (JS (CT 0 s)) (rep (CT 0 s)) (ask (CT 0 s)) (JS (CT 1 s)) (rep (CT 1 s)) (ask (CT 1 s)) (JS (CT 2 s)) (rep (CT 2 s)) (ask (CT 2 s)) (JS (CT 3 s)) (rep (CT 3 s)) (ask (CT 3 s))
  (JS (CT 4 s)) (rep (CT 4 s)) (ask (CT 4 s)) (JS (CT 5 s)) g w B D E (λA I K L N O Q R S T=>st A I K L N O Q R S T)
  (Gp 0) (FT 0) (λa=>Pb 0 (ok 0 (by intro i b;obtain rfl:i=0:=Zo;exact a) (by intro i b;omega)).1)
  (λa c=>let q:=ok 0 (by intro i b;obtain rfl:i=0:=Zo;exact a) (by intro i b;omega);FU 0 _ (o c) q.2.1 a (q.2.2 c))
  (λa c=>let q:=ok 0 (by intro i b;obtain rfl:i=0:=Zo;exact a) (by intro i b;omega);FU 0 _ (n c) q.2.1 a JH)
  (Gp 1) (FT 1) (λa j c=>Pb 1 (ok 1 (by intro i b;rcases(by omega:i=0\/i=1) with rfl|rfl<;>assumption) (by intro i b;obtain rfl:i=0:=Zo;assumption)).1)
  (λa j c m=>let q:=ok 1 (by intro i b;rcases(by omega:i=0\/i=1) with rfl|rfl<;>assumption) (by intro i b;obtain rfl:i=0:=Zo;assumption);FU 1 _ (o m) q.2.1 j (q.2.2 m))
  (λa j c m=>let q:=ok 1 (by intro i b;rcases(by omega:i=0\/i=1) with rfl|rfl<;>assumption) (by intro i b;obtain rfl:i=0:=Zo;assumption);FU 1 _ (n m) q.2.1 j JH)
  (Gp 2) (FT 2) (λa j p c m=>Pb 2 (ok 2 (by intro i b;rcases(by omega:i=0\/i=1\/i=2) with rfl|rfl|rfl<;>assumption) (by intro i b;rcases(by omega:i=0\/i=1) with rfl|rfl<;>assumption)).1)
  (λa j p c m r=>let q:=ok 2 (by intro i b;rcases(by omega:i=0\/i=1\/i=2) with rfl|rfl|rfl<;>assumption) (by intro i b;rcases(by omega:i=0\/i=1) with rfl|rfl<;>assumption);FU 2 _ (o r) q.2.1 p (q.2.2 r))
  (λa j p c m r=>let q:=ok 2 (by intro i b;rcases(by omega:i=0\/i=1\/i=2) with rfl|rfl|rfl<;>assumption) (by intro i b;rcases(by omega:i=0\/i=1) with rfl|rfl<;>assumption);FU 2 _ (n r) q.2.1 p JH)
  (Gp 3) (FT 3) (λa j p v c m r=>Pb 3 (ok 3 (by intro i b;rcases(by omega:i=0\/i=1\/i=2\/i=3) with rfl|rfl|rfl|rfl<;>assumption) (by intro i b;rcases(by omega:i=0\/i=1\/i=2) with rfl|rfl|rfl<;>assumption)).1)
  (λa j p v c m r x=>let q:=ok 3 (by intro i b;rcases(by omega:i=0\/i=1\/i=2\/i=3) with rfl|rfl|rfl|rfl<;>assumption) (by intro i b;rcases(by omega:i=0\/i=1\/i=2) with rfl|rfl|rfl<;>assumption);FU 3 _ (o x) q.2.1 v (q.2.2 x))
  (λa j p v c m r x=>let q:=ok 3 (by intro i b;rcases(by omega:i=0\/i=1\/i=2\/i=3) with rfl|rfl|rfl|rfl<;>assumption) (by intro i b;rcases(by omega:i=0\/i=1\/i=2) with rfl|rfl|rfl<;>assumption);FU 3 _ (n x) q.2.1 v JH)
  (Gp 4) (FT 4) (λa j p v y c m r x=>Pb 4 (ok 4 (by intro i b;rcases(by omega:i=0\/i=1\/i=2\/i=3\/i=4) with rfl|rfl|rfl|rfl|rfl<;>assumption) (by intro i b;rcases(by omega:i=0\/i=1\/i=2\/i=3) with rfl|rfl|rfl|rfl<;>assumption)).1)
  (λa j p v y c m r x z=>let q:=ok 4 (by intro i b;rcases(by omega:i=0\/i=1\/i=2\/i=3\/i=4) with rfl|rfl|rfl|rfl|rfl<;>assumption) (by intro i b;rcases(by omega:i=0\/i=1\/i=2\/i=3) with rfl|rfl|rfl|rfl<;>assumption);FU 4 _ (o z) q.2.1 y (q.2.2 z))
  (λa j p v y c m r x z=>let q:=ok 4 (by intro i b;rcases(by omega:i=0\/i=1\/i=2\/i=3\/i=4) with rfl|rfl|rfl|rfl|rfl<;>assumption) (by intro i b;rcases(by omega:i=0\/i=1\/i=2\/i=3) with rfl|rfl|rfl|rfl<;>assumption);FU 4 _ (n z) q.2.1 y JH)
  (Gp 5) (IK (k:=0).2 h) C h.lt
def G5(V:MV):Dp:=⟨V.st,V.eng,V.Ac,V.call,V.op,V.BR⟩
def IJ{V:MV}(h:V.Ef=true):V.quiet=true:=by unfold MV.quiet;rw[h];simp
def KO{V:MV}(h:V.Ac=0):V.quiet=true:=by unfold MV.quiet;rw[h];rfl
def MA{V:MV}(h:V.Ef=false)(a:V.Ac≠0):V.quiet=false:=by unfold MV.quiet;rw[h,show(V.Ac==0)=false from by simp[a]];rfl
def FJ{V:MV}(h:V.quiet=true):∀m,MV.Sb m V=V
 |0=>rfl
 |m+1=>by unfold MV.Sb;rw[h];rfl
def PZ{V:MV}(h:V.quiet=false)(m:Nat):MV.Sb (m+1) V=MV.Sb m V.Hi:=by
 show(bif V.quiet then V else MV.Sb m V.Hi)=_;rw[h];rfl
def rs{V:MV}{J:Xz}(b:V.Bl=some J)(c:V.Ac=1\/V.Ac=2)(a:((ask (J,V.M)).kind==12)=false):
  V.Hi={V with Ac:=2,call:=ask (J,V.M),Bl:=some (BJ (J,V.M)).1,M:=(BJ (J,V.M)).2}:=by
 unfold MV.Hi
 rw[show(V.Ac==1||V.Ac==2)=true from by rcases c with h|h<;>simp[h],b]
 unfold BJ
 rw[a]
 unfold ask rep at a ⊢
 simp only[i9,gx,a,k9]
 rfl
def vE{V:MV}{J:Xz}(b:V.Bl=some J)(c:V.Ac=1\/V.Ac=2)(a:((ask (J,V.M)).kind==12)=true):
  V.Hi={V with Ac:=3,call:=Y7,BR:=(ask (J,V.M)).BR,Bl:=some (BJ (J,V.M)).1,M:=(BJ (J,V.M)).2}:=by
 unfold MV.Hi
 rw[show(V.Ac==1||V.Ac==2)=true from by rcases c with h|h<;>simp[h],b]
 unfold BJ
 rw[a]
 unfold ask rep at a ⊢
 simp only[i9,gx,a,iv]
 rfl
def Sa{V:MV}(b:V.Ac≠1)(a:V.Ac≠2):V.Hi={V with Ac:=0}:=by
 unfold MV.Hi;rw[show(V.Ac==1||V.Ac==2)=false from by simp[b,a]];rfl
def Qa:∀(n:Nat) (V:MV) (J:Xz),V.Bl=some J->(V.Ac=1\/V.Ac=2)->V.Ef=false->Ky n (J,V.M)->∀m,n+1<=m->∀p,
  ∃r,(TL (rounds n (J,V.M)) (G5 V) p).2=p+2*r/\G5 (MV.Sb m V)=(TL (rounds n (J,V.M)) (G5 V) p).1/\(MV.Sb m V).Bl=some (CT r (J,V.M)).1/\(MV.Sb m V).M=(CT r (J,V.M)).2
 |0,V,J,c,b,g,d,m,i,p=>d.elim
 |n+1,V,J,c,b,g,d,m,i,p=>by
  obtain⟨m,rfl⟩:∃e,m=e+1:=⟨m-1,Zo⟩;have j:V.quiet=false:=MA g (by rcases b with h|h<;>omega);rw[PZ j];unfold rounds TL;cases f:((ask (J,V.M)).kind==12) with
  |false=>
   rw[rs c b f];simp only[k9,i9];cases a:JS (BJ (J,V.M)) with
   |true=>
    rw[FJ (IJ (V:={V with Ac:=2,call:=ask (J,V.M),Bl:=some (BJ (J,V.M)).1,M:=(BJ (J,V.M)).2}) a)];exact⟨1,rfl,rfl,rfl,rfl⟩
   |false=>
    obtain⟨r,k,l,q,t⟩:=Qa n {V with Ac:=2,call:=ask (J,V.M),Bl:=some (BJ (J,V.M)).1,M:=(BJ (J,V.M)).2} (BJ (J,V.M)).1 rfl (db rfl) a (d f a) m Zo (p+2);refine⟨r+1,?_,l,?_,?_⟩
    ·simp only[gx];exact k.trans Zo
    ·rw[q];exact iy (λs:JM=>some s.1) (dT r (J,V.M))
    ·rw[t];exact iy (λs:JM=>s.2) (dT r (J,V.M))
  |true=>
   rw[vE c b f];simp only[iv,gx];cases a:JS (BJ (J,V.M)) with
   |true=>
    rw[FJ (IJ (V:={V with Ac:=3,call:=Y7,BR:=(ask (J,V.M)).BR,Bl:=some (BJ (J,V.M)).1,M:=(BJ (J,V.M)).2}) a)];exact⟨1,rfl,rfl,rfl,rfl⟩
   |false=>
    obtain⟨m,rfl⟩:∃e,m=e+1:=⟨m-1,Zo⟩;rw[PZ (MA (V:={V with Ac:=3,call:=Y7,BR:=(ask (J,V.M)).BR,Bl:=some (BJ (J,V.M)).1,M:=(BJ (J,V.M)).2}) a Zs),Sa Zs Zs,FJ (KO rfl)];exact⟨1,rfl,rfl,rfl,rfl⟩
def mC{V:MV}{J:Xz}(c:V.Bl=some J)(a:V.Ac=1\/V.Ac=2)(d:V.Ef=false->Ky 5 (J,V.M)):
  ∃r,(QI (G5 V) (JS (J,V.M)) (rounds 5 (J,V.M))).2=2*r/\G5 V.advance=(QI (G5 V) (JS (J,V.M)) (rounds 5 (J,V.M))).1/\V.advance.Bl=some (CT r (J,V.M)).1/\V.advance.M=(CT r (J,V.M)).2:=by
 unfold QI
 have e:((G5 V).Ac==0)=false:=by show(V.Ac==0)=false;rcases a with h|h<;>simp[h]
 rw[e]
 cases b:JS (J,V.M) with
 |true=>
  unfold MV.advance
  rw[FJ (IJ b)]
  exact⟨0,rfl,rfl,c,rfl⟩
 |false=>
  obtain⟨r,k,f,g,i⟩:=Qa 5 V J c a b (d b) 16 Zo 0
  have j:(bif (G5 V).Ac==1 then TL (rounds 5 (J,V.M)) (G5 V) 0 else bif (G5 V).Ac==2 then TL (rounds 5 (J,V.M)) (G5 V) 0 else({G5 V with Ac:=0},0))=TL (rounds 5 (J,V.M)) (G5 V) 0:=by
   show(bif V.Ac==1 then _ else bif V.Ac==2 then _ else _)=_;rcases a with h|h<;>rw[h]<;>rfl
  simp only[k9,i9,j]
  exact⟨r,Zo,f,g,i⟩
def Mo(gr:Nat)(jv:Value)(M:MR)(o:Option Xz)(w:World)(F:Nat->Prop):Prop:=
 match o with
 |some J=>RJ gr jv M J w F
 |none=>jv=.nilIface/\∃a,Le w gr M a/\∀b,F b↔b∈a
section
variable{gr:Nat}{jv:Value}{M:MR}{o:Option Xz}{w w':World}{F:Nat->Prop}
def Mo.AL(h:Mo gr jv M o w F)(a:∀b,F b->w'.heap[b]?=w.heap[b]?):Mo gr jv M o w' F:=by
 cases o with
 |none=>obtain⟨d,e,f,c⟩:=h;exact⟨d,e,f.same λb g=>a b ((c b).2 g),c⟩
 |some J=>exact RJ.AL h a
def Mo.lt(h:Mo gr jv M o w F):∀b,F b->b<w.heap.size:=by
 cases o with
 |none=>obtain⟨e,f,a,c⟩:=h;exact λb d=>a.lt b ((c b).1 d)
 |some J=>exact RJ.lt h
def Mo.one(h:Mo gr jv M o w F):jv.oneCell'=true:=by
 cases o with
 |none=>obtain⟨rfl,_⟩:=h;rfl
 |some J=>obtain⟨_,_,_,a,_⟩:=h;exact a.val.1
def OB{M':MR}{V:Value}(h:Mo gr jv M o w F){f:Nat}{args:Array Value}(k:∀a,Le w gr M a->Kp f args w (Jb (λw F=>Le w gr M' F) V a w))(Φ:Hg)(j:Nat)(l:∀w F,Mo gr jv M' o w F->Φ.P j w F):
  Kp f args w λe w'=>e=.returned V/\Fx Φ j F none w w':=by
 cases o with
 |some J=>
  obtain⟨a,t,g,n,p,d⟩:=h
  exact(k a g).mono λe w' i=>L5 n p d (λw F h=>l w F h) i
 |none=>
  obtain⟨q,a,g,d⟩:=h
  refine(k a g).mono λe w' i=>?_
  obtain⟨m,p1,p2,r,s⟩:=i
  exact⟨p1,Tf s (λb c=>(d b).2 c) ⟨λb=>b∈m,l _ _ ⟨q,m,p2,λb=>j3⟩,λb c=>(r b c).imp (d b).2 id,λb c=>p2.lt b c⟩⟩
end
def VB(w:World)(gv:Nat)(V:MV)(F:Nat->Prop):Prop:=
 ∃gr jv a,Bk w gv 126 ((G5 V).l (.pointer (some ⟨gr,0,none⟩)) jv).toArray/\Mo gr jv V.M V.Bl w a/\¬a gv/\∀b,F b↔b=gv\/a b
section
variable{gv:Nat}{V:MV}{w w':World}{F:Nat->Prop}
def VB.AL(h:VB w gv V F)(c:∀b,F b->w'.heap[b]?=w.heap[b]?):VB w' gv V F:=by
 obtain⟨gr,jv,d,e,f,g,a⟩:=h;exact⟨gr,jv,d,e.same (c gv ((a gv).2 (fq rfl))),f.AL λb i=>c b ((a b).2 (db i)),g,a⟩
def VB.lt(h:VB w gv V F):∀b,F b->b<w.heap.size:=by
 obtain⟨gr,jv,f,c,d,g,e⟩:=h;intro b a;rcases(e b).1 a with rfl|a
 ·exact c.lt
 ·exact d.lt b a
def Qi(V:MV):Prop:=((V.Ac=1\/V.Ac=2)/\∃J,V.Bl=some J/\WO (J,V.M)/\(V.Ef=false->Ky 5 (J,V.M)))\/(V.Ac≠1/\V.Ac≠2)
end
def VPo(gr:Nat)(jv:Value)(V':MV)(g:Nat)(F:Nat->Prop)(c:Value)(w:World)(d:Ending)(w':World):Prop:=
 d=.returned c/\Bk w' g 126 ((G5 V').l (.pointer (some ⟨gr,0,none⟩)) jv).toArray/\CI (λb=>b=g\/F b) w w'/\∃a:Nat->Prop,Mo gr jv V'.M V'.Bl w' a/\¬a g/\(∀b,a b->b<w'.heap.size)/\∀b,a b->F b\/w.heap.size<=b
def aI(V:MV)(g gr:Nat)(jv:Value)(w:World)(F:Nat->Prop)(a:Bk w g 126 ((G5 V).l (.pointer (some ⟨gr,0,none⟩)) jv).toArray)(h:Mo gr jv V.M V.Bl w F)(u:¬F g)(ok:Qi V):
  Kp 56 #[.pointer (some ⟨g,2,none⟩)] w (VPo gr jv V.advance g F (.tuple #[]) w):=by
 rcases ok with⟨x,J,v,y,st⟩|⟨b,c⟩
 ·rw[v] at h;obtain⟨r,z,A,B,C⟩:=mC v x st;refine(rq (G5 V) g gr jv (J,V.M) w F a h u y st).mono λD w' k=>?_;obtain⟨p1,p2,m,n,i,p,q,s⟩:=k;rw[z] at i;refine⟨p1,by rw[A];exact p2,m,n,?_,p,q,s⟩;rw[B,C];exact IK.1 i
 ·have E:=vC (Φ:=⟨λ_ w F=>Mo gr jv V.M V.Bl w F,λ_ _ _ _ h G=>h.AL G⟩) (F:=F) (G5 V) ⟨gr,0,none⟩ jv V.Ef g w a h.one (by show(V.Ac==1)=false;simp[b]) (by show(V.Ac==2)=false;simp[c])
   (λw F H _=>OB H (λL I=>SX I) _ 0 λw F h=>h) h u h.lt
  refine E.mono λD w' k=>?_;obtain⟨p1,p2,m,n,i,p,q,s⟩:=k;have e:V.advance.M=V.M/\V.advance.Bl=V.Bl/\G5 V.advance=(bif !((G5 V).Ac==0) then bif !V.Ef then({G5 V with Ac:=0}:Dp) else G5 V else G5 V):=by
   unfold MV.advance;by_cases j:V.Ac=0
   ·rw[FJ (KO j)];refine⟨rfl,rfl,?_⟩;show G5 V=bif !(V.Ac==0) then _ else _;rw[j];rfl
   ·have d:(V.Ac==0)=false:=by simp[j]
    cases a:V.Ef with
    |true=>
     rw[FJ (IJ a)];refine⟨rfl,rfl,?_⟩;show G5 V=bif !(V.Ac==0) then _ else _;rw[d];rfl
    |false=>
     rw[PZ (MA a j),Sa b c,FJ (KO rfl)];refine⟨rfl,rfl,?_⟩;show G5 {V with Ac:=0}=bif !(V.Ac==0) then _ else _;rw[d];rfl
  refine⟨p1,by rw[e.2.2];exact p2,m,n,by rw[e.1,e.2.1];exact i,p,q,s⟩
