/- Core: LH, LI, LJ. -/
import Derived.Test.YtaipogljokblkaaGreatDoorP13
set_option linter.all false
set_option maxRecDepth 100000
set_option maxHeartbeats 8000000
namespace Go.Proofs.YtaipogljokblkaaGreatDoor
open Go Go.RowKit
structure Se(st:Int)(n:Nat)(M:MR)(c:Xi):Prop where
 b:ry st n M.R c
 s0:M.R.step<13->M.ss=[]
 mJ:M.R.step=13->(M.ss.length:Int)<=M.R.index
 iJ:M.R.step=16->∃d r,M.ds=d::r/\M.R.AH=⟨5,.zero,d.ref,.zero⟩
def I8(st:Int)(n t:Nat)(c:Xi)(M:MR):Prop:=
 Bj n t M/\((M.R.step≠0/\Se st n M c)\/(M.R.step=0/\Qq st n c M.R.Az))
section
variable{st:Int}{n t:Nat}{M:MR}{R R':Xd}{c:Xi}{x:Xr}
def Bj.up{a:Nat}(h:Bj n t M)(b:t<=a):Bj n a M:=⟨h.Q9,h.Q8,h.QY,h.Ua,h.eng,gb h.nl b,h.Pz,h.sl,h.OQ⟩
def Bj.of{ns ds:List Xw}{ss:List Xe}(h:Bj n t ⟨R,ns,ds,ss⟩)(f:Hd R R'):Bj n t ⟨R',ns,ds,ss⟩:=by
 obtain⟨a,b,d,e⟩:=f;exact⟨by show 0<=R'.me;rw[a];exact h.Q9,by show R'.me<6;rw[a];exact h.Q8,by show 1<=R'.Ae;rw[b];exact h.QY,by show R'.Ae<=6;rw[b];exact h.Ua,by show R'.Aa=2\/R'.Aa=4;rw[d];exact h.eng,h.nl,h.Pz,h.sl,h.OQ⟩
def Bj.zp{ns ds:List Xw}{ss:List Xe}(h:Bj n t ⟨R,ns,ds,ss⟩):Bj n t ⟨R,ns,[],[]⟩:=⟨h.Q9,h.Q8,h.QY,h.Ua,h.eng,h.nl,oq _,by simp,h.OQ⟩
def Bj.wrap(h:Bj n t M)(a:Hd M.R R'):Bj n t (M.wrap R'):=by
 unfold MR.wrap;cases R'.step==0 with
 |true=>exact(Bj.of (R:=M.R) (ds:=M.ds) (ss:=M.ss) h a).zp
 |false=>exact Bj.of (R:=M.R) (ds:=M.ds) (ss:=M.ss) h a
def ID(M:MR)(R':Xd):(M.wrap R').R=R':=by unfold MR.wrap;cases R'.step==0<;>rfl
def Ih(a:c.kind≠3)(b:c.kind≠6)(d:c.kind≠8):Qq st n c ⟨.zero,true⟩:=
 ⟨Yy,λh=>absurd h d,λ_ h=>h.elim (λh=>absurd h a) λh=>absurd h b⟩
def Zw(h:Bj n t M)(f:MZ st n M.R c (Qq st n c) R')(a:(M.ss=[]/\(R'.step=13->0<=R'.index))\/14<=R'.step)(d:R'.step≠16):I8 st n t c (M.wrap R'):=by
 refine⟨h.wrap f.1,?_⟩;rcases f.2 with⟨b,i⟩|⟨b,j⟩
 ·have g:(R'.step==0)=false:=by simp[b]
  refine fq ⟨by rw[ID];exact b,by rw[ID];exact i,?_,?_,?_⟩
  ·rw[ID];intro e;unfold MR.wrap;rw[g];rcases a with a|a
   ·exact a.1
   ·omega
  ·rw[ID];intro e;unfold MR.wrap;rw[g];rcases a with a|a
   ·show((M.ss.length:Nat):Int)<=R'.index;rw[a.1];exact a.2 e
   ·omega
  ·rw[ID];exact λe=>absurd e d
 ·exact db ⟨by rw[ID];exact b,by rw[ID];exact j⟩
def MZ.rep{p q:Xr->Prop}(h:MZ st n R c p R')(a:∀x,p x->q x):MZ st n R c q R':=⟨h.1,h.2.imp id λh=>⟨h.1,a _ h.2⟩⟩
def iH(R:Xd)(t1:1<=R.Ae)(t6:R.Ae<=6)(j:R.call=c)(k:c.kind=10\/c.kind=11):R.scan.step≠16/\(R.scan.step=13->0<=R.scan.index):=by
 unfold Xd.scan;cases g:R.Aa==1 with
 |true=>exact⟨by show(0:Int)≠16;decide,λh=>by have h:(0:Int)=13:=h;omega⟩
 |false=>
  have g:R.Aa≠1:=by simpa using g
  simp only[gx];cases m:R.Aa==4 with
  |true=>exact⟨by show(12:Int)≠16;decide,λh=>by have h:(12:Int)=13:=h;omega⟩
  |false=>
   have i:=Lp (st:=1) (n:=0) t1 t6 j k g 0 Zd;have l:(R.look 0).2=true:=by
    have:=(OZ t1 t6).1;cases h:(R.look 0).2 with
    |true=>rfl
    |false=>exact absurd (i.2.1 h) Zo
   obtain⟨a,b,d,e,f⟩:=i.1 l;simp only[gx];exact⟨by rw[f];decide,λ_=>by rw[e];decide⟩
def cR(h:Bj n t M)(f:M.ss=[])(a:M.R.call=c)(b:c.kind=10\/c.kind=11):I8 st n t c M.scan:=by
 have d:=iH M.R h.QY h.Ua a b;refine Zw h ((oP h.QY h.Ua a b).rep λx e=>?_) (fq ⟨f,λe=>d.2 e⟩) d.1;rw[show x=⟨.zero,true⟩ from e];exact Ih Zo Zo Zo
def NK(h:Bj n t M)(a:c.kind≠3)(b:c.kind≠6)(d:c.kind≠8):I8 st n t c (M.wrap M.R.done):=
 by
 refine⟨h.wrap ⟨rfl,rfl,rfl,rfl⟩,db ⟨by rw[ID];rfl,by rw[ID];exact Ih a b d⟩⟩
def O8(h:Bj n t M)(a:M.ss=[])(b:M.R.call=c)(d:c.kind=10):I8 st n t c M.noted:=by
 unfold MR.noted;cases decide (M.R.most<=(M.ns.length:Int)) with
 |true=>exact cR h a b (fq d)
 |false=>exact NK h Zo Zo Zo
def cY(h:Bj n t M)(e:Df n M.R.call.AU)(b d:Int):Bj n (t+1) (M.note b d):=by
 refine⟨h.Q9,h.Q8,h.QY,h.Ua,h.eng,?_,h.Pz.trans (List.sublist_append_left _ _),h.sl,λx a=>?_⟩
 ·have:=h.nl;show(M.ns++_).length<=_;simp;omega
 ·rcases gy.1 a with a|a
  ·exact h.OQ x a
  ·rw[ft.1 a];exact G3 e
def yP(h:Bj n t M)(c:Xi):Bj n t ⟨M.R.A8 c,M.ns,[],[]⟩:=(Bj.of (R':=M.R.A8 c) (R:=M.R) (ns:=M.ns) (ds:=M.ds) (ss:=M.ss) h ⟨rfl,rfl,rfl,rfl⟩).zp
def iO(h:Bj n t M)(d:M.ss=[])(a:M.R.call=c)(f:c.kind=10)(b:Df n c.AU):I8 st n (t+1) c M.retire:=by
 unfold MR.retire;cases g:M.R.Aa==2 with
 |true=>exact O8 (M:=M.note 0 0) (cY h (by rw[a];exact b) 0 0) d a f
 |false=>
  have h:=h.up (lw t);simp only[gx];unfold Xd.Ki;cases M.R.Aa==1 with
  |true=>exact NK h Zo Zo Zo
  |false=>
   simp only[gx];cases M.R.Aa==4 with
   |true=>
    refine Zw h ⟨⟨rfl,rfl,rfl,rfl⟩,fq ⟨by show(10:Int)≠0;decide,a,Dd (db (fq rfl)),?_⟩⟩ (fq ⟨d,λe=>by have e:(10:Int)=13:=e;omega⟩) (by show(10:Int)≠16;decide);exact d8 (db (fq ⟨rfl,f,b⟩))
   |false=>
    refine Zw h ⟨⟨rfl,rfl,rfl,rfl⟩,fq ⟨by show(9:Int)≠0;decide,a,Dd (fq (Eu (Bw (by rw[a];exact b) Zd Zd))),?_⟩⟩ (fq ⟨d,λe=>by have e:(9:Int)=13:=e;omega⟩) (by show(9:Int)≠16;decide);exact d8 (fq ⟨rfl,f,b⟩)
def nine{i:Int}(h:i∈([0,1,2,3,4,5,6,7,8]:List Int)):0<=i/\i<9:=by
 simp only[gf,ic,or_false] at h;omega
def qV(h:Bj n t M)(o:CAny st n c):I8 st n (t+1) c (M.Ag c):=by
 have v:=yP h c;have w:=v.up (lw t);have f:∀{R':Xd} {s:Int},R'.step=s->s≠13->s≠16->MZ st n (M.R.A8 c) c (Qq st n c) R'->I8 st n (t+1) c ⟨R',M.ns,[],[]⟩:=λ{R'} {s} e z A l=>by
  have q:=Zw (M:=⟨M.R.A8 c,M.ns,[],[]⟩) w l (fq ⟨rfl,λB=>absurd (e.symm.trans B) z⟩) (by rw[e];exact A);have:MR.wrap ⟨M.R.A8 c,M.ns,[],[]⟩ R'=⟨R',M.ns,[],[]⟩:=by unfold MR.wrap;cases R'.step==0<;>rfl
  rwa [this] at q
 have go:∀{k:Int},c.kind=k->k≠10->k≠11->M.Ag c=⟨M.R.Aw c,M.ns,[],[]⟩:=λ{k} e a b=>by
  unfold MR.Ag;rw[show(c.kind==10)=false from by simp[e,a],show(c.kind==11)=false from by simp[e,b]];rfl
 have C:c.kind=2->I8 st n (t+1) c (M.Ag c):=λd=>by
  rw[go d Zd Zd];have e:M.R.Aw c=(M.R.A8 c).Cw [0,1,2,3,4,5,6,7,8]:=by unfold Xd.Aw;rw[d];rfl
  have l:=Ra (st:=st) (n:=n) (R:=M.R.A8 c) (c:=c) (rep:=Qq st n c) (Ih Zo Zo Zo) h.Q9 h.Q8 rfl d [0,1,2,3,4,5,6,7,8] (λi m=>nine m);rw[e];have y:((M.R.A8 c).Cw [0,1,2,3,4,5,6,7,8]).step≠13/\((M.R.A8 c).Cw [0,1,2,3,4,5,6,7,8]).step≠16:=by
   rcases l.2 with⟨_,_,_,q⟩|⟨q,_⟩
   ·omega
   ·omega
  exact f rfl y.1 y.2 l
 have D:c.kind=1->I8 st n (t+1) c (M.Ag c):=λd=>by
  rw[go d Zd Zd];have e:M.R.Aw c=(M.R.A8 c).enter:=by unfold Xd.Aw;rw[d];rfl
  rw[e];unfold Xd.enter;cases(M.R.A8 c).EU with
  |true=>exact f (s:=3) rfl Zd Zd ⟨⟨rfl,rfl,rfl,rfl⟩,fq ⟨by show(3:Int)≠0;decide,rfl,Dd (db (fq rfl)),d2 (fq ⟨rfl,d⟩)⟩⟩
  |false=>exact f (s:=0) rfl Zd Zd (Ju _ (Ih Zo Zo Zo))
 rcases o with⟨o,p⟩|rfl|rfl|rfl
 ·rcases o with⟨d,ha⟩|⟨d,ha,r,_⟩|⟨d,ha,r,E⟩|⟨d,ha,F,G,I⟩|⟨d,g⟩|d|⟨d,g⟩|⟨d,g⟩|d
  ·rw[go d Zd Zd];have e:M.R.Aw c=(M.R.A8 c).load 1 c.AJ:=by unfold Xd.Aw;rw[d];rfl
   rw[e];exact f (s:=1) rfl Zd Zd ⟨⟨rfl,rfl,rfl,rfl⟩,fq ⟨by show(1:Int)≠0;decide,rfl,Dd (fq ha),fq ⟨rfl,fq ⟨d,rfl,rfl,ha⟩⟩⟩⟩
  ·rw[go d Zd Zd];have e:M.R.Aw c=(M.R.A8 c).ask 1 ⟨2,c.AJ,c.AU,c.new⟩:=by unfold Xd.Aw;rw[d];rfl
   rw[e];exact f (s:=1) rfl Zd Zd ⟨⟨rfl,rfl,rfl,rfl⟩,fq ⟨by show(1:Int)≠0;decide,rfl,db (fq ⟨rfl,fq ⟨ha,r⟩⟩),fq ⟨rfl,db (fq ⟨d,rfl,Eu ha⟩)⟩⟩⟩
  ·rw[go d Zd Zd];have e:M.R.Aw c=(M.R.A8 c).ask 1 ⟨3,c.AJ,c.AU,c.new⟩:=by unfold Xd.Aw;rw[d];rfl
   rw[e];exact f (s:=1) rfl Zd Zd ⟨⟨rfl,rfl,rfl,rfl⟩,fq ⟨by show(1:Int)≠0;decide,rfl,d2 (fq ⟨rfl,fq ⟨ha,r,E⟩⟩),fq ⟨rfl,d2 (fq ⟨d,rfl,ha⟩)⟩⟩⟩
  ·rw[go d Zd Zd];have e:M.R.Aw c=(M.R.A8 c).load 5 c.AJ:=by unfold Xd.Aw;rw[d];rfl
   rw[e];exact f (s:=5) rfl Zd Zd ⟨⟨rfl,rfl,rfl,rfl⟩,fq ⟨by show(5:Int)≠0;decide,rfl,Dd (fq ha),d4 (fq ⟨rfl,d,F,G,rfl,rfl,ha⟩)⟩⟩
  ·rw[go d Zd Zd];have e:M.R.Aw c=(M.R.A8 c).hold c.i c.j:=by unfold Xd.Aw;rw[d];rfl
   rw[e];unfold Xd.hold;cases(M.R.A8 c).AO&&!uq ((M.R.A8 c).Dc c.i) ((M.R.A8 c).Dc c.j) with
   |true=>
    obtain⟨p1,p2,J,u,H,K⟩:=NL (M.R.A8 c) 2 c.i ((M.R.A8 c).Dc c.j);simp only[i9];have m:0<=c.i/\c.i<9:=by rcases g with h|h|h|h|h|h|h|h<;>omega
    exact f u Zd Zd ⟨p1,fq ⟨by rw[u];decide,p2,by rw[H];exact I6 (LZ h.Q9 h.Q8 m.1 m.2),db (fq ⟨u,Zo,Zo,Zo⟩)⟩⟩
   |false=>exact f (s:=0) rfl Zd Zd (Ju _ (Ih Zo Zo Zo))
  ·rw[go d Zd Zd];have e:M.R.Aw c=(M.R.A8 c).alloc:=by unfold Xd.Aw;rw[d];rfl
   rw[e];unfold Xd.alloc;cases(M.R.A8 c).dating with
   |true=>exact f (s:=8) rfl Zd Zd ⟨⟨rfl,rfl,rfl,rfl⟩,fq ⟨by show(8:Int)≠0;decide,rfl,Dd (db (fq rfl)),d4 (d2 (db (fq ⟨rfl,d⟩)))⟩⟩
   |false=>exact f (s:=1) rfl Zd Zd ⟨⟨rfl,rfl,rfl,rfl⟩,fq ⟨by show(1:Int)≠0;decide,rfl,eL,fq ⟨rfl,d2 (db ⟨d,rfl⟩)⟩⟩⟩
  ·rw[go d Zd Zd];have e:M.R.Aw c=(M.R.A8 c).ask 2 ⟨5,.zero,c.AU,.zero⟩:=by unfold Xd.Aw;rw[d];rfl
   rw[e];exact f (s:=2) rfl Zd Zd ⟨⟨rfl,rfl,rfl,rfl⟩,fq ⟨by show(2:Int)≠0;decide,rfl,WJ g,db (fq ⟨rfl,Zo,Zo,Zo⟩)⟩⟩
  ·have e:M.Ag c=MR.retire ⟨M.R.A8 c,M.ns,[],[]⟩:=by unfold MR.Ag;rw[d];rfl
   rw[e];exact iO v rfl rfl d g
  ·exact absurd d p
 ·exact D rfl
 ·exact C rfl
 ·have e:M.Ag EI=MR.scan ⟨M.R.A8 EI,M.ns,[],[]⟩:=rfl;rw[e];exact cR w rfl rfl (db rfl)
def cS(h:Bj n t M)(b:M.R.call=c)(f:c.kind=10\/c.kind=11):I8 st n t c M.reap:=by
 unfold MR.reap;cases a:M.ds with
 |nil=>
  exact NK h Zo Zo Zo
 |cons d r=>
  have g:d∈M.ns:=h.Pz.subset (by rw[a];exact g6 ..);have e:MR.reap M={M with R:=M.R.ask 16 ⟨5,.zero,d.ref,.zero⟩}:=by unfold MR.reap;rw[a]
  unfold MR.reap at e;rw[a] at e;rw[e];refine⟨Bj.of (R:=M.R) (ds:=d::r) (ss:=M.ss) (by rw[←a];exact h) ⟨rfl,rfl,rfl,rfl⟩,fq ⟨by show(16:Int)≠0;decide,⟨b,WJ (h.OQ d g),?_⟩,λe=>?_,λe=>?_,λ_=>⟨d,r,rfl,rfl⟩⟩⟩
  ·exact d8 (d4 (d2 (db ⟨rfl,f⟩)))
  ·have e:(16:Int)<13:=e;omega
  ·have e:(16:Int)=13:=e;omega
def cQ(h:Bj n t M)(a:M.R.call=c)(b:c.kind=10\/c.kind=11):I8 st n t c M.sift:=
 cS (M:={M with ds:=M.ns.filter λn=>!M.stays n}) ⟨h.Q9,h.Q8,h.QY,h.Ua,h.eng,h.nl,List.filter_sublist,h.sl,h.OQ⟩ a b
def P1{s:Int}{a:Xd}(h:Bj n t M)(b:M.ss=[])(d:Hd M.R a)(j:a.call=c)(f:ry st n (a.load s (root 24)) c)(s0:s≠0)(g:s≠13)(i:s≠16):I8 st n t c (M.wrap (a.load s (root 24))):=
 Zw h ⟨d,fq ⟨s0,f⟩⟩ (fq ⟨b,λe=>absurd e g⟩) i
def M1(h:Bj n t M)(L:Se st n M c)(h0:M.R.step≠0)(w:su st n M.R.AH x):I8 st n (t+1) c (M.Ah x):=by
 have f:=h.up (lw t);obtain⟨o,ha,A⟩:=L.b;have g:=L.s0;have B:∀J:Xd,Hd M.R J->J.call=c->J.Aa=4->(c.kind=10\/c.kind=11)->MZ st n M.R c (Qq st n c) (J.load 15 (root 24)):=λJ a b d e=>
  ⟨a,fq ⟨by show(15:Int)≠0;decide,b,Dd (db (fq rfl)),d8 (d4 (d2 (fq ⟨rfl,e,d⟩)))⟩⟩
 rcases A with⟨j,A⟩|⟨j,k3,k6,k8⟩|⟨j,m⟩|⟨j,m,D,s,u⟩|⟨j,m,s,u,C,E,p⟩|⟨j,m,s,u,D,p,wo,N⟩|⟨j,m,s,u,p⟩|⟨j,m⟩|⟨j,m,S⟩|⟨j,m,S⟩|⟨j,m⟩|⟨j,m,D⟩|⟨j,m,D,s,il⟩|⟨j,m,D⟩|⟨j,m,D⟩|⟨j,m⟩
 ·have e:M.Ah x=M.wrap (M.R.finish x):=by unfold MR.Ah;simp only[j];rfl
  rw[e];refine Zw f (Oy ?_) (fq ⟨g Zo,λe=>by have e:(0:Int)=13:=e;omega⟩) (by show(0:Int)≠16;decide);rcases A with⟨k,C,E,p⟩|⟨k,C,p⟩|⟨k,C,p⟩|⟨k,C⟩
  ·refine⟨w.1 (by rw[E];exact p),λe=>Zo,λF _ G H=>w.2.2 F C (by rw[E];exact G) (by rw[E];exact H)⟩
  ·exact⟨w.1 p,λe=>Zo,λ_ e=>Zo⟩
  ·exact⟨w.1 p,λe=>Zo,λ_ e=>Zo⟩
  ·exact⟨(w.2.1 C).1,λ_=>(w.2.1 C).2,λ_ e=>Zo⟩
 ·have e:M.Ah x=M.wrap M.R.done:=by unfold MR.Ah;simp only[j];rfl
  rw[e];exact NK f k3 k6 k8
 ·have e:M.Ah x=M.wrap (M.R.DV 2 ⟨true,x.word.nm,x.word.nm⟩):=by unfold MR.Ah;simp only[j];rfl
  rw[e];exact Zw f (IG h.Q9 h.Q8 o (fq ⟨rfl,Zo,Zo,Zo⟩)) (fq ⟨g Zo,λe=>by have e:(2:Int)=13:=e;omega⟩) (by show(2:Int)≠16;decide)
 ·have e:M.Ah x=M.wrap (M.R.Cw (([0,1,2,3,4,5,6,7,8]:List Int).filter λn=>decide (M.R.index<n))):=by unfold MR.Ah;simp only[j];rfl
  rw[e];have A:=Ra (st:=st) (n:=n) (R:=M.R) (c:=c) (rep:=Qq st n c) (Ih Zo Zo Zo) h.Q9 h.Q8 o m (([0,1,2,3,4,5,6,7,8]:List Int).filter λn=>decide (M.R.index<n)) (λi hi=>nine (List.mem_filter.1 hi).1);have Z:(M.R.Cw (([0,1,2,3,4,5,6,7,8]:List Int).filter λn=>decide (M.R.index<n))).step≠13/\(M.R.Cw (([0,1,2,3,4,5,6,7,8]:List Int).filter λn=>decide (M.R.index<n))).step≠16:=by
   rcases A.2 with⟨_,_,_,q⟩|⟨q,_⟩
   ·omega
   ·omega
  exact Zw f A (fq ⟨g Zo,λe=>absurd e Z.1⟩) Z.2
 ·have e:M.Ah x=M.wrap (M.R.FV x):=by unfold MR.Ah;simp only[j];rfl
  rw[e];have wx:Dg n x.word:=w.1 (by rw[E];exact p);have N:st=2->c.AJ.sl=0->c.AJ.fd=0->Df n x.word:=λF G H=>w.2.2 F C (by rw[E];exact G) (by rw[E];exact H);have fin:MZ st n M.R c (Qq st n c) (Xd.finish {M.R with word:=x.word} ⟨x.word,true⟩):=⟨⟨rfl,rfl,rfl,rfl⟩,db ⟨rfl,wx,λe=>Zo,λF _ G H=>N F G H⟩⟩;unfold Xd.FV;simp only;cases I:Xd.dating {M.R with word:=x.word} with
  |true=>
   have I:tZ M.R:=by unfold Xd.dating at I;simpa [tZ] using I
   simp only[i9];refine Zw f ⟨⟨rfl,rfl,rfl,rfl⟩,fq ⟨by show(6:Int)≠0;decide,o,Dd (db (fq rfl)),?_⟩⟩ (fq ⟨g Zo,λe=>by have e:(6:Int)=13:=e;omega⟩) (by show(6:Int)≠16;decide);exact d4 (db (fq ⟨rfl,m,s,u,I,p,wx,N⟩))
  |false=>
   simp only[gx];cases(M.R.Aa==2&&(!(x.word.sl==0)&&!XD (Xd.Dc {M.R with word:=x.word} M.R.call.i) x.word)) with
   |true=>
    obtain⟨p1,p2,p3,v,T,p6⟩:=NL {M.R with word:=x.word} 7 M.R.call.i (Yx x.word);simp only[i9];refine Zw f ⟨p1,fq ⟨by rw[v];decide,p2.trans o,by rw[T];exact I6 (LZ h.Q9 h.Q8 (by rw[o];exact s) (by rw[o];exact u)),?_⟩⟩ (fq ⟨g Zo,λe=>by rw[v] at e;omega⟩) (by rw[v];decide);exact d4 (d2 (fq ⟨v,m,s,u,p⟩))
   |false=>
    simp only[gx];exact Zw f fin (fq ⟨g Zo,λe=>by have e:(0:Int)=13:=e;omega⟩) (by show(0:Int)≠16;decide)
 ·have e:M.Ah x=M.wrap (M.R.Io x):=by unfold MR.Ah;simp only[j];rfl
  rw[e];unfold Xd.Io;cases M.R.MS M.R.call.i x.word.nm with
  |true=>
   simp only[i9];exact Zw f (Oy ⟨wo,λe=>Zo,λF _ G H=>N F G H⟩) (fq ⟨g Zo,λe=>by have e:(0:Int)=13:=e;omega⟩) (by show(0:Int)≠16;decide)
  |false=>
   simp only[gx];cases M.R.Aa==3 with
   |true=>
    obtain⟨p1,p2,p3,v,T,p6⟩:=NL M.R 7 M.R.call.i (Y6 x.word.nm);simp only[i9];refine Zw f ⟨p1,fq ⟨by rw[v];decide,p2.trans o,by rw[T];exact I6 (LZ h.Q9 h.Q8 (by rw[o];exact s) (by rw[o];exact u)),?_⟩⟩ (fq ⟨g Zo,λe=>by rw[v] at e;omega⟩) (by rw[v];decide);exact d4 (d2 (fq ⟨v,m,s,u,p⟩))
   |false=>
    simp only[gx];exact Zw f (IG h.Q9 h.Q8 o (db ⟨rfl,m,s,u,p⟩)) (fq ⟨g Zo,λe=>by have e:(7:Int)=13:=e;omega⟩) (by show(7:Int)≠16;decide)
 ·have e:M.Ah x=M.wrap (M.R.load 5 M.R.call.AJ):=by unfold MR.Ah;simp only[j];rfl
  rw[e];refine Zw f ⟨⟨rfl,rfl,rfl,rfl⟩,fq ⟨by show(5:Int)≠0;decide,o,Dd (fq (by rw[o];exact p)),?_⟩⟩ (fq ⟨g Zo,λe=>by have e:(5:Int)=13:=e;omega⟩) (by show(5:Int)≠16;decide);exact d4 (fq ⟨rfl,m,s,u,rfl,by rw[o];rfl,p⟩)
 ·have e:M.Ah x=M.wrap (M.R.ask 1 ⟨4,.zero,.zero,Y6 x.word.nm⟩):=by unfold MR.Ah;simp only[j];rfl
  rw[e];exact Zw f ⟨⟨rfl,rfl,rfl,rfl⟩,fq ⟨by show(1:Int)≠0;decide,o,eL,fq ⟨rfl,d2 (db ⟨m,rfl⟩)⟩⟩⟩ (fq ⟨g Zo,λe=>by have e:(1:Int)=13:=e;omega⟩) (by show(1:Int)≠16;decide)
 ·have e:M.Ah x=M.wrap (Xd.load {M.R with word:=x.word} 10 (root 24)):=by unfold MR.Ah;simp only[j];rfl
  rw[e];exact P1 f (g Zo) ⟨rfl,rfl,rfl,rfl⟩ o ⟨o,Dd (db (fq rfl)),d8 (db (fq ⟨rfl,m,S⟩))⟩ Zd Zd Zd
 ·have e:M.Ah x=bif M.R.dating then{MR.note {M with R:={M.R with clock:=x.word}} M.R.word.nm x.word.nm with R:=(MR.note {M with R:={M.R with clock:=x.word}} M.R.word.nm x.word.nm).R.advance 11} else(MR.note {M with R:={M.R with clock:=x.word}} M.R.word.nm x.word.nm).noted:=by unfold MR.Ah;simp only[j];rfl
  rw[e];have hn:=cY (M:={M with R:={M.R with clock:=x.word}}) (Bj.of (R:=M.R) (ds:=M.ds) (ss:=M.ss) h ⟨rfl,rfl,rfl,rfl⟩) (by show Df n M.R.call.AU;rw[o];exact S) M.R.word.nm x.word.nm;cases M.R.dating with
  |false=>exact O8 hn (g Zo) o m
  |true=>
   refine⟨Bj.of hn ⟨rfl,rfl,rfl,rfl⟩,fq ⟨by show(11:Int)≠0;decide,⟨o,Sc,?_⟩,λ_=>g Zo,λe=>?_,λe=>?_⟩⟩
   ·exact d8 (d2 (fq ⟨rfl,m⟩))
   ·have e:(11:Int)=13:=e;omega
   ·have e:(11:Int)=16:=e;omega
 ·have e:M.Ah x=M.noted:=by unfold MR.Ah;simp only[j];rfl
  rw[e];exact O8 f (g Zo) o m
 ·have e:M.Ah x=M.wrap (Xd.look {M.R with clock:=x.word} 0).1:=by unfold MR.Ah;simp only[j];rfl
  rw[e];have O:=Lp (st:=st) (n:=n) (R:={M.R with clock:=x.word}) h.QY h.Ua o m (by show M.R.Aa≠1;omega) 0 Zd;have aa:=(OZ (R:={M.R with clock:=x.word}) h.QY h.Ua).1;have U:(Xd.look {M.R with clock:=x.word} 0).2=true:=by
   cases h:(Xd.look {M.R with clock:=x.word} 0).2 with
   |true=>rfl
   |false=>exact absurd (O.2.1 h) Zo
  obtain⟨V,W,X,Y,q5⟩:=O.1 U;exact Zw f ⟨V,fq ⟨W,X⟩⟩ (fq ⟨g Zo,λ_=>by rw[Y];decide⟩) (by rw[q5];decide)
 ·have e:M.Ah x=M.AQ x:=by unfold MR.Ah;simp only[j];rfl
  rw[e];unfold MR.AQ;have ab:=OZ (R:=M.R) h.QY h.Ua;have ad:=L.mJ j;have K:(M.ss++[x.word]).length=M.ss.length+1:=by simp
  have P:Bj n (t+1) {M with ss:=M.ss++[x.word]}:=⟨f.Q9,f.Q8,f.QY,f.Ua,f.eng,f.nl,f.Pz,by show(M.ss++[x.word]).length<=54;omega,f.OQ⟩;have O:=Lp (st:=st) (n:=n) (R:=M.R) h.QY h.Ua o m D (M.R.index+1) Zo;simp only;cases U:(M.R.look (M.R.index+1)).2 with
  |true=>
   obtain⟨V,W,X,Y,q5⟩:=O.1 U;refine⟨Bj.of P V,fq ⟨W,X,λe=>?_,λ_=>?_,λe=>?_⟩⟩
   ·simp only[i9] at e;omega
   ·show(((M.ss++[x.word]).length:Nat):Int)<=(M.R.look (M.R.index+1)).1.index;rw[K,Y];omega
   ·simp only[i9] at e;omega
  |false=>
   simp only[gx];cases Q:!(M.R.Aa==4) with
   |true=>exact cQ P o m
   |false=>
    have Q:M.R.Aa=4:=by simpa using Q
    simp only[gx];cases CM M.R.clock.nm ((M.ss++[x.word]).map Ei) with
    |true=>
     refine⟨Bj.of P ⟨rfl,rfl,rfl,rfl⟩,fq ⟨by show(14:Int)≠0;decide,⟨o,Sc,?_⟩,λe=>?_,λe=>?_,λe=>?_⟩⟩
     ·exact d8 (d4 (db (fq ⟨rfl,m,Q⟩)))
     ·have e:(14:Int)<13:=e;omega
     ·have e:(14:Int)=13:=e;omega
     ·have e:(14:Int)=16:=e;omega
    |false=>
     have A:=B M.R (Hd.refl _) o Q m;rcases A.2 with⟨z,q⟩|⟨z,q⟩
     ·refine⟨Bj.of P ⟨rfl,rfl,rfl,rfl⟩,fq ⟨z,q,λe=>?_,λe=>?_,λe=>?_⟩⟩
      ·have e:(15:Int)<13:=e;omega
      ·have e:(15:Int)=13:=e;omega
      ·have e:(15:Int)=16:=e;omega
     ·have z:(15:Int)=0:=z;omega
 ·have e:M.Ah x=M.wrap (M.R.load 15 (root 24)):=by unfold MR.Ah;simp only[j];rfl
  rw[e];exact Zw f (B M.R (Hd.refl _) o D m) (db (by show(14:Int)<=15;decide)) (by show(15:Int)≠16;decide)
 ·have e:M.Ah x=MR.sift {M with R:={M.R with clock:=x.word}}:=by unfold MR.Ah;simp only[j];rfl
  rw[e];exact cQ (M:={M with R:={M.R with clock:=x.word}}) ⟨f.Q9,f.Q8,f.QY,f.Ua,f.eng,f.nl,f.Pz,f.sl,f.OQ⟩ o m
 ·have e:M.Ah x=M.GN:=by unfold MR.Ah;simp only[j];rfl
  rw[e];obtain⟨d,r,I,ae⟩:=L.iJ j;unfold MR.GN;rw[I];simp only;refine cS (M:=⟨{M.R with A7:=wr (M.R.A7+1)},M.ns.erase d,r,M.ss⟩) ⟨f.Q9,f.Q8,f.QY,f.Ua,f.eng,?_,?_,f.sl,λy hy=>f.OQ y (List.mem_of_mem_erase hy)⟩ o m
  ·have:=(List.erase_sublist (a:=d) (l:=M.ns)).length_le;have:=f.nl;show(M.ns.erase d).length<=t+1;omega
  ·have hq:=f.Pz.erase d;rw[I,pu] at hq;exact hq
end
structure HI(st:Int)(n:Nat)(p:Pl):Prop where
 nb:p.nb=85
 ns:p.ns=n
 Wh:∀x∈p.free,1<=x/\x<=(n:Int)
 mN:p.free.Nodup
 lA:∀x∈p.free,(p.slot x).used=false
 rt:∀r,0<=r->r<24->CP st n (root r) (p.board r)
 cell:∀s f,1<=s->s<=(n:Int)->0<=f->f<10->Dg n ((p.slot s).cell f)
def NF(p p':Pl):Prop:=∀r,0<=r->r<24->p'.board r=p.board r\/(p'.board r).tg=wr ((p.board r).tg+1)
def NF.refl(p:Pl):NF p p:=λ_ _ _=>fq rfl
def Iv:∀(n:Nat) (l:List Int),l.Nodup->(∀x∈l,1<=x/\x<=(n:Int))->l.length<=n
 |0,l,_,h=>by
  cases l with
  |nil=>exact Nat.le_refl 0
  |cons x r=>have:=h x (g6 ..);omega
 |n+1,l,f,h=>by
  by_cases g:((n+1:Nat):Int)∈l
  ·have i:=Iv n (l.erase ((n+1:Nat):Int)) (f.erase _) λx c=>by
    have b:=(f.mem_erase_iff).1 c;have:=h x b.2;have:=b.1;omega
   rw[List.length_erase_of_mem g] at i;omega
  ·have i:=Iv n l f λx c=>by
    have:=h x c;have:x≠((n+1:Nat):Int):=λe=>g (e▸c);omega
   omega
section
variable{st:Int}{n:Nat}{p:Pl}{a:Bx}{w:Xe}{d:Yc}
def HI.len(h:HI st n p):p.free.length<=n:=Iv n p.free h.mN h.Wh
def HI.BJ(h:HI st n p)(s:Int):HI st n {p with steps:=s}:=⟨h.nb,h.ns,h.Wh,h.mN,h.lA,h.rt,h.cell⟩
def HI.flt(h:HI st n p)(b:Bool):HI st n {p with fault:=b}:=⟨h.nb,h.ns,h.Wh,h.mN,h.lA,h.rt,h.cell⟩
def HI.get(h:HI st n p)(ha:Jo n d):Dg n (p.get d):=by
 unfold Pl.get;rcases ha with⟨b,f,c,e⟩|⟨b,f,c,e⟩
 ·rw[show(d.sl==0)=false from by simp;omega];exact h.cell _ _ b f c e
 ·rw[show(d.sl==0)=true from by simp[b]];exact(h.rt _ c e).1
def HI.has(h:HI st n p)(ha:Jo n d\/d=root 24\/WU d):p.has d=true:=by
 unfold Pl.has Pl.BY;rw[h.nb,h.ns];rcases ha with(⟨b,c,e,f⟩|⟨b,c,e,f⟩)|rfl|⟨b,c,e,f⟩
 ·rw[show(d.sl==0)=false from by simp;omega];simp;omega
 ·rw[show(d.sl==0)=true from by simp[b]];simp;omega
 ·rfl
 ·rw[show(d.sl==0)=true from by simp[b]];simp;omega
def HI.put(h:HI st n p)(ha:(vU n d/\Dg n w)\/(Jo n d/\CP st n d w)\/WU d\/d=root 24):HI st n (p.put d w):=by
 unfold Pl.put;have slot:vU n d->Dg n w->HI st n {p with slot:=Ar p.slot d.sl {p.slot d.sl with cell:=Ar (p.slot d.sl).cell d.fd w}}:=λ⟨v,y,z,A⟩ g=>by
  refine⟨h.nb,h.ns,h.Wh,h.mN,λx m=>?_,h.rt,λs f a b c e=>?_⟩
  ·by_cases k:x=d.sl
   ·subst k;show((Ar p.slot d.sl _) d.sl).used=false;rw[AP];exact h.lA _ m
   ·show((Ar p.slot d.sl _) x).used=false;rw[BM _ _ k];exact h.lA _ m
  ·by_cases k:s=d.sl
   ·subst k;show Dg n (((Ar p.slot d.sl _) d.sl).cell f);rw[AP];by_cases o:f=d.fd
    ·subst o;show Dg n (Ar _ d.fd w d.fd);rw[AP];exact g
    ·show Dg n (Ar _ d.fd w f);rw[BM _ _ o];exact h.cell _ _ a b c e
   ·show Dg n (((Ar p.slot d.sl _) s).cell f);rw[BM _ _ k];exact h.cell _ _ a b c e
 have i:d.sl=0->(0<=d.fd->d.fd<24->CP st n (root d.fd) w)->HI st n {p with board:=Ar p.board d.fd w}:=λB g=>by
  refine⟨h.nb,h.ns,h.Wh,h.mN,h.lA,λr a b=>?_,h.cell⟩;by_cases q:r=d.fd
  ·subst q;show CP st n _ (Ar p.board d.fd w d.fd);rw[AP];exact g a b
  ·show CP st n _ (Ar p.board d.fd w r);rw[BM _ _ q];exact h.rt r a b
 rcases ha with⟨ha,g⟩|⟨ha|ha,g⟩|l|rfl
 ·rw[show(d.sl==0)=false from by simp;have:=ha.1;omega];exact slot ha g
 ·rw[show(d.sl==0)=false from by simp;have:=ha.1;omega];exact slot ha g.1
 ·rw[show(d.sl==0)=true from by simp[ha.1]];exact i ha.1 λ_ _=>⟨g.1,λt _ u=>g.2 t ha.1 u⟩
 ·rw[show(d.sl==0)=true from by simp[l.1]];exact i l.1 λ_ j=>by have:=l.2.2.1;omega
 ·exact i rfl λ_ j=>by have j:(24:Int)<24:=j;omega
def MB(p:Pl)(d:Yc)(w:Xe)(r:Int):(p.put d w).board r=if d.sl=0/\d.fd=r then w else p.board r:=by
 unfold Pl.put;by_cases h:d.sl=0
 ·rw[show(d.sl==0)=true from by simp[h]];show Ar p.board d.fd w r=_;by_cases b:d.fd=r
  ·subst b;rw[AP,ga ⟨h,rfl⟩]
  ·rw[BM _ _ (λe=>b e.symm),fw (λe=>b e.2)]
 ·rw[show(d.sl==0)=false from by simp[h],fw (λe=>h e.1)];rfl
def HI.alloc(h:HI st n p)(b:Int):HI st n (p.alloc b).1/\Dg n (p.alloc b).2.word/\((p.alloc b).2.ok=true->Df n (p.alloc b).2.word)/\(p.alloc b).1.board=p.board:=by
 unfold Pl.alloc;cases g:p.free.getLast? with
 |none=>exact⟨h,Yy,λe=>(by cases e),rfl⟩
 |some x=>
  obtain ⟨l,g⟩:∃ l,p.free = l++[x]:=⟨p.free.dropLast,by
   have j:p.free≠[]:=λe=>by rw[e] at g;cases g
   have:=List.dropLast_concat_getLast j;rw[uh j] at g;cases g;exact this.symm⟩
  have m:=h.Wh x (by rw[g];simp);have r:p.free.dropLast=l:=by rw[g];simp
  have k:=h.mN;rw[g] at k;have t:∀y∈l,y≠x:=λy i e=>by
   have:=h9.1 k;exact this.2.2 y i x Zs e
  simp only[r];refine⟨⟨h.nb,h.ns,λy i=>h.Wh y (by rw[g];exact g8 _ i),(h9.1 k).1,λy i=>?_,h.rt,λs f a b c e=>?_⟩,⟨by show 0<=x;omega,m.2,λe=>by have e:x=0:=e;omega⟩,λ_=>m,trivial⟩
  ·show((Ar p.slot x _) y).used=false;rw[BM _ _ (t y i)];exact h.lA y (by rw[g];exact g8 _ i)
  ·by_cases o:s=x
   ·subst o;show Dg n (((Ar p.slot s _) s).cell f);rw[AP];by_cases q:f=9
    ·subst q;simp only[AP];exact Cy
    ·simp only[BM _ _ q];exact Yy
   ·show Dg n (((Ar p.slot x _) s).cell f);rw[BM _ _ o];exact h.cell _ _ a b c e
def HI.free(h:HI st n p){s:Int}(l:1<=s)(m:s<=(n:Int))(k:(p.slot s).used=true):HI st n {p with slot:=Ar p.slot s {p.slot s with used:=false},free:=p.free++[s]}:=by
 refine⟨h.nb,h.ns,λx g=>?_,?_,λx g=>?_,h.rt,λj f a b c e=>?_⟩
 ·rcases gy.1 g with g|g
  ·exact h.Wh x g
  ·rw[ft.1 g];exact⟨l,m⟩
 ·refine h9.2 ⟨h.mN,by simp,λx g y o e=>?_⟩;rw[ft.1 o] at e;subst e;rw[h.lA x g] at k;cases k
 ·by_cases i:x=s
  ·subst i;show((Ar p.slot x _) x).used=false;rw[AP]
  ·show((Ar p.slot s _) x).used=false;rw[BM _ _ i];rcases gy.1 g with g|g
   ·exact h.lA x g
   ·exact absurd (ft.1 g) i
 ·by_cases i:j=s
  ·subst i;show Dg n (((Ar p.slot j _) j).cell f);rw[AP];exact h.cell _ _ a b c e
  ·show Dg n (((Ar p.slot s _) j).cell f);rw[BM _ _ i];exact h.cell _ _ a b c e
def OC{k:Int}(b:a.kind=k)(c:k≠4)(e:k≠5):p.right a=p.live a.AJ.sl a.AJ.gn:=by
 unfold Pl.right;rw[show(a.kind==4)=false from by simp[b,c],show(a.kind==5)=false from by simp[b,e]];rfl
def bR(h:HI st n p)(ha:Qn st n a):p.valid a=true/\HI st n (p.act a).1/\su st n a (p.act a).2/\NF p (p.act a).1:=by
 have f:=h.BJ (wr (p.steps+1));have hF:=f.flt true;have g:∀k:Int,a.kind=k->k≠4->(st=2->k=1->a.AJ.sl≠0)->su st n a (Pl.refused a.kind):=λk c A u=>by
  have B:Dg n (Pl.refused a.kind).word:=by
   unfold Pl.refused;cases(a.kind==1||a.kind==3)
   ·exact Yy
   ·exact Cy
  exact⟨λ_=>B,λe=>absurd (c.symm.trans e) A,λx e o=>absurd o (u x (c.symm.trans e))⟩
 have Nq:∀q:Pl,a.AJ.sl=0->q.live a.AJ.sl a.AJ.gn=true:=λq e=>by unfold Pl.live;rw[e];rfl
 unfold Pl.act;simp only;rcases ha with⟨c,ha⟩|⟨c,ha⟩|⟨c,ha⟩|c|⟨c,m⟩
 ·have v:p.valid a=true:=by unfold Pl.valid;rw[c];exact h.has ha
  refine⟨v,?_⟩;rw[OC c Zd Zd];cases i:Pl.live {p with steps:=wr (p.steps+1)} a.AJ.sl a.AJ.gn with
  |false=>exact⟨hF,g 1 c Zd λ_ _ e=>(by rw[Nq _ e] at i;cases i),NF.refl _⟩
  |true=>
   have e:Pl.touch {p with steps:=wr (p.steps+1)} a=({p with steps:=wr (p.steps+1)},⟨Pl.get {p with steps:=wr (p.steps+1)} a.AJ,true⟩):=by unfold Pl.touch;rw[c];rfl
   rw[show(a.kind==4)=false from by simp[c],show(a.kind==5)=false from by simp[c]];simp only[iv,gx,e];refine⟨f,⟨λj=>f.get j,λs=>Zo,λx _ o y=>?_⟩,NF.refl _⟩;show Df n (Pl.get _ a.AJ);unfold Pl.get;rw[show(a.AJ.sl==0)=true from by simp[o],y];exact(h.rt 0 Zd Zd).2 x rfl rfl
 ·have v:p.valid a=true:=by unfold Pl.valid;rw[c];exact h.has (ha.elim (λh=>fq (Eu h.1)) λh=>db (db h))
  refine⟨v,?_⟩;rw[OC c Zd Zd];cases i:Pl.live {p with steps:=wr (p.steps+1)} a.AJ.sl a.AJ.gn with
  |false=>exact⟨hF,g 2 c Zd λ_ e=>(by cases e),NF.refl _⟩
  |true=>
   have e:Pl.touch {p with steps:=wr (p.steps+1)} a=(Pl.put {p with steps:=wr (p.steps+1)} a.AJ a.new,⟨.zero,true⟩):=by unfold Pl.touch;rw[c];rfl
   rw[show(a.kind==4)=false from by simp[c],show(a.kind==5)=false from by simp[c]];simp only[iv,gx,e];refine⟨f.put (ha.elim fq λh=>d2 (fq h)),⟨λ_=>Yy,λs=>Zo,λ_ s=>Zo⟩,λr C u=>fq ?_⟩;rw[MB,fw];rintro⟨o,y⟩;rcases ha with⟨j,_⟩|j
   ·have:=j.1;omega
   ·have:=j.2.2.1;omega
 ·have v:p.valid a=true:=by unfold Pl.valid;rw[c];exact h.has (ha.elim (λh=>fq h.1) λh=>db (fq h))
  refine⟨v,?_⟩;rw[OC c Zd Zd];cases i:Pl.live {p with steps:=wr (p.steps+1)} a.AJ.sl a.AJ.gn with
  |false=>exact⟨hF,g 3 c Zd λ_ e=>(by cases e),NF.refl _⟩
  |true=>
   have e:Pl.touch {p with steps:=wr (p.steps+1)} a=bif B7 (Pl.get {p with steps:=wr (p.steps+1)} a.AJ) a.AU then(Pl.put {p with steps:=wr (p.steps+1)} a.AJ a.new,⟨Pl.get {p with steps:=wr (p.steps+1)} a.AJ,true⟩) else({p with steps:=wr (p.steps+1)},⟨Pl.get {p with steps:=wr (p.steps+1)} a.AJ,false⟩):=by unfold Pl.touch;rw[c];rfl
   rw[show(a.kind==4)=false from by simp[c],show(a.kind==5)=false from by simp[c]];simp only[iv,gx,e];have gk:∀b:Bool,su st n a ⟨Pl.get {p with steps:=wr (p.steps+1)} a.AJ,b⟩:=λb=>⟨λj=>f.get j,λs=>Zo,λ_ s=>Zo⟩;cases t:B7 (Pl.get {p with steps:=wr (p.steps+1)} a.AJ) a.AU with
   |false=>exact⟨f,gk false,NF.refl _⟩
   |true=>
    refine⟨f.put (ha.elim (λh=>db (fq ⟨h.1,h.2.1⟩)) λh=>d2 (db h)),gk true,λr C u=>?_⟩;show(Pl.put _ a.AJ a.new).board r=_\/_;rw[MB];by_cases l:a.AJ.sl=0/\a.AJ.fd=r
    ·right;simp only[i9];rw[MB,ga l];rcases ha with⟨_,_,D⟩|ha
     ·rw[D];have E:(Pl.get {p with steps:=wr (p.steps+1)} a.AJ)=p.board r:=by
       unfold Pl.get;rw[show(a.AJ.sl==0)=true from by simp[l.1],l.2];rfl
      rw[E] at t;unfold B7 at t;simp only[gm,jn] at t;rw[t.2.1]
     ·rw[ha] at l;have:(24:Int)=r:=l.2;omega
    ·left;rw[fw l]
 ·refine⟨by unfold Pl.valid;rw[c];rfl,?_⟩;rw[show Pl.right {p with steps:=wr (p.steps+1)} a=true from by unfold Pl.right;rw[c];rfl,show(a.kind==4)=true from by simp[c]];simp only[iv,gx,i9];obtain⟨F,z,G,H⟩:=f.alloc a.new.nm;exact⟨F,⟨λ_=>z,λ_=>⟨z,G⟩,λ_ e=>Zo⟩,λr _ _=>fq (by rw[H])⟩
 ·refine⟨by unfold Pl.valid Pl.BY;rw[c,h.ns];have:=m.1;have:=m.2;simp;omega,?_⟩;have I:Pl.right {p with steps:=wr (p.steps+1)} a=Pl.live {p with steps:=wr (p.steps+1)} a.AU.sl a.AU.gn:=by unfold Pl.right;rw[c];rfl
  rw[I];cases i:Pl.live {p with steps:=wr (p.steps+1)} a.AU.sl a.AU.gn with
  |false=>exact⟨hF,g 5 c Zd λ_ e=>(by cases e),NF.refl _⟩
  |true=>
   rw[show(a.kind==4)=false from by simp[c],show(a.kind==5)=true from by simp[c]];simp only[iv,gx,i9];have J:(p.slot a.AU.sl).used=true:=by
    unfold Pl.live at i;have:=m.1;rw[show(a.AU.sl==0)=false from by simp;omega] at i;simp only[Bool.false_or,gm] at i;exact i.1
   exact⟨f.free m.1 m.2 J,⟨λ_=>Yy,λe=>Zo,λ_ e=>Zo⟩,NF.refl _⟩
end
def JI(st:Int)(n:Nat):Xz->Xi->Prop
 |.pile J,c=>st=1/\Qf n J c
 |.Wu J,c=>st=2/\bX n J c
 |.lit J,c=>st=3/\Jj n J c
 |.Lm J,c=>st=4/\vK n J c
 |.N8 J,c=>st=5/\vL n J c
def N3(st:Int)(o:AV):Prop:=
 (st=1/\o.key=0/\o.Al=0/\((o.kind=1/\0<=o.val/\o.val<=1073741824)\/((o.kind=2\/o.kind=3)/\o.val=0)))\/
 (st=2/\o.key=0/\o.Al=0/\((o.kind=4/\0<=o.val/\o.val<=1073741824)\/(o.kind=5/\o.val=0)))\/
 ((st=3\/st=4)/\0<=o.key/\o.key<=255/\o.Al=0/\((o.kind=6/\0<=o.val/\o.val<=1073741824)\/((o.kind=7\/o.kind=8)/\o.val=0)))\/
 (st=5/\0<=o.key/\o.key<=255/\((o.kind=6/\0<=o.val/\o.val<=1073741824/\1<=o.Al/\o.Al<=3)\/((o.kind=7\/o.kind=8)/\o.val=0/\o.Al=0)))
section
variable{st:Int}{n t:Nat}{J:Xz}{c:Xi}{x:Xr}
def JE(h:JI st n J c)(a:c.kind≠12)(b:Qq st n c x):JI st n (J.next x).1 (J.next x).2/\Kz st n (J.next x).2/\Calm Xz.next 3 (J.next x).1 (J.next x).2:=by
 cases J with
 |pile J=>
  obtain⟨rfl,h⟩:=h;have q:=yY Zd h a b;have d:0<=J.pc/\J.pc<=5:=by
   rcases h.2.1 with e|e
   ·exact absurd (h.2.2.1.1 e) a
   ·exact e
  exact⟨⟨rfl,q.1⟩,q.2,I4 Xz.pile (λ_ _=>rfl) 3 (jU x d.1 d.2)⟩
 |Wu J=>
  obtain⟨rfl,h⟩:=h;have q:=yi h a b;have d:0<=J.pc/\J.pc<=8:=by
   rcases h.2.2.2.1 with e|e
   ·exact absurd (h.2.2.2.2.1.1 e) a
   ·exact e
  exact⟨⟨rfl,q.1⟩,q.2,I4 Xz.Wu (λ_ _=>rfl) 3 (uG x d.1 d.2 λ_=>d.2)⟩
 |lit J=>
  obtain⟨rfl,h⟩:=h;have q:=sP Zd h a b;exact⟨⟨rfl,q.1⟩,q.2,I4 Xz.lit (λ_ _=>rfl) 3 (OX x h a)⟩
 |Lm J=>
  obtain⟨rfl,h⟩:=h;have q:=uF Zd h a b;exact⟨⟨rfl,q.1⟩,q.2,I4 Xz.Lm (λ_ _=>rfl) 3 (nK x h a b.1)⟩
 |N8 J=>
  obtain⟨rfl,h⟩:=h;have q:=vp Zd h a b;exact⟨⟨rfl,q.1⟩,q.2,I4 Xz.N8 (λ_ _=>rfl) 3 (oV x h a)⟩
def Pc:Zj.kind=1:=rfl
def Tt{o:AV}(h:N3 st o):JI st n (Xz.new st o) Zj/\∀x,EO ((Xz.new st o).next x).2=false/\((Xz.new st o).next x).2.kind≠12:=by
 obtain⟨k,b,g,d⟩:=o;simp only[N3] at h;rcases h with⟨rfl,rfl,rfl,h⟩|⟨rfl,rfl,rfl,h⟩|⟨rfl|rfl,f,i,rfl,h⟩|⟨rfl,f,i,h⟩
 ·refine⟨⟨rfl,?_⟩,λx=>?_⟩
  ·show Qf n (Xy.new _) Zj;simp only[Qf,Xy.new,Xy.zero,Pc];exact⟨Yy,db ⟨Zd,Zd⟩,by simp,λ_=>⟨by simp,by simp⟩,by simp⟩
  ·show EO (Xy.next (Xy.new _) x).2=false/\(Xy.next (Xy.new _) x).2.kind≠12;rcases h with⟨rfl,_⟩|⟨rfl|rfl,_⟩<;>exact⟨rfl,by first|(show(8:Int)≠12;decide)|(show(6:Int)≠12;decide)⟩
 ·refine⟨⟨rfl,?_⟩,λx=>?_⟩
  ·show bX n (Xx.new _) Zj;simp only[bX,Xx.new,Xx.zero,Pc];exact⟨Yy,Yy,Yy,db ⟨Zd,Zd⟩,by simp,λ_=>⟨by simp,by simp⟩,λ_=>⟨by simp,by simp,by simp⟩⟩
  ·show EO (Xx.next (Xx.new _) x).2=false/\(Xx.next (Xx.new _) x).2.kind≠12;rcases h with⟨rfl,_⟩|⟨rfl,_⟩<;>exact⟨rfl,by first|(show(8:Int)≠12;decide)|(show(6:Int)≠12;decide)⟩
 ·have a:k=6\/k=7\/k=8:=Zo;refine⟨⟨rfl,?_⟩,λx=>?_⟩
  ·show Jj n (Xf.from_ (root 0) b _) Zj;simp only[Jj,Xf.from_,Xf.zero,Pc];exact⟨Bo Zd Zd,λW e=>(by cases e),db ⟨Zd,Zd⟩,by simp,a,λ_=>⟨by simp,by simp,by simp⟩,λ_=>⟨Zd,by simp,by simp⟩,λ_=>⟨Zd,by simp,by simp⟩⟩
  ·show EO (Xf.next (Xf.from_ _ _ _) x).2=false/\(Xf.next (Xf.from_ _ _ _) x).2.kind≠12;rcases a with rfl|rfl|rfl<;>exact⟨rfl,by first|(show(8:Int)≠12;decide)|(show(6:Int)≠12;decide)⟩
 ·have a:k=6\/k=7\/k=8:=Zo;refine⟨⟨rfl,?_⟩,λx=>?_⟩
  ·show vK n (Xc.new _) Zj;exact⟨⟨Yy,Yy,Yy,λW e=>(by cases e),a,f,by show b<256;omega,hJ 0,by show(0:Int)<8;decide,hJ 0,by show(0:Int)<8;decide,hJ 0,by show(0:Int)<8;decide⟩,db ⟨Zd,fq rfl⟩⟩
  ·exact⟨rfl,by show(3:Int)≠12;decide⟩
 ·refine⟨⟨rfl,?_⟩,λx=>?_⟩
  ·show vL n (Xa.new _) Zj;exact⟨⟨Yy,λW e=>(by cases e),by show(k=6/\1<=d/\d<=3)\/k=7\/k=8;omega,hJ 0,by show(0:Int)<=3;decide⟩,db ⟨Zd,fq rfl⟩⟩
  ·show EO (Xa.next (Xa.new _) x).2=false/\(Xa.next (Xa.new _) x).2.kind≠12;have a:k=6\/k=7\/k=8:=Zo;rcases a with rfl|rfl|rfl<;>exact⟨rfl,by first|(show(8:Int)≠12;decide)|(show(6:Int)≠12;decide)⟩
def KX(M:MR)(h:Kz st n c)(f:EO c=false)(g:c.kind≠12):(M.Ag c).R.step≠0:=by
 unfold EO at f;simp only[nw,lm,ne_eq] at f;have go:∀{k:Int},c.kind=k->k≠10->k≠11->M.Ag c=⟨M.R.Aw c,M.ns,[],[]⟩:=λ{k} e a b=>by
  unfold MR.Ag;rw[show(c.kind==10)=false from by simp[e,a],show(c.kind==11)=false from by simp[e,b]];rfl
 rcases h with⟨d,_⟩|⟨d,_⟩|⟨d,_⟩|⟨d,_⟩|⟨d,_⟩|d|⟨d,_⟩|⟨d,_⟩|d
 ·rw[go d Zd Zd];show(M.R.Aw c).step≠0;unfold Xd.Aw;rw[d];show(1:Int)≠0;decide
 ·rw[go d Zd Zd];show(M.R.Aw c).step≠0;unfold Xd.Aw;rw[d];show(1:Int)≠0;decide
 ·rw[go d Zd Zd];show(M.R.Aw c).step≠0;unfold Xd.Aw;rw[d];show(1:Int)≠0;decide
 ·rw[go d Zd Zd];show(M.R.Aw c).step≠0;unfold Xd.Aw;rw[d];show(5:Int)≠0;decide
 ·exact absurd d f.1
 ·rw[go d Zd Zd];have e:M.R.Aw c=(M.R.A8 c).alloc:=by unfold Xd.Aw;rw[d];rfl
  show(M.R.Aw c).step≠0;rw[e];unfold Xd.alloc;cases(M.R.A8 c).dating
  ·show(1:Int)≠0;decide
  ·show(8:Int)≠0;decide
 ·rw[go d Zd Zd];show(M.R.Aw c).step≠0;unfold Xd.Aw;rw[d];show(2:Int)≠0;decide
 ·exact absurd d f.2
 ·exact absurd d g
def yr(st:Int)(n:Nat)(V:MV):Prop:=
 (V.Ac=1/\V.call=Zj/\∃J,V.Bl=some J/\JI st n J V.call)\/(V.Ac=2/\V.call.kind≠12/\Kz st n V.call/\∃J,V.Bl=some J/\JI st n J V.call)\/(V.Ac=3/\V.call=Y7)\/(V.Ac=4/\V.call=EI)
structure VL(st:Int)(n t:Nat)(V:MV):Prop where
 cB:V.st=st
 base:Bj n t V.M
 Bl:yr st n V
 at_:(V.M.R.step≠0/\Se st n V.M V.call)\/(V.M.R.step=0/\Qq st n V.call V.M.R.Az)
structure VI(st:Int)(n t:Nat)(V:MV):Prop where
 cB:V.st=st
 base:Bj n t V.M
 at_:(V.Ac=0/\V.M.R.step=0)\/(V.M.R.step≠0/\Se st n V.M V.call/\yr st n V)
def VI.up{V:MV}{a:Nat}(h:VI st n t V)(b:t<=a):VI st n a V:=⟨h.cB,h.base.up b,h.at_⟩
def VL.Ac{V:MV}(h:VL st n t V):V.Ac≠0:=by rcases h.Bl with h|h|h|h<;>(have:=h.1;omega)
def VL.vi{V:MV}(h:VL st n t V)(a:V.M.R.step≠0):VI st n t V:=⟨h.cB,h.base,db ⟨a,(h.at_.resolve_right λe=>a e.1).2,h.Bl⟩⟩
def Md{V:MV}(h:V.quiet=true):∀m,MV.Sb m V=V
 |0=>rfl
 |m+1=>by unfold MV.Sb;rw[h];rfl
def WH{V:MV}(h:V.quiet=false)(m:Nat):MV.Sb (m+1) V=MV.Sb m V.Hi:=by
 show(bif V.quiet then V else MV.Sb m V.Hi)=_;rw[h];rfl
def OH{V:MV}(h:V.M.R.step≠0):V.quiet=true:=by
 unfold MV.quiet MV.Ef;rw[show(V.M.R.step==0)=false from by simp[h]];simp
def v8{V:MV}(h:V.Ac=0):V.quiet=true:=by unfold MV.quiet;rw[h];rfl
def rA{V:MV}(h:V.M.R.step=0)(a:V.Ac≠0):V.quiet=false:=by
 unfold MV.quiet MV.Ef;rw[h,show(V.Ac==0)=false from by simp[a]];rfl
def Lk{V:MV}{J:Xz}{d:Int}(a:V.st=st)(b:Bj n t V.M)(e:CAny st n c)(f:yr st n {V with Ac:=d,call:=c,M:=V.M.Ag c}):VL st n (t+1) (V.Ag d c):=by
 obtain⟨g,h⟩:=qV b e;exact⟨a,g,f,h⟩
def TK{V:MV}(h:VL st n t V)(a:V.M.R.step=0)(b:V.Ac=3\/V.Ac=4)(m:Nat):VI st n t (MV.Sb (m+1) V)/\(MV.Sb (m+1) V).Ac=0:=by
 rw[WH (rA a h.Ac)];have e:V.Hi={V with Ac:=0}:=by
  unfold MV.Hi;rw[show(V.Ac==1||V.Ac==2)=false from by rcases b with h|h<;>rw[h]<;>rfl];rfl
 rw[e,Md (v8 rfl)];exact⟨⟨h.cB,h.base,fq ⟨rfl,a⟩⟩,rfl⟩
def bQ:∀(k m t:Nat) (V:MV) (J:Xz),VL st n t V->V.M.R.step=0->(V.Ac=1\/V.Ac=2)->V.Bl=some J->Calm Xz.next k (J.next V.M.R.Az).1 (J.next V.M.R.Az).2->k+3<=m->VI st n (t+k+2) (MV.Sb m V)
 |k,m,t,V,J,h,p,v,g,j,A=>by
  obtain⟨m,rfl⟩:∃l,m=l+1:=⟨m-1,Zo⟩;rw[WH (rA p h.Ac)];have w:Qq st n V.call V.M.R.Az:=by
   rcases h.at_ with h|h
   ·exact absurd p h.1
   ·exact h.2
  have r:JI st n J V.call/\V.call.kind≠12:=by
   rcases h.Bl with⟨_,e,y,d,q⟩|⟨_,e,_,y,d,q⟩|⟨e,_⟩|⟨e,_⟩
   ·rw[g] at d;cases d;exact⟨q,by rw[e];decide⟩
   ·rw[g] at d;cases d;exact⟨q,e⟩
   ·omega
   ·omega
  obtain⟨z,o,B⟩:=JE r.1 r.2 w;have s:(V.Ac==1||V.Ac==2)=true:=by rcases v with h|h<;>rw[h]<;>rfl
  cases i:((J.next V.M.R.Az).2.kind==12) with
  |true=>
   have a:(J.next V.M.R.Az).2.kind=12:=by simpa using i
   have e:V.Hi=MV.Ag {V with Bl:=some (J.next V.M.R.Az).1,BR:=(J.next V.M.R.Az).2.BR} 3 Y7:=by
    unfold MV.Hi;rw[s,g];simp only[i9,i,iv,gx]
   rw[e];have f:VL st n (t+1) (MV.Ag {V with Bl:=some (J.next V.M.R.Az).1,BR:=(J.next V.M.R.Az).2.BR} 3 Y7):=
    Lk (J:=J) (V:={V with Bl:=some (J.next V.M.R.Az).1,BR:=(J.next V.M.R.Az).2.BR}) h.cB h.base (d2 (fq rfl)) (d2 (fq ⟨rfl,rfl⟩))
   by_cases b:(MV.Ag {V with Bl:=some (J.next V.M.R.Az).1,BR:=(J.next V.M.R.Az).2.BR} 3 Y7).M.R.step=0
   ·obtain⟨m,rfl⟩:∃l,m=l+1:=⟨m-1,Zo⟩;exact(TK f b (fq rfl) m).1.up Zo
   ·rw[Md (OH b)];exact(f.vi b).up Zo
  |false=>
   have a:(J.next V.M.R.Az).2.kind≠12:=by simpa using i
   have e:V.Hi=MV.Ag {V with Bl:=some (J.next V.M.R.Az).1} 2 (J.next V.M.R.Az).2:=by
    unfold MV.Hi;rw[s,g];simp only[i9,i,k9]
   rw[e];have f:VL st n (t+1) (MV.Ag {V with Bl:=some (J.next V.M.R.Az).1} 2 (J.next V.M.R.Az).2):=
    Lk (J:=J) (V:={V with Bl:=some (J.next V.M.R.Az).1}) h.cB h.base (fq ⟨o,a⟩) (db (fq ⟨rfl,a,o,_,rfl,z⟩))
   by_cases b:(MV.Ag {V with Bl:=some (J.next V.M.R.Az).1} 2 (J.next V.M.R.Az).2).M.R.step=0
   ·have u:EO (J.next V.M.R.Az).2=true:=by
     cases h:EO (J.next V.M.R.Az).2 with
     |true=>rfl
     |false=>exact absurd b (KX V.M o h a)
    cases k with
    |zero=>rw[show Calm Xz.next 0 _ _=(EO (J.next V.M.R.Az).2=false) from rfl,u] at j;cases j
    |succ k=>
     exact(bQ k m (t+1) _ _ f b (db rfl) rfl (j u _) Zo).up Zo
   ·rw[Md (OH b)];exact(f.vi b).up Zo
def KY{V:MV}(h:VL st n t V):VI st n (t+5) V.advance:=by
 unfold MV.advance;by_cases a:V.M.R.step=0
 ·have f:Qq st n V.call V.M.R.Az:=by
   rcases h.at_ with h|h
   ·exact absurd a h.1
   ·exact h.2
  rcases h.Bl with⟨b,e,J,d,q⟩|⟨b,e,g,J,d,q⟩|⟨b,e⟩|⟨b,e⟩
  ·exact bQ 3 16 t V J h a (fq b) d (JE q (by rw[e];decide) f).2.2 Zd
  ·exact bQ 3 16 t V J h a (db b) d (JE q e f).2.2 Zd
  ·exact(TK h a (fq b) 15).1.up Zo
  ·exact(TK h a (db b) 15).1.up Zo
 ·rw[Md (OH a)];exact(h.vi a).up Zo
def cJ{V:MV}{p:Pl}(h:VI st n t V)(f:V.Ac≠0)(g:HI st n p):V.M.R.step≠0/\Se st n V.M V.call/\VL st n (t+1) {V with M:=V.M.Ah (p.act V.M.R.AH).2}:=by
 rcases h.at_ with⟨e,_⟩|⟨d,a,i⟩
 ·exact absurd e f
 ·obtain⟨j,k⟩:=M1 h.base a d (bR g a.b.2.1).2.2.1;exact⟨d,a,h.cB,j,i,k⟩
def cL{V:MV}{p:Pl}(h:VI st n t V)(d:V.Ac≠0)(a:HI st n p):VI st n (t+6) (V.step p).1/\HI st n (V.step p).2.1/\NF p (V.step p).2.1:=by
 obtain⟨g,e,f⟩:=cJ h d a;have ha:=bR a e.b.2.1;exact⟨(KY f).up Zo,ha.2.1,ha.2.2.2⟩
def dU{V:MV}{o:AV}(h:VI st n t V)(d:V.Ac=0)(a:N3 st o):VL st n (t+1) (MV.Ag {V with op:=o,Bl:=some (Xz.new V.st o),BR:=.zero} 1 Zj):=by
 have e:=h.cB;have b:JI st n (Xz.new V.st o) Zj:=by rw[e];exact(Tt a).1
 exact Lk (J:=Xz.new V.st o) (V:={V with op:=o,Bl:=some (Xz.new V.st o),BR:=.zero}) h.cB h.base (db (fq rfl)) (fq ⟨rfl,rfl,_,rfl,b⟩)
def qe{V:MV}{o:AV}(h:VI st n t V)(g:V.Ac=0)(a:N3 st o):VI st n (t+6) (V.GY o)/\(V.GY o).Ac≠0:=by
 have b:=dU h g a;refine⟨(KY b).up Zo,?_⟩;have e:=h.cB;have i:=(Tt (n:=n) a).2;unfold MV.GY MV.advance;by_cases d:(MV.Ag {V with op:=o,Bl:=some (Xz.new V.st o),BR:=.zero} 1 Zj).M.R.step=0
 ·rw[WH (rA d b.Ac)];have j:Qq st n Zj (MV.Ag {V with op:=o,Bl:=some (Xz.new V.st o),BR:=.zero} 1 Zj).M.R.Az:=by
   rcases b.at_ with h|h
   ·exact absurd d h.1
   ·exact h.2
  obtain⟨m,f,p⟩:=JE (Tt (n:=n) a).1 Zd j;obtain⟨f1,f2⟩:=i (MV.Ag {V with op:=o,Bl:=some (Xz.new V.st o),BR:=.zero} 1 Zj).M.R.Az;rw[←e] at f1 f2 f;have k:(MV.Ag {V with op:=o,Bl:=some (Xz.new V.st o),BR:=.zero} 1 Zj).Hi=MV.Ag {MV.Ag {V with op:=o,Bl:=some (Xz.new V.st o),BR:=.zero} 1 Zj with Bl:=some ((Xz.new V.st o).next (MV.Ag {V with op:=o,Bl:=some (Xz.new V.st o),BR:=.zero} 1 Zj).M.R.Az).1} 2 ((Xz.new V.st o).next (MV.Ag {V with op:=o,Bl:=some (Xz.new V.st o),BR:=.zero} 1 Zj).M.R.Az).2:=by
   have l:(!(((Xz.new V.st o).next (MV.Ag {V with op:=o,Bl:=some (Xz.new V.st o),BR:=.zero} 1 Zj).M.R.Az).2.kind==12))=true:=by simp[f2]
   show(bif !(((Xz.new V.st o).next (MV.Ag {V with op:=o,Bl:=some (Xz.new V.st o),BR:=.zero} 1 Zj).M.R.Az).2.kind==12) then _ else _)=_;rw[l];rfl
  rw[k,Md (OH (KX _ f f1 f2))];show(2:Int)≠0;decide
 ·rw[Md (OH d)];show(1:Int)≠0;decide
def yA{V:MV}(h:VI st n t V)(a:V.Ac=0):VL st n (t+1) (MV.Ag {V with op:=.zero,Bl:=none,BR:=.zero} 4 EI):=
 Lk (J:=.pile .zero) (V:={V with op:=.zero,Bl:=none,BR:=.zero}) h.cB h.base (d2 (db rfl)) (d2 (db ⟨rfl,rfl⟩))
def yC{V:MV}(h:VI st n t V)(a:V.Ac=0):VI st n (t+6) V.scan:=(KY (yA h a)).up Zo
end
