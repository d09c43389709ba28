/- Core: FdE, FdF. -/
import Derived.Test.YtaipogljokblkaaGreatDoorP47
set_option linter.all false
set_option maxRecDepth 100000
set_option maxHeartbeats 8000000
namespace Go.Proofs.YtaipogljokblkaaGreatDoor
open Go Go.RowKit
structure TkR(st:Int)(W:KF)(n nt t k:Nat)(p:Pl)(g:EG)(V:MV)(p1:Pl)(x:Xr)(g':EG):Prop where
 hp:Ig st W n nt (t+1) p1 g'
 ev:Sg st W k p g p1 g'
 s:(TE st W nt p1 g' k {V with M:=V.M.Ah x}/\(V.M.Ah x).R.step≠0)\/(∃J,TP st W nt p1 g' k J {V with M:=V.M.Ah x})\/TF st nt p1 g' k {V with M:=V.M.Ah x}
 tm:Fz W nt (vw p1) g' {V with M:=V.M.Ah x}+W.L.Cd (vw p1) g'+1<=Fz W nt (vw p) g V+W.L.Cd (vw p) g
 lk:W.cn (vw p1) g'+Gn W {V with M:=V.M.Ah x}<=W.cn (vw p) g+Gn W V
section
variable{st:Int}{W:KF}{n nt t k a j:Nat}{p p' p1 p2:Pl}{g g' g2:EG}{V:MV}{M:MR}{J:Xz}{c:Xi}{R:Xd}{x y:Xr}{v':Vw}{ad:Yc}{w:Xe}
def LO(h:Good st W.L a (vw p) g v' g')(e:vw p1=v')(d:p1.board 24=p.board 24):TV W a p g p1 g':=by
 subst e;exact⟨h.ev,h.x,fq d,by rw[d];exact hJ _,λj b q=>fq (by rw[←h.ak];exact q)⟩
def tH(f:Ig st W n nt t p g)(ha:(vw p).Ad ad)(h:Good st W.L k (vw p) g ((vw p).put ad w) g')(v:0<=w.tg/\w.tg<=t+1):Ig st W n nt (t+1) (p.BJ.put ad w) g'/\TV W k p g (p.BJ.put ad w) g'/\vw (p.BJ.put ad w)=(vw p).put ad w:=by
 have i:vw (p.BJ.put ad w)=(vw p).put ad w:=uv (p:=p.BJ) ha;have l:∀r,24<=r->(p.BJ.put ad w).board r=p.board r:=λr A=>by
  rcases ha with⟨d,_,_,B⟩|⟨d,_⟩
  ·rw[Ek d];exact BM _ _ Zo
  ·rw[Kl d];rfl
 have o:∀s,((p.BJ.put ad w).slot s).used=(p.slot s).used:=λs=>by
  rcases ha with⟨d,_⟩|⟨d,_⟩
  ·rw[Ek d];rfl
  ·rw[Kl d];show(Ar p.slot ad.sl _ s).used=_;rw[X9];split
   ·rename_i e;rw[e];rfl
   ·rfl
 have m:(p.BJ.put ad w).free=p.free/\(p.BJ.put ad w).fault=p.fault:=by
  rcases ha with⟨d,_⟩|⟨d,_⟩
  ·rw[Ek d];exact⟨rfl,rfl⟩
  ·rw[Kl d];exact⟨rfl,rfl⟩
 have z:Ig st W n nt (t+1) (p.BJ.put ad w) g':=by
  refine⟨by rw[i];exact h.eg,by rw[i];exact h.si,f.ck.same l h.ak,m.2.trans f.fa,λk b q=>f.ai k b (by rw[←h.ak];exact q),λs q=>f.us s (by rw[←o];exact q),λx u=>?_,by rw[m.1];exact f.fd,by rw[i];exact f.tg.put v,by rw[l 24 Zd];have:=f.ti;omega⟩;rw[m.1] at u;rw[o];exact f.fr x u
 exact⟨z,LO h i (l 24 Zd),i⟩
def zV(I:I9 st W)(e:Ig st W n nt t p g){l:List Int}{m:Int}(v:p.free=l++[m])(d:Int){g':EG}(h:Good st W.L k (vw p) g ((vw p).take m d) g'){p1:Pl}(f:p1={p.BJ with free:=l,slot:=Ar p.slot m ⟨d,true,Ar (λ_=>.zero) 9 (Y6 0)⟩,made:=wr (p.made+1)}):Ig st W n nt (t+1) p1 g'/\TV W k p g p1 g'/\vw p1=(vw p).take m d:=by
 obtain⟨A,B,C⟩:=e.fr m (by rw[v];simp);have o:vw p1=(vw p).take m d:=by rw[f];exact wI C
 have z:∀s,(p1.slot s).used=true↔s=m\/(p.slot s).used=true:=λs=>by
  have:(vw p1).held s↔((vw p).take m d).held s:=by rw[o]
  exact this
 have i:=e.fd;rw[v] at i;have D:Ig st W n nt (t+1) p1 g':=by
  refine⟨by rw[o];exact h.eg,by rw[o];exact h.si,e.ck.same (λr _=>by rw[f];rfl) h.ak,by rw[f];exact e.fa,λk b q=>e.ai k b (by rw[←h.ak];exact q),λs q=>?_,λx u=>?_,by rw[f];exact(h9.1 i).1,by rw[o];exact(e.tg.take).up (lw t),by rw[f];have:=e.ti;show(p.board 24).tg<=_;omega⟩
  ·rcases(z s).1 q with rfl|q
   ·exact⟨A,B⟩
   ·exact e.us s q
  ·have u:x∈l:=by rw[f] at u;exact u
   obtain⟨E,F,G⟩:=e.fr x (by rw[v];exact g8 _ u);refine⟨E,F,?_⟩;cases H:(p1.slot x).used with
   |false=>rfl
   |true=>
    rcases(z x).1 H with q|q
    ·exact absurd q ((h9.1 i).2.2 x u m Zs)
    ·rw[G] at q;cases q
 exact⟨D,LO h o (by rw[f];rfl),o⟩
def zX(d:Ig st W n nt t p g){s:Int}(u:(p.slot s).used=true){g':EG}(h:Good st W.L k (vw p) g ((vw p).drop s) g'){p1:Pl}(i:p1={p.BJ with slot:=Ar p.slot s {p.slot s with used:=false},free:=p.free++[s]}):Ig st W n nt (t+1) p1 g'/\TV W k p g p1 g'/\vw p1=(vw p).drop s:=by
 have l:vw p1=(vw p).drop s:=by rw[i];exact bZ
 have o:∀q,(p1.slot q).used=true↔q≠s/\(p.slot q).used=true:=λq=>by
  have:(vw p1).held q↔((vw p).drop s).held q:=by rw[l]
  exact this
 have v:p1.free=p.free++[s]:=by rw[i]
 have m:=d.us s u;have A:Ig st W n nt (t+1) p1 g':=by
  refine⟨by rw[l];exact h.eg,by rw[l];exact h.si,d.ck.same (λr _=>by rw[i];rfl) h.ak,by rw[i];exact d.fa,λk b q=>d.ai k b (by rw[←h.ak];exact q),λq B=>d.us q ((o q).1 B).2,λx f=>?_,?_,by rw[l];exact(d.tg.drop).up (lw t),by rw[i];have:=d.ti;show(p.board 24).tg<=_;omega⟩
  ·rw[v] at f;have z:∀y,¬(p1.slot y).used=true->(p1.slot y).used=false:=λy q=>by simpa using q
   rcases gy.1 f with f|f
   ·obtain⟨C,D,E⟩:=d.fr x f;exact⟨C,D,z x λq=>by have:=((o x).1 q).2;rw[E] at this;cases this⟩
   ·rw[ft.1 f];exact⟨m.1,m.2,z s λq=>((o s).1 q).1 rfl⟩
  ·rw[v];refine h9.2 ⟨d.fd,by simp,λx f y F e=>?_⟩;rw[ft.1 F] at e;have:=(d.fr x f).2.2;rw[e,u] at this;cases this
 exact⟨A,LO h l (by rw[i];rfl),l⟩
def Nc(o:W.Aft (vw p) g k J V.call (vw p1) g' (J.next y).1 (J.next y).2)(q:Ig st W n nt (t+1) p1 g')(ev:Sg st W k p g p1 g')(b:rv st nt k V)(r:Mx p1 g' k V.M)(h:V.Ac=2)(i:V.Bl=some J)(s:g'.A k≠none)(l:V.M.R.span.is=true)(d:V.M.R.step≠0/\V.M.R.step<11)(z:1<=wt V.call)
  {R':Xd}(e:V.M.Ah x=⟨R',V.M.ns,[],[]⟩)(m:R'.step=0)(u:R'.Az=y)(f:R'.Aa=V.M.R.Aa/\R'.me=V.M.R.me/\R'.Ae=V.M.R.Ae/\R'.span=V.M.R.span):TkR st W n nt t k p g V p1 x g':=by
 obtain⟨v,B,C⟩:=o
 subst u
 refine⟨q,ev,db (fq ⟨J,?_⟩),?_,?_⟩
 ·refine⟨⟨b.st,?_,?_,?_⟩,?_,db h,?_,i,s,?_,?_⟩
  ·show(V.M.Ah x).R.Aa=4;rw[e];exact f.1.trans b.en
  ·show(V.M.Ah x).R.me=k;rw[e];exact f.2.1.trans b.me
  ·show(V.M.Ah x).R.Ae=nt;rw[e];exact f.2.2.1.trans b.th
  ·show Mx p1 g' k (V.M.Ah x);rw[e];exact r.new
  ·show(V.M.Ah x).R.step=0;rw[e];exact m
  ·show(V.M.Ah x).R.span.is=true;rw[e];show R'.span.is=true;rw[f.2.2.2];exact l
  ·show W.E (vw p1) g' k (J.next (V.M.Ah x).R.Az).1 (J.next (V.M.Ah x).R.Az).2;rw[e];exact v
 ·unfold Fz;simp only;rw[e,h,i];simp[m,d.1,d.2];omega
 ·unfold Gn;simp only;rw[e,h,i];simp[m,d.1,d.2];omega
end
section
variable{st:Int}{W:KF}{n nt t k a j:Nat}{p p' p1 p2:Pl}{g g' g1 g2:EG}{V:MV}{M:MR}{J:Xz}{c:Xi}{R:Xd}{x y:Xr}{v':Vw}{ad:Yc}{w:Xe}
def mF.zb(h:mF nt p g M):12<=M.R.step/\M.R.step<=16:=by
 cases h with
 |qD h|mJ h|K3 h|vv h|iJ d r h=>rw[h];decide
def vI{o w:Xe}(h:p.free=[]):p.act ⟨4,ad,o,w⟩=(p.BJ,Xr.zero):=by
 unfold Pl.act Pl.right;simp only[show((4:Int)==4)=true from rfl,i9,iv,gx];unfold Pl.alloc;have b:p.free.getLast?=none:=by rw[h];rfl
 simp only[b];rfl
def tt(d:V.Ac=2)(e:V.Bl=some J)(b:V.M.R.step≠0/\V.M.R.step<11):Fz W nt (vw p) g V=V.M.ns.length+(W.M (vw p) g J V.call+1)/\Gn W V=W.lk J V.call:=by
 unfold Fz Gn;rw[d,e];simp[b.1,b.2]
def sN(b:V.Ac=2)(d:V.Bl=some J)(h:12<=V.M.R.step):Fz W nt (vw p) g V=V.M.ns.length+(W.M (vw p) g (J.next ⟨.zero,true⟩).1 (J.next ⟨.zero,true⟩).2+1+N9 nt V.M)/\Gn W V=W.lk (J.next ⟨.zero,true⟩).1 (J.next ⟨.zero,true⟩).2:=by
 have e:¬V.M.R.step=0:=Zo;have f:¬V.M.R.step<11:=Zo;unfold Fz Gn;rw[b,d];simp[e,f]
def zW(f:I9 st W)(d:Ig st W n nt t p g){s:Int}(h1:g1=g\/Good st W.L k (vw p) g (vw p) g1)(v:g1.own s=.Cv k):
  Ig st W n nt (t+1) p.BJ (g1.noted s k (p.board 24).nm)/\Sg st W k p g p.BJ (g1.noted s k (p.board 24).nm)/\(∀M,Mx p g k M->Mx p.BJ (g1.noted s k (p.board 24).nm) k M)/\g1.A=g.A/\W.cn (vw p) (g1.noted s k (p.board 24).nm)=W.cn (vw p) g1:=by
 obtain⟨l,m,z,i⟩:AA st (vw p) g1/\W.L.si (vw p) g1/\TV W k p g p g1/\g1.A=g.A:=by
  rcases h1 with rfl|h1
  ·exact⟨d.eg,d.si,⟨Ev.refl,f.ok.x Jh.refl,fq rfl,hJ _,λ_ _ h=>fq h⟩,rfl⟩
  ·exact⟨h1.eg,h1.si,LO h1 rfl rfl,h1.ak⟩
 have D:∀j b,g1.A j=some b->b<=(p.board 24).nm:=λj b E=>(d.ck.a1 j b (by rw[←i];exact E)).1
 obtain⟨o,F⟩:=l.note (a:=k) (ce:=W.L.ce) v D
 have G:∀t,(g1.noted s k (p.board 24).nm).own t=if t=s then Tq.note (k+1000) else g1.own t:=λt=>X9 _ _ _ _
 have r:Jh (vw p) g1 (vw p) (g1.noted s k (p.board 24).nm):=⟨rfl,rfl,fun _ _ h=>⟨h,rfl,rfl⟩,fun t=>by
  rw[G];by_cases e:t=s
  ·rw[ga e,e,v];simp
  ·rw[fw e],rfl,λ_ _ h _=>h⟩
 have u:=f.ok.si o m r
 have B:TV W k p g1 p.BJ (g1.noted s k (p.board 24).nm):=⟨F,f.ok.x r,fq rfl,hJ _,λ_ _ h=>fq h⟩
 have C:Ig st W n nt (t+1) p.BJ (g1.noted s k (p.board 24).nm):=Ig.up (t:=t) ⟨o,u,d.ck.same (λ_ _=>rfl) i,d.fa,λk b q=>d.ai k b (by rw[←i];exact q),d.us,d.fr,d.fd,d.tg,d.ti⟩ (lw t)
 exact⟨C,.step k (fq rfl) d.both ⟨l,m⟩ z (.step k (fq rfl) ⟨l,m⟩ C.both B .refl),λM H=>(H.A3 z Zo).A3 B Zo,i,f.cnq o r⟩
def xL(O:I9 st W)(h6:1<=nt/\nt<=6)(hk:k<nt)(B:Ig st W n nt t p g)(ht:t<=1000000)(au:W.cn (vw p) g<=W.mx)(h:TE st W nt p g k V)(a0:V.M.R.step≠0):∃g',TkR st W n nt t k p g V (p.act V.M.R.AH).1 (p.act V.M.R.AH).2 g':=by
 obtain⟨C,G,an⟩:=h;have an:=(an.resolve_left λq=>a0 q.2.1).2;have av:wr (79+V.M.R.me)=79+(k:Int):=by rw[C.me];exact FK Zo Zo
 have K:(24:Int)≠79+(k:Int):=Zo;have Y:(24:Int)<=79+(k:Int):=Zo;have h4:=C.en;have aa:∀{p1 g'},TV W k p g p1 g'->Mx p1 g' k V.M:=λe=>G.A3 e Zo;cases an with
 |vX o u P ha N H ho=>
  rw[ha,NZ];have f:V.M.Ah ⟨p.board 24,true⟩=⟨Xd.ask {V.M.R with span:=⟨true,(p.board 24).nm,(p.board 24).nm⟩} 2 ⟨2,⟨0,0,79+(k:Int)⟩,.zero,⟨0,0,(p.board 24).nm,(p.board 24).nm,true⟩⟩,V.M.ns,V.M.ds,V.M.ss⟩:=by
   rw[tk_3 P,ul (s:=2) rfl Zd];unfold Xd.DV;rw[av];rfl
  refine⟨g,B.BJ,Kv O B,fq ⟨⟨⟨C.st,?_,?_,?_⟩,?_,db ⟨?_,.vY o ⟨0,0,(p.board 24).nm,(p.board 24).nm,true⟩ u ?_ ?_ ⟨rfl,hJ _⟩ ?_ N H ho⟩⟩,?_⟩,?_,?_⟩
  ·show(V.M.Ah _).R.Aa=4;rw[f];exact h4
  ·show(V.M.Ah _).R.me=k;rw[f];exact C.me
  ·show(V.M.Ah _).R.Ae=nt;rw[f];exact C.th
  ·show Mx p.BJ g k (V.M.Ah _);rw[f];exact⟨G.nt,G.nd,G.sb,G.dd⟩
  ·show(V.M.Ah _).R.step≠0;rw[f];show(2:Int)≠0;decide
  ·show(V.M.Ah _).R.step=2;rw[f];rfl
  ·show(V.M.Ah _).R.AH=_;rw[f];rfl
  ·show(V.M.Ah _).R.span.is=true;rw[f];rfl
  ·rw[f];show(2:Int)≠0;decide
  ·unfold Fz;simp only;rw[f,u,P];show V.M.ns.length+(W.cf+2)+W.L.Cd (vw p) g+1<=V.M.ns.length+(W.cf+3)+W.L.Cd (vw p) g;omega
  ·unfold Gn;simp only;rw[f,u,P];exact Nat.le_refl _
 |vY o w u P ha hw D N H ho=>
  rw[ha,eK];have f:V.M.Ah ⟨.zero,true⟩=⟨V.M.R.done,V.M.ns,[],[]⟩:=by rw[vj P,Ob rfl]
  obtain ⟨a1,a2⟩:=B.eg.enter (k:=k) (ce:=W.L.ce) (p.board 24).nm N;have I:Jh (vw p) g (vw p) (g.enter k st (p.board 24).nm):=⟨rfl,rfl,fun _ _ h=>⟨h,rfl,rfl⟩,fun _=>j3,rfl,fun _ _ h _=>h⟩;have am:=O.ok.si a1 B.si I;have ao:Si nt (p.BJ.put ⟨0,0,79+(k:Int)⟩ w) (g.enter k st (p.board 24).nm):=Si.enter (p:=p.BJ) (B.ck.same (fun _ _=>rfl) rfl) hw;have ab:∀ j,(g.enter k st (p.board 24).nm).A j = if j = k then some (p.board 24).nm else g.A j:=fun _=>rfl;have hv:vw (p.BJ.put ⟨0,0,79+(k:Int)⟩ w) = vw p:=Sj Y;have hp:=aG B Y ⟨a1,am⟩ ao (fun j b q=>by
   rw[ab] at q;by_cases e:j=k
   ·rw[e];exact hk
   ·rw[fw e] at q;exact B.ai j b q) λe=>absurd e (Ne.symm K)
  have ev:TV W k p g (p.BJ.put ⟨0,0,79+(k:Int)⟩ w) (g.enter k st (p.board 24).nm):=⟨by rw [hv];exact a2,by rw [hv];exact O.ok.x I,fq (FZ K),by rw [FZ K];exact hJ _,fun j b q=>by
   rw[ab] at q;by_cases e:j=k
   ·rw[ga e] at q;injection q with q;exact db Zo
   ·rw[fw e] at q;exact fq q⟩
  have Z:W.cn (vw p) (g.enter k st (p.board 24).nm)=W.cn (vw p) g:=O.cnq a1 I;obtain⟨f1,f2,f3⟩:=O.first (k:=k) (x:=⟨.zero,true⟩) am ho (by rw[Z];exact au);refine⟨_,hp,Sg.one B hp.both ev,db (fq ⟨Xz.new st o,⟨C.st,?_,?_,?_⟩,?_,fq u,?_,H,?_,?_,?_⟩),?_,?_⟩
  ·show(V.M.Ah _).R.Aa=4;rw[f];exact h4
  ·show(V.M.Ah _).R.me=k;rw[f];exact C.me
  ·show(V.M.Ah _).R.Ae=nt;rw[f];exact C.th
  ·show Mx _ _ k (V.M.Ah _);rw[f];exact(aa ev).new
  ·show(V.M.Ah _).R.step=0;rw[f];rfl
  ·rw[ab,ga rfl];simp
  ·show(V.M.Ah _).R.span.is=true;rw[f];exact D
  ·show W.E _ _ k ((Xz.new st o).next (V.M.Ah _).R.Az).1 ((Xz.new st o).next (V.M.Ah _).R.Az).2;rw[f,hv];exact f1
  ·have ap:=O.ok.Cd a1 I;unfold Fz;simp only;rw[f,u,P,H,hv,ap];show V.M.ns.length+(W.M (vw p) (g.enter k st (p.board 24).nm) ((Xz.new st o).next ⟨.zero,true⟩).1 ((Xz.new st o).next ⟨.zero,true⟩).2+1)+W.L.Cd (vw p) g+1<=V.M.ns.length+(W.cf+2)+W.L.Cd (vw p) g;omega
  ·unfold Gn;simp only;rw[f,u,P,H,hv,Z];show W.cn (vw p) g+W.lk ((Xz.new st o).next ⟨.zero,true⟩).1 ((Xz.new st o).next ⟨.zero,true⟩).2<=W.cn (vw p) g+1;omega
 |lv u P ha N=>
  rw[ha,eK];have f:V.M.Ah ⟨.zero,true⟩=⟨V.M.R.done,V.M.ns,[],[]⟩:=by rw[vj P,Ob rfl]
  obtain⟨a1,a2⟩:=B.eg.Cw (k:=k) (ce:=W.L.ce);have I:Jh (vw p) g (vw p) (g.Cw k):=⟨rfl,rfl,λ_ _ h=>⟨h,rfl,rfl⟩,λ_=>j3,rfl,λ_ _ h _=>h⟩;have am:=O.ok.si a1 B.si I;have ao:Si nt (p.BJ.put ⟨0,0,79+(k:Int)⟩ .zero) (g.Cw k):=Si.Cw (p:=p.BJ) (B.ck.same (λ_ _=>rfl) rfl) rfl;have ab:∀j,(g.Cw k).A j=if j=k then none else g.A j:=λ_=>rfl;have hA1:∀j b,(g.Cw k).A j=some b->g.A j=some b:=λj b q=>by
   rw[ab] at q;by_cases e:j=k
   ·rw[ga e] at q;cases q
   ·rw[fw e] at q;exact q
  have hv:vw (p.BJ.put ⟨0,0,79+(k:Int)⟩ .zero)=vw p:=Sj Y;have hp:=aG B Y ⟨a1,am⟩ ao (λj b q=>B.ai j b (hA1 j b q)) λe=>absurd e (Ne.symm K);have ev:TV W k p g (p.BJ.put ⟨0,0,79+(k:Int)⟩ .zero) (g.Cw k):=⟨by rw[hv];exact a2,by rw[hv];exact O.ok.x I,fq (FZ K),by rw[FZ K];exact hJ _,λj b q=>fq (hA1 j b q)⟩;refine⟨_,hp,Sg.one B hp.both ev,db (db ⟨⟨C.st,?_,?_,?_⟩,?_,fq u,?_,?_⟩),?_,?_⟩
  ·show(V.M.Ah _).R.Aa=4;rw[f];exact h4
  ·show(V.M.Ah _).R.me=k;rw[f];exact C.me
  ·show(V.M.Ah _).R.Ae=nt;rw[f];exact C.th
  ·show Mx _ _ k (V.M.Ah _);rw[f];exact(aa ev).new
  ·show(V.M.Ah _).R.step=0;rw[f];rfl
  ·rw[ab,ga rfl]
  ·have ap:=O.ok.Cd a1 I;unfold Fz;simp only;rw[f,u,P,hv,ap];show V.M.ns.length+0+W.L.Cd (vw p) g+1<=V.M.ns.length+1+W.L.Cd (vw p) g;omega
  ·have Z:W.cn (vw p) (g.Cw k)=W.cn (vw p) g:=O.cnq a1 I;unfold Gn;simp only;rw[f,u,P,hv,Z];exact Nat.le_refl _
 |wk J u H N D hE hc a6=>
  have F:V.M.R.step≠0/\V.M.R.step<11:=by
   rcases hc with⟨_,h,_⟩|⟨_,h,_⟩|⟨_,h,_⟩|⟨_,h,_⟩|⟨_,h,_⟩|⟨_,h,_⟩|⟨_,h,_⟩<;>rw[h]<;>decide
  have Q:∀{i:Int},V.call.kind=i->i≠7->i≠12->1<=wt V.call:=λ{i} h h7 af=>by
   unfold wt;rw[h,fw Zo];split<;>omega
  have S:=λ{a} (h:(vw p).Ad a)=>wJ h;have ae:∀x,V.M.R.step=1->V.M.Ah x=⟨V.M.R.finish x,V.M.ns,[],[]⟩:=λx h=>by rw[tk_1 h,Ob rfl]
  have fin:∀{p1 g'},TV W k p g p1 g'->g'.A k≠none->True:=λ_ _=>trivial;cases O.BJ B.eg B.si N (B.tg.tgv Zo) au hE with
  |done af=>rcases hc with⟨q,_⟩|⟨q,_⟩|⟨q,_⟩|⟨q,_⟩|⟨q,_⟩|⟨q,_⟩|⟨q,_⟩<;>omega
  |look ag T I=>
   obtain⟨l1,l2⟩:=S T;rcases hc with⟨q,U,q2⟩|⟨q,_⟩|⟨q,_⟩|⟨q,U,q2⟩|⟨q,_⟩|⟨q,_⟩|⟨q,_⟩
   ·rw[q2,TM l1,l2];exact⟨g,Nc I B.BJ (Kv O B) C ⟨G.nt,G.nd,G.sb,G.dd⟩ u H N D F (Q q Zd Zd) (ae _ U) rfl rfl ⟨rfl,rfl,rfl,rfl⟩⟩
   ·omega
   ·omega
   ·rw[q2,TM l1,l2];have f:V.M.Ah ⟨(vw p).get V.call.AJ,true⟩=⟨Xd.finish {V.M.R with word:=(vw p).get V.call.AJ} ⟨(vw p).get V.call.AJ,true⟩,V.M.ns,[],[]⟩:=by
     rw[tk_5 U];unfold Xd.FV;simp only;rw[show Xd.dating {V.M.R with word:=(vw p).get V.call.AJ}=false by show(V.M.R.Aa==3||V.M.R.Aa==5)=false;rw[h4];rfl,show(V.M.R.Aa==2)=false by rw[h4];rfl];simp only[px,gx];rw[Ob rfl]
    exact⟨g,Nc I B.BJ (Kv O B) C ⟨G.nt,G.nd,G.sb,G.dd⟩ u H N D F (Q q Zd Zd) f rfl rfl ⟨rfl,rfl,rfl,rfl⟩⟩
   ·omega
   ·omega
   ·omega
  |store ag T aq I=>
   obtain⟨g',hg,I⟩:=I;obtain⟨l1,l2⟩:=S T;obtain⟨q,U,q2⟩:V.call.kind=4/\V.M.R.step=1/\V.M.R.AH=⟨2,V.call.AJ,V.call.AU,V.call.new⟩:=by
    rcases hc with⟨q,_⟩|q|⟨q,_⟩|⟨q,_⟩|⟨q,_⟩|⟨q,_⟩|⟨q,_⟩<;>first|exact q|omega
   rw[q2,vG l1];obtain⟨r1,r2,r3⟩:=tH B T hg (by rw[aq];omega);exact⟨g',Nc (by rw[r3];exact I) r1 (Sg.one B r1.both r2) C (aa r2) u H (by rw[hg.ak];exact N) D F (Q q Zd Zd) (ae _ U) rfl rfl ⟨rfl,rfl,rfl,rfl⟩⟩
  |swap ag T aq hy ar=>
   obtain⟨l1,l2⟩:=S T;obtain⟨q,U,q2⟩:V.call.kind=5/\V.M.R.step=1/\V.M.R.AH=⟨3,V.call.AJ,V.call.AU,V.call.new⟩:=by
    rcases hc with⟨q,_⟩|⟨q,_⟩|q|⟨q,_⟩|⟨q,_⟩|⟨q,_⟩|⟨q,_⟩<;>first|exact q|omega
   rw[q2];cases X:B7 ((vw p).get V.call.AJ) V.call.AU with
   |true=>
    obtain⟨g',hg,I⟩:=hy X;rw[vF l1 (by rw[l2];exact X),l2];have a7:V.call.AU.tg=((vw p).get V.call.AJ).tg:=by unfold B7 at X;simp at X;exact X.2.1.symm
    have bd:=B.tg.get V.call.AJ;obtain⟨r1,r2,r3⟩:=tH B T hg (by rw[aq,a7,FK Zo Zo];omega);exact⟨g',Nc (by rw[r3];exact I) r1 (Sg.one B r1.both r2) C (aa r2) u H (by rw[hg.ak];exact N) D F (Q q Zd Zd) (ae _ U) rfl rfl ⟨rfl,rfl,rfl,rfl⟩⟩
   |false=>
    rw[eJ l1 (by rw[l2];exact X),l2];exact⟨g,Nc (ar X) B.BJ (Kv O B) C ⟨G.nt,G.nd,G.sb,G.dd⟩ u H N D F (Q q Zd Zd) (ae _ U) rfl rfl ⟨rfl,rfl,rfl,rfl⟩⟩
  |hold h7=>rcases hc with⟨q,_⟩|⟨q,_⟩|⟨q,_⟩|⟨q,_⟩|⟨q,_⟩|⟨q,_⟩|⟨q,_⟩<;>omega
  |alloc ag hy ar=>
   obtain⟨q,U,q2⟩:V.call.kind=8/\V.M.R.step=1/\V.M.R.AH=⟨4,.zero,.zero,.zero⟩:=by
    rcases hc with⟨q,_⟩|⟨q,_⟩|⟨q,_⟩|⟨q,_⟩|q|⟨q,_⟩|⟨q,_⟩<;>first|exact q|omega
   rw[q2];rcases List.eq_nil_or_concat p.free with hf|⟨l,m,hf⟩
   ·rw[vI hf];exact⟨g,Nc ar B.BJ (Kv O B) C ⟨G.nt,G.nd,G.sb,G.dd⟩ u H N D F (Q q Zd Zd) (ae _ U) rfl rfl ⟨rfl,rfl,rfl,rfl⟩⟩
   ·rw[List.concat_eq_append] at hf;obtain⟨m1,m2,m3⟩:=B.fr m (by rw[hf];simp);obtain⟨g',hg,I⟩:=hy m (wr ((p.slot m).AB+1)) Zo (by show ¬(p.slot m).used=true;rw[m3];simp);rw[vH hf];obtain⟨r1,r2,r3⟩:=zV O B hf _ hg rfl;exact⟨g',Nc (y:=⟨⟨m,wr ((p.slot m).AB+1),0,0,false⟩,true⟩) (by have h':=I;rw[←r3] at h';exact h') r1 (Sg.one B r1.both r2) C (aa r2) u H (by rw[hg.ak];exact N) D F (Q q Zd Zd) (ae _ U) rfl rfl ⟨rfl,rfl,rfl,rfl⟩⟩
  |drop ag hr I=>
   obtain⟨g',hg,I⟩:=I;obtain⟨q,U,q2⟩:V.call.kind=9/\V.M.R.step=2/\V.M.R.AH=⟨5,.zero,V.call.AU,.zero⟩:=by
    rcases hc with⟨q,_⟩|⟨q,_⟩|⟨q,_⟩|⟨q,_⟩|⟨q,_⟩|q|⟨q,_⟩<;>first|exact q|omega
   rw[q2,vJ (To hr.2.1 hr.2.2.symm)];obtain⟨r1,r2,r3⟩:=zX B hr.2.1 hg rfl;have f:V.M.Ah ⟨.zero,true⟩=⟨V.M.R.done,V.M.ns,[],[]⟩:=by rw[vj U,Ob rfl]
   exact⟨g',Nc (by rw[r3];exact I) r1 (Sg.one B r1.both r2) C (aa r2) u H (by rw[hg.ak];exact N) D F (Q q Zd Zd) f rfl rfl ⟨rfl,rfl,rfl,rfl⟩⟩
  |retire ag hr g1 h1 ho I=>
   obtain⟨q,U,q2,q3⟩:V.call.kind=10/\V.M.R.step=10/\V.M.R.AH=⟨1,root 24,.zero,.zero⟩/\V.M.R.call=V.call:=by
    rcases hc with⟨q,_⟩|⟨q,_⟩|⟨q,_⟩|⟨q,_⟩|⟨q,_⟩|⟨q,_⟩|q<;>first|exact q|omega
   obtain⟨a1,a2,a3,a4,a5⟩:=zW O B h1 ho;obtain⟨f1,f2,f3⟩:=I (p.board 24).nm;have aw:wt V.call=12:=by unfold wt;rw[q];rfl
   rw[aw] at f3;rw[q2,NZ];obtain⟨t1,t2⟩:=tt (p:=p) (g:=g) (W:=W) (nt:=nt) u H F;have hA1:(g1.noted V.call.AU.sl k (p.board 24).nm).A k≠none:=by show g1.A k≠none;rw[a4];exact N
   have hO:∀t,(g1.noted V.call.AU.sl k (p.board 24).nm).own t=if t=V.call.AU.sl then Tq.note (k+1000) else g1.own t:=λt=>X9 _ _ _ _;have a8:=a3 V.M G;have a9:∀m∈V.M.ns,m.ref.sl≠V.call.AU.sl:=λm hm e=>by
    have f:=(G.nt m hm).1;have e2:g1.own m.ref.sl=.note (k+1000):=by
     rcases h1 with rfl|h1
     ·exact f
     ·exact((h1.ev.pe m.ref.sl (k+1000) Zo).2 f).1
    rw[e,ho] at e2;cases e2
   have hN:∀{R':Xd} {ds:List Xw} {ss:List Xe},ds.Sublist V.M.ns->(∀d∈ds,d.AF+2<=(p.board 24).nm)->Mx p.BJ (g1.noted V.call.AU.sl k (p.board 24).nm) k ⟨R',V.M.ns++[⟨Yx V.call.AU,V.M.R.word.nm,(p.board 24).nm⟩],ds,ss⟩:=λ{R' ds ss} ba bb=>by
    refine⟨λm hm=>?_,?_,ba.trans (List.sublist_append_left ..),bb⟩
    ·rcases gy.1 hm with hm|hm
     ·exact a8.nt m hm
     ·rw[ft.1 hm];refine⟨by show(g1.noted V.call.AU.sl k (p.board 24).nm).own V.call.AU.sl=_;rw[hO,ga rfl],hr.2.2.symm,?_,hJ _⟩;show Ar g1.mO V.call.AU.sl (p.board 24).nm V.call.AU.sl=_;rw[X9,ga rfl]
    ·rw[List.map_append];refine h9.2 ⟨G.nd,by simp,λy hy z hz e=>?_⟩;obtain⟨m,hm,rfl⟩:=j7.1 hy;rw[ft.1 hz] at e;exact a9 m hm e
   have e0:V.M.Ah ⟨p.board 24,true⟩=MR.noted ⟨{V.M.R with clock:=p.board 24},V.M.ns++[⟨Yx V.call.AU,V.M.R.word.nm,(p.board 24).nm⟩],V.M.ds,V.M.ss⟩:=by
    unfold MR.Ah;simp only[U];show(bif V.M.R.dating then _ else _)=_;rw[show V.M.R.dating=false by show(V.M.R.Aa==3||V.M.R.Aa==5)=false;rw[h4];rfl];show MR.noted (MR.note _ _ _)=_;unfold MR.note;rw[show(MR.R {V.M with R:={V.M.R with clock:=p.board 24}}).call.AU=V.call.AU from iy Xi.AU q3]
   have ax:(V.M.ns++[(⟨Yx V.call.AU,V.M.R.word.nm,(p.board 24).nm⟩:Xw)]).length=V.M.ns.length+1:=by simp
   have hv:vw p.BJ=vw p:=rfl;unfold MR.noted at e0;cases ah:decide (V.M.R.most<=((V.M.ns++[(⟨Yx V.call.AU,V.M.R.word.nm,(p.board 24).nm⟩:Xw)]).length:Int)) with
   |false=>
    have f:V.M.Ah ⟨p.board 24,true⟩=⟨Xd.done {V.M.R with clock:=p.board 24},V.M.ns++[⟨Yx V.call.AU,V.M.R.word.nm,(p.board 24).nm⟩],[],[]⟩:=by
     rw[e0];simp only;rw[ah];rfl
    refine⟨_,a1,a2,db (fq ⟨J,⟨C.st,?_,?_,?_⟩,?_,db u,?_,H,hA1,?_,?_⟩),?_,?_⟩
    ·show(V.M.Ah _).R.Aa=4;rw[f];exact h4
    ·show(V.M.Ah _).R.me=k;rw[f];exact C.me
    ·show(V.M.Ah _).R.Ae=nt;rw[f];exact C.th
    ·show Mx _ _ k (V.M.Ah _);rw[f];exact hN (oq _) λd u=>by cases u
    ·show(V.M.Ah _).R.step=0;rw[f];rfl
    ·show(V.M.Ah _).R.span.is=true;rw[f];exact D
    ·show W.E _ _ k (J.next (V.M.Ah _).R.Az).1 (J.next (V.M.Ah _).R.Az).2;rw[f];exact f1
    ·rw[t1];unfold Fz;simp only;rw[f,u,H];show(V.M.ns++[_]).length+(W.M (vw p) _ (J.next ⟨.zero,true⟩).1 (J.next ⟨.zero,true⟩).2+1)+W.L.Cd (vw p) _+1<=_;rw[ax];omega
    ·rw[t2];unfold Gn;simp only;rw[f,u,H];show W.cn (vw p) _+W.lk (J.next ⟨.zero,true⟩).1 (J.next ⟨.zero,true⟩).2<=_;omega
   |true=>
    have f:V.M.Ah ⟨p.board 24,true⟩=⟨Xd.load {V.M.R with clock:=p.board 24} 12 (root 24),V.M.ns++[⟨Yx V.call.AU,V.M.R.word.nm,(p.board 24).nm⟩],V.M.ds,V.M.ss⟩:=by
     rw[e0];simp only;rw[ah];simp only[i9];unfold MR.scan;have:Xd.scan {V.M.R with clock:=p.board 24}=Xd.load {V.M.R with clock:=p.board 24} 12 (root 24):=by
      unfold Xd.scan;rw[show(Xd.Aa {V.M.R with clock:=p.board 24})=4 from h4];rfl
     rw[this];rfl
    refine⟨_,a1,a2,fq ⟨⟨⟨C.st,?_,?_,?_⟩,?_,db ⟨?_,.rt J u H hA1 ?_ f1 ?_⟩⟩,?_⟩,?_,?_⟩
    ·show(V.M.Ah _).R.Aa=4;rw[f];exact h4
    ·show(V.M.Ah _).R.me=k;rw[f];exact C.me
    ·show(V.M.Ah _).R.Ae=nt;rw[f];exact C.th
    ·show Mx _ _ k (V.M.Ah _);rw[f];exact hN G.sb G.dd
    ·show(V.M.Ah _).R.step≠0;rw[f];show(12:Int)≠0;decide
    ·show(V.M.Ah _).R.span.is=true;rw[f];exact D
    ·show mF nt _ _ (V.M.Ah _);rw[f];exact .qD rfl a6 rfl
    ·rw[f];show(12:Int)≠0;decide
    ·rw[t1];unfold Fz;simp only;rw[f,u,H];show(V.M.ns++[_]).length+(W.M (vw p) _ (J.next ⟨.zero,true⟩).1 (J.next ⟨.zero,true⟩).2+1+(nt+3))+W.L.Cd (vw p) _+1<=_;rw[ax];omega
    ·rw[t2];unfold Gn;simp only;rw[f,u,H];show W.cn (vw p) _+W.lk (J.next ⟨.zero,true⟩).1 (J.next ⟨.zero,true⟩).2<=_;omega
 |rt J u H N D hE P=>
  have af:=P.zb;obtain⟨t1,t2⟩:=sN (p:=p) (g:=g) (W:=W) (nt:=nt) u H af.1;obtain⟨g',r⟩:=SJ O h6 hk B ht G h4 C.th P;obtain⟨d1,d2,d3,d4⟩:=r.hd;have bc:=r.le;have aj:rv st nt k {V with M:=V.M.Ah (p.act V.M.R.AH).2}:=⟨C.st,d1.trans h4,d2.trans C.me,d3.trans C.th⟩;have ay:=r.E _ _ N hE;have al:g'.A k≠none:=by rw[r.ak];exact N
  rcases r.sc with⟨s0,sr⟩|s
  ·refine⟨g',r.hp,r.ev,db (fq ⟨J,aj,r.no,db u,s0,H,al,d4▸D,by show W.E _ _ k (J.next (V.M.Ah _).R.Az).1 (J.next (V.M.Ah _).R.Az).2;rw[sr];exact ay⟩),?_,?_⟩
   ·rw[t1,r.pt];have:Fz W nt (vw (p.act V.M.R.AH).1) g' {V with M:=V.M.Ah (p.act V.M.R.AH).2}=(V.M.Ah (p.act V.M.R.AH).2).ns.length+(W.M (vw p) g (J.next ⟨.zero,true⟩).1 (J.next ⟨.zero,true⟩).2+1):=by
     unfold Fz;simp only;rw[u,H,s0,sr];show(V.M.Ah (p.act V.M.R.AH).2).ns.length+(W.M (vw (p.act V.M.R.AH).1) g' (J.next ⟨.zero,true⟩).1 (J.next ⟨.zero,true⟩).2+1)=_;rw[r.m]
    rw[this];omega
   ·rw[t2,r.cn];unfold Gn;simp only;rw[u,H,s0,sr];exact Nat.le_refl _
  ·have qD:=s.zb;obtain⟨u1,u2⟩:=sN (V:={V with M:=V.M.Ah (p.act V.M.R.AH).2}) (p:=(p.act V.M.R.AH).1) (g:=g') (W:=W) (nt:=nt) u H qD.1;refine⟨g',r.hp,r.ev,fq ⟨⟨aj,r.no,db ⟨by show(V.M.Ah _).R.step≠0;omega,.rt J u H al (d4▸D) ay s⟩⟩,Zo⟩,?_,?_⟩
   ·have u1:Fz W nt (vw (p.act V.M.R.AH).1) g' {V with M:=V.M.Ah (p.act V.M.R.AH).2}=(V.M.Ah (p.act V.M.R.AH).2).ns.length+(W.M (vw (p.act V.M.R.AH).1) g' (J.next ⟨.zero,true⟩).1 (J.next ⟨.zero,true⟩).2+1+N9 nt (V.M.Ah (p.act V.M.R.AH).2)):=u1;rw[t1,u1,r.pt,r.m];omega
   ·rw[t2,u2,r.cn];exact Nat.le_refl _
 |sc u N P=>
  have af:=P.zb;obtain⟨g',r⟩:=SJ O h6 hk B ht G h4 C.th P;obtain⟨d1,d2,d3,d4⟩:=r.hd;have bc:=r.le;have aj:rv st nt k {V with M:=V.M.Ah (p.act V.M.R.AH).2}:=⟨C.st,d1.trans h4,d2.trans C.me,d3.trans C.th⟩;have al:g'.A k=none:=by rw[r.ak];exact N
  have az:∀(V:MV) v g,V.Ac=4->12<=V.M.R.step->Fz W nt v g V=V.M.ns.length+N9 nt V.M/\Gn W V=0:=λV v g h h'=>by
   have h0:¬V.M.R.step=0:=Zo;unfold Fz Gn;rw[h];simp[h0]
  obtain⟨t1,t2⟩:=az V (vw p) g u af.1;rcases r.sc with⟨s0,sr⟩|s
  ·refine⟨g',r.hp,r.ev,db (db ⟨aj,r.no,db u,s0,al⟩),?_,?_⟩
   ·rw[t1,r.pt];have:Fz W nt (vw (p.act V.M.R.AH).1) g' {V with M:=V.M.Ah (p.act V.M.R.AH).2}=(V.M.Ah (p.act V.M.R.AH).2).ns.length:=by
     unfold Fz;simp only;rw[u,s0];rfl
    rw[this];omega
   ·rw[t2,r.cn];unfold Gn;simp only;rw[u,s0];exact Nat.le_refl _
  ·have qD:=s.zb;obtain⟨u1,u2⟩:=az {V with M:=V.M.Ah (p.act V.M.R.AH).2} (vw (p.act V.M.R.AH).1) g' u qD.1;refine⟨g',r.hp,r.ev,fq ⟨⟨aj,r.no,db ⟨by show(V.M.Ah _).R.step≠0;omega,.sc u al s⟩⟩,Zo⟩,?_,?_⟩
   ·have u1:Fz W nt (vw (p.act V.M.R.AH).1) g' {V with M:=V.M.Ah (p.act V.M.R.AH).2}=(V.M.Ah (p.act V.M.R.AH).2).ns.length+N9 nt (V.M.Ah (p.act V.M.R.AH).2):=u1;rw[t1,u1,r.pt];omega
   ·rw[t2,u2,r.cn];exact Nat.le_refl _
end
