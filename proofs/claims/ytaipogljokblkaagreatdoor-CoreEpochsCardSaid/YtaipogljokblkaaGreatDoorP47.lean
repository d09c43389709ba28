/- Core: FdD. -/
import Derived.Test.YtaipogljokblkaaGreatDoorP46
set_option linter.all false
set_option maxRecDepth 100000
set_option maxHeartbeats 8000000
namespace Go.Proofs.YtaipogljokblkaaGreatDoor
open Go Go.RowKit
def SQ(c D:Int)(p:Pl)(M:MR):Prop:=(∀m∈M.ns,m.AF<=D)/\
 ((M.R.step = 12∧(p.board 24).nm = c)∨(M.R.step = 13∧M.R.clock = p.board 24∧(p.board 24).nm = c∧∀ w∈M.ss,w.mark = false)∨(M.R.step = 14∧M.R.clock = p.board 24∧(p.board 24).nm = c)∨(M.R.step = 15∧(p.board 24).nm = c+1) ∨
 (M.R.step=16/\(p.board 24).nm=c+1/\∀m∈M.ns,m∈M.ds\/c+1<m.AF+2)\/(M.R.step=0/\(p.board 24).nm=c+1/\∀m∈M.ns,c+1<m.AF+2))
section
variable{st:Int}{W:KF}{n nt t k a j:Nat}{p p' p2:Pl}{g g' g2:EG}{V:MV}{M:MR}{J:Xz}{c:Xi}{R:Xd}{x:Xr}
def Ig.BJ(h:Ig st W n nt t p g):Ig st W n nt (t+1) p.BJ g:=Ig.up (t:=t) ⟨h.eg,h.si,h.ck.same (λ_ _=>rfl) rfl,h.fa,h.ai,h.us,h.fr,h.fd,h.tg,h.ti⟩ (lw t)
def Wi(b:I9 st W):TV W a p g p.BJ g:=⟨Ev.refl,b.ok.x Jh.refl,fq rfl,hJ _,λ_ _ h=>fq h⟩
def Kv(b:I9 st W)(h:Ig st W n nt t p g):Sg st W k p g p.BJ g:=Sg.one h h.BJ.both (Wi b)
def FZ{f r:Int}{w:Xe}(h:r≠f):(p.BJ.put ⟨0,0,f⟩ w).board r=p.board r:=(FI (p:=p.BJ) r).trans (fw h)
def aG{f:Int}{w:Xe}(h:Ig st W n nt t p g)(r:24<=f)(q:AA st (vw p) g'/\W.L.si (vw p) g')(u:Si nt (p.BJ.put ⟨0,0,f⟩ w) g')(v:∀k b,g'.A k=some b->k<nt)(i:f=24->w.tg<=t+1):Ig st W n nt (t+1) (p.BJ.put ⟨0,0,f⟩ w) g':=by
 have l:vw (p.BJ.put ⟨0,0,f⟩ w)=vw p:=Sj r;have m:∀s,(p.BJ.put ⟨0,0,f⟩ w).slot s=p.slot s:=λs=>by rw[Ek rfl];rfl
 have d:(p.BJ.put ⟨0,0,f⟩ w).free=p.free:=by rw[Ek rfl];rfl
 refine⟨by rw[l];exact q.1,by rw[l];exact q.2,u,by rw[Ek rfl];exact h.fa,v,λs y=>h.us s (by rw[←m s];exact y),λx o=>?_,by rw[d];exact h.fd,by rw[l];exact h.tg.up (lw t),?_⟩
 ·rw[d] at o;rw[m];exact h.fr x o
 ·by_cases e:f=24
  ·subst e;rw[(FI (p:=p.BJ) 24).trans (ga rfl)];have:=i rfl;omega
  ·rw[FZ (Ne.symm e)];have:=h.ti;omega
def eJ{b:Yc}{o w:Xe}(h:p.live b.sl b.gn=true)(d:B7 (p.get b) o=false):p.act ⟨3,b,o,w⟩=(p.BJ,⟨p.get b,false⟩):=by
 unfold Pl.act Pl.right Pl.touch;simp only[show((3:Int)==4)=false from rfl,show((3:Int)==5)=false from rfl,show((3:Int)==1)=false from rfl,show((3:Int)==3)=true from rfl,i9,gx,show Pl.live {p with steps:=wr (p.steps+1)} b.sl b.gn=true from h,iv,show B7 (Pl.get {p with steps:=wr (p.steps+1)} b) o=false from d];rfl
structure Xl(st:Int)(W:KF)(n nt t k:Nat)(p:Pl)(g:EG)(M:MR)(p1:Pl)(x:Xr)(g':EG):Prop where
 hp:Ig st W n nt (t+1) p1 g'
 ev:Sg st W k p g p1 g'
 no:Mx p1 g' k (M.Ah x)
 hd:(M.Ah x).R.Aa=M.R.Aa/\(M.Ah x).R.me=M.R.me/\(M.Ah x).R.Ae=M.R.Ae/\(M.Ah x).R.span=M.R.span
 sc:((M.Ah x).R.step=0/\(M.Ah x).R.Az=⟨.zero,true⟩)\/mF nt p1 g' (M.Ah x)
 le:(M.Ah x).ns.length+N9 nt (M.Ah x)+1<=M.ns.length+N9 nt M
 ak:g'.A=g.A
 q:(∀j,g.A j=none)->∀c D,SQ c D p M->SQ c D p1 (M.Ah x)
 sub:∀m∈(M.Ah x).ns,m∈M.ns
 cn:W.cn (vw p1) g'=W.cn (vw p) g
 pt:W.L.Cd (vw p1) g'=W.L.Cd (vw p) g
 E:∀J c,g.A k≠none->W.E (vw p) g k J c->W.E (vw p1) g' k J c
 m:∀J c,W.M (vw p1) g' J c=W.M (vw p) g J c
def Xl.ld(d:I9 st W)(h:Ig st W n nt t p g)(b:Mx p g k (M.Ah x))(e:(M.Ah x).R.Aa=M.R.Aa/\(M.Ah x).R.me=M.R.me/\(M.Ah x).R.Ae=M.R.Ae/\(M.Ah x).R.span=M.R.span)(f:((M.Ah x).R.step=0/\(M.Ah x).R.Az=⟨.zero,true⟩)\/mF nt p g (M.Ah x))(i:(M.Ah x).ns.length+N9 nt (M.Ah x)+1<=M.ns.length+N9 nt M)(l:(∀j,g.A j=none)->∀c D,SQ c D p M->SQ c D p (M.Ah x))(o:∀m∈(M.Ah x).ns,m∈M.ns):Xl st W n nt t k p g M p.BJ x g:=by
 refine⟨h.BJ,Kv d h,⟨b.nt,b.nd,b.sb,b.dd⟩,e,f.imp id λh=>h.A3 (W:=W) (a:=0) (Wi d),i,rfl,l,o,rfl,rfl,λ_ _ _ h=>h,λ_ _=>rfl⟩
def YU{d:Xw}(e:M.R.Aa=4)(f:1<=M.R.clock.nm)(h:M.R.clock.nm<=2000000000)(b:(!M.stays d)=true):d.AF+2<=M.R.clock.nm:=by
 unfold MR.stays at b;rw[e] at b;have b:(!Cn M.R.clock.nm d)=true:=b;unfold Cn at b;rw[show decide (M.R.clock.nm< -9223372036854775806)=false by simp;omega] at b;have b:(!decide (wr (M.R.clock.nm-2)<d.AF))=true:=b;rw[FK Zo Zo] at b;simp at b;omega
def UF{d:Xw}(e:M.R.Aa=4)(f:1<=M.R.clock.nm)(h:M.R.clock.nm<=2000000000)(b:M.stays d=true):M.R.clock.nm<d.AF+2:=by
 unfold MR.stays at b;rw[e] at b;have b:Cn M.R.clock.nm d=true:=b;unfold Cn at b;rw[show decide (M.R.clock.nm< -9223372036854775806)=false by simp;omega] at b;have b:decide (wr (M.R.clock.nm-2)<d.AF)=true:=b;rw[FK Zo Zo] at b;simp at b;omega
def Hb{d m:Xw}{ns:List Xw}(h:(ns.map (·.ref.sl)).Nodup)(f:d∈ns)(hm:m∈ns.erase d):m∈ns/\m.ref.sl≠d.ref.sl:=by
 induction ns with
 |nil=>cases f
 |cons a r i=>
  obtain⟨n1,n2⟩:=ja.1 h;by_cases e:a=d
  ·subst e;rw[pu] at hm;exact⟨gq _ hm,λq=>n1 (by show a.ref.sl∈_;rw[←q];exact n9 hm)⟩
  ·rw[List.erase_cons_tail (by simpa using e)] at hm;have b:d∈r:=(gf.1 f).resolve_left λq=>e q.symm;rcases gf.1 hm with rfl|hm
   ·exact⟨g6 ..,λq=>n1 (by show m.ref.sl∈_;rw[q];exact n9 b)⟩
   ·obtain⟨l,o⟩:=i n2 b hm;exact⟨gq _ l,o⟩
def cX{ns ds:List Xw}{ss:List Xe}:(ds=[]/\MR.reap ⟨R,ns,ds,ss⟩=⟨R.done,ns,[],[]⟩)\/∃d r,ds=d::r/\MR.reap ⟨R,ns,ds,ss⟩=⟨R.ask 16 ⟨5,.zero,d.ref,.zero⟩,ns,ds,ss⟩:=by
 cases ds with
 |nil=>exact fq ⟨rfl,rfl⟩
 |cons d r=>exact db ⟨d,r,rfl,rfl⟩
def SJ(N:I9 st W)(h6:1<=nt/\nt<=6)(hk:k<nt)(o:Ig st W n nt t p g)(ht:t<=1000000)(i:Mx p g k M)(he:M.R.Aa=4)(Y:M.R.Ae=nt)(h:mF nt p g M):∃g',Xl st W n nt t k p g M (p.act M.R.AH).1 (p.act M.R.AH).2 g':=by
 obtain⟨R,ns,ds,ss⟩:=M;have he:R.Aa=4:=he;have Y:R.Ae=nt:=Y;obtain⟨c1,c2,c3,c4⟩:=o.ck.c1;have a7:=o.ti;have ag:R.AO=false:=by show(R.Aa==2||R.Aa==3)=false;rw[he];rfl
 have al:p.get (root 24)=p.board 24:=rfl;cases h with
 |qD h h0 ha=>
  have h:R.step=12:=h;have h0:ss=[]:=h0;have ha:R.AH=⟨1,root 24,.zero,.zero⟩:=ha;subst h0;show ∃g',Xl st W n nt t k p g _ (p.act R.AH).1 (p.act R.AH).2 g';rw[ha,NZ];have v:MR.Ah ⟨R,ns,ds,[]⟩ ⟨p.board 24,true⟩=⟨Xd.load {R with clock:=p.board 24,index:=0} 13 ⟨0,0,79⟩,ns,ds,[]⟩:=by
   rw[B1 h];unfold Xd.look;rw[show Xd.AO {R with clock:=p.board 24}=false from ag,show(decide ((R.Ae:Int)<=0))=false by rw[Y];simp;omega];rfl
  refine⟨g,Xl.ld N o ?_ ?_ ?_ ?_ ?_ (by rw[v];exact λ_ h=>h)⟩<;>rw[v]
  ·exact⟨i.nt,i.nd,i.sb,i.dd⟩
  ·exact⟨rfl,rfl,rfl,rfl⟩
  ·exact db (.mJ rfl (by show 0<nt;omega) rfl rfl .refl (hJ _) .nil)
  ·have T:N9 nt ⟨R,ns,ds,[]⟩=nt+3:=by unfold N9;rw[show(MR.R ⟨R,ns,ds,[]⟩).step=12 from h];rfl
   rw[T];show ns.length+(nt-0+2)+1<=ns.length+(nt+3);omega
  ·rintro C c D ⟨O,u⟩;have F:(p.board 24).nm=c:=by
    rcases u with q|q|q|q|q|q
    ·exact q.2
    all_goals exact absurd (h.symm.trans q.1) Zd
   exact⟨O,db (fq ⟨rfl,rfl,F,λw hw=>by cases hw⟩)⟩
 |mJ h hl hi ha F z hs=>
  have h:R.step=13:=h;have hl:ss.length<nt:=hl;have hi:R.index=(ss.length:Int):=hi;have ha:R.AH=⟨1,⟨0,0,79+(ss.length:Int)⟩,.zero,.zero⟩:=ha;have F:IC (p.board 24) R.clock:=F;have z:R.clock.nm<=(p.board 24).nm:=z;have hs:Gv g R.clock.nm ss:=hs;have am:=hs.snoc o.ck hl;have az:wr (79+((ss.length:Int)+1))=79+((ss.length:Int)+1):=FK Zo Zo;show ∃g',Xl st W n nt t k p g _ (p.act R.AH).1 (p.act R.AH).2 g';rw[ha,TM (Nq rfl),show p.get ⟨0,0,79+(ss.length:Int)⟩=p.board (79+ss.length) from rfl];have e0:MR.Ah ⟨R,ns,ds,ss⟩ ⟨p.board (79+ss.length),true⟩=MR.AQ ⟨R,ns,ds,ss⟩ ⟨p.board (79+ss.length),true⟩:=B0 h;have T:N9 nt ⟨R,ns,ds,ss⟩=nt-ss.length+2:=by unfold N9;rw[show(MR.R ⟨R,ns,ds,ss⟩).step=13 from h];rfl
  have Z:(ss++[p.board (79+ss.length)]).length=ss.length+1:=by simp
  have ah:∀c:Int,_->R.clock=p.board 24/\(p.board 24).nm=c/\∀w∈ss,w.mark=false:=λc (u:(R.step=12/\(p.board 24).nm=c)\/(R.step=13/\R.clock=p.board 24/\(p.board 24).nm=c/\∀w∈ss,w.mark=false)\/(R.step=14/\R.clock=p.board 24/\(p.board 24).nm=c)\/(R.step=15/\(p.board 24).nm=c+1)\/(R.step=16/\(p.board 24).nm=c+1/\∀m∈ns,m∈ds\/c+1<m.AF+2)\/(R.step=0/\(p.board 24).nm=c+1/\∀m∈ns,c+1<m.AF+2))=>by
   rcases u with q|q|q|q|q|q
   ·exact absurd (h.symm.trans q.1) Zd
   ·exact q.2
   all_goals exact absurd (h.symm.trans q.1) Zd
  have an:(∀j,g.A j=none)->(∀w∈ss,w.mark=false)->∀w∈ss++[p.board (79+ss.length)],w.mark=false:=λC q w hw=>by
   rcases gy.1 hw with hw|hw
   ·exact q w hw
   ·rw[ft.1 hw];exact o.ck.s0 _ hl (C _)
  by_cases a0:ss.length+1<nt
  ·have v:MR.Ah ⟨R,ns,ds,ss⟩ ⟨p.board (79+ss.length),true⟩=⟨Xd.load {R with index:=R.index+1} 13 ⟨0,0,79+((ss.length:Int)+1)⟩,ns,ds,ss++[p.board (79+ss.length)]⟩:=by
    rw[e0];unfold MR.AQ Xd.look;simp only;rw[ag,show(decide ((R.Ae:Int)<=R.index+1))=false by rw[Y,hi];simp;omega,hi,az];rfl
   refine⟨g,Xl.ld N o ?_ ?_ ?_ ?_ ?_ (by rw[v];exact λ_ h=>h)⟩<;>rw[v]
   ·exact⟨i.nt,i.nd,i.sb,i.dd⟩
   ·exact⟨rfl,rfl,rfl,rfl⟩
   ·refine db (.mJ rfl (by rw[Z];exact a0) ?_ ?_ F z am)
    ·show R.index+1=((ss++[p.board (79+ss.length)]).length:Int);rw[Z,hi];rfl
    ·show(⟨1,⟨0,0,79+((ss.length:Int)+1)⟩,.zero,.zero⟩:Bx)=_;rw[Z];rfl
   ·rw[T];show ns.length+(nt-(ss++[p.board (79+ss.length)]).length+2)+1<=_;rw[Z];show _<=ns.length+_;omega
   ·rintro C c D ⟨O,u⟩;obtain⟨G,U,P⟩:=ah c u;exact⟨O,db (fq ⟨rfl,G,U,an C P⟩)⟩
  ·have aj:(R.look (R.index+1)).2=false:=by
    unfold Xd.look;rw[ag,show(decide ((R.Ae:Int)<=R.index+1))=true by rw[Y,hi];simp;omega];rfl
   have v:MR.Ah ⟨R,ns,ds,ss⟩ ⟨p.board (79+ss.length),true⟩=if CM R.clock.nm ((ss++[p.board (79+ss.length)]).map Ei)=true then⟨R.advance 14,ns,ds,ss++[p.board (79+ss.length)]⟩ else⟨R.load 15 (root 24),ns,ds,ss++[p.board (79+ss.length)]⟩:=by
    rw[e0];unfold MR.AQ;simp only;rw[aj,he];cases CM R.clock.nm ((ss++[p.board (79+ss.length)]).map Ei)<;>rfl
   by_cases Q:CM R.clock.nm ((ss++[p.board (79+ss.length)]).map Ei)=true
   ·rw[ga Q] at v;refine⟨g,Xl.ld N o ?_ ?_ ?_ ?_ ?_ (by rw[v];exact λ_ h=>h)⟩<;>rw[v]
    ·exact⟨i.nt,i.nd,i.sb,i.dd⟩
    ·exact⟨rfl,rfl,rfl,rfl⟩
    ·exact db (.K3 rfl rfl F z (am.may Q λk b q=>by have:=o.ai k b q;rw[Z];omega))
    ·rw[T];show ns.length+2+1<=ns.length+_;omega
    ·rintro C c D ⟨O,u⟩;obtain⟨G,U,P⟩:=ah c u;exact⟨O,d2 (fq ⟨rfl,G,U⟩)⟩
   ·rw[fw Q] at v;refine⟨g,Xl.ld N o ?_ ?_ ?_ ?_ ?_ (by rw[v];exact λ_ h=>h)⟩<;>rw[v]
    ·exact⟨i.nt,i.nd,i.sb,i.dd⟩
    ·exact⟨rfl,rfl,rfl,rfl⟩
    ·exact db (.vv rfl rfl)
    ·rw[T];show ns.length+1+1<=ns.length+_;omega
    ·rintro C c D ⟨O,u⟩;obtain⟨G,U,P⟩:=ah c u;refine absurd ?_ Q;have:=an C P;unfold CM;simp only[jp,qb];intro s hs;obtain⟨w,hw,rfl⟩:=j7.1 hs;unfold Ei FG;rw[this w hw];simp
 |K3 h ha F z C=>
  have h:R.step=14:=h;have ha:R.AH=⟨3,root 24,R.clock,Y5 R.clock 1⟩:=ha;have F:IC (p.board 24) R.clock:=F;have z:R.clock.nm<=(p.board 24).nm:=z;have C:∀k b,g.A k=some b->R.clock.nm<=b:=C;have v:∀x,MR.Ah ⟨R,ns,ds,ss⟩ x=⟨R.load 15 (root 24),ns,ds,ss⟩:=λx=>by rw[zz h];rfl
  have ao:∀c D,SQ c D p ⟨R,ns,ds,ss⟩->(∀m∈ns,m.AF<=D)/\R.clock=p.board 24/\(p.board 24).nm=c:=λc D u=>by
   obtain⟨O,u⟩:=u;rcases u with q|q|q|q|q|q
   ·exact absurd (h.symm.trans q.1) Zd
   ·exact absurd (h.symm.trans q.1) Zd
   ·exact⟨O,q.2⟩
   all_goals exact absurd (h.symm.trans q.1) Zd
  have T:N9 nt ⟨R,ns,ds,ss⟩=2:=by unfold N9;rw[show(MR.R ⟨R,ns,ds,ss⟩).step=14 from h];rfl
  show ∃g',Xl st W n nt t k p g _ (p.act R.AH).1 (p.act R.AH).2 g';rw[ha];cases aa:B7 (p.get (root 24)) R.clock with
  |false=>
   rw[eJ (Nq rfl) aa];refine⟨g,Xl.ld N o ?_ ?_ ?_ ?_ ?_ (by rw[v];exact λ_ h=>h)⟩<;>rw[v]
   ·exact⟨i.nt,i.nd,i.sb,i.dd⟩
   ·exact⟨rfl,rfl,rfl,rfl⟩
   ·exact db (.vv rfl rfl)
   ·rw[T];show ns.length+1+1<=ns.length+2;omega
   ·intro C c D u;have:=(ao c D u).2.1;rw[al,this,GF] at aa;cases aa
  |true=>
   rw[vF (Nq rfl) aa];have hq:p.board 24=R.clock:=F.same aa;rw[←hq] at C ⊢;obtain⟨t1,t2⟩:=Si.tick (p:=p.BJ) (o.ck.same (λ_ _=>rfl) rfl) (by show(p.board 24).tg<_;omega) C;have a2:(p.BJ.put (root 24) (Y5 (p.board 24) 1)).board 24=Y5 (p.board 24) 1:=(FI (p:=p.BJ) 24).trans (ga rfl);have E:vw (p.BJ.put (root 24) (Y5 (p.board 24) 1))=vw p:=Sj (f:=24) Zd;have X:(Y5 (p.board 24) 1).tg=(p.board 24).tg+1:=FK Zo Zo;have H:=aG (f:=24) (w:=Y5 (p.board 24) 1) (g':=g) o Zd o.both t1 o.ai λ_=>by rw[X];omega
   have I:TV W k p g (p.BJ.put (root 24) (Y5 (p.board 24) 1)) g:=⟨by rw[E];exact Ev.refl,by rw[E];exact N.ok.x Jh.refl,db (by rw[a2];exact X),by have t2:((p.BJ.put (root 24) (Y5 (p.board 24) 1)).board 24).nm=(p.board 24).nm+1:=t2;omega,λ_ _ h=>fq h⟩;refine⟨g,⟨H,Sg.one o H.both I,?_,?_,?_,?_,rfl,?_,by rw[v];exact λ_ h=>h,by rw[E],by rw[E],λ_ _ _ h=>by rw[E];exact h,λ_ _=>by rw[E]⟩⟩<;>rw[v]
   ·refine⟨λm z=>?_,i.nd,i.sb,λd hd=>mb (i.dd d hd) I.c2⟩;obtain⟨G,U,P,q4⟩:=i.nt m z;exact⟨G,by rw[show((p.BJ.put (root 24) (Y5 (p.board 24) 1)).slot m.ref.sl).AB=(p.slot m.ref.sl).AB by rw[Ek rfl];rfl];exact U,P,mb q4 I.c2⟩
   ·exact⟨rfl,rfl,rfl,rfl⟩
   ·exact db (.vv rfl rfl)
   ·rw[T];show ns.length+1+1<=ns.length+2;omega
   ·intro a9 c D u;obtain⟨G,U,P⟩:=ao c D (by rw[←hq] at*;exact u);exact⟨G,d2 (db (fq ⟨rfl,by rw[←P];exact t2⟩))⟩
 |vv h ha=>
  have h:R.step=15:=h;have ha:R.AH=⟨1,root 24,.zero,.zero⟩:=ha;show ∃g',Xl st W n nt t k p g _ (p.act R.AH).1 (p.act R.AH).2 g';rw[ha,NZ];have T:N9 nt ⟨R,ns,ds,ss⟩=1:=by unfold N9;rw[show(MR.R ⟨R,ns,ds,ss⟩).step=15 from h];rfl
  have v:MR.Ah ⟨R,ns,ds,ss⟩ ⟨p.board 24,true⟩=MR.sift ⟨{R with clock:=p.board 24},ns,ds,ss⟩:=zy h;have ap:∀d∈ns.filter λn=>!MR.stays ⟨{R with clock:=p.board 24},ns,ds,ss⟩ n,d.AF+2<=(p.board 24).nm:=λd hd=>YU (M:=⟨{R with clock:=p.board 24},ns,ds,ss⟩) he (by show 1<=(p.board 24).nm;omega) (by show(p.board 24).nm<=_;omega) (List.mem_filter.1 hd).2;have aq:∀c:Int,_->(p.board 24).nm=c+1:=λc (u:(R.step=12/\(p.board 24).nm=c)\/(R.step=13/\R.clock=p.board 24/\(p.board 24).nm=c/\∀w∈ss,w.mark=false)\/(R.step=14/\R.clock=p.board 24/\(p.board 24).nm=c)\/(R.step=15/\(p.board 24).nm=c+1)\/(R.step=16/\(p.board 24).nm=c+1/\∀m∈ns,m∈ds\/c+1<m.AF+2)\/(R.step=0/\(p.board 24).nm=c+1/\∀m∈ns,c+1<m.AF+2))=>by
   rcases u with q|q|q|q|q|q
   ·exact absurd (h.symm.trans q.1) Zd
   ·exact absurd (h.symm.trans q.1) Zd
   ·exact absurd (h.symm.trans q.1) Zd
   ·exact q.2
   all_goals exact absurd (h.symm.trans q.1) Zd
  have ar:∀m∈ns,m∈(ns.filter λn=>!MR.stays ⟨{R with clock:=p.board 24},ns,ds,ss⟩ n)\/(p.board 24).nm<m.AF+2:=λm z=>by
   cases hs:MR.stays ⟨{R with clock:=p.board 24},ns,ds,ss⟩ m with
   |false=>exact fq (List.mem_filter.2 ⟨z,by rw[hs];rfl⟩)
   |true=>exact db (UF (M:=⟨{R with clock:=p.board 24},ns,ds,ss⟩) he (by show 1<=(p.board 24).nm;omega) (by show(p.board 24).nm<=_;omega) hs)
  unfold MR.sift at v;rcases @cX {R with clock:=p.board 24} ns (ns.filter λn=>!MR.stays ⟨{R with clock:=p.board 24},ns,ds,ss⟩ n) ss with⟨ak,X⟩|⟨d,r,X,e3⟩
  ·have v:=v.trans X;refine⟨g,Xl.ld N o ?_ ?_ ?_ ?_ ?_ (by rw[v];exact λ_ h=>h)⟩<;>rw[v]
   ·exact i.new
   ·exact⟨rfl,rfl,rfl,rfl⟩
   ·exact fq ⟨rfl,rfl⟩
   ·rw[T];show ns.length+0+1<=ns.length+1;omega
   ·rintro C c D ⟨O,u⟩;have F:=aq c u;refine⟨O,d4 (db ⟨rfl,F,λm z=>?_⟩)⟩;rcases ar m z with q|q
    ·rw[ak] at q;cases q
    ·rw[←F];exact q
  ·have v:=v.trans e3;refine⟨g,Xl.ld N o ?_ ?_ ?_ ?_ ?_ (by rw[v];exact λ_ h=>h)⟩<;>rw[v]
   ·exact⟨i.nt,i.nd,List.filter_sublist,ap⟩
   ·exact⟨rfl,rfl,rfl,rfl⟩
   ·exact db (.iJ d r rfl X rfl)
   ·rw[T];show ns.length+0+1<=ns.length+1;omega
   ·rintro C c D ⟨O,u⟩;have F:=aq c u;refine⟨O,d4 (fq ⟨rfl,F,λm z=>?_⟩)⟩;exact(ar m z).imp id λq=>by rw[←F];exact q
 |iJ d r h hd ha=>
  have h:R.step=16:=h;have hd:ds=d::r:=hd;have ha:R.AH=⟨5,.zero,d.ref,.zero⟩:=ha;subst hd;have au:(d::r).Sublist ns:=i.sb;have B:d∈ns:=au.subset (g6 ..);obtain⟨G,U,P,q4⟩:=i.nt d B;have ap:=i.dd d (g6 ..);have K:(p.slot d.ref.sl).used=true:=jk λq=>by
   have:=(o.eg.tok d.ref.sl).2 q;rw[G] at this;cases this
  have T:N9 nt ⟨R,ns,d::r,ss⟩=0:=by unfold N9;rw[show(MR.R ⟨R,ns,d::r,ss⟩).step=16 from h];rfl
  show ∃g',Xl st W n nt t k p g _ (p.act R.AH).1 (p.act R.AH).2 g';rw[ha,vJ (To K U)];generalize ad:({p.BJ with slot:=Ar p.slot d.ref.sl {p.slot d.ref.sl with used:=false},free:=p.free++[d.ref.sl]}:Pl)=p1;have E:vw p1=(vw p).drop d.ref.sl:=by rw[←ad];exact bZ
  have hb:p1.board=p.board:=by rw[←ad];rfl
  have ae:∀s,(p1.slot s).AB=(p.slot s).AB/\((p1.slot s).used=true↔s≠d.ref.sl/\(p.slot s).used=true):=λs=>by
   have v:(vw p1).AB s=(p.slot s).AB:=by rw[E];rfl
   have X:(vw p1).held s↔(s≠d.ref.sl/\(p.slot s).used=true):=by rw[E];exact j3
   exact⟨v,X⟩
  have ab:p1.free=p.free++[d.ref.sl]:=by rw[←ad]
  have a3:p1.fault=p.fault:=by rw[←ad];rfl
  obtain ⟨k1,k2⟩:=o.eg.free (a:=k+1000) (ce:=W.L.ce) (s:=d.ref.sl) (db ⟨G,fun j b hj=>by have:=o.ck.a1 j b hj;rw [P];omega⟩);have hO:∀ t,(g.A7 d.ref.sl).own t = if t = d.ref.sl then Tq.free else g.own t:=fun t=>X9 _ _ _ _;have af:Jh (vw p) g ((vw p).drop d.ref.sl) (g.A7 d.ref.sl):=⟨rfl,rfl,fun l t ht=>⟨ht.1,rfl,rfl⟩,fun t=>by
   rw[hO];by_cases e:t=d.ref.sl
   ·rw[ga e,e,G];simp
   ·rw[fw e],rfl,λl t ht hf=>⟨ht,λe=>hf (by rw[hO,ga e])⟩⟩
  have a4:=N.ok.si k1 o.si af;have av:=o.us d.ref.sl K;have H:Ig st W n nt (t+1) p1 (g.A7 d.ref.sl):=by
   refine⟨by rw[E];exact k1,by rw[E];exact a4,o.ck.same (λr _=>by rw[hb]) rfl,a3.trans o.fa,o.ai,λs hs=>o.us s ((ae s).2.1 hs).2,λx hx=>?_,?_,by rw[E];exact(o.tg.drop).up (lw t),by rw[hb];omega⟩
   ·rw[ab] at hx;rcases gy.1 hx with hx|hx
    ·obtain⟨r1,r2,r3⟩:=o.fr x hx;refine⟨r1,r2,?_⟩;cases hu:(p1.slot x).used with
     |false=>rfl
     |true=>have:=((ae x).2.1 hu).2;rw[r3] at this;cases this
    ·rw[ft.1 hx];refine⟨av.1,av.2,?_⟩;cases hu:(p1.slot d.ref.sl).used with
     |false=>rfl
     |true=>exact absurd rfl ((ae d.ref.sl).2.1 hu).1
   ·rw[ab];refine h9.2 ⟨o.fd,by simp,λx hx y hy e=>?_⟩;rw[ft.1 hy] at e;have:=(o.fr x hx).2.2;rw[e,K] at this;cases this
  have I:TV W (k+1000) p g p1 (g.A7 d.ref.sl):=⟨by rw[E];exact k2,by rw[E];exact N.ok.x af,fq (by rw[hb]),by rw[hb];exact hJ _,λ_ _ h=>fq h⟩;have e0:MR.Ah ⟨R,ns,d::r,ss⟩ ⟨.zero,true⟩=MR.reap ⟨{R with A7:=wr (R.A7+1)},ns.erase d,r,ss⟩:=zx h;have a8:(ns.erase d).length+1=ns.length:=by rw[List.length_erase_of_mem B];have:=List.length_pos_of_mem B;omega
  have aw:∀m∈ns.erase d,(g.A7 d.ref.sl).own m.ref.sl=.note (k+1000)/\(p1.slot m.ref.sl).AB=m.ref.gn/\(g.A7 d.ref.sl).mO m.ref.sl=m.AF/\m.AF<=(p1.board 24).nm:=λm z=>by
   obtain⟨r1,r2⟩:=Hb i.nd B z;obtain⟨r3,r4,r5,r6⟩:=i.nt m r1;exact⟨by rw[hO,fw r2];exact r3,by rw[(ae _).1];exact r4,r5,by rw[hb];exact r6⟩
  have ax:((ns.erase d).map (·.ref.sl)).Nodup:=i.nd.sublist ((List.erase_sublist).map _);have a5:r.Sublist (ns.erase d):=by
   have:=au.erase d;rwa [pu] at this
  have WY:∀e∈r,e.AF+2<=(p1.board 24).nm:=λe he=>by rw[hb];exact i.dd e (gq _ he)
  have a6:k≠k+1000:=Zo;have ay:∀c D,SQ c D p ⟨R,ns,d::r,ss⟩->(∀m∈ns,m.AF<=D)/\(p.board 24).nm=c+1/\∀m∈ns,m∈d::r\/c+1<m.AF+2:=λc D u=>by
   obtain⟨O,u⟩:=u;rcases u with q|q|q|q|q|q
   ·exact absurd (h.symm.trans q.1) Zd
   ·exact absurd (h.symm.trans q.1) Zd
   ·exact absurd (h.symm.trans q.1) Zd
   ·exact absurd (h.symm.trans q.1) Zd
   ·exact⟨O,q.2⟩
   ·exact absurd (h.symm.trans q.1) Zd
  refine⟨g.A7 d.ref.sl,?_⟩;have fin:∀S,MR.Ah ⟨R,ns,d::r,ss⟩ ⟨.zero,true⟩=S->Mx p1 (g.A7 d.ref.sl) k S->(S.R.Aa=R.Aa/\S.R.me=R.me/\S.R.Ae=R.Ae/\S.R.span=R.span)->((S.R.step=0/\S.R.Az=⟨.zero,true⟩)\/mF nt p1 (g.A7 d.ref.sl) S)->S.ns.length+N9 nt S+1<=ns.length->((∀j,g.A j=none)->∀c D,SQ c D p ⟨R,ns,d::r,ss⟩->SQ c D p1 S)->(∀m∈S.ns,m∈ns)->Xl st W n nt t k p g ⟨R,ns,d::r,ss⟩ p1 ⟨.zero,true⟩ (g.A7 d.ref.sl):=λS e h1 h2 h3 h4 h5 h6=>by
   subst e;exact⟨H,Sg.one o H.both I,h1,h2,h3,by rw[T];exact h4,rfl,h5,h6,by rw[E];exact N.cnq k1 af,by rw[E];exact N.ok.Cd k1 af,λJ c C hE=>N.A3 hE o.eg H.eg o.si H.si I.e I.x a6 C,λJ c=>by rw[E];exact N.mq⟩
  rcases @cX {R with A7:=wr (R.A7+1)} (ns.erase d) r ss with⟨ak,X⟩|⟨d',r',X,e3⟩
  ·exact fin _ (e0.trans X) ⟨aw,ax,oq _,fun e he=>by cases he⟩ ⟨rfl,rfl,rfl,rfl⟩ (fq ⟨rfl,rfl⟩) (by show (ns.erase d).length+0+1≤_;omega) (fun C c D u=>by
    obtain⟨G,U,P⟩:=ay c D u;refine⟨λm z=>G m (Hb i.nd B z).1,d4 (db ⟨rfl,by rw[hb];exact U,λm z=>?_⟩)⟩;obtain⟨r1,r2⟩:=Hb i.nd B z;refine(P m r1).resolve_left λq=>?_;rcases gf.1 q with rfl|q
    ·exact r2 rfl
    ·rw[ak] at q;cases q) λm z=>(Hb i.nd B z).1
  ·exact fin _ (e0.trans e3) ⟨aw,ax,a5,WY⟩ ⟨rfl,rfl,rfl,rfl⟩ (db (.iJ d' r' rfl X rfl)) (by show (ns.erase d).length+0+1≤_;omega) (fun C c D u=>by
    obtain⟨G,U,P⟩:=ay c D u;refine⟨λm z=>G m (Hb i.nd B z).1,d4 (fq ⟨rfl,by rw[hb];exact U,λm z=>?_⟩)⟩;obtain⟨r1,r2⟩:=Hb i.nd B z;refine(P m r1).imp (λq=>?_) id;rcases gf.1 q with rfl|q
    ·exact absurd rfl r2
    ·exact q) λm z=>(Hb i.nd B z).1
end
