/- Core: EaB, EaC, EaW, EaE, EaF, EaG. -/
import Derived.Test.YtaipogljokblkaaGreatDoorE12
import Derived.Test.YtaipogljokblkaaGreatDoorE01
set_option linter.all false
set_option maxRecDepth 100000
set_option maxHeartbeats 8000000
namespace Go.Proofs.YtaipogljokblkaaGreatDoor
open Go Go.RowKit
set_option linter.unusedSimpArgs false
set_option linter.unusedVariables false
set_option linter.unusedSectionVars false
theorem X2{α:Type}(f:Int->α)(i j:Int)(x:α):Ap f i x j=if j=i then x else f j:=by
 unfold Ap;by_cases h:j=i
 ·simp[h]
 ·rw[if_neg h,show(j==i)=false from by simp[h]];rfl
def Vd(v:Vw)(L:List Int):Prop:=∃ss:List Int,CU v 2 (v.root 0) ss/\ss.Nodup/\ss.map (λs=>(v.cell s 1).nm)=L
def PP(L:List Int)(op:A3):Yu × List Int:=
 if op.kind=1 then(⟨1,0⟩,op.val::L) else match L with
 |[]=>(⟨2,0⟩,[])
 |x::r=>(⟨1,x⟩,if op.kind=3 then x::r else r)
theorem NE{v:Vw}{L:List Int}(op:A3)(x:Xj)(hk:op.kind=1)(h:Vd v L):
  Yc (λa v'=>a=(PP L op).1/\Vd v' (PP L op).2) 1 20 v (.pile ((Xk.new op).next x).1) ((Xk.new op).next x).2:=by
 obtain⟨ss,h1,h2,h3⟩:=h
 obtain⟨k,ky,vl,tl⟩:=op
 obtain rfl:k=1:=hk
 refine .more (n:=0+1+1+5+1+2) (a:=0+1) ?_ (Nat.le_refl _) Zd
 simp[Xx.next,Xk.next,Xk.push,Xk.pop,Xk.done,Xk.new,Xk.zero]
 refine .al λs g s0 hs=>?_
 simp[Xx.next,Xk.next,Xk.push,Xk.pop,Xk.done,Xk.new,Xk.zero]
 have hr:∀{c:Int->Int->Xe} {r:Int->Xe},(Vw.mk r (v.take s g).As (v.take s g).held c).Rf ⟨s,g,0,0,false⟩:=⟨s0,Or.inl rfl,by show g=Ap v.As s g s;rw[X2,if_pos rfl]⟩
 refine .st (Yd hr Zd Zd) (BC s0) ?_
 simp[Xx.next,Xk.next,Xk.push,Xk.pop,Xk.done,Xk.new,Xk.zero]
 refine .ld (AY Zd Zd) rfl ?_
 simp[Xx.next,Xk.next,Xk.push,Xk.pop,Xk.done,Xk.new,Xk.zero]
 refine .st (Yd hr Zd Zd) (BC s0) ?_
 simp[Xx.next,Xk.next,Xk.push,Xk.pop,Xk.done,Xk.new,Xk.zero]
 refine .sw (AY Zd Zd) rfl (Yx _) Gx ?_
 simp[Xx.next,Xk.next,Xk.push,Xk.pop,Xk.done,Xk.new,Xk.zero]
 have hm:∀t∈ss,t≠s/\v.held t:=λt ht=>⟨λe=>hs (by rw[←e];exact(h1.held t ht).2),(h1.held t ht).2⟩
 refine .dn ⟨rfl,s::ss,⟨rfl,hr,?_⟩,List.nodup_cons.2 ⟨λh=>(hm s h).1 rfl,h2⟩,?_⟩
 ·refine(h1.same (v':=_) λt ht=>⟨Or.inr (hm t ht).2,?_,?_⟩).ref ?_ ?_
  ·simp[Vw.take,X2,(hm t ht).1]
  ·simp[Vw.take,X2,(hm t ht).1]
  ·simp[X2];rfl
  ·simp[X2];rfl
 ·rw[List.map_cons];show _::_=vl::L;rw[←h3];congr 1
  ·simp[X2];rfl
  ·exact List.map_congr_left λt ht=>by simp[Vw.take,X2,(hm t ht).1]
theorem Pd{v:Vw}{L:List Int}(op:A3)(x:Xj)(hk:op.kind=2\/op.kind=3)(h:Vd v L):
  Yc (λa v'=>a=(PP L op).1/\Vd v' (PP L op).2) 0 60 v (.pile ((Xk.new op).next x).1) ((Xk.new op).next x).2:=by
 obtain⟨ss,h1,h2,h3⟩:=h
 obtain⟨k,ky,vl,tl⟩:=op
 have hk:k=2\/k=3:=hk
 cases ss with
 |nil=>
  obtain rfl:[]=L:=h3
  have h1:(v.root 0).sl=0:=h1
  refine .more (n:=0+5) (a:=0) ?_ (Nat.le_refl _) Zd
  rcases hk with rfl|rfl
  all_goals
   simp[Xx.next,Xk.next,Xk.push,Xk.pop,Xk.done,Xk.new,Xk.zero]
   refine .pr (AY Zd Zd) rfl ?_
   simp[Xx.next,Xk.next,Xk.pop,Xk.done,BU,h1]
   exact .dn ⟨rfl,[],h1,List.nodup_nil,rfl⟩
 |cons s r=>
  obtain⟨rfl,hr,h1⟩:=h1
  have h2':=List.nodup_cons.1 h2
  rcases hk with rfl|rfl
  ·refine .more (n:=0+40+5+1+5+5) (a:=0) ?_ (Nat.le_refl _) Zd;simp[Xx.next,Xk.next,Xk.push,Xk.pop,Xk.done,Xk.new,Xk.zero];refine .pr (AY Zd Zd) rfl ?_;simp[Xx.next,Xk.next,Xk.pop,Xk.done,BU,hr.1];refine .ld (Yd hr Zd Zd) (Yp hr.1) ?_;simp[Xx.next,Xk.next,Xk.push,Xk.pop,Xk.done,Xk.new,Xk.zero];refine .sw (AY Zd Zd) rfl (Yx _) Gx ?_;simp[Xx.next,Xk.next,Xk.push,Xk.pop,Xk.done,Xk.new,Xk.zero];refine .ld (Yd (w:=v.root 0) hr Zd Zd) (Yp hr.1) ?_;simp[Xx.next,Xk.next,Xk.push,Xk.pop,Xk.done,Xk.new,Xk.zero];refine .rt (w:=v.root 0) hr ?_;simp[Xx.next,Xk.next,Xk.push,Xk.pop,Xk.done,Xk.new,Xk.zero];subst h3;refine .dn ⟨rfl,r,?_,h2'.2,rfl⟩;have h4:CU ({v with root:=Ap v.root 0 (En (v.root 0) (v.cell (v.root 0).sl 2))} |>.drop (v.root 0).sl) 2 (v.cell (v.root 0).sl 2) r:=h1.same λt ht=>⟨⟨λe=>h2'.1 (e▸ht),(h1.held t ht).2⟩,rfl,rfl⟩;exact h4.ref (by simp[Vw.drop,X2];rfl) (by simp[Vw.drop,X2];rfl)
  ·refine .more (n:=0+5+5) (a:=0) ?_ (Nat.le_refl _) Zd;simp[Xx.next,Xk.next,Xk.push,Xk.pop,Xk.done,Xk.new,Xk.zero];refine .pr (AY Zd Zd) rfl ?_;simp[Xx.next,Xk.next,Xk.pop,Xk.done,BU,hr.1];refine .ld (Yd hr Zd Zd) (Yp hr.1) ?_;simp[Xx.next,Xk.next,Xk.push,Xk.pop,Xk.done,Xk.new,Xk.zero];subst h3;exact .dn ⟨rfl,(v.root 0).sl::r,⟨rfl,hr,h1⟩,h2,rfl⟩
def EZ(f:Int)(As:Int->Int):X9->List Int->X9
 |a,[]=>a
 |_,s::r=>EZ f As ⟨s,As s,f⟩ r
section
variable{v:Vw}{f:Int}{a b:X9}{pre post l:List Int}{x w:Xe}{s:Int}
theorem CH(a b:X9)(x:Xe):(v.put b x).get a=if a.sl=b.sl/\a.fd=b.fd then x else v.get a:=by
 unfold Vw.put Vw.get;by_cases hb:b.sl=0
 ·rw[if_pos hb];by_cases ha:a.sl=0
  ·rw[if_pos ha,if_pos ha];show Ap v.root b.fd x a.fd=_;rw[X2,ha,hb];by_cases e:a.fd=b.fd
   ·rw[if_pos e,if_pos ⟨rfl,e⟩]
   ·rw[if_neg e,if_neg λh=>e h.2]
  ·rw[if_neg ha,if_neg ha,if_neg λh=>ha (h.1.trans hb)]
 ·rw[if_neg hb];by_cases ha:a.sl=0
  ·rw[if_pos ha,if_pos ha,if_neg λh=>hb (h.1.symm.trans ha)]
  ·rw[if_neg ha,if_neg ha];show Ap v.cell b.sl (Ap (v.cell b.sl) b.fd x) a.sl a.fd=_;rw[X2];by_cases e:a.sl=b.sl
   ·rw[if_pos e,X2,e];by_cases e2:a.fd=b.fd
    ·rw[if_pos e2,if_pos ⟨rfl,e2⟩]
    ·rw[if_neg e2,if_neg λh=>e2 h.2]
   ·rw[if_neg e,if_neg λh=>e h.1]
theorem B9:(v.put b x).held=v.held:=by unfold Vw.put;split<;>rfl
theorem AD:(v.put b x).As=v.As:=by unfold Vw.put;split<;>rfl
theorem Yb(s g:Int)(h:¬(s=b.sl/\g=b.fd)):(v.put b x).cell s g=v.cell s g:=by
 unfold Vw.put;by_cases hb:b.sl=0
 ·rw[if_pos hb]
 ·rw[if_neg hb];show Ap v.cell b.sl (Ap (v.cell b.sl) b.fd x) s g=_;rw[X2];by_cases e:s=b.sl
  ·rw[if_pos e,X2,if_neg λe2=>h ⟨e,e2⟩,e]
  ·rw[if_neg e]
theorem EU(h:w.sl≠0):(v.put (Xg w f) x).cell w.sl f=x:=by
 rw[BC h];show Ap v.cell w.sl (Ap (v.cell w.sl) f x) w.sl f=x;rw[X2,if_pos rfl,X2,if_pos rfl]
theorem Cl:(v.put b x).Rf w↔v.Rf w:=by unfold Vw.Rf;rw[B9,AD]
theorem Iw:(v.put b x).Ad a↔v.Ad a:=by unfold Vw.Ad;rw[B9,AD]
theorem Cx(h:s≠0){g:Int}:v.get ⟨s,g,f⟩=v.cell s f:=if_neg h
theorem Cq:∀{pre:List Int} {a:X9},EZ f v.As a pre=a/\pre=[]\/(EZ f v.As a pre).sl∈pre/\(EZ f v.As a pre).fd=f/\(EZ f v.As a pre).gn=v.As (EZ f v.As a pre).sl
 |[],_=>Or.inl ⟨rfl,rfl⟩
 |s::r,a=>by
  rcases @Cq r ⟨s,v.As s,f⟩ with⟨h,rfl⟩|h
  ·exact Or.inr ⟨List.mem_cons_self ..,rfl,rfl⟩
  ·exact Or.inr ⟨List.mem_cons_of_mem _ h.1,h.2⟩
theorem GP(t:Int):∀{pre:List Int} {a:X9},EZ f v.As a (pre++[t])=⟨t,v.As t,f⟩
 |[],_=>rfl
 |_::r,_=>GP t (pre:=r)
theorem CU.at_:∀{pre:List Int} {a:X9},CU v f (v.get a) (pre++post)->CU v f (v.get (EZ f v.As a pre)) post
 |[],_,h=>h
 |s::r,a,h=>by
  obtain⟨_,h2,h3⟩:=h;have hs:s≠0:=by rename_i h1;rw[←h1];exact h2.1
  exact CU.at_ (pre:=r) (a:=⟨s,v.As s,f⟩) (by rw[Cx hs];exact h3)
theorem Jk(hf:0<=f/\f<9):∀{pre:List Int} {a:X9},v.Ad a->CU v f (v.get a) (pre++post)->v.Ad (EZ f v.As a pre)
 |[],_,h,_=>h
 |s::r,a,_,h=>by
  obtain⟨h1,h2,h3⟩:=h;have hs:s≠0:=by rw[←h1];exact h2.1
  exact Jk hf (pre:=r) (a:=⟨s,v.As s,f⟩) (Or.inr ⟨hs,by rw[←h1];exact h2.2.1,rfl,hf⟩) (by rw[Cx hs];exact h3)
theorem I7:∀{pre:List Int} {a:X9},CU v f (v.get a) (pre++post)->(pre++post).Nodup->(a.sl≠0->a.fd=f->a.sl∉pre)->CU (v.put (EZ f v.As a pre) x) f x l->CU (v.put (EZ f v.As a pre) x) f ((v.put (EZ f v.As a pre) x).get a) (pre++l)
 |[],a,_,_,_,hl=>by
  show CU _ f ((v.put a x).get a) l;rw[CH,if_pos ⟨rfl,rfl⟩];exact hl
 |s::r,a,h,hn,ha,hl=>by
  obtain⟨h1,h2,h3⟩:=h;have hs:s≠0:=by rw[←h1];exact h2.1
  obtain⟨n1,n2⟩:=List.nodup_cons.1 hn;have e:(v.put (EZ f v.As a (s::r)) x).get a=v.get a:=by
   rw[CH,if_neg];rintro⟨e1,e2⟩;rcases @Cq v f r ⟨s,v.As s,f⟩ with⟨h,hr⟩|h
   ·have e3:EZ f v.As a (s::r)=⟨s,v.As s,f⟩:=h;rw[e3] at e1 e2;have e1:a.sl=s:=e1;exact ha (by rw[e1];exact hs) e2 (by rw[e1];exact List.mem_cons_self ..)
   ·have e4:a.sl∈r:=by rw[e1];exact h.1
    exact ha (fun e0=>by
     have h5:=h2;have:(0:Int)∈r:=e0▸e4;exact(CU.held h3 0 (List.mem_append_left _ this)).1 rfl) (e2.trans h.2.1) (List.mem_cons_of_mem _ e4)
  refine⟨?_,?_,?_⟩
  ·rw[e];exact h1
  ·rw[e,Cl];exact h2
  ·have:=I7 (pre:=r) (a:=⟨s,v.As s,f⟩) (by rw[Cx hs];exact h3) n2 (λ_ _ hm=>n1 (List.mem_append_left _ hm)) hl;rw[Cx hs] at this;exact this
theorem CU.put(h:CU v f w l)(hb:b.fd≠f\/b.sl∉l):CU (v.put b x) f w l:=h.same λs hs=>⟨by rw[B9];exact(h.held s hs).2,by rw[AD],Yb s f λe=>hb.elim (λh'=>h' e.2.symm) λh'=>h' (e.1▸hs)⟩
theorem CU.put0(h:CU v f w l)(hb:b.sl=0):CU (v.put b x) f w l:=h.put (Or.inr λhm=>(h.held _ hm).1 hb)
theorem CU.take{g:Int}(h:CU v f w l)(hs:¬v.held s):CU (v.take s g) f w l:=h.same λt ht=>by
 have e:t≠s:=λe=>hs (e▸(h.held t ht).2);exact⟨Or.inr (h.held t ht).2,by show Ap v.As s g t=_;rw[X2,if_neg e],by show Ap v.cell s _ t f=_;rw[X2,if_neg e]⟩
theorem CU.drop(h:CU v f w l)(hs:s∉l):CU (v.drop s) f w l:=h.same λt ht=>⟨⟨λe=>hs (e▸ht),(h.held t ht).2⟩,rfl,rfl⟩
theorem MK{g:Int}(s0:s≠0):(v.take s g).Rf ⟨s,g,0,0,false⟩:=⟨s0,Or.inl rfl,by show g=Ap v.As s g s;rw[X2,if_pos rfl]⟩
theorem Vw.Rf.take{g:Int}(h:v.Rf w)(hs:¬v.held s):(v.take s g).Rf w:=⟨h.1,Or.inr h.2.1,by show _=Ap v.As s g w.sl;rw[X2,if_neg λe=>hs (by rw[←e];exact h.2.1)];exact h.2.2⟩
theorem ER{g:Int}{t:Int}(h:t≠s):(v.take s g).cell t=v.cell t:=by show Ap v.cell s _ t=_;rw[X2,if_neg h]
theorem Nr{g:Int}{k:Int}:(v.take s g).cell s k=.zero:=by show Ap v.cell s _ s k=_;rw[X2,if_pos rfl]
theorem Vw.Rf.ref{w':Xe}(h:v.Rf w)(h1:w'.sl=w.sl)(h2:w'.gn=w.gn):v.Rf w':=by unfold Vw.Rf at*;rw[h1,h2];exact h
end
def Pl.Bu(p:Pl):Pl:={p with steps:=wr (p.steps+1)}
section
variable{p:Pl}{ad:X9}{o w:Xe}
theorem Mb(h:p.live ad.sl ad.gn=true):p.act ⟨1,ad,o,w⟩=(p.Bu,⟨p.get ad,true⟩):=by
 unfold Pl.act Pl.right Pl.touch;simp only[show((1:Int)==4)=false from rfl,show((1:Int)==5)=false from rfl,show((1:Int)==1)=true from rfl,cond_true,cond_false,show Pl.live {p with steps:=wr (p.steps+1)} ad.sl ad.gn=true from h,Bool.not_true];rfl
theorem qM(h:p.live ad.sl ad.gn=true):p.act ⟨2,ad,o,w⟩=(p.Bu.put ad w,⟨.zero,true⟩):=by
 unfold Pl.act Pl.right Pl.touch;simp only[show((2:Int)==4)=false from rfl,show((2:Int)==5)=false from rfl,show((2:Int)==1)=false from rfl,show((2:Int)==3)=false from rfl,cond_true,cond_false,show Pl.live {p with steps:=wr (p.steps+1)} ad.sl ad.gn=true from h,Bool.not_true];rfl
theorem YG(h:p.live ad.sl ad.gn=true)(hs:Dm (p.get ad) o=true):p.act ⟨3,ad,o,w⟩=(p.Bu.put ad w,⟨p.get ad,true⟩):=by
 unfold Pl.act Pl.right Pl.touch;simp only[show((3:Int)==4)=false from rfl,show((3:Int)==5)=false from rfl,show((3:Int)==1)=false from rfl,show((3:Int)==3)=true from rfl,cond_true,cond_false,show Pl.live {p with steps:=wr (p.steps+1)} ad.sl ad.gn=true from h,Bool.not_true,show Dm (Pl.get {p with steps:=wr (p.steps+1)} ad) o=true from hs];rfl
theorem qO(h:p.live o.sl o.gn=true):p.act ⟨5,ad,o,w⟩=({p.Bu with slot:=Ap p.slot o.sl {p.slot o.sl with used:=false},free:=p.free++[o.sl]},⟨.zero,true⟩):=by
 unfold Pl.act Pl.right;simp only[show((5:Int)==4)=false from rfl,show((5:Int)==5)=true from rfl,cond_true,cond_false,show Pl.live {p with steps:=wr (p.steps+1)} o.sl o.gn=true from h,Bool.not_true];rfl
theorem YI{l:List Int}{m:Int}(h:p.free=l++[m]):p.act ⟨4,ad,o,w⟩=({p.Bu with free:=l,slot:=Ap p.slot m ⟨wr ((p.slot m).As+1),true,Ap (λ_=>.zero) 9 (Yy w.nm)⟩,made:=wr (p.made+1)},⟨⟨m,wr ((p.slot m).As+1),0,0,false⟩,true⟩):=by
 have e1:p.free.getLast?=some m:=by rw[h];simp
 have e2:p.free.dropLast=l:=by rw[h];simp
 unfold Pl.act Pl.right;simp only[show((4:Int)==4)=true from rfl,cond_true,Bool.not_true,cond_false];unfold Pl.alloc;simp only[e1,e2];rfl
theorem Mv(h:ad.sl=0):p.live ad.sl ad.gn=true:=by unfold Pl.live;rw[h];rfl
theorem MS{s g:Int}(hu:(p.slot s).used=true)(hg:(p.slot s).As=g):p.live s g=true:=by unfold Pl.live;rw[hu,hg];simp
theorem eT{r:Int}:p.get (root r)=p.board r:=rfl
theorem mN{a:X9}(h:a.sl=0):p.get a=p.board a.fd:=by unfold Pl.get;rw[h];rfl
theorem eS{a:X9}(h:a.sl≠0):p.get a=(p.slot a.sl).cell a.fd:=by unfold Pl.get;rw[show(a.sl==0)=false by simp[h]];rfl
theorem KO{a:X9}(h:a.sl=0):p.put a w={p with board:=Ap p.board a.fd w}:=by unfold Pl.put;rw[h];rfl
theorem eH{a:X9}(h:a.sl≠0):p.put a w={p with slot:=Ap p.slot a.sl {p.slot a.sl with cell:=Ap (p.slot a.sl).cell a.fd w}}:=by unfold Pl.put;rw[show(a.sl==0)=false by simp[h]];rfl
end
structure EM(ns:List Xq)(p:Pl)(v:Vw)(a b:Nat):Prop where
 ck:1<=(p.board 24).nm/\(p.board 24).nm+b<=1000000
 rt:∀r,0<=r->r<24->p.board r=v.root r
 hd:∀s,v.held s->s≠0/\(p.slot s).used=true/\(p.slot s).As=v.As s/\∀f,0<=f->f<9->(p.slot s).cell f=v.cell s f
 nt:∀m∈ns,m.ref.sl≠0/\(p.slot m.ref.sl).used=true/\(p.slot m.ref.sl).As=m.ref.gn/\¬v.held m.ref.sl
 nd:(ns.map λm=>m.ref.sl).Nodup
 fu:∀x∈p.free,x≠0/\(p.slot x).used=false
 fd:p.free.Nodup
 fr:a<=p.free.length
section
variable{ns:List Xq}{p:Pl}{v:Vw}{a b:Nat}{ad:X9}{w:Xe}
theorem EM.Bu(h:EM ns p v a b):EM ns p.Bu v a b:=⟨h.ck,h.rt,h.hd,h.nt,h.nd,h.fu,h.fd,h.fr⟩
theorem EM.le{a' b':Nat}(h:EM ns p v a b)(ha:a'<=a)(hb:b'<=b):EM ns p v a' b':=⟨⟨h.ck.1,by have:=h.ck.2;omega⟩,h.rt,h.hd,h.nt,h.nd,h.fu,h.fd,by have:=h.fr;omega⟩
theorem EM.live(h:EM ns p v a b)(ha:v.Ad ad):p.live ad.sl ad.gn=true/\p.get ad=v.get ad:=by
 rcases ha with⟨h1,h2,h3,h4⟩|⟨h1,h2,h3,h4,h5⟩
 ·refine⟨Mv h1,?_⟩;rw[mN h1];unfold Vw.get;rw[if_pos h1];exact h.rt _ h3 h4
 ·obtain⟨_,e2,e3,e4⟩:=h.hd _ h2;refine⟨MS e2 (e3.trans h3.symm),?_⟩;rw[eS h1];unfold Vw.get;rw[if_neg h1];exact e4 _ h4 h5
theorem EM.put(h:EM ns p v a b)(ha:v.Ad ad):EM ns (p.put ad w) (v.put ad w) a b:=by
 rcases ha with⟨h1,h2,h3,h4⟩|⟨h1,h2,h3,h4,h5⟩
 ·rw[KO h1,show v.put ad w={v with root:=Ap v.root ad.fd w} from if_pos h1];refine⟨?_,λr r0 r1=>?_,h.hd,h.nt,h.nd,h.fu,h.fd,h.fr⟩
  ·show 1<=(Ap p.board ad.fd w 24).nm/\(Ap p.board ad.fd w 24).nm+b<=1000000;rw[Yi _ _ Zo];exact h.ck
  ·show Ap p.board ad.fd w r=Ap v.root ad.fd w r;rw[X2,X2,h.rt r r0 r1]
 ·rw[eH h1,show v.put ad w={v with cell:=Ap v.cell ad.sl (Ap (v.cell ad.sl) ad.fd w)} from if_neg h1];have hs:∀s,(Ap p.slot ad.sl {p.slot ad.sl with cell:=Ap (p.slot ad.sl).cell ad.fd w} s).used=(p.slot s).used/\(Ap p.slot ad.sl {p.slot ad.sl with cell:=Ap (p.slot ad.sl).cell ad.fd w} s).As=(p.slot s).As:=λs=>by
   rw[X2];by_cases e:s=ad.sl
   ·rw[if_pos e,e];exact⟨rfl,rfl⟩
   ·rw[if_neg e];exact⟨rfl,rfl⟩
  refine⟨h.ck,h.rt,λs hh=>?_,λm hm=>?_,h.nd,λx hx=>?_,h.fd,h.fr⟩
  ·obtain⟨e1,e2,e3,e4⟩:=h.hd s hh;refine⟨e1,(hs s).1.trans e2,(hs s).2.trans e3,λf f0 f1=>?_⟩;show(Ap p.slot ad.sl _ s).cell f=Ap v.cell ad.sl _ s f;rw[X2,X2];by_cases e:s=ad.sl
   ·subst e;rw[if_pos rfl,if_pos rfl];show Ap _ _ _ f=_;rw[X2,X2,e4 f f0 f1]
   ·rw[if_neg e,if_neg e];exact e4 f f0 f1
  ·obtain⟨e1,e2,e3,e4⟩:=h.nt m hm;exact⟨e1,(hs _).1.trans e2,(hs _).2.trans e3,e4⟩
  ·obtain⟨e1,e2⟩:=h.fu x hx;exact⟨e1,(hs x).1.trans e2⟩
theorem EM.vL(h:EM ns p v a b){f:Int}(hf:25<=f):EM ns (p.put ⟨0,0,f⟩ w) v a b:=by
 rw[KO rfl];refine⟨?_,λr r0 r1=>?_,h.hd,h.nt,h.nd,h.fu,h.fd,h.fr⟩
 ·show 1<=(Ap p.board f w 24).nm/\(Ap p.board f w 24).nm+b<=1000000;rw[Yi _ _ Zo];exact h.ck
 ·show Ap p.board f w r=_;rw[Yi _ _ Zo];exact h.rt r r0 r1
theorem EM.clk(h:EM ns p v a (b+1)):EM ns (p.put (root 24) (BP (p.board 24) 1)) v a b:=by
 rw[KO rfl];have hw:wr ((p.board 24).nm+1)=(p.board 24).nm+1:=by
  have h1:=h.ck.1;have h2:=h.ck.2;show IntKind.i64.wrap _=_;unfold IntKind.wrap;simp[IntKind.bits,IntKind.signed];omega
 refine⟨?_,λr r0 r1=>?_,h.hd,h.nt,h.nd,h.fu,h.fd,h.fr⟩
 ·show 1<=(Ap p.board 24 (BP (p.board 24) 1) 24).nm/\(Ap p.board 24 (BP (p.board 24) 1) 24).nm+b<=1000000;rw[A9];show 1<=wr ((p.board 24).nm+1)/\wr ((p.board 24).nm+1)+b<=1000000;rw[hw];have h1:=h.ck.1;have h2:=h.ck.2;omega
 ·show Ap p.board 24 _ r=_;rw[Yi _ _ Zo];exact h.rt r r0 r1
theorem EM.take(h:EM ns p v (a+1) b)(x:Int):∃l m,p.free=l++[m]/\m≠0/\¬v.held m/\EM ns {p.Bu with free:=l,slot:=Ap p.slot m ⟨wr ((p.slot m).As+1),true,Ap (λ_=>.zero) 9 (Yy x)⟩,made:=wr (p.made+1)} (v.take m (wr ((p.slot m).As+1))) a b:=by
 have hne:p.free≠[]:=λe=>by have:=h.fr;rw[e] at this;simp at this
 obtain⟨l,m,hl⟩:∃l m,p.free=l++[m]:=⟨p.free.dropLast,p.free.getLast hne,(List.dropLast_concat_getLast hne).symm⟩;have hm:=h.fu m (by rw[hl];simp);have hmh:¬v.held m:=λhh=>by have:=(h.hd m hh).2.1;rw[hm.2] at this;cases this
 have hfd:=h.fd;rw[hl] at hfd;have hfr:=h.fr;rw[hl] at hfr;refine⟨l,m,hl,hm.1,hmh,h.ck,h.rt,λs hh=>?_,λn hn=>?_,h.nd,λy hy=>?_,(List.nodup_append.1 hfd).1,by simp at hfr;omega⟩
 ·by_cases e:s=m
  ·subst e;refine⟨hm.1,?_,?_,λf f0 f1=>?_⟩
   ·show(Ap p.slot s _ s).used=true;rw[A9]
   ·show(Ap p.slot s _ s).As=Ap v.As s _ s;rw[A9,A9]
   ·show(Ap p.slot s _ s).cell f=Ap v.cell s _ s f;rw[A9,A9];show Ap (λ_=>Xe.zero) 9 (Yy x) f=Xe.zero;rw[Yi _ _ Zo]
  ·have hh:v.held s:=hh.resolve_left e;obtain⟨e1,e2,e3,e4⟩:=h.hd s hh;refine⟨e1,?_,?_,λf f0 f1=>?_⟩
   ·show(Ap p.slot m _ s).used=true;rw[Yi _ _ e];exact e2
   ·show(Ap p.slot m _ s).As=Ap v.As m _ s;rw[Yi _ _ e,Yi _ _ e];exact e3
   ·show(Ap p.slot m _ s).cell f=Ap v.cell m _ s f;rw[Yi _ _ e,Yi _ _ e];exact e4 f f0 f1
 ·obtain⟨e1,e2,e3,e4⟩:=h.nt n hn;have e:n.ref.sl≠m:=λe=>by rw[e,hm.2] at e2;cases e2
  refine⟨e1,?_,?_,λhh=>hh.elim e e4⟩
  ·show(Ap p.slot m _ n.ref.sl).used=true;rw[Yi _ _ e];exact e2
  ·show(Ap p.slot m _ n.ref.sl).As=_;rw[Yi _ _ e];exact e3
 ·have hy':=h.fu y (by rw[hl];exact List.mem_append_left _ hy);have e:y≠m:=λe=>(List.nodup_append.1 hfd).2.2 y hy m Zs e;refine⟨hy'.1,?_⟩;show(Ap p.slot m _ y).used=false;rw[Yi _ _ e];exact hy'.2
theorem EM.Be{ns':List Xq}{v':Vw}(h:EM ns p v a b){s:Int}(s0:s≠0)(hu:(p.slot s).used=true)(hv:v'.root=v.root/\v'.As=v.As/\v'.cell=v.cell/\∀t,v'.held t->t≠s/\v.held t)(hn:ns'.Sublist ns/\∀m∈ns',m.ref.sl≠s):EM ns' {p.Bu with slot:=Ap p.slot s {p.slot s with used:=false},free:=p.free++[s]} v' a b:=by
 obtain⟨v1,v2,v3,v4⟩:=hv;refine⟨h.ck,λr r0 r1=>by rw[v1];exact h.rt r r0 r1,λt hh=>?_,λm hm=>?_,h.nd.sublist (hn.1.map _),λx hx=>?_,?_,by show a<=(p.free++[s]).length;have:=h.fr;simp;omega⟩
 ·obtain⟨e,hh⟩:=v4 t hh;obtain⟨e1,e2,e3,e4⟩:=h.hd t hh;refine⟨e1,?_,?_,λf f0 f1=>?_⟩
  ·show(Ap p.slot s _ t).used=true;rw[Yi _ _ e];exact e2
  ·show(Ap p.slot s _ t).As=v'.As t;rw[Yi _ _ e,v2];exact e3
  ·show(Ap p.slot s _ t).cell f=v'.cell t f;rw[Yi _ _ e,v3];exact e4 f f0 f1
 ·obtain⟨e1,e2,e3,e4⟩:=h.nt m (hn.1.subset hm);have e:=hn.2 m hm;refine⟨e1,?_,?_,λhh=>e4 (v4 _ hh).2⟩
  ·show(Ap p.slot s _ m.ref.sl).used=true;rw[Yi _ _ e];exact e2
  ·show(Ap p.slot s _ m.ref.sl).As=_;rw[Yi _ _ e];exact e3
 ·show x≠0/\(Ap p.slot s _ x).used=false;rw[X2];rcases List.mem_append.1 hx with hx|hx
  ·obtain⟨f1,f2⟩:=h.fu x hx;refine⟨f1,?_⟩;split
   ·rfl
   ·exact f2
  ·have e:=List.mem_singleton.1 hx;exact⟨by rw[e];exact s0,by rw[if_pos e]⟩
 ·show(p.free++[s]).Nodup;refine List.nodup_append.2 ⟨h.fd,by simp,λx hx y hy e=>?_⟩;have:=(h.fu x hx).2;rw[e,List.mem_singleton.1 hy,hu] at this;cases this
theorem EM.note(h:EM ns p v a b)(hr:v.Rf w){bi de:Int}:EM (ns++[⟨Yt w,bi,de⟩]) p (v.drop w.sl) a b:=by
 obtain⟨e1,e2,e3,e4⟩:=h.hd _ hr.2.1;refine⟨h.ck,h.rt,λs hh=>h.hd s hh.2,λm hm=>?_,?_,h.fu,h.fd,h.fr⟩
 ·rcases List.mem_append.1 hm with hm|hm
  ·obtain⟨n1,n2,n3,n4⟩:=h.nt m hm;exact⟨n1,n2,n3,λhh=>n4 hh.2⟩
  ·rw[List.mem_singleton.1 hm];exact⟨hr.1,e2,e3.trans hr.2.2.symm,λhh=>hh.1 rfl⟩
 ·rw[List.map_append];refine List.nodup_append.2 ⟨h.nd,by simp,λx hx y hy e=>?_⟩;obtain⟨m,hm,rfl⟩:=List.mem_map.1 hx;have:=(h.nt m hm).2.2.2;simp at hy;rw[e,hy] at this;exact this hr.2.1
theorem EM.drop (h:EM ns p v a b) (s:Int):EM ns p (v.drop s) a b:=⟨h.ck,h.rt,fun t hh=>h.hd t hh.2,fun m hm=>by
 obtain⟨n1,n2,n3,n4⟩:=h.nt m hm;exact⟨n1,n2,n3,λhh=>n4 hh.2⟩,h.nd,h.fu,h.fd,h.fr⟩
end
structure Gl(v:Vw)(a:X9)(l:List Int):Prop where
 ch:CU v 2 (v.get a) l
 nd:l.Nodup
 ad:v.Ad a
 m0:(v.get a).mark=false
 um:∀s∈l,(v.cell s 2).mark=false
 Ax:a.sl≠0->a.sl∉l/\a.fd=2
structure WEnd(v:Vw)(W:Xm)(a:X9)(key:Int)(pre post:List Int):Prop where
 prev:W.prev=EZ 2 v.As a pre
 cur:W.cur=v.get W.prev
 lo:∀t∈pre,(v.cell t 0).nm<key
 yes:W.found=true->∃s r,post=s::r/\(v.cell s 0).nm=key/\W.next=v.cell s 2
 no:W.found=false->∀s r,post=s::r->key<(v.cell s 0).nm
section
variable{Q:Yu->Vw->Prop}{al n:Nat}{v:Vw}{a:X9}{l:List Int}{key:Int}{S:Xm->Xx}{K:Xm × Xf × Bool->Xx × Xf}
theorem Gl.mark(h:Gl v a l){pre post:List Int}(e:l=pre++post):(v.get (EZ 2 v.As a pre)).mark=false:=by
 rcases @Cq v 2 pre a with⟨h1,_⟩|h1
 ·rw[h1];exact h.m0
 ·have hm:(EZ 2 v.As a pre).sl∈l:=by rw[e];exact List.mem_append_left _ h1.1
  have h0:=(h.ch.held _ hm).1;unfold Vw.get;rw[if_neg h0,h1.2.1];exact h.um _ hm
theorem S1(hS:∀(W:Xm) (x:Xj),(S W).next x=K (W.step x))(hK:∀(W:Xm) (c:Xf),c.kind≠12->K (W,c,true)=(S W,c)){m:Nat}{s:Int}{W:Xm}(c2:v.Rf W.cur)(c1:W.cur.sl=s)(ha:v.Ad W.prev)(h5:W.cur=v.get W.prev)(hm:(v.cell s 2).mark=false)
  (hnm:n<=m)(stop:∀W':Xm,W'.start=W.start->W'.key=W.key->W'.prev=W.prev->W'.cur=W.cur->W'.next=v.cell s 2->W.key<=(v.cell s 0).nm->W'.found=((v.cell s 0).nm==W.key)->Yc Q al n v (K (W',Xf.zero,false)).1 (K (W',Xf.zero,false)).2)
  (last:∀W':Xm,W'.start=W.start->W'.key=W.key->W'.prev=Xg W.cur 2->W'.cur=v.cell s 2->(v.cell s 0).nm<W.key->(v.cell s 2).sl=0->W'.found=false->Yc Q al n v (K (W',Xf.zero,false)).1 (K (W',Xf.zero,false)).2)
  (go:∀W':Xm,W'.start=W.start->W'.key=W.key->W'.prev=Xg W.cur 2->W'.cur=v.cell s 2->(v.cell s 0).nm<W.key->(v.cell s 2).sl≠0->Yc Q al m v (K W'.behind).1 (K W'.behind).2):
  Yc Q al (m+9) v (K W.behind).1 (K W.behind).2:=by
 have kp:=λW a i=>hK W (AA a i) (by show(6:Int)≠12;decide)
 have kl:=λW a=>hK W (Yv a) (by show(3:Int)≠12;decide)
 have kh:=λW i j=>hK W (FD i j) (by show(7:Int)≠12;decide)
 unfold Xm.behind
 rw[kp]
 refine .more (n:=m+1+1+1+1+5) (a:=al) (.pr (Yd c2 Zd Zd) (Yp c2.1) ?_) (Nat.le_refl _) Zo
 rw[hS]
 simp[Xm.step,kp,kl,kh]
 refine .ld (Yd c2 Zd Zd) (Yp c2.1) ?_
 rw[hS]
 simp[Xm.step,kp,kl,kh]
 refine .ld ha h5.symm ?_
 rw[hS,c1]
 simp[Xm.step,kp,kl,kh,Yx,hm]
 by_cases hk:W.key<=(v.cell s 0).nm
 ·rw[if_pos hk];refine Yc.more (n:=n) (a:=al) ?_ (Nat.le_refl _) Zo;exact stop {W with pc:=-1,next:=v.cell s 2,k:=(v.cell s 0).nm,found:=(v.cell s 0).nm==W.key} rfl rfl rfl rfl rfl hk rfl
 ·rw[if_neg hk,kh];refine .hd ?_;rw[hS];simp[Xm.step,kp,kl,kh,Xm.on];by_cases h0:(v.cell s 2).sl=0
  ·rw[if_pos h0];refine Yc.more (n:=n) (a:=al) ?_ (Nat.le_refl _) Zo;exact last {W with pc:=-1,prev:=Xg W.cur 2,cur:=v.cell s 2,next:=v.cell s 2,k:=(v.cell s 0).nm,found:=false} rfl rfl rfl rfl Zo h0 rfl
  ·rw[if_neg h0,kh];refine .hd ?_;rw[hS];simp[Xm.step,kp,kl,kh];exact go _ rfl rfl rfl rfl Zo h0
theorem rK(hS:∀(W:Xm) (x:Xj),(S W).next x=K (W.step x))(hK:∀(W:Xm) (c:Xf),c.kind≠12->K (W,c,true)=(S W,c))(h:Gl v a l)
  (fin:∀(pre post:List Int) (W:Xm),l=pre++post->W.start=a->W.key=key->WEnd v W a key pre post->Yc Q al n v (K (W,Xf.zero,false)).1 (K (W,Xf.zero,false)).2):
  ∀(post pre:List Int) (s:Int) (W:Xm),l=pre++s::post->W.start=a->W.key=key->W.prev=EZ 2 v.As a pre->W.cur=v.get W.prev->(∀t∈pre,(v.cell t 0).nm<key)->Yc Q al (n+9*(post.length+1)) v (K W.behind).1 (K W.behind).2:=by
 intro post
 induction post with
 |nil=>
  intro pre s W hl h1 h2 h3 h4 h5
  have hc:CU v 2 W.cur [s]:=by rw[h4,h3];exact CU.at_ (by rw[←hl];exact h.ch)
  obtain⟨c1,c2,c3⟩:=hc
  have c3:(v.cell s 2).sl=0:=c3
  have hw:Xg W.cur 2=EZ 2 v.As a (pre++[s]):=by rw[GP];unfold Xg;rw[c2.2.2,c1]
  refine S1 (m:=n) hS hK c2 c1 (by rw[h3];exact Jk Zd h.ad (by rw[←hl];exact h.ch)) h4 (h.um s (by rw[hl];simp)) (Nat.le_refl _) (λW' w1 w2 w3 w4 w5 w6 w7=>?_) (λW' w1 w2 w3 w4 w5 w6 w7=>?_) λW' _ _ _ _ _ w6=>absurd c3 w6
  ·exact fin pre [s] W' hl (w1.trans h1) (w2.trans h2) ⟨w3.trans h3,by rw [w4,w3];exact h4,h5,fun hf=>⟨s,[],rfl,(by rw [w7] at hf;rw [← h2];simpa using hf),w5⟩,fun hf s' r' e=>by
   cases e;rw[w7] at hf;have:(v.cell s 0).nm≠W.key:=by simpa using hf
   rw[←h2];omega⟩
  ·exact fin (pre++[s]) [] W' (by rw [List.append_nil];exact hl) (w1.trans h1) (w2.trans h2) ⟨w3.trans hw,by rw [w4,w3,Yp c2.1,c1],fun t ht=>by
    rcases List.mem_append.1 ht with ht|ht
    ·exact h5 t ht
    ·rw[List.mem_singleton.1 ht];omega,λhf=>(by rw[w7] at hf;cases hf),λ_ s' r' e=>(by cases e)⟩
 |cons u r ih=>
  intro pre s W hl h1 h2 h3 h4 h5
  have hc:CU v 2 W.cur (s::u::r):=by rw[h4,h3];exact CU.at_ (by rw[←hl];exact h.ch)
  obtain⟨c1,c2,c3⟩:=hc
  have hw:Xg W.cur 2=EZ 2 v.As a (pre++[s]):=by rw[GP];unfold Xg;rw[c2.2.2,c1]
  refine .more (n:=n+9*(r.length+1)+9) (a:=al) (S1 (n:=n) hS hK c2 c1 (by rw[h3];exact Jk Zd h.ad (by rw[←hl];exact h.ch)) h4 (h.um s (by rw[hl];simp)) Zo (λW' w1 w2 w3 w4 w5 w6 w7=>?_) (λW' _ _ _ _ _ w6 _=>absurd w6 (by rw[c3.1];exact(h.ch.held u (by rw[hl];simp)).1)) λW' w1 w2 w3 w4 w5 w6=>?_) (Nat.le_refl _) (by simp;omega)
  ·exact fin pre (s :: u :: r) W' hl (w1.trans h1) (w2.trans h2) ⟨w3.trans h3,by rw [w4,w3];exact h4,h5,fun hf=>⟨s,u :: r,rfl,(by rw [w7] at hf;rw [← h2];simpa using hf),w5⟩,fun hf s' r' e=>by
   cases e;rw[w7] at hf;have:(v.cell s 0).nm≠W.key:=by simpa using hf
   rw[←h2];omega⟩
  ·exact ih (pre++[s]) u W' (by rw[hl];simp) (w1.trans h1) (w2.trans h2) (w3.trans hw) (by rw[w4,w3,Yp c2.1,c1]) λt ht=>by
    rcases List.mem_append.1 ht with ht|ht
    ·exact h5 t ht
    ·rw[List.mem_singleton.1 ht];omega
theorem JA(hS:∀(W:Xm) (x:Xj),(S W).next x=K (W.step x))(hK:∀(W:Xm) (c:Xf),c.kind≠12->K (W,c,true)=(S W,c))(h:Gl v a l)(x:Xj)
  (fin:∀(pre post:List Int) (W:Xm),l=pre++post->W.start=a->W.key=key->WEnd v W a key pre post->Yc Q al n v (K (W,Xf.zero,false)).1 (K (W,Xf.zero,false)).2):
  Yc Q al (n+9*l.length+5) v (K ((Xm.new a key).step x)).1 (K ((Xm.new a key).step x)).2:=by
 have kp:=λW a i=>hK W (AA a i) (by show(6:Int)≠12;decide)
 simp[Xm.step,Xm.new,Xm.zero,Xm.again,kp]
 refine .pr h.ad rfl ?_
 rw[hS]
 simp[Xm.step,h.m0]
 cases l with
 |nil=>
  have h0:(v.get a).sl=0:=h.ch
  rw[if_pos h0]
  refine(fin [] [] _ rfl rfl rfl ⟨rfl,rfl,λt ht=>(by cases ht),λhf=>(by cases hf),λ_ s r e=>(by cases e)⟩).more (Nat.le_refl _) Zo
 |cons s r=>
  have h0:¬(v.get a).sl=0:=by rw[h.ch.1];exact(h.ch.held s Zs).1
  rw[if_neg h0]
  exact rK hS hK h fin r [] s _ rfl rfl rfl rfl rfl λt ht=>by cases ht
end
def Bi(v:Vw)(l:List Int):List (Int × Int):=l.map λs=>((v.cell s 0).nm,(v.cell s 1).nm)
def Ca(L:List (Int × Int))(key:Int)(op:A3):Yu × List (Int × Int):=
 let p:=L.takeWhile λe=>decide (e.1<key)
 match L.dropWhile λe=>decide (e.1<key) with
 |[]=>if op.kind=6 then(⟨1,0⟩,p++[(key,op.val)]) else(⟨2,0⟩,L)
 |(k,x)::t=>if k=key then(if op.kind=6 then(⟨3,0⟩,L) else if op.kind=7 then(⟨1,x⟩,p++t) else(⟨1,x⟩,L)) else if op.kind=6 then(⟨1,0⟩,p++(key,op.val)::(k,x)::t) else(⟨2,0⟩,L)
theorem GL{α:Type}{q:α->Bool}{p r:List α}(h1:∀e∈p,q e=true)(h2:∀e t,r=e::t->q e=false):(p++r).takeWhile q=p/\(p++r).dropWhile q=r:=by
 induction p with
 |nil=>
  cases r with
  |nil=>exact⟨rfl,rfl⟩
  |cons e t=>have:=h2 e t rfl;simp[List.takeWhile,List.dropWhile,this]
 |cons a p ih=>
  have ha:=h1 a (List.mem_cons_self ..);obtain⟨i1,i2⟩:=ih λe he=>h1 e (List.mem_cons_of_mem _ he);simp[List.takeWhile,List.dropWhile,ha,i1,i2]
structure Ec(v v':Vw)(a:X9)(l:List Int):Prop where
 sl:∀t,v.held t->t∉l->v'.held t/\v'.As t=v.As t/\∀g,¬(t=a.sl/\g=a.fd)->v'.cell t g=v.cell t g
 rt:∀r,¬(a.sl=0/\r=a.fd)->v'.root r=v.root r
section
variable{v v' v2:Vw}{a b:X9}{l pre post r:List Int}{w x:Xe}{s g f:Int}
theorem Ec.refl:Ec v v a l:=⟨λ_ h _=>⟨h,rfl,λ_ _=>rfl⟩,λ_ _=>rfl⟩
theorem Ec.trans{l':List Int}(h1:Ec v v' a l)(h2:Ec v' v2 a l')(hl:∀t∈l',t∈l\/¬v.held t):Ec v v2 a l:=
 ⟨fun t ht hn=>by
  obtain⟨a1,a2,a3⟩:=h1.sl t ht hn;obtain⟨b1,b2,b3⟩:=h2.sl t a1 λhm=>(hl t hm).elim hn λh=>h ht;exact⟨b1,b2.trans a2,λg hg=>(b3 g hg).trans (a3 g hg)⟩,λr hr=>(h2.rt r hr).trans (h1.rt r hr)⟩
theorem Ec.take (hs:¬ v.held s):Ec v (v.take s g) a l:=⟨fun t ht _=>by
 have e:t≠s:=λe=>hs (e▸ht);exact⟨Or.inr ht,by show Ap v.As s g t=_;rw[X2,if_neg e],λ_ _=>by rw[ER e]⟩,λ_ _=>rfl⟩
theorem Ec.put(h:b=a\/(b.sl≠0/\(b.sl∈l\/¬v.held b.sl))):Ec v (v.put b x) a l:=by
 refine⟨λt ht hn=>⟨by rw[B9];exact ht,by rw[AD],λg hg=>Yb t g λe=>?_⟩,λr hr=>?_⟩
 ·rcases h with rfl|⟨_,h|h⟩
  ·exact hg e
  ·exact hn (e.1▸h)
  ·exact h (e.1▸ht)
 ·unfold Vw.put;by_cases hb:b.sl=0
  ·rw[if_pos hb];rcases h with rfl|⟨h,_⟩
   ·show Ap v.root b.fd x r=_;rw[X2,if_neg λe=>hr ⟨hb,e⟩]
   ·exact absurd hb h
  ·rw[if_neg hb]
theorem Ec.drop(hs:s∈l\/¬v.held s):Ec v (v.drop s) a l:=⟨λt ht hn=>⟨⟨λe=>hs.elim (λh=>hn (e▸h)) λh=>h (e▸ht),ht⟩,rfl,λ_ _=>rfl⟩,λ_ _=>rfl⟩
theorem Gl.same(h:Gl v a l)(ha:v'.Ad a)(hg:v'.get a=v.get a)(hs:∀s∈l,v'.held s/\v'.As s=v.As s/\v'.cell s 2=v.cell s 2):Gl v' a l:=
 ⟨by rw[hg];exact h.ch.same hs,h.nd,ha,by rw[hg];exact h.m0,λs hm=>by rw[(hs s hm).2.2];exact h.um s hm,h.Ax⟩
theorem wG(ha:v.Ad a)(hs:¬v.held s):(v.take s g).Ad a:=by
 rcases ha with h|⟨h1,h2,h3,h4⟩
 ·exact Or.inl h
 ·exact Or.inr ⟨h1,Or.inr h2,by show _=Ap v.As s g a.sl;rw[X2,if_neg λe:a.sl=s=>hs (e▸h2)];exact h3,h4⟩
theorem oL(ha:v.Ad a)(hs:¬v.held s):(v.take s g).get a=v.get a:=by
 rcases ha with⟨h,_⟩|⟨h1,h2,_⟩
 ·unfold Vw.get;rw[if_pos h,if_pos h];rfl
 ·unfold Vw.get;rw[if_neg h1,if_neg h1,ER λe:a.sl=s=>hs (e▸h2)]
theorem Gl.take(h:Gl v a l)(hs:¬v.held s):Gl (v.take s g) a l:=h.same (wG h.ad hs) (oL h.ad hs) λt ht=>by
 have e:t≠s:=λe=>hs (e▸(h.ch.held t ht).2);exact⟨Or.inr (h.ch.held t ht).2,by show Ap v.As s g t=_;rw[X2,if_neg e],by rw[ER e]⟩
theorem Gl.put(h:Gl v a l)(h0:w.sl≠0)(h1:w.sl≠a.sl)(h2:w.sl∉l\/f≠2):Gl (v.put (Xg w f) x) a l:=h.same (Iw.2 h.ad) (by rw[CH,if_neg λe=>h1 e.1.symm]) λt ht=>⟨by rw[B9];exact(h.ch.held t ht).2,by rw[AD],Yb t 2 λe=>h2.elim (λh=>h (by rw[←show t=w.sl from e.1];exact ht)) λh=>h e.2.symm⟩
theorem Gl.drop (h:Gl v a l) (hs:s ∉ l) (h1:s≠a.sl):Gl (v.drop s) a l:=h.same (by
 rcases h.ad with h|⟨h2,h3,h4⟩
 ·exact Or.inl h
 ·exact Or.inr ⟨h2,⟨λe=>h1 e.symm,h3⟩,h4⟩) rfl λt ht=>⟨⟨λe=>hs (e▸ht),(h.ch.held t ht).2⟩,rfl,rfl⟩
theorem Gl.splice(h:Gl v a (pre++post))(hx:CU (v.put (EZ 2 v.As a pre) x) 2 x r)(hm:x.mark=false)(hr:∀s∈r,(v.cell s 2).mark=false/\s∉pre/\(a.sl≠0->s≠a.sl))(hn:r.Nodup):Gl (v.put (EZ 2 v.As a pre) x) a (pre++r):=by
 have hpre:∀s∈pre,(v.cell s 2).mark=false:=λs hs=>h.um s (List.mem_append_left _ hs);have hnd:pre.Nodup:=(List.nodup_append.1 h.nd).1;have hc:=I7 h.ch h.nd (λh0 _ hm=>(h.Ax h0).1 (List.mem_append_left _ hm)) hx;refine⟨hc,List.nodup_append.2 ⟨hnd,hn,λs hs t ht e=>(hr t ht).2.1 (e▸hs)⟩,Iw.2 h.ad,?_,λs hs=>?_,λh0=>⟨λhm=>?_,(h.Ax h0).2⟩⟩
 ·rw[CH];split
  ·exact hm
  ·exact h.m0
 ·have e:∀y:Xe,y.mark=false->((if s=(EZ 2 v.As a pre).sl/\(2:Int)=(EZ 2 v.As a pre).fd then x else y).mark=false):=λy hy=>by split<;>assumption
  have h0:s≠0:=(hc.held s hs).1;have e2:=CH (v:=v) ⟨s,0,2⟩ (EZ 2 v.As a pre) x;rw[Cx h0,Cx h0] at e2;rw[e2];exact e _ ((List.mem_append.1 hs).elim (hpre s) λh=>(hr s h).1)
 ·rcases List.mem_append.1 hm with hm|hm
  ·exact(h.Ax h0).1 (List.mem_append_left _ hm)
  ·exact(hr _ hm).2.2 h0 rfl
end
theorem EE(v:Vw)(a b:List Int):Bi v (a++b)=Bi v a++Bi v b:=List.map_append ..
theorem Fb{v v':Vw}{l:List Int}(h:∀s∈l,v'.cell s 0=v.cell s 0/\v'.cell s 1=v.cell s 1):Bi v' l=Bi v l:=List.map_congr_left λs hs=>by rw[(h s hs).1,(h s hs).2]
section
variable{v:Vw}{key:Int}{pre post r:List Int}{s:Int}{op:A3}
theorem Fs(lo:∀t∈pre,(v.cell t 0).nm<key)(no:∀s r,post=s::r->key<(v.cell s 0).nm):Ca (Bi v (pre++post)) key op=if op.kind=6 then(⟨1,0⟩,Bi v pre++(key,op.val)::Bi v post) else(⟨2,0⟩,Bi v (pre++post)):=by
 obtain ⟨e1,e2⟩:=GL (q:=fun e:Int × Int=>decide (e.1 < key)) (p:=Bi v pre) (r:=Bi v post) (fun e he=>by
  obtain⟨t,ht,rfl⟩:=List.mem_map.1 he;exact decide_eq_true (lo t ht)) λe t he=>by
  cases post with
  |nil=>cases he
  |cons s r=>cases he;have:=no s r rfl;exact decide_eq_false (show ¬(v.cell s 0).nm<key by omega)
 unfold Ca;rw[EE,e1,e2];cases post with
 |nil=>rfl
 |cons s r=>
  have:=no s r rfl;show(if(v.cell s 0).nm=key then _ else _)=_;rw[if_neg Zo];rfl
theorem Dt(lo:∀t∈pre,(v.cell t 0).nm<key)(e:(v.cell s 0).nm=key):Ca (Bi v (pre++s::r)) key op=if op.kind=6 then(⟨3,0⟩,Bi v (pre++s::r)) else if op.kind=7 then(⟨1,(v.cell s 1).nm⟩,Bi v (pre++r)) else(⟨1,(v.cell s 1).nm⟩,Bi v (pre++s::r)):=by
 obtain ⟨e1,e2⟩:=GL (q:=fun e:Int × Int=>decide (e.1 < key)) (p:=Bi v pre) (r:=Bi v (s :: r)) (fun e he=>by
  obtain⟨t,ht,rfl⟩:=List.mem_map.1 he;exact decide_eq_true (lo t ht)) λe' t he=>by
  cases he;exact decide_eq_false (show ¬(v.cell s 0).nm<key by omega)
 unfold Ca;rw[EE,e1,e2,EE];show(if(v.cell s 0).nm=key then _ else _)=_;rw[if_pos e];rfl
end
def aD(v:Vw)(a:X9)(l:List Int)(key:Int)(op:A3)(A5:Yu)(v':Vw)(l':List Int):Prop:=
 Gl v' a l'/\Ec v v' a l/\(∀s∈l',s∈l\/¬v.held s)/\(∀s∈l,(v.cell s 0).nm≠key->s∈l'/\v'.As s=v.As s/\v'.cell s 0=v.cell s 0)/\A5=(Ca (Bi v l) key op).1/\Bi v' l'=(Ca (Bi v l) key op).2
def Gh(v:Vw)(a:X9)(l:List Int)(key:Int)(op:A3)(A5:Yu)(v':Vw):Prop:=∃l',aD v a l key op A5 v' l'
theorem ZC{v v4:Vw}{a:X9}{l pre post:List Int}{key s g:Int}{op:A3}{cur:Xe}(hk:op.kind=6)(hl:l=pre++post)(hs:¬v.held s)(s0:s≠0)(hsa:s≠a.sl)(hsl:s∉l)(l4:Gl v4 a l)(f4:Ec v v4 a l)(same:∀t∈l,v4.As t=v.As t/\v4.cell t 0=v.cell t 0/\v4.cell t 1=v.cell t 1)
  (e40:(v4.cell s 0).nm=key)(e41:(v4.cell s 1).nm=op.val)(n4:v4.Rf ⟨s,g,0,0,false⟩)(e4:v4.cell s 2=Yt cur)(hcur:cur=v4.get (EZ 2 v4.As a pre))(lo:∀t∈pre,(v.cell t 0).nm<key)(no:∀u r,post=u::r->key<(v.cell u 0).nm):
  aD v a l key op ⟨1,0⟩ (v4.put (EZ 2 v4.As a pre) (En cur ⟨s,g,0,0,false⟩)) (pre++s::post):=by
 have hlk':(EZ 2 v4.As a pre).sl≠s:=by
  rcases @Cq v4 2 pre a with⟨e,_⟩|e
  ·rw[e];exact λe=>hsa e.symm
  ·exact λe'=>hsl (by rw[hl,←e'];exact List.mem_append_left _ e.1)
 have hpl:post⊆l:=λt ht=>by rw[hl];exact List.mem_append_right _ ht
 have h4:CU v4 2 cur post:=by rw[hcur];exact CU.at_ (by rw[←hl];exact l4.ch)
 have hx:CU (v4.put (EZ 2 v4.As a pre) (En cur ⟨s,g,0,0,false⟩)) 2 (En cur ⟨s,g,0,0,false⟩) (s :: post):=⟨rfl,Cl.2 (n4.ref rfl rfl),by
  rw[Yb s 2 λe=>hlk' e.1.symm,e4];refine(h4.put (v:=v4) ?_).ref rfl rfl;refine Or.inr λhm=>?_;rcases @Cq v4 2 pre a with⟨e,_⟩|e
  ·rw[e] at hm;exact(l4.Ax (h4.held _ hm).1).1 (hpl hm)
  ·have:=l4.nd;rw[hl] at this;exact(List.nodup_append.1 this).2.2 _ e.1 _ hm rfl⟩
 have l5:=(show Gl v4 a (pre++post) from hl ▸ l4).splice (r:=s :: post) hx rfl (fun t ht=>by
  rcases List.mem_cons.1 ht with rfl|ht
  ·exact⟨by rw[e4];rfl,λhm=>hsl (by rw[hl];exact List.mem_append_left _ hm),λ_=>hsa⟩
  ·have hnd:=l4.nd;rw[hl] at hnd;exact⟨l4.um t (hpl ht),λhm=>(List.nodup_append.1 hnd).2.2 t hm t ht rfl,λh0 e=>(l4.Ax h0).1 (e▸hpl ht)⟩) (List.nodup_cons.2 ⟨λhm=>hsl (hpl hm),by have:=l4.nd;rw[hl] at this;exact(List.nodup_append.1 this).2.1⟩)
 have hf2:(EZ 2 v4.As a pre).fd≠0/\(EZ 2 v4.As a pre).fd≠1\/(EZ 2 v4.As a pre).sl=0:=by
  rcases @Cq v4 2 pre a with⟨e,_⟩|e
  ·rw[e];by_cases h0:a.sl=0
   ·exact Or.inr h0
   ·left;rw[(l4.Ax h0).2];decide
  ·left;rw[e.2.1];decide
 have k5:∀t f,t≠0->(f=0\/f=1)->(v4.put (EZ 2 v4.As a pre) (En cur ⟨s,g,0,0,false⟩)).cell t f=v4.cell t f:=λt f ht hf=>Yb t f λe=>by
  rcases hf2 with h|h
  ·rcases hf with rfl|rfl
   ·exact h.1 e.2.symm
   ·exact h.2 e.2.symm
  ·exact ht (e.1.trans h)
 have hz:∀t∈l,t≠0:=λt ht=>(l4.ch.held t ht).1
 refine⟨l5,f4.trans (Ec.put (l:=l) ?_) λt ht=>Or.inl ht,λt ht=>?_,λt ht _=>⟨?_,?_,?_⟩,?_,?_⟩
 ·rcases @Cq v4 2 pre a with⟨e,_⟩|e
  ·exact Or.inl e
  ·have hm:(EZ 2 v4.As a pre).sl∈l:=by rw[hl];exact List.mem_append_left _ e.1
   exact Or.inr ⟨(l4.ch.held _ hm).1,Or.inl hm⟩
 ·rw[hl];rcases List.mem_append.1 ht with ht|ht
  ·exact Or.inl (List.mem_append_left _ ht)
  ·rcases List.mem_cons.1 ht with rfl|ht
   ·exact Or.inr hs
   ·exact Or.inl (List.mem_append_right _ ht)
 ·rw[hl] at ht;rcases List.mem_append.1 ht with ht|ht
  ·exact List.mem_append_left _ ht
  ·exact List.mem_append_right _ (List.mem_cons_of_mem _ ht)
 ·rw[AD,(same t ht).1]
 ·rw[k5 t 0 (hz t ht) (Or.inl rfl),(same t ht).2.1]
 ·rw[hl,Fs lo no,if_pos hk]
 ·rw[hl,Fs lo no,if_pos hk];have c5:∀q:List Int,(∀t∈q,t∈l)->Bi (v4.put (EZ 2 v4.As a pre) (En cur ⟨s,g,0,0,false⟩)) q=Bi v q:=λq hq=>Fb λt ht=>⟨(k5 t 0 (hz t (hq t ht)) (Or.inl rfl)).trans (same t (hq t ht)).2.1,(k5 t 1 (hz t (hq t ht)) (Or.inr rfl)).trans (same t (hq t ht)).2.2⟩;rw[EE,c5 pre λt ht=>by rw[hl];exact List.mem_append_left _ ht];show _++(((_:Vw).cell s 0).nm,((_:Vw).cell s 1).nm)::Bi _ post=_;rw[c5 post hpl,k5 s 0 s0 (Or.inl rfl),k5 s 1 s0 (Or.inr rfl),e40,e41]
def oC(J:Xh)(r:Xm × Xf × Bool):Xh × Xf:=
 if r.2.2 then({J with walk:=some r.1},r.2.1) else if r.1.found then({J with walk:=some r.1,pc:=5},Kg J.node) else({J with walk:=some r.1,pc:=6},AV (Xg J.node 2) (Yt r.1.cur))
theorem WS{J:Xh}{W:Xm}(h:J.walk=some W)(x:Xj):J.Cr x=oC J (W.step x):=by
 unfold Xh.Cr oC;rw[h];rfl
def TJ(J:Xh)(r:Xm × Xf × Bool):Xh × Xf:=
 if r.2.2 then({J with walk:=some r.1},r.2.1) else if r.1.found then({J with walk:=some r.1,pc:=2},Yv (Xg r.1.cur 1)) else({J with walk:=some r.1,pc:=-1,last:=BK 2 0},BK 2 0)
theorem Iu{J:Xh}{W:Xm}(h:J.walk=some W)(x:Xj):J.BB x=TJ J (W.step x):=by
 unfold Xh.BB TJ Xh.done;rw[h];show(if(W.step x).2.2 then _ else if !(W.step x).1.found then _ else _)=_;cases(W.step x).2.2<;>cases(W.step x).1.found<;>rfl
section
variable{Q:Yu->Vw->Prop}{al n:Nat}{v:Vw}{a:X9}{l:List Int}{key:Int}{S:Xh->Xx}{K:Xh × Xf->Xx × Xf}{op:A3}
theorem RL(hS:∀(J:Xh) (x:Xj),(S J).next x=K (J.next x))(hK:∀(J:Xh) (c:Xf),c.kind≠12->K (J,c)=(S J,c))(h:Gl v a l)(hk:op.kind=6)(x:Xj)
  (fin:∀(J:Xh) (A5:Yu) (v':Vw),Gh v a l key op A5 v'->Yc Q al n v' (K (J,BK A5.code A5.val)).1 (K (J,BK A5.code A5.val)).2):
  Yc Q (al+1) (n+9*l.length+30) v (K ((Xh.from_ a key op).next x)).1 (K ((Xh.from_ a key op).next x)).2:=by
 obtain⟨k,ky,vl,tl⟩:=op
 obtain rfl:k=6:=hk
 have kc:=λJ=>hK J Dd (by show(8:Int)≠12;decide)
 have ks:=λJ a w=>hK J (AV a w) (by show(4:Int)≠12;decide)
 have kw:=λJ a o w=>hK J (Y6 a o w) (by show(5:Int)≠12;decide)
 have kd:=λJ w=>hK J (Kg w) (by show(9:Int)≠12;decide)
 simp[Xh.next,Xh.insert,Xh.from_,Xh.zero,kc]
 refine .more (n:=n+3+9*l.length+5+1+1+2) (a:=al+1) (.al λs g s0 hs=>?_) (Nat.le_refl _) Zo
 rw[hS]
 simp[Xh.next,Xh.insert,ks]
 have hn:=MK (v:=v) (g:=g) s0
 have hsa:s≠a.sl:=λe=>by
  rcases h.ad with⟨h,_⟩|⟨_,h,_⟩
  ·exact s0 (e.trans h)
  ·exact hs (e▸h)
 have hsl:s∉l:=λhm=>hs (h.ch.held s hm).2
 refine .st (Yd hn Zd Zd) rfl ?_
 rw[hS]
 simp[Xh.next,Xh.insert,ks]
 refine .st (Iw.2 (Yd hn Zd Zd)) rfl ?_
 rw[hS]
 simp[Xh.next,Xh.insert,Xh.Au]
 generalize hv3:((v.take s g).put (Xg ⟨s,g,0,0,false⟩ 0) (Yy key)).put (Xg ⟨s,g,0,0,false⟩ 1) (Yy vl)=v3
 have l3:Gl v3 a l:=by
  rw[←hv3];exact((h.take hs).put (w:=⟨s,g,0,0,false⟩) s0 hsa (Or.inl hsl)).put (w:=⟨s,g,0,0,false⟩) s0 hsa (Or.inl hsl)
 have n3:v3.Rf ⟨s,g,0,0,false⟩:=by rw[←hv3];exact Cl.2 (Cl.2 hn)
 have k3:∀t,t≠s->v3.cell t=v.cell t:=λt ht=>by
  rw[←hv3];funext u;rw[Yb t u λe=>ht e.1,Yb t u λe=>ht e.1,ER ht]
 have g3:∀t,t≠s->v3.As t=v.As t:=λt ht=>by
  rw[←hv3,AD,AD];show Ap v.As s g t=_;rw[X2,if_neg ht]
 have hls:∀t∈l,t≠s:=λt ht e=>hsl (e▸ht)
 have e30:v3.cell s 0=Yy key:=by rw[←hv3,Yb s 0 λe=>absurd e.2 (by show(0:Int)≠1;decide)];exact EU (w:=⟨s,g,0,0,false⟩) s0
 have e31:v3.cell s 1=Yy vl:=by rw[←hv3];exact EU (w:=⟨s,g,0,0,false⟩) s0
 have f3:Ec v v3 a l:=by
  rw[←hv3];exact((Ec.take hs).trans (Ec.put (l:=[s]) (Or.inr ⟨s0,Or.inl (List.mem_singleton.2 rfl)⟩)) λt ht=>Or.inr (by rw[List.mem_singleton.1 ht];exact hs)).trans (Ec.put (l:=[s]) (Or.inr ⟨s0,Or.inl (List.mem_singleton.2 rfl)⟩)) λt ht=>Or.inr (by rw[List.mem_singleton.1 ht];exact hs)
 have c3:Bi v3 l=Bi v l:=Fb λt ht=>by
  have e:t≠s:=λe=>hsl (e▸ht);rw[k3 t e];exact⟨rfl,rfl⟩
 clear hv3 hn
 refine .more (n:=n+3+9*l.length+5) (a:=al) ?_ Zo Zo
 rw[WS (W:=Xm.new a key) rfl]
 refine JA (S:=λW=>S ⟨4,Xf.zero,a,key,⟨6,ky,vl,tl⟩,some W,⟨s,g,0,0,false⟩,0⟩) (K:=λr=>K (oC ⟨4,Xf.zero,a,key,⟨6,ky,vl,tl⟩,some (Xm.new a key),⟨s,g,0,0,false⟩,0⟩ r)) (λW x=>?_) (λW c hc=>?_) l3 _ λpre post W hl w1 w2 we=>?_
 ·rw[hS];congr 1
 ·exact hK _ _ hc
 cases hf:W.found with
 |true=>
  obtain⟨u,r,e1,e2,_⟩:=we.yes hf
  simp[oC,hf,kd]
  refine .more (n:=n+1) (a:=al) (.dr n3 ?_) (Nat.le_refl _) Zo
  rw[hS]
  simp[Xh.next,Xh.insert,Xh.done]
  refine fin _ ⟨3,0⟩ _ ⟨l,l3.drop hsl hsa,f3.trans (Ec.drop (Or.inl (List.mem_singleton.2 rfl)) (l:=[s])) λt ht=>Or.inr (by rw[List.mem_singleton.1 ht];exact hs),λt ht=>Or.inl ht,λt ht _=>⟨ht,g3 t (hls t ht),by show v3.cell t 0=_;rw[k3 t (hls t ht)]⟩,?_,?_⟩
  ·rw[←c3,hl,e1,Dt we.lo e2,if_pos rfl]
  ·rw[←c3,hl,e1,Dt we.lo e2,if_pos rfl];rfl
 |false=>
  have no:=we.no hf
  have hlk:(EZ 2 v3.As a pre).sl≠s:=by
   rcases @Cq v3 2 pre a with⟨e,_⟩|e
   ·rw[e];exact λe=>hsa e.symm
   ·exact λe'=>hsl (by rw[hl,←e'];exact List.mem_append_left _ e.1)
  have hch:CU v3 2 W.cur post:=by rw[we.cur,we.prev];exact CU.at_ (by rw[←hl];exact l3.ch)
  have hpa:v3.Ad W.prev:=by rw[we.prev];exact Jk Zd l3.ad (by rw[←hl];exact l3.ch)
  simp[oC,hf,ks]
  refine .more (n:=n+1+1) (a:=al) (.st (Yd n3 Zd Zd) rfl ?_) (Nat.le_refl _) Zo
  rw[hS]
  simp[Xh.next,Xh.insert,kw,CM,Y9]
  have hpl:post⊆l:=λt ht=>by rw[hl];exact List.mem_append_right _ ht
  have l4:Gl (v3.put (Xg ⟨s,g,0,0,false⟩ 2) (Yt W.cur)) a l:=l3.put (w:=⟨s,g,0,0,false⟩) s0 hsa (Or.inl hsl)
  have f4:Ec v (v3.put (Xg ⟨s,g,0,0,false⟩ 2) (Yt W.cur)) a l:=f3.trans (Ec.put (l:=[s]) (Or.inr ⟨s0,Or.inl (List.mem_singleton.2 rfl)⟩)) λt ht=>Or.inr (by rw[List.mem_singleton.1 ht];exact hs)
  have e4:(v3.put (Xg ⟨s,g,0,0,false⟩ 2) (Yt W.cur)).cell s 2=Yt W.cur:=EU (w:=⟨s,g,0,0,false⟩) s0
  have n4:(v3.put (Xg ⟨s,g,0,0,false⟩ 2) (Yt W.cur)).Rf ⟨s,g,0,0,false⟩:=Cl.2 n3
  have k4:∀t f,f≠2->(v3.put (Xg ⟨s,g,0,0,false⟩ 2) (Yt W.cur)).cell t f=v3.cell t f:=λt f h=>Yb t f λe=>h e.2
  have p4:(v3.put (Xg ⟨s,g,0,0,false⟩ 2) (Yt W.cur)).get W.prev=W.cur:=by rw[CH,if_neg λe=>hlk (by rw[←we.prev];exact e.1),←we.cur]
  have a4:(v3.put (Xg ⟨s,g,0,0,false⟩ 2) (Yt W.cur)).Ad W.prev:=Iw.2 hpa
  have g4:(v3.put (Xg ⟨s,g,0,0,false⟩ 2) (Yt W.cur)).As=v3.As:=AD
  refine .sw a4 p4 (Yx _) rfl ?_
  rw[hS]
  simp[Xh.next,Xh.insert,Xh.done]
  have hp:=ZC (op:=⟨6,ky,vl,tl⟩) (cur:=W.cur) rfl hl hs s0 hsa hsl l4 f4 (λt ht=>⟨by rw[g4,g3 t (hls t ht)],by rw[k4 t 0 Zd,k3 t (hls t ht)],by rw[k4 t 1 Zd,k3 t (hls t ht)]⟩) (by rw[k4 s 0 Zd,e30]<;>rfl) (by rw[k4 s 1 Zd,e31]<;>rfl) n4 e4 (by rw[g4,←we.prev,p4]) (λt ht=>by rw[←k3 t (hls t (by rw[hl];exact List.mem_append_left _ ht))];exact we.lo t ht) λu r e=>by rw[←k3 u (hls u (hpl (by rw[e];simp)))];exact no u r e
  rw[g4,←we.prev] at hp
  exact fin _ ⟨1,0⟩ _ ⟨_,hp⟩
end
end Go.Proofs.YtaipogljokblkaaGreatDoor
