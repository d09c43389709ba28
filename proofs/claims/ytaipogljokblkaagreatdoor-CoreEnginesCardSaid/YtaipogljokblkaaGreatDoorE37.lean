/- Core: LI, LJ. -/
import Derived.Test.YtaipogljokblkaaGreatDoorE35
import Derived.Test.YtaipogljokblkaaGreatDoorE12
import Derived.Test.YtaipogljokblkaaGreatDoorE01
import Derived.Test.YtaipogljokblkaaGreatDoorE36
set_option linter.all false
set_option maxRecDepth 100000
set_option maxHeartbeats 8000000
namespace Go.Proofs.YtaipogljokblkaaGreatDoor
open Go Go.RowKit
set_option linter.unusedSimpArgs false
set_option linter.unusedVariables false
set_option linter.unusedSectionVars false
structure HI(st:Int)(n:Nat)(p:Pl):Prop where
 nb:p.nb=85
 ns:p.ns=n
 Xo:∀x∈p.free,1<=x/\x<=(n:Int)
 Uz:p.free.Nodup
 fW:∀x∈p.free,(p.slot x).used=false
 rt:∀r,0<=r->r<24->CP st n (root r) (p.board r)
 cell:∀s f,1<=s->s<=(n:Int)->0<=f->f<10->CE n ((p.slot s).cell f)
def MG(p p':Pl):Prop:=∀r,0<=r->r<24->p'.board r=p.board r\/(p'.board r).tg=wr ((p.board r).tg+1)
theorem MG.refl(p:Pl):MG p p:=λ_ _ _=>Or.inl rfl
theorem LK:∀(n:Nat) (l:List Int),l.Nodup->(∀x∈l,1<=x/\x<=(n:Int))->l.length<=n
 |0,l,_,h=>by
  cases l with
  |nil=>exact Nat.le_refl 0
  |cons x r=>have:=h x (List.mem_cons_self ..);omega
 |n+1,l,hd,h=>by
  by_cases hm:((n+1:Nat):Int)∈l
  ·have h1:=LK n (l.erase ((n+1:Nat):Int)) (hd.erase _) λx hx=>by
    have hx':=(hd.mem_erase_iff).1 hx;have:=h x hx'.2;have:=hx'.1;omega
   rw[List.length_erase_of_mem hm] at h1;omega
  ·have h1:=LK n l hd λx hx=>by
    have:=h x hx;have:x≠((n+1:Nat):Int):=λe=>hm (e▸hx);omega
   omega
section
variable{st:Int}{n:Nat}{p:Pl}{a:Bn}{w:Xe}{d:X9}
theorem HI.len(h:HI st n p):p.free.length<=n:=LK n p.free h.Uz h.Xo
theorem HI.Bu(h:HI st n p)(s:Int):HI st n {p with steps:=s}:=⟨h.nb,h.ns,h.Xo,h.Uz,h.fW,h.rt,h.cell⟩
theorem HI.flt(h:HI st n p)(b:Bool):HI st n {p with fault:=b}:=⟨h.nb,h.ns,h.Xo,h.Uz,h.fW,h.rt,h.cell⟩
theorem HI.get(h:HI st n p)(ha:IP n d):CE n (p.get d):=by
 unfold Pl.get;rcases ha with⟨h1,h2,h3,h4⟩|⟨h1,h2,h3,h4⟩
 ·rw[show(d.sl==0)=false from by simp;omega];exact h.cell _ _ h1 h2 h3 h4
 ·rw[show(d.sl==0)=true from by simp[h1]];exact(h.rt _ h3 h4).1
theorem HI.has(h:HI st n p)(ha:IP n d\/d=root 24\/Vf d):p.has d=true:=by
 unfold Pl.has Pl.BD;rw[h.nb,h.ns];rcases ha with(⟨h1,h2,h3,h4⟩|⟨h1,h2,h3,h4⟩)|rfl|⟨h1,h2,h3,h4⟩
 ·rw[show(d.sl==0)=false from by simp;omega];simp;omega
 ·rw[show(d.sl==0)=true from by simp[h1]];simp;omega
 ·rfl
 ·rw[show(d.sl==0)=true from by simp[h1]];simp;omega
theorem HI.put(h:HI st n p)(ha:(qZ n d/\CE n w)\/(IP n d/\CP st n d w)\/Vf d\/d=root 24):HI st n (p.put d w):=by
 unfold Pl.put;have slot:qZ n d->CE n w->HI st n {p with slot:=Ap p.slot d.sl {p.slot d.sl with cell:=Ap (p.slot d.sl).cell d.fd w}}:=λ⟨h1,h2,h3,h4⟩ hw=>by
  refine⟨h.nb,h.ns,h.Xo,h.Uz,λx hx=>?_,h.rt,λs f a b c e=>?_⟩
  ·by_cases hs:x=d.sl
   ·subst hs;show((Ap p.slot d.sl _) d.sl).used=false;rw[A9];exact h.fW _ hx
   ·show((Ap p.slot d.sl _) x).used=false;rw[Yi _ _ hs];exact h.fW _ hx
  ·by_cases hs:s=d.sl
   ·subst hs;show CE n (((Ap p.slot d.sl _) d.sl).cell f);rw[A9];by_cases hf:f=d.fd
    ·subst hf;show CE n (Ap _ d.fd w d.fd);rw[A9];exact hw
    ·show CE n (Ap _ d.fd w f);rw[Yi _ _ hf];exact h.cell _ _ a b c e
   ·show CE n (((Ap p.slot d.sl _) s).cell f);rw[Yi _ _ hs];exact h.cell _ _ a b c e
 have vL:d.sl=0->(0<=d.fd->d.fd<24->CP st n (root d.fd) w)->HI st n {p with board:=Ap p.board d.fd w}:=λh0 hw=>by
  refine⟨h.nb,h.ns,h.Xo,h.Uz,h.fW,λr a b=>?_,h.cell⟩;by_cases hr:r=d.fd
  ·subst hr;show CP st n _ (Ap p.board d.fd w d.fd);rw[A9];exact hw a b
  ·show CP st n _ (Ap p.board d.fd w r);rw[Yi _ _ hr];exact h.rt r a b
 rcases ha with⟨ha,hw⟩|⟨ha|ha,hw⟩|hb|rfl
 ·rw[show(d.sl==0)=false from by simp;have:=ha.1;omega];exact slot ha hw
 ·rw[show(d.sl==0)=false from by simp;have:=ha.1;omega];exact slot ha hw.1
 ·rw[show(d.sl==0)=true from by simp[ha.1]];exact vL ha.1 λ_ _=>⟨hw.1,λe1 _ e3=>hw.2 e1 ha.1 e3⟩
 ·rw[show(d.sl==0)=true from by simp[hb.1]];exact vL hb.1 λ_ h24=>by have:=hb.2.2.1;omega
 ·exact vL rfl λ_ h24=>by have h24:(24:Int)<24:=h24;omega
theorem LD(p:Pl)(d:X9)(w:Xe)(r:Int):(p.put d w).board r=if d.sl=0/\d.fd=r then w else p.board r:=by
 unfold Pl.put;by_cases h:d.sl=0
 ·rw[show(d.sl==0)=true from by simp[h]];show Ap p.board d.fd w r=_;by_cases hr:d.fd=r
  ·subst hr;rw[A9,if_pos ⟨h,rfl⟩]
  ·rw[Yi _ _ (λe=>hr e.symm),if_neg (λe=>hr e.2)]
 ·rw[show(d.sl==0)=false from by simp[h],if_neg (λe=>h e.1)];rfl
theorem HI.alloc(h:HI st n p)(b:Int):HI st n (p.alloc b).1/\CE n (p.alloc b).2.word/\((p.alloc b).2.ok=true->CD n (p.alloc b).2.word)/\(p.alloc b).1.board=p.board:=by
 unfold Pl.alloc;cases hl:p.free.getLast? with
 |none=>exact⟨h,Yr,λe=>(by cases e),rfl⟩
 |some x=>
  obtain ⟨l,hl⟩:∃ l,p.free = l++[x]:=⟨p.free.dropLast,by
   have hne:p.free≠[]:=λe=>by rw[e] at hl;cases hl
   have:=List.dropLast_concat_getLast hne;rw[List.getLast?_eq_some_getLast hne] at hl;cases hl;exact this.symm⟩
  have hx:=h.Xo x (by rw[hl];simp);have hd:p.free.dropLast=l:=by rw[hl];simp
  have nd:=h.Uz;rw[hl] at nd;have nx:∀y∈l,y≠x:=λy hy e=>by
   have:=List.nodup_append.1 nd;exact this.2.2 y hy x Zs e
  simp only[hd];refine⟨⟨h.nb,h.ns,λy hy=>h.Xo y (by rw[hl];exact List.mem_append_left _ hy),(List.nodup_append.1 nd).1,λy hy=>?_,h.rt,λs f a b c e=>?_⟩,⟨by show 0<=x;omega,hx.2,λe=>by have e:x=0:=e;omega⟩,λ_=>hx,trivial⟩
  ·show((Ap p.slot x _) y).used=false;rw[Yi _ _ (nx y hy)];exact h.fW y (by rw[hl];exact List.mem_append_left _ hy)
  ·by_cases hs:s=x
   ·subst hs;show CE n (((Ap p.slot s _) s).cell f);rw[A9];by_cases hf:f=9
    ·subst hf;simp only[A9];exact Cd
    ·simp only[Yi _ _ hf];exact Yr
   ·show CE n (((Ap p.slot x _) s).cell f);rw[Yi _ _ hs];exact h.cell _ _ a b c e
theorem HI.free(h:HI st n p){s:Int}(h1:1<=s)(h2:s<=(n:Int))(hu:(p.slot s).used=true):HI st n {p with slot:=Ap p.slot s {p.slot s with used:=false},free:=p.free++[s]}:=by
 refine⟨h.nb,h.ns,λx hx=>?_,?_,λx hx=>?_,h.rt,λs' f a b c e=>?_⟩
 ·rcases List.mem_append.1 hx with hx|hx
  ·exact h.Xo x hx
  ·rw[List.mem_singleton.1 hx];exact⟨h1,h2⟩
 ·refine List.nodup_append.2 ⟨h.Uz,by simp,λx hx y hy e=>?_⟩;rw[List.mem_singleton.1 hy] at e;subst e;rw[h.fW x hx] at hu;cases hu
 ·by_cases hs:x=s
  ·subst hs;show((Ap p.slot x _) x).used=false;rw[A9]
  ·show((Ap p.slot s _) x).used=false;rw[Yi _ _ hs];rcases List.mem_append.1 hx with hx|hx
   ·exact h.fW x hx
   ·exact absurd (List.mem_singleton.1 hx) hs
 ·by_cases hs:s'=s
  ·subst hs;show CE n (((Ap p.slot s' _) s').cell f);rw[A9];exact h.cell _ _ a b c e
  ·show CE n (((Ap p.slot s _) s').cell f);rw[Yi _ _ hs];exact h.cell _ _ a b c e
theorem N6{k:Int}(hk:a.kind=k)(h4:k≠4)(h5:k≠5):p.right a=p.live a.Ay.sl a.Ay.gn:=by
 unfold Pl.right;rw[show(a.kind==4)=false from by simp[hk,h4],show(a.kind==5)=false from by simp[hk,h5]];rfl
theorem YH(h:HI st n p)(ha:OS st n a):p.valid a=true/\HI st n (p.act a).1/\wP st n a (p.act a).2/\MG p (p.act a).1:=by
 have hS:=h.Bu (wr (p.steps+1));have hF:=hS.flt true;have bad:∀k:Int,a.kind=k->k≠4->(st=2->k=1->a.Ay.sl≠0)->wP st n a (Pl.refused a.kind):=λk hk h4 h1=>by
  have hw:CE n (Pl.refused a.kind).word:=by
   unfold Pl.refused;cases(a.kind==1||a.kind==3)
   ·exact Yr
   ·exact Cd
  exact⟨λ_=>hw,λe=>absurd (hk.symm.trans e) h4,λs2 e e1=>absurd e1 (h1 s2 (hk.symm.trans e))⟩
 have Mv:∀q:Pl,a.Ay.sl=0->q.live a.Ay.sl a.Ay.gn=true:=λq e=>by unfold Pl.live;rw[e];rfl
 unfold Pl.act;simp only;rcases ha with⟨hk,ha⟩|⟨hk,ha⟩|⟨hk,ha⟩|hk|⟨hk,ho⟩
 ·have v:p.valid a=true:=by unfold Pl.valid;rw[hk];exact h.has ha
  refine⟨v,?_⟩;rw[N6 hk Zd Zd];cases hr:Pl.live {p with steps:=wr (p.steps+1)} a.Ay.sl a.Ay.gn with
  |false=>exact⟨hF,bad 1 hk Zd λ_ _ e=>(by rw[Mv _ e] at hr;cases hr),MG.refl _⟩
  |true=>
   have e:Pl.touch {p with steps:=wr (p.steps+1)} a=({p with steps:=wr (p.steps+1)},⟨Pl.get {p with steps:=wr (p.steps+1)} a.Ay,true⟩):=by unfold Pl.touch;rw[hk];rfl
   rw[show(a.kind==4)=false from by simp[hk],show(a.kind==5)=false from by simp[hk]];simp only[Bool.not_true,cond_false,e];refine⟨hS,⟨λh'=>hS.get h',λe'=>by omega,λs2 _ e1 e2=>?_⟩,MG.refl _⟩;show CD n (Pl.get _ a.Ay);unfold Pl.get;rw[show(a.Ay.sl==0)=true from by simp[e1],e2];exact(h.rt 0 Zd Zd).2 s2 rfl rfl
 ·have v:p.valid a=true:=by unfold Pl.valid;rw[hk];exact h.has (ha.elim (λh=>Or.inl (DV h.1)) λh=>Or.inr (Or.inr h))
  refine⟨v,?_⟩;rw[N6 hk Zd Zd];cases hr:Pl.live {p with steps:=wr (p.steps+1)} a.Ay.sl a.Ay.gn with
  |false=>exact⟨hF,bad 2 hk Zd λ_ e=>(by cases e),MG.refl _⟩
  |true=>
   have e:Pl.touch {p with steps:=wr (p.steps+1)} a=(Pl.put {p with steps:=wr (p.steps+1)} a.Ay a.new,⟨.zero,true⟩):=by unfold Pl.touch;rw[hk];rfl
   rw[show(a.kind==4)=false from by simp[hk],show(a.kind==5)=false from by simp[hk]];simp only[Bool.not_true,cond_false,e];refine⟨hS.put (ha.elim Or.inl λh=>Or.inr (Or.inr (Or.inl h))),⟨λ_=>Yr,λe'=>by omega,λ_ e'=>by omega⟩,λr h0 h1=>Or.inl ?_⟩;rw[LD,if_neg];rintro⟨e1,e2⟩;rcases ha with⟨h',_⟩|h'
   ·have:=h'.1;omega
   ·have:=h'.2.2.1;omega
 ·have v:p.valid a=true:=by unfold Pl.valid;rw[hk];exact h.has (ha.elim (λh=>Or.inl h.1) λh=>Or.inr (Or.inl h))
  refine⟨v,?_⟩;rw[N6 hk Zd Zd];cases hr:Pl.live {p with steps:=wr (p.steps+1)} a.Ay.sl a.Ay.gn with
  |false=>exact⟨hF,bad 3 hk Zd λ_ e=>(by cases e),MG.refl _⟩
  |true=>
   have e:Pl.touch {p with steps:=wr (p.steps+1)} a=bif Dm (Pl.get {p with steps:=wr (p.steps+1)} a.Ay) a.Bb then(Pl.put {p with steps:=wr (p.steps+1)} a.Ay a.new,⟨Pl.get {p with steps:=wr (p.steps+1)} a.Ay,true⟩) else({p with steps:=wr (p.steps+1)},⟨Pl.get {p with steps:=wr (p.steps+1)} a.Ay,false⟩):=by unfold Pl.touch;rw[hk];rfl
   rw[show(a.kind==4)=false from by simp[hk],show(a.kind==5)=false from by simp[hk]];simp only[Bool.not_true,cond_false,e];have gk:∀b:Bool,wP st n a ⟨Pl.get {p with steps:=wr (p.steps+1)} a.Ay,b⟩:=λb=>⟨λh'=>hS.get h',λe'=>by omega,λ_ e'=>by omega⟩;cases hs:Dm (Pl.get {p with steps:=wr (p.steps+1)} a.Ay) a.Bb with
   |false=>exact⟨hS,gk false,MG.refl _⟩
   |true=>
    refine⟨hS.put (ha.elim (λh=>Or.inr (Or.inl ⟨h.1,h.2.1⟩)) λh=>Or.inr (Or.inr (Or.inr h))),gk true,λr h0 h1=>?_⟩;show(Pl.put _ a.Ay a.new).board r=_\/_;rw[LD];by_cases hc:a.Ay.sl=0/\a.Ay.fd=r
    ·right;simp only[cond_true];rw[LD,if_pos hc];rcases ha with⟨_,_,ht⟩|ha
     ·rw[ht];have hg:(Pl.get {p with steps:=wr (p.steps+1)} a.Ay)=p.board r:=by
       unfold Pl.get;rw[show(a.Ay.sl==0)=true from by simp[hc.1],hc.2];rfl
      rw[hg] at hs;unfold Dm at hs;simp only[Bool.and_eq_true,beq_iff_eq] at hs;rw[hs.2.1]
     ·rw[ha] at hc;have:(24:Int)=r:=hc.2;omega
    ·left;rw[if_neg hc]
 ·refine⟨by unfold Pl.valid;rw[hk];rfl,?_⟩;rw[show Pl.right {p with steps:=wr (p.steps+1)} a=true from by unfold Pl.right;rw[hk];rfl,show(a.kind==4)=true from by simp[hk]];simp only[Bool.not_true,cond_false,cond_true];obtain⟨q1,q2,q3,q4⟩:=hS.alloc a.new.nm;exact⟨q1,⟨λ_=>q2,λ_=>⟨q2,q3⟩,λ_ e=>by omega⟩,λr _ _=>Or.inl (by rw[q4])⟩
 ·refine⟨by unfold Pl.valid Pl.BD;rw[hk,h.ns];have:=ho.1;have:=ho.2;simp;omega,?_⟩;have er:Pl.right {p with steps:=wr (p.steps+1)} a=Pl.live {p with steps:=wr (p.steps+1)} a.Bb.sl a.Bb.gn:=by unfold Pl.right;rw[hk];rfl
  rw[er];cases hr:Pl.live {p with steps:=wr (p.steps+1)} a.Bb.sl a.Bb.gn with
  |false=>exact⟨hF,bad 5 hk Zd λ_ e=>(by cases e),MG.refl _⟩
  |true=>
   rw[show(a.kind==4)=false from by simp[hk],show(a.kind==5)=true from by simp[hk]];simp only[Bool.not_true,cond_false,cond_true];have hu:(p.slot a.Bb.sl).used=true:=by
    unfold Pl.live at hr;have:=ho.1;rw[show(a.Bb.sl==0)=false from by simp;omega] at hr;simp only[Bool.false_or,Bool.and_eq_true] at hr;exact hr.1
   exact⟨hS.free ho.1 ho.2 hu,⟨λ_=>Yr,λe=>by omega,λ_ e=>by omega⟩,MG.refl _⟩
end
def JI(st:Int)(n:Nat):Xx->Xf->Prop
 |.pile J,c=>st=1/\OK n J c
 |.XK J,c=>st=2/\YK n J c
 |.lit J,c=>st=3/\IM n J c
 |.K2 J,c=>st=4/\qQ n J c
 |.FJ J,c=>st=5/\qR n J c
def Sm(st:Int)(o:A3):Prop:=
 (st=1/\o.key=0/\o.Ah=0/\((o.kind=1/\0<=o.val/\o.val<=1073741824)\/((o.kind=2\/o.kind=3)/\o.val=0)))\/
 (st=2/\o.key=0/\o.Ah=0/\((o.kind=4/\0<=o.val/\o.val<=1073741824)\/(o.kind=5/\o.val=0)))\/
 ((st=3\/st=4)/\0<=o.key/\o.key<=255/\o.Ah=0/\((o.kind=6/\0<=o.val/\o.val<=1073741824)\/((o.kind=7\/o.kind=8)/\o.val=0)))\/
 (st=5/\0<=o.key/\o.key<=255/\((o.kind=6/\0<=o.val/\o.val<=1073741824/\1<=o.Ah/\o.Ah<=3)\/((o.kind=7\/o.kind=8)/\o.val=0/\o.Ah=0)))
section
variable{st:Int}{n t:Nat}{J:Xx}{c:Xf}{x:Xj}
theorem Js(h:JI st n J c)(hc:c.kind≠12)(hx:OU st n c x):JI st n (J.next x).1 (J.next x).2/\JV st n (J.next x).2/\Calm Xx.next 3 (J.next x).1 (J.next x).2:=by
 cases J with
 |pile J=>
  obtain⟨rfl,h⟩:=h;have q:=tV Zd h hc hx;have hp:0<=J.pc/\J.pc<=5:=by
   rcases h.2.1 with e|e
   ·exact absurd (h.2.2.1.1 e) hc
   ·exact e
  exact⟨⟨rfl,q.1⟩,q.2,Ie Xx.pile (λ_ _=>rfl) 3 (eM x hp.1 hp.2)⟩
 |XK J=>
  obtain⟨rfl,h⟩:=h;have q:=cor_ok h hc hx;have hp:0<=J.pc/\J.pc<=8:=by
   rcases h.2.2.2.1 with e|e
   ·exact absurd (h.2.2.2.2.1.1 e) hc
   ·exact e
  exact⟨⟨rfl,q.1⟩,q.2,Ie Xx.XK (λ_ _=>rfl) 3 (oZ x hp.1 hp.2 λ_=>hp.2)⟩
 |lit J=>
  obtain⟨rfl,h⟩:=h;have q:=nP Zd h hc hx;exact⟨⟨rfl,q.1⟩,q.2,Ie Xx.lit (λ_ _=>rfl) 3 (NQ x h hc)⟩
 |K2 J=>
  obtain⟨rfl,h⟩:=h;have q:=xS Zd h hc hx;exact⟨⟨rfl,q.1⟩,q.2,Ie Xx.K2 (λ_ _=>rfl) 3 (jB x h hc hx.1)⟩
 |FJ J=>
  obtain⟨rfl,h⟩:=h;have q:=yG Zd h hc hx;exact⟨⟨rfl,q.1⟩,q.2,Ie Xx.FJ (λ_ _=>rfl) 3 (kL x h hc)⟩
theorem NU:AB.kind=1:=rfl
theorem RU{o:A3}(h:Sm st o):JI st n (Xx.new st o) AB/\∀x,Ep ((Xx.new st o).next x).2=false/\((Xx.new st o).next x).2.kind≠12:=by
 obtain⟨k,key,val,Ah⟩:=o;simp only[Sm] at h;rcases h with⟨rfl,rfl,rfl,h⟩|⟨rfl,rfl,rfl,h⟩|⟨rfl|rfl,h3,h4,rfl,h⟩|⟨rfl,h3,h4,h⟩
 ·refine⟨⟨rfl,?_⟩,λx=>?_⟩
  ·show OK n (Xk.new _) AB;simp only[OK,Xk.new,Xk.zero,NU];exact⟨Yr,Or.inr ⟨by decide,by decide⟩,by simp,λ_=>⟨by simp,by simp⟩,by simp⟩
  ·show Ep (Xk.next (Xk.new _) x).2=false/\(Xk.next (Xk.new _) x).2.kind≠12;rcases h with⟨rfl,_⟩|⟨rfl|rfl,_⟩<;>exact⟨rfl,by first|(show(8:Int)≠12;decide)|(show(6:Int)≠12;decide)⟩
 ·refine⟨⟨rfl,?_⟩,λx=>?_⟩
  ·show YK n (Xt.new _) AB;simp only[YK,Xt.new,Xt.zero,NU];exact⟨Yr,Yr,Yr,Or.inr ⟨by decide,by decide⟩,by simp,λ_=>⟨by simp,by simp⟩,λ_=>⟨by simp,by simp,by simp⟩⟩
  ·show Ep (Xt.next (Xt.new _) x).2=false/\(Xt.next (Xt.new _) x).2.kind≠12;rcases h with⟨rfl,_⟩|⟨rfl,_⟩<;>exact⟨rfl,by first|(show(8:Int)≠12;decide)|(show(6:Int)≠12;decide)⟩
 ·have hk:k=6\/k=7\/k=8:=Zo;refine⟨⟨rfl,?_⟩,λx=>?_⟩
  ·show IM n (Xh.from_ (root 0) key _) AB;simp only[IM,Xh.from_,Xh.zero,NU];exact⟨Bf Zd Zd,λW e=>(by cases e),Or.inr ⟨by decide,by decide⟩,by simp,hk,λ_=>⟨by simp,by simp,by simp⟩,λ_=>⟨by decide,by simp,by simp⟩,λ_=>⟨by decide,by simp,by simp⟩⟩
  ·show Ep (Xh.next (Xh.from_ _ _ _) x).2=false/\(Xh.next (Xh.from_ _ _ _) x).2.kind≠12;rcases hk with rfl|rfl|rfl<;>exact⟨rfl,by first|(show(8:Int)≠12;decide)|(show(6:Int)≠12;decide)⟩
 ·have hk:k=6\/k=7\/k=8:=Zo;refine⟨⟨rfl,?_⟩,λx=>?_⟩
  ·show qQ n (Xa.new _) AB;exact⟨⟨Yr,Yr,Yr,λW e=>(by cases e),hk,h3,by show key<256;omega,Int.le_refl 0,by show(0:Int)<8;decide,Int.le_refl 0,by show(0:Int)<8;decide,Int.le_refl 0,by show(0:Int)<8;decide⟩,Or.inr ⟨by decide,Or.inl rfl⟩⟩
  ·exact⟨rfl,by show(3:Int)≠12;decide⟩
 ·refine⟨⟨rfl,?_⟩,λx=>?_⟩
  ·show qR n (Xc.new _) AB;exact⟨⟨Yr,λW e=>(by cases e),by show(k=6/\1<=Ah/\Ah<=3)\/k=7\/k=8;omega,Int.le_refl 0,by show(0:Int)<=3;decide⟩,Or.inr ⟨by decide,Or.inl rfl⟩⟩
  ·show Ep (Xc.next (Xc.new _) x).2=false/\(Xc.next (Xc.new _) x).2.kind≠12;have hk:k=6\/k=7\/k=8:=Zo;rcases hk with rfl|rfl|rfl<;>exact⟨rfl,by first|(show(8:Int)≠12;decide)|(show(6:Int)≠12;decide)⟩
theorem Kx(M:MR)(hc:JV st n c)(hi:Ep c=false)(h12:c.kind≠12):(M.Aj c).R.step≠0:=by
 unfold Ep at hi;simp only[Bool.or_eq_false_iff,beq_eq_false_iff_ne,ne_eq] at hi;have go:∀{k:Int},c.kind=k->k≠10->k≠11->M.Aj c=⟨M.R.Aq c,M.ns,[],[]⟩:=λ{k} e a b=>by
  unfold MR.Aj;rw[show(c.kind==10)=false from by simp[e,a],show(c.kind==11)=false from by simp[e,b]];rfl
 rcases hc with⟨hk,_⟩|⟨hk,_⟩|⟨hk,_⟩|⟨hk,_⟩|⟨hk,_⟩|hk|⟨hk,_⟩|⟨hk,_⟩|hk
 ·rw[go hk Zd Zd];show(M.R.Aq c).step≠0;unfold Xb.Aq;rw[hk];show(1:Int)≠0;decide
 ·rw[go hk Zd Zd];show(M.R.Aq c).step≠0;unfold Xb.Aq;rw[hk];show(1:Int)≠0;decide
 ·rw[go hk Zd Zd];show(M.R.Aq c).step≠0;unfold Xb.Aq;rw[hk];show(1:Int)≠0;decide
 ·rw[go hk Zd Zd];show(M.R.Aq c).step≠0;unfold Xb.Aq;rw[hk];show(5:Int)≠0;decide
 ·exact absurd hk hi.1
 ·rw[go hk Zd Zd];have e:M.R.Aq c=(M.R.Aw c).alloc:=by unfold Xb.Aq;rw[hk];rfl
  show(M.R.Aq c).step≠0;rw[e];unfold Xb.alloc;cases(M.R.Aw c).dating
  ·show(1:Int)≠0;decide
  ·show(8:Int)≠0;decide
 ·rw[go hk Zd Zd];show(M.R.Aq c).step≠0;unfold Xb.Aq;rw[hk];show(2:Int)≠0;decide
 ·exact absurd hk hi.2
 ·exact absurd hk h12
def VJob(st:Int)(n:Nat)(V:MV):Prop:=
 (V.Ae=1/\V.call=AB/\∃J,V.BF=some J/\JI st n J V.call)\/(V.Ae=2/\V.call.kind≠12/\JV st n V.call/\∃J,V.BF=some J/\JI st n J V.call)\/(V.Ae=3/\V.call=AP)\/(V.Ae=4/\V.call=UF)
structure VL(st:Int)(n t:Nat)(V:MV):Prop where
 aO:V.st=st
 base:AW n t V.M
 BF:VJob st n V
 at_:(V.M.R.step≠0/\QH st n V.M V.call)\/(V.M.R.step=0/\OU st n V.call V.M.R.AF)
structure VI(st:Int)(n t:Nat)(V:MV):Prop where
 aO:V.st=st
 base:AW n t V.M
 at_:(V.Ae=0/\V.M.R.step=0)\/(V.M.R.step≠0/\QH st n V.M V.call/\VJob st n V)
theorem VI.up{V:MV}{t':Nat}(h:VI st n t V)(ht:t<=t'):VI st n t' V:=⟨h.aO,h.base.up ht,h.at_⟩
theorem VL.Ae{V:MV}(h:VL st n t V):V.Ae≠0:=by rcases h.BF with h|h|h|h<;>(have:=h.1;omega)
theorem VL.vi{V:MV}(h:VL st n t V)(h0:V.M.R.step≠0):VI st n t V:=⟨h.aO,h.base,Or.inr ⟨h0,(h.at_.resolve_right λe=>h0 e.1).2,h.BF⟩⟩
theorem Kh{V:MV}(h:V.quiet=true):∀m,MV.Lv m V=V
 |0=>rfl
 |m+1=>by unfold MV.Lv;rw[h];rfl
theorem OD{V:MV}(h:V.quiet=false)(m:Nat):MV.Lv (m+1) V=MV.Lv m V.GC:=by
 show(bif V.quiet then V else MV.Lv m V.GC)=_;rw[h];rfl
theorem NA{V:MV}(h:V.M.R.step≠0):V.quiet=true:=by
 unfold MV.quiet MV.DK;rw[show(V.M.R.step==0)=false from by simp[h]];simp
theorem yU{V:MV}(h:V.Ae=0):V.quiet=true:=by unfold MV.quiet;rw[h];rfl
theorem lY{V:MV}(h:V.M.R.step=0)(h0:V.Ae≠0):V.quiet=false:=by
 unfold MV.quiet MV.DK;rw[h,show(V.Ae==0)=false from by simp[h0]];rfl
theorem Ni{V:MV}{J:Xx}{d:Int}(hv:V.st=st)(hb:AW n t V.M)(hc:CAny st n c)(hj:VJob st n {V with Ae:=d,call:=c,M:=V.M.Aj c}):VL st n (t+1) (V.Aj d c):=by
 obtain⟨h1,h2⟩:=lS hb hc;exact⟨hv,h1,hj,h2⟩
theorem Sh{V:MV}(h:VL st n t V)(h0:V.M.R.step=0)(hd:V.Ae=3\/V.Ae=4)(m:Nat):VI st n t (MV.Lv (m+1) V)/\(MV.Lv (m+1) V).Ae=0:=by
 rw[OD (lY h0 h.Ae)];have e:V.GC={V with Ae:=0}:=by
  unfold MV.GC;rw[show(V.Ae==1||V.Ae==2)=false from by rcases hd with h|h<;>rw[h]<;>rfl];rfl
 rw[e,Kh (yU rfl)];exact⟨⟨h.aO,h.base,Or.inl ⟨rfl,h0⟩⟩,rfl⟩
theorem YF:∀(k m t:Nat) (V:MV) (J:Xx),VL st n t V->V.M.R.step=0->(V.Ae=1\/V.Ae=2)->V.BF=some J->Calm Xx.next k (J.next V.M.R.AF).1 (J.next V.M.R.AF).2->k+3<=m->VI st n (t+k+2) (MV.Lv m V)
 |k,m,t,V,J,h,h0,hd,hj,hq,hm=>by
  obtain⟨m,rfl⟩:∃m',m=m'+1:=⟨m-1,by omega⟩;rw[OD (lY h0 h.Ae)];have hx:OU st n V.call V.M.R.AF:=by
   rcases h.at_ with h|h
   ·exact absurd h0 h.1
   ·exact h.2
  have hJ:JI st n J V.call/\V.call.kind≠12:=by
   rcases h.BF with⟨_,e,J',e',q⟩|⟨_,e,_,J',e',q⟩|⟨e,_⟩|⟨e,_⟩
   ·rw[hj] at e';cases e';exact⟨q,by rw[e];decide⟩
   ·rw[hj] at e';cases e';exact⟨q,e⟩
   ·omega
   ·omega
  obtain⟨q1,q2,q3⟩:=Js hJ.1 hJ.2 hx;have ed:(V.Ae==1||V.Ae==2)=true:=by rcases hd with h|h<;>rw[h]<;>rfl
  cases hk:((J.next V.M.R.AF).2.kind==12) with
  |true=>
   have hk':(J.next V.M.R.AF).2.kind=12:=by simpa using hk
   have e:V.GC=MV.Aj {V with BF:=some (J.next V.M.R.AF).1,A5:=(J.next V.M.R.AF).2.A5} 3 AP:=by
    unfold MV.GC;rw[ed,hj];simp only[cond_true,hk,Bool.not_true,cond_false]
   rw[e];have hv:VL st n (t+1) (MV.Aj {V with BF:=some (J.next V.M.R.AF).1,A5:=(J.next V.M.R.AF).2.A5} 3 AP):=
    Ni (J:=J) (V:={V with BF:=some (J.next V.M.R.AF).1,A5:=(J.next V.M.R.AF).2.A5}) h.aO h.base (Or.inr (Or.inr (Or.inl rfl))) (Or.inr (Or.inr (Or.inl ⟨rfl,rfl⟩)))
   by_cases hb:(MV.Aj {V with BF:=some (J.next V.M.R.AF).1,A5:=(J.next V.M.R.AF).2.A5} 3 AP).M.R.step=0
   ·obtain⟨m,rfl⟩:∃m',m=m'+1:=⟨m-1,by omega⟩;exact(Sh hv hb (Or.inl rfl) m).1.up Zo
   ·rw[Kh (NA hb)];exact(hv.vi hb).up Zo
  |false=>
   have hk':(J.next V.M.R.AF).2.kind≠12:=by simpa using hk
   have e:V.GC=MV.Aj {V with BF:=some (J.next V.M.R.AF).1} 2 (J.next V.M.R.AF).2:=by
    unfold MV.GC;rw[ed,hj];simp only[cond_true,hk,Bool.not_false]
   rw[e];have hv:VL st n (t+1) (MV.Aj {V with BF:=some (J.next V.M.R.AF).1} 2 (J.next V.M.R.AF).2):=
    Ni (J:=J) (V:={V with BF:=some (J.next V.M.R.AF).1}) h.aO h.base (Or.inl ⟨q2,hk'⟩) (Or.inr (Or.inl ⟨rfl,hk',q2,_,rfl,q1⟩))
   by_cases hb:(MV.Aj {V with BF:=some (J.next V.M.R.AF).1} 2 (J.next V.M.R.AF).2).M.R.step=0
   ·have hi:Ep (J.next V.M.R.AF).2=true:=by
     cases h:Ep (J.next V.M.R.AF).2 with
     |true=>rfl
     |false=>exact absurd hb (Kx V.M q2 h hk')
    cases k with
    |zero=>rw[show Calm Xx.next 0 _ _=(Ep (J.next V.M.R.AF).2=false) from rfl,hi] at hq;cases hq
    |succ k=>
     exact(YF k m (t+1) _ _ hv hb (Or.inr rfl) rfl (hq hi _) Zo).up Zo
   ·rw[Kh (NA hb)];exact(hv.vi hb).up Zo
theorem OB{V:MV}(h:VL st n t V):VI st n (t+5) V.advance:=by
 unfold MV.advance;by_cases h0:V.M.R.step=0
 ·have hx:OU st n V.call V.M.R.AF:=by
   rcases h.at_ with h|h
   ·exact absurd h0 h.1
   ·exact h.2
  rcases h.BF with⟨hd,e,J,hj,q⟩|⟨hd,e,hc,J,hj,q⟩|⟨hd,e⟩|⟨hd,e⟩
  ·exact YF 3 16 t V J h h0 (Or.inl hd) hj (Js q (by rw[e];decide) hx).2.2 Zd
  ·exact YF 3 16 t V J h h0 (Or.inr hd) hj (Js q e hx).2.2 Zd
  ·exact(Sh h h0 (Or.inl hd) 15).1.up Zo
  ·exact(Sh h h0 (Or.inr hd) 15).1.up Zo
 ·rw[Kh (NA h0)];exact(h.vi h0).up Zo
theorem YW{V:MV}{p:Pl}(h:VI st n t V)(hd:V.Ae≠0)(hp:HI st n p):V.M.R.step≠0/\QH st n V.M V.call/\VL st n (t+1) {V with M:=V.M.Av (p.act V.M.R.BN).2}:=by
 rcases h.at_ with⟨e,_⟩|⟨h0,hb,hj⟩
 ·exact absurd e hd
 ·obtain⟨h1,h2⟩:=rtook h.base hb h0 (YH hp hb.b.2.1).2.2.1;exact⟨h0,hb,h.aO,h1,hj,h2⟩
theorem sP{V:MV}{p:Pl}(h:VI st n t V)(hd:V.Ae≠0)(hp:HI st n p):VI st n (t+6) (V.step p).1/\HI st n (V.step p).2.1/\MG p (V.step p).2.1:=by
 obtain⟨h0,hb,hv⟩:=YW h hd hp;have ha:=YH hp hb.b.2.1;exact⟨(OB hv).up Zo,ha.2.1,ha.2.2.2⟩
theorem ZK{V:MV}{o:A3}(h:VI st n t V)(h0:V.Ae=0)(ho:Sm st o):VL st n (t+1) (MV.Aj {V with op:=o,BF:=some (Xx.new V.st o),A5:=.zero} 1 AB):=by
 have e:=h.aO;have hs:JI st n (Xx.new V.st o) AB:=by rw[e];exact(RU ho).1
 exact Ni (J:=Xx.new V.st o) (V:={V with op:=o,BF:=some (Xx.new V.st o),A5:=.zero}) h.aO h.base (Or.inr (Or.inl rfl)) (Or.inl ⟨rfl,rfl,_,rfl,hs⟩)
theorem uS{V:MV}{o:A3}(h:VI st n t V)(h0:V.Ae=0)(ho:Sm st o):VI st n (t+6) (V.Jw o)/\(V.Jw o).Ae≠0:=by
 have hv:=ZK h h0 ho;refine⟨(OB hv).up Zo,?_⟩;have e:=h.aO;have hf:=(RU (n:=n) ho).2;unfold MV.Jw MV.advance;by_cases hb:(MV.Aj {V with op:=o,BF:=some (Xx.new V.st o),A5:=.zero} 1 AB).M.R.step=0
 ·rw[OD (lY hb hv.Ae)];have hx:OU st n AB (MV.Aj {V with op:=o,BF:=some (Xx.new V.st o),A5:=.zero} 1 AB).M.R.AF:=by
   rcases hv.at_ with h|h
   ·exact absurd hb h.1
   ·exact h.2
  obtain⟨q1,q2,q3⟩:=Js (RU (n:=n) ho).1 Zd hx;obtain⟨f1,f2⟩:=hf (MV.Aj {V with op:=o,BF:=some (Xx.new V.st o),A5:=.zero} 1 AB).M.R.AF;rw[←e] at f1 f2 q2;have e1:(MV.Aj {V with op:=o,BF:=some (Xx.new V.st o),A5:=.zero} 1 AB).GC=MV.Aj {MV.Aj {V with op:=o,BF:=some (Xx.new V.st o),A5:=.zero} 1 AB with BF:=some ((Xx.new V.st o).next (MV.Aj {V with op:=o,BF:=some (Xx.new V.st o),A5:=.zero} 1 AB).M.R.AF).1} 2 ((Xx.new V.st o).next (MV.Aj {V with op:=o,BF:=some (Xx.new V.st o),A5:=.zero} 1 AB).M.R.AF).2:=by
   have ek:(!(((Xx.new V.st o).next (MV.Aj {V with op:=o,BF:=some (Xx.new V.st o),A5:=.zero} 1 AB).M.R.AF).2.kind==12))=true:=by simp[f2]
   show(bif !(((Xx.new V.st o).next (MV.Aj {V with op:=o,BF:=some (Xx.new V.st o),A5:=.zero} 1 AB).M.R.AF).2.kind==12) then _ else _)=_;rw[ek];rfl
  rw[e1,Kh (NA (Kx _ q2 f1 f2))];show(2:Int)≠0;decide
 ·rw[Kh (NA hb)];show(1:Int)≠0;decide
end
end Go.Proofs.YtaipogljokblkaaGreatDoor
