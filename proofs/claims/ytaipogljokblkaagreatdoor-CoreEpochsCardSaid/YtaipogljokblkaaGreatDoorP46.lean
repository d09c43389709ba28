/- Core: FaV, FdA, FbA, FbB, FbC, FdB, FdC. -/
import Derived.Test.YtaipogljokblkaaGreatDoorP45
import Derived.Test.YtaipogljokblkaaGreatDoorP43
set_option linter.all false
set_option maxRecDepth 100000
set_option maxHeartbeats 8000000
namespace Go.Proofs.YtaipogljokblkaaGreatDoor
open Go Go.RowKit
section
variable{v:Vw}{g:EG}{k:Nat}{o:AV}{x:Xr}
def jW(h:N3 1 o):Ji v g k ((Xy.new o).next x).1 ((Xy.new o).next x).2:=by
 obtain⟨a,b,c,d⟩:=o;by_cases e:a=1
 ·simp[Xy.next,Xy.push,Xy.new,Xy.zero,e];exact .u1 rfl
 ·simp[Xy.next,Xy.pop,Xy.new,Xy.zero,e];exact .o1 e
def lI(h:N3 2 o):GD v g k ((Xx.new o).next x).1 ((Xx.new o).next x).2:=by
 obtain⟨a,b,c,d⟩:=o;by_cases e:a=4
 ·simp[Xx.next,Xx.enqueue,Xx.new,Xx.zero,e];exact .e1 rfl
 ·simp[Xx.next,Xx.dequeue,Xx.new,Xx.zero,e];exact .q1 e
def kM(h:N3 3 o):EQ 3 v g k ((Xf.from_ (root 0) o.key o).next x).1 ((Xf.from_ (root 0) o.key o).next x).2:=by
 obtain⟨d,e,i,j⟩:=o;have f:0<=e:=by
  simp only[N3] at h;omega
 have a:BZ 3 v g k e (root 0):=⟨⟨fq rfl,λq=>absurd rfl q⟩,λq=>absurd rfl q,f⟩;by_cases b:d=6
 ·simp[Xf.from_,Xf.next,Xf.insert,Xf.zero,b];exact .i1 rfl a
 ·by_cases c:d=7
  ·simp[Xf.from_,Xf.next,Xf.Ak,Xf.An,Xf.Ay,Cq,Xj.new,Xj.zero,Xj.step,Xj.again,Xf.zero,c];exact .r1 rfl a (λq=>absurd q Zd) (.w1 a) ⟨rfl,rfl⟩
  ·simp[Xf.from_,Xf.next,Xf.get,Xf.An,Xf.Ay,Cq,Xj.new,Xj.zero,Xj.step,Xj.again,Xf.zero,b,c];exact .g1 ⟨b,c⟩ (.w1 a)
def fG(h:N3 4 o):Gt v g k ((Xc.new o).next x).1 ((Xc.new o).next x).2:=by
 obtain⟨a,b,d,e⟩:=o;have c:(0<=b/\b<=255)/\(a=6\/a=7\/a=8):=by
  simp only[N3] at h;omega
 simp[Xc.next,Xc.new,Xc.zero];exact .b1 c
end
structure KF where
 L:Qh
 E:Vw->EG->Nat->Xz->Xi->Prop
 M:Vw->EG->Xz->Xi->Nat
 lk:Xz->Xi->Nat
 cn:Vw->EG->Nat
 mx:Nat
 cf:Nat
 cb:Nat
 cp:Nat
def KF.Aft(W:KF)(v:Vw)(g:EG)(k:Nat)(J:Xz)(c:Xi)(v':Vw)(g':EG)(b:Xz)(d:Xi):Prop:=
 W.E v' g' k b d/\W.cn v' g'+W.lk b d<=W.cn v g+W.lk J c/\W.M v' g' b d+wt c+W.L.Cd v' g'<=W.M v g J c+W.L.Cd v g
structure I9(st:Int)(W:KF):Prop where
 ok:N4 st W.L
 A3:∀{a k:Nat} {v v':Vw} {g g':EG} {J:Xz} {c:Xi},W.E v g k J c->AA st v g->AA st v' g'->W.L.si v g->W.L.si v' g'->Ev a W.L.ce v g v' g'->W.L.x a v g v' g'->k≠a->g.A k≠none->W.E v' g' k J c
 BJ:∀{k:Nat} {v:Vw} {g:EG} {J:Xz} {c:Xi},AA st v g->W.L.si v g->g.A k≠none->Mu v->W.cn v g<=W.mx->W.E v g k J c->Mv st W.L k (W.Aft v g k J c) v g J c
 cnq:∀{v v':Vw} {g g':EG},AA st v' g'->Jh v g v' g'->W.cn v' g'=W.cn v g
 first:∀{k:Nat} {v:Vw} {g:EG} {o:AV} {x:Xr},W.L.si v g->N3 st o->W.cn v g<=W.mx->W.E v g k ((Xz.new st o).next x).1 ((Xz.new st o).next x).2/\W.lk ((Xz.new st o).next x).1 ((Xz.new st o).next x).2<=1/\W.M v g ((Xz.new st o).next x).1 ((Xz.new st o).next x).2<=W.cf
 bd:∀{k:Nat} {v:Vw} {g:EG} {J:Xz} {c:Xi},W.E v g k J c->W.cn v g<=W.mx->W.M v g J c<=W.cb
 pb:∀{v:Vw} {g:EG},W.cn v g<=W.mx->(∀l,Zn st l->(g.LL l).length<=255)->W.L.Cd v g<=W.cp
 sm:6*(W.cb+3)+W.mx*(W.cf+3)+W.cp<=51000/\64<=W.mx/\W.cf<=W.cb
 mq:∀{v:Vw} {g:EG} {s:Int} {J:Xz} {c:Xi},W.M (v.drop s) (g.A7 s) J c=W.M v g J c
 fin:∀{v:Vw} {g:EG} {J:Xz} {c:Xi},c.kind=12->W.M v g J c=0/\W.lk J c=0
def cut(c:Xi)(n:Nat):Nat:=if c.kind=12 then 0 else n
def R2:KF:=⟨ZQ,λv g k J c=>∃b,J=.pile b/\Ji v g k b c,λv _ J c=>cut c (match J with|.pile J=>G7 v J|_=>0),λ_ _=>0,λ_ _=>0,64,18,18,0⟩
def S':KF:=⟨En,λv g k J c=>∃b,J=.Wu b/\GD v g k b c,λv _ J c=>cut c (match J with|.Wu J=>DP v J|_=>0),λ_ _=>0,λ_ _=>0,64,24,24,1530⟩
def zP:KF:=⟨Zp 3,λv g k J c=>∃b,J=.lit b/\EQ 3 v g k b c,λv g J c=>cut c (match J with|.lit J=>B9 v g J|_=>0),λJ c=>cut c (match J with|.lit J=>E0 J|_=>0),λ_ g=>(g.LL 0).length,64,425,425,960⟩
def zv:KF:=⟨Zp 4,λv g k J c=>∃b,J=.Lm b/\Gt v g k b c,λv g J c=>cut c (match J with|.Lm J=>BS v g J|_=>0),λJ c=>cut c (match J with|.Lm J=>ER J|_=>0),λv g=>(g.LL 0).length+Qp v (g.LL 0),72,474,1386,2683⟩
def B2:KF:=⟨N7,λv g k J c=>∃b,J=.N8 b/\DX v g k b c,λv g J c=>cut c (match J with|.N8 J=>Y9 v g J c|_=>0),λJ c=>cut c (match J with|.N8 J=>C0 J|_=>0),λ_ g=>(g.LL 0).length,64,649,864,3825⟩
def Ys(st:Int):KF:=if st=1 then R2 else if st=2 then S' else if st=3 then zP else if st=4 then zv else B2
section
variable{st:Int}{L:Qh}{v v':Vw}{g g':EG}{a k:Nat}{J:Xz}{c:Xi}{Q Q':Vw->EG->Xz->Xi->Prop}
def CR{n:Nat}:cut c n<=n:=by unfold cut;split<;>omega
def KC{n:Nat}(h:c.kind≠12):cut c n=n:=fw h
def Ia{n:Nat}(h:c.kind=12):cut c n=0:=ga h
def Mv.imp(h:Mv st L k Q v g J c)(e:c.kind≠12->∀v' g' o p,Q v' g' o p->Q' v' g' o p):Mv st L k Q' v g J c:=by
 cases h with
 |done b=>exact .done b
 |look b ha h=>exact .look b ha (e Zo _ _ _ _ h)
 |store b ha j h=>obtain⟨g',f,i⟩:=h;exact .store b ha j ⟨g',f,e Zo _ _ _ _ i⟩
 |swap b ha j l m=>exact .swap b ha j (λq=>by obtain⟨g',f,i⟩:=l q;exact⟨g',f,e Zo _ _ _ _ i⟩) λq=>e Zo _ _ _ _ (m q)
 |hold b r h=>exact .hold b r (e Zo _ _ _ _ h)
 |alloc b l m=>exact .alloc b (λs d t u=>by obtain⟨g',f,i⟩:=l s d t u;exact⟨g',f,e Zo _ _ _ _ i⟩) (e Zo _ _ _ _ m)
 |drop b n h=>obtain⟨g',f,i⟩:=h;exact .drop b n ⟨g',f,e Zo _ _ _ _ i⟩
 |retire b n w f x h=>exact .retire b n w f x λd=>e Zo _ _ _ _ (h d)
def Ho{p:Prop}[Decidable p]{a b n:Nat}(d:a<=n)(e:b<=n):(if p then a else b)<=n:=by split<;>assumption
def dA{J:Xy}:G7 v J<=18:=by
 unfold G7;repeat' first|with_reducible refine Ho ?_ ?_|omega
def eD{J:Xx}:DP v J<=24:=by
 unfold DP;repeat' first|with_reducible refine Ho ?_ ?_|omega
def OG(b:Jh v g v' g'):(g'.LL 0).length=(g.LL 0).length:=by rw[b.ll]
def zA:I9 1 R2:=by
 refine⟨Kr,?_,?_,λ_ _=>rfl,?_,?_,λ_ _=>ie _,Zd,rfl,λh=>⟨Ia h,rfl⟩⟩
 ·rintro a k v v' g g' J c ⟨b,rfl,h⟩ d m _ _ e _ n f;exact⟨b,rfl,h.A3 d m e n f⟩
 ·rintro k v g J c d _ f p _ ⟨b,rfl,h⟩;refine(yZ d f p h).imp λi v' g' s l ⟨j,e,q,t⟩=>?_;subst e;refine⟨⟨j,rfl,q⟩,Nat.le_refl _,?_⟩;show cut l (G7 v' j)+wt c+0<=cut c (G7 v b)+0;rw[KC i];have:=@CR l (G7 v' j);omega
 ·intro k v g o x _ r _;exact⟨⟨_,rfl,jW r⟩,ie _,gb CR (gb dA Zd)⟩
 ·rintro k v g J c ⟨b,rfl,h⟩ _;exact gb CR (gb dA Zd)
def eH{L:List Int}{s:Int}:IY L s<=L.length:=by
 unfold IY;exact(List.dropWhile_sublist _).length_le
def qv:I9 2 S':=by
 refine⟨MJ,?_,?_,λ_ _=>rfl,?_,?_,λ{v g} _ h=>?_,Zd,rfl,λh=>⟨Ia h,rfl⟩⟩
 ·rintro a k v v' g g' J c ⟨b,rfl,h⟩ d m _ _ e n p f;exact⟨b,rfl,h.A3 d m e n p f⟩
 ·rintro k v g J c d q f r _ ⟨b,rfl,h⟩;refine(qs d q f r h).imp λi v' g' u l ⟨j,e,s,w⟩=>?_;subst e;refine⟨⟨j,rfl,s⟩,Nat.le_refl _,?_⟩;show cut l (DP v' j)+wt c+En.Cd v' g'<=cut c (DP v b)+En.Cd v g;rw[KC i];have:=@CR l (DP v' j);omega
 ·intro k v g o x _ t _;exact⟨⟨_,rfl,lI t⟩,ie _,gb CR (gb eD Zd)⟩
 ·rintro k v g J c ⟨b,rfl,h⟩ _;exact gb CR (gb eD Zd)
 ·have:=h 0 Tv;have:=@eH (g.LL 0) (v.root 1).sl;show 6*IY (g.LL 0) (v.root 1).sl<=1530;omega
def Ui{W:Xj}:Zt v g W<=3*(g.LL 0).length+16:=by
 have h:Ub (g.LL 0) W.prev<=(g.LL 0).length:=by
  unfold Ub;split
  ·exact Nat.le_refl _
  ·have:=@eH (g.LL 0) W.prev.sl;omega
 unfold Zt;repeat' first|with_reducible refine Ho ?_ ?_|refine Nat.add_le_add (n:=12) (m:=12) (a:=3*(g.LL 0).length+4) ?_ (Nat.le_refl 12)|omega|(split<;>omega)
def Tp{J:Xf}:B9 v g J<=6*(g.LL 0).length+41:=by
 obtain⟨pc,b,s,y,o,w,d,x⟩:=J;cases w with
 |none=>
  simp only[B9];repeat' first|with_reducible refine Ho ?_ ?_|omega
 |some W=>
  have:=@Ui v g W;simp only[B9];repeat' first|with_reducible refine Ho ?_ ?_|omega|(split<;>omega)
def zO:I9 3 zP:=by
 have m:Mm 3:=fq rfl;refine⟨GH m,?_,?_,λ_ A=>OG A,?_,?_,λ{v g} n _=>?_,Zd,rfl,λh=>⟨Ia h,Ia h⟩⟩
 ·rintro a k v v' g g' J c ⟨f,rfl,h⟩ q B _ _ e _ C s;exact⟨f,rfl,h.A3 q B e C s⟩
 ·rintro k v g J c q t s u _ ⟨f,rfl,h⟩;by_cases b:c.kind=12
  ·exact .done b
  have go:∀v' g' l p,l.op=f.op->EQ 3 v' g' k l p->True->(g'.LL 0).length+E0 l<=(g.LL 0).length+E0 f->mS 3 k v g v' g'->B9 v' g' l+wt c+(Zp 3).Cd v' g'<=B9 v g f+(Zp 3).Cd v g->zP.Aft v g k (.lit f) c v' g' (.lit l) p:=λv' g' l p _ D _ E _ F=>by
   refine⟨⟨l,rfl,D⟩,?_,?_⟩
   ·show(g'.LL 0).length+cut p (E0 l)<=(g.LL 0).length+cut c (E0 f);rw[KC b];have:=@CR p (E0 l);omega
   ·show cut p (B9 v' g' l)+wt c+(Zp 3).Cd v' g'<=cut c (B9 v g f)+(Zp 3).Cd v g;rw[KC b];have:=@CR p (B9 v' g' l);omega
  have w:∀v' g' l i j,True->(g'.LL 0).length<=(g.LL 0).length+E0 f->mS 3 k v g v' g'->wt c+(Zp 3).Cd v' g'<=B9 v g f+(Zp 3).Cd v g->zP.Aft v g k (.lit f) c v' g' (.lit l) (X3 i j):=λv' g' l i j _ E _ F=>by
   refine⟨⟨l,rfl,.d rfl⟩,?_,?_⟩
   ·show(g'.LL 0).length+0<=(g.LL 0).length+cut c (E0 f);rw[KC b];omega
   ·show 0+wt c+(Zp 3).Cd v' g'<=cut c (B9 v g f)+(Zp 3).Cd v g;rw[KC b];omega
  by_cases y:f.op.kind=6
  ·exact dM (S:=.lit) (K:=λr=>(.lit r.1,r.2)) (I:=λ_ _=>True) m q t s u (λ_ _=>rfl) (λ_ _ _=>rfl) trivial (λ_ _ _=>trivial) go w b y h
  ·by_cases z:f.op.kind=7
   ·exact dL (S:=.lit) (K:=λr=>(.lit r.1,r.2)) (I:=λ_ _=>True) m q t s u (λ_ _=>rfl) (λ_ _ _=>rfl) trivial (λ_ _ _=>trivial) go w b z h
   ·exact dO (S:=.lit) (K:=λr=>(.lit r.1,r.2)) (I:=λ_ _=>True) m q t s u (λ_ _=>rfl) (λ_ _ _=>rfl) trivial (λ_ _ _=>trivial) go w b ⟨y,z⟩ h
 ·intro k v g o x _ G n;have n:(g.LL 0).length<=64:=n;refine⟨⟨_,rfl,kM G⟩,gb CR ?_,gb CR (gb Tp ?_)⟩
  ·show E0 _<=1;unfold E0;split<;>omega
  ·show _<=425;omega
 ·rintro k v g J c ⟨f,rfl,h⟩ n;have n:(g.LL 0).length<=64:=n;refine gb CR (gb Tp ?_);show _<=425;omega
 ·have n:(g.LL 0).length<=64:=n;show 15*Ea v (g.LL 0)+(if(3:Int)=4 then 229*Eh v else 0)<=960;have:Ea v (g.LL 0)<=(g.LL 0).length:=jy ..;rw[fw Zd];omega
def vR{b:Int}:Eb v b<=229:=by unfold Eb;split<;>omega
def ue{w b:Int}:Dv v w b<=690:=by
 have d:=@vR v w;have e:=@vR v (Bb w);have f:=@vR v (Bb (Bb w));unfold Dv;repeat' split
 all_goals omega
def wU{J:Xc}(n:(g.LL 0).length<=72)(f:J.pc=2->J.Ao.toNat<=8):BS v g J<=1386:=by
 obtain⟨pc,p,o,z,e,h,d,q,r,s,W,I,t,ct⟩:=J;have d1:=@ue v e d;have d2:=@ue v e h;have u:(if(v.root (8+d)).sl=0 then 229 else 0)<=229:=by split<;>omega
 have l:(match W with|some W=>Zt v g W+8+(456+Dv v e d)-(if(v.root (8+d)).sl=0 then 229 else 0)|none=>0)<=1386:=by
  cases W with
  |none=>exact ie _
  |some W=>
   have:=@Ui v g W;simp only;omega
 have i:∀a b,a<=5->b<=11->(match W with|some W=>(if v.get W.prev=W.As then a else 3*(g.LL 0).length+b)+(456+Dv v e d)-(if(v.root (8+d)).sl=0 then 229 else 0)|none=>0)<=1386:=λa b ha f=>by
  cases W with
  |none=>exact ie _
  |some W=>
   have:(if v.get W.prev=W.As then a else 3*(g.LL 0).length+b)<=3*(g.LL 0).length+11:=by split<;>omega
   simp only;omega
 have m:(match I with|some I=>B9 v g I+4|none=>0)<=1386:=by
  cases I with
  |none=>exact ie _
  |some I=>
   have:=@Tp v g I;simp only;omega
 by_cases j:pc=2
 ·subst j;have f:h.toNat<=8:=f rfl;simp[BS];omega
 ·simp only[BS,fw j];repeat' first|with_reducible refine Ho ?_ ?_|exact l|exact i 5 11 Zd Zd|exact i 4 10 Zd Zd|exact m|omega|(split<;>omega)
def wT:I9 4 zv:=by
 have n:Mm 4:=db rfl;refine⟨GH n,?_,?_,λC q=>?_,?_,?_,λ{v g} f _=>?_,Zd,rfl,λh=>⟨Ia h,Ia h⟩⟩
 ·rintro a k v v' g g' J c ⟨m,rfl,h⟩ w D _ _ e E F y;exact⟨m,rfl,h.A3 w D e E F y⟩
 ·rintro k v g J c w j y G f ⟨m,rfl,h⟩;have f:(g.LL 0).length+Qp v (g.LL 0)<=72:=f;refine(wR w j y G Zo h).imp λi v' g' N t ⟨p,e,A,B,O⟩=>?_;subst e;refine⟨⟨p,rfl,A⟩,?_,?_⟩
  ·show(g'.LL 0).length+Qp v' (g'.LL 0)+cut t (ER p)<=(g.LL 0).length+Qp v (g.LL 0)+cut c (ER m);rw[KC i];have:=@CR t (ER p);omega
  ·show cut t (BS v' g' p)+wt c+(Zp 4).Cd v' g'<=cut c (BS v g m)+(Zp 4).Cd v g;rw[KC i];have:=@CR t (BS v' g' p);omega
 ·show(_:Nat)+Qp _ _=_+Qp _ _;rw[OG q,q.ll];congr 1;unfold Qp;congr 1;refine nh λb _=>Bool.eq_iff_iff.2 ?_;simp only[g9];have f:∀s∈_,_:=λs j=>(q.lk 0 s (C.pb 0 (Pe n) s (by rw[q.ll];exact j)).2).2.1;exact⟨λh s j=>by rw[←f s j];exact h s j,λh s j=>by rw[f s j];exact h s j⟩
 ·intro k v g o x _ u f;have H:=fG (v:=v) (g:=g) (k:=k) (x:=x) u;have A:ER ((Xc.new o).next x).1<=1:=by
   simp[Xc.next,Xc.new,Xc.zero,ER];split<;>omega
  have B:BS v g ((Xc.new o).next x).1<=474:=by simp[Xc.next,Xc.new,Xc.zero,BS]
  have e:(Xz.new 4 o).next x=(.Lm ((Xc.new o).next x).1,((Xc.new o).next x).2):=rfl;rw[e];generalize(Xc.new o).next x=r at*;exact⟨⟨_,rfl,H⟩,gb CR A,gb CR B⟩
 ·rintro k v g J c ⟨m,rfl,h⟩ f;have f:(g.LL 0).length+Qp v (g.LL 0)<=72:=f;show cut c (BS v g m)<=1386;by_cases i:c.kind=12
  ·rw[Ia i];exact ie _
  refine gb CR ?_;refine wU Zo λe=>?_;cases h with
  |@b2 l o z P K R S T U W I V ct u M=>
   have:=Oe u.w8.1 u.w8.2 M;have h:K.toNat<=8:=Zo;exact h
  |d h=>exact absurd h i
  |_=>simp at e
 ·have f:(g.LL 0).length+Qp v (g.LL 0)<=72:=f;show 15*Ea v (g.LL 0)+(if(4:Int)=4 then 229*Eh v else 0)<=2683;have:Ea v (g.LL 0)<=(g.LL 0).length:=jy ..;have:Eh v<=7:=jy ..;rw[ga rfl];omega
def qw{C:Xb}(h:0<=C.level/\C.level<3):CH v g C<=6*(g.LL 0).length+35:=by
 have b:=@Ru v g C.spot.prev;have d:(if Ie v C.s0 C.s1 C.s2 (C.level+1)=true then 0 else 3*(g.LL 0).length+18)<=3*(g.LL 0).length+18:=by split<;>omega
 unfold CH;simp only;repeat' first|with_reducible refine Ho ?_ ?_|omega
def Fy.lv{T:Option Int}{C:Xb}(h:Fy v g k T C c):0<=C.level/\C.level<3:=by
 cases h with
 |c9 b=>exact⟨b.1,Int.lt_trans b.2 Zd⟩
 |c2 b|c3 b|c4 b|c5 b|c6 b|c7 b|c8 b=>exact b
def tS{o:Option Xb}{l:Int}:GA v g o l<=3*(g.LL 0).length+18:=by
 cases o with
 |none=>exact ie _
 |some C=>show(if Ie v C.s0 C.s1 C.s2 l=true then 0 else 3*(g.LL 0).length+18)<=_;split<;>omega
def xX{J:Xa}(r:c.kind≠12)(h:DX v g k J c):Y9 v g J c<=12*(g.LL 0).length+96:=by
 have f0:=λC=>@tS v g (some C) 0;have s:=λC l=>@tS v g (some C) l;have m:=λ{T C c} (h:Fy v g k T C c)=>qw (v:=v) (g:=g) h.lv;cases h with
 |d h=>exact absurd h r
 |i1 e|i2 e|i3 e|i4 e|i6 e=>simp[Y9,e.1]<;>omega
 |i5 e _ _ f=>have:=m f;simp[Y9,Bq,e.1];omega
 |@i7 p o q i b x C e _ _ _ _ t=>have:=f0 C;simp[Y9,e.1];omega
 |@i8 p o q i b x C e=>have:=f0 C;simp[Y9,e.1];omega
 |@j9 p o q i b x C e j=>have:=s C i;have:=j.lv;simp[Y9,e.1];split<;>omega
 |@C' p o q i b x C y e j=>have:=s C i;have:=j.lv;simp[Y9,e.1];split<;>omega
 |@zg p o q i b x C e j=>have:=s C i;have:=j.lv;simp[Y9,e.1];omega
 |zf e j _ f=>have:=m f;have:=j.lv;simp[Y9,Bq,e.1];omega
 |r1 e f=>have:=m f;simp[Y9,Bq,e.1];omega
 |r2 e|r3 e=>simp[Y9,e.1];omega
 |r4 e _ n=>have:=n.lh;have:=n.h3;simp[Y9,e.1];omega
 |r5 e _ n=>have:=n.lh;have:=n.h3;simp[Y9,e.1];split<;>omega
 |r6 e _ f=>have:=m f;simp[Y9,Bq,e.1];omega
 |p1 e|p2 e=>simp[Y9];omega
 |p3 _ _ _ _ f=>have:=m f;simp[Y9,Bq];omega
 |p4=>simp[Y9]
 |g1 e f=>have:=m f;simp[Y9,Bq,e.1,e.2];omega
 |g2 e=>simp[Y9,e.1,e.2]
def U0{o:AV}{x:Xr}(f:Jn v g)(h:N3 5 o):Y9 v g ((Xa.new o).next x).1 ((Xa.new o).next x).2<=9*(g.LL 0).length+73:=by
 obtain⟨d,i,l,m⟩:=o;have j:(d=6\/d=7\/d=8):=by
  simp only[N3] at h;omega
 obtain⟨_,e⟩:=Fo (k:=0) (b:=i) (T:=none) (la:=.zero) (q:=0) (c:=Zv.zero.As) (n:=.zero) (s0:=.zero) (s1:=.zero) (s2:=.zero) f λs q=>by cases q
 rcases j with rfl|rfl|rfl
 ·simp[Xa.next,Xa.insert,Xa.raise,Xa.Ak,Xa.finish,Xa.get,Xa.An,Xa.part,Xa.link,Xa.look,Xa.Cg,Xa.BP,Xa.AK,Xa.Bt,Xa.Ca,Xa.fin,Xa.done,Yg,Xb.new,Xb.zero,Xb.step,Xb.again,Xb.enter,Xa.new,Xa.zero];simp[Y9];omega
 ·simp[Xa.next,Xa.insert,Xa.raise,Xa.Ak,Xa.finish,Xa.get,Xa.An,Xa.part,Xa.link,Xa.look,Xa.Cg,Xa.BP,Xa.AK,Xa.Bt,Xa.Ca,Xa.fin,Xa.done,Yg,Xb.new,Xb.zero,Xb.step,Xb.again,Xb.enter,Xa.new,Xa.zero];simp[Y9,Bq,e];omega
 ·simp[Xa.next,Xa.insert,Xa.raise,Xa.Ak,Xa.finish,Xa.get,Xa.An,Xa.part,Xa.link,Xa.look,Xa.Cg,Xa.BP,Xa.AK,Xa.Bt,Xa.Ca,Xa.fin,Xa.done,Yg,Xb.new,Xb.zero,Xb.step,Xb.again,Xb.enter,Xa.new,Xa.zero];simp[Y9,Bq,e];omega
def xV:I9 5 B2:=by
 refine⟨Ry,?_,?_,λ_ s=>OG s,?_,?_,λ{v g} d n=>?_,Zd,rfl,λh=>⟨Ia h,Ia h⟩⟩
 ·rintro a k v v' g g' J c ⟨f,rfl,h⟩ p t i u e w y q;exact⟨f,rfl,h.A3 ⟨p,t,i,u,e,w⟩ y q⟩
 ·rintro k v g J c p i q z _ ⟨f,rfl,h⟩;refine(xQ p i q z h).imp λb v' g' B j ⟨l,e,m,A,C⟩=>?_;subst e;refine⟨⟨l,rfl,m⟩,?_,?_⟩
  ·show(g'.LL 0).length+cut j (C0 l)<=(g.LL 0).length+cut c (C0 f);rw[KC b];have:=@CR j (C0 l);omega
  ·show cut j (Y9 v' g' l j)+wt c+EY v' g'<=cut c (Y9 v g f c)+EY v g;rw[KC b];have:=@CR j (Y9 v' g' l j);omega
 ·intro k v g o x i r d;have d:(g.LL 0).length<=64:=d;have m:=gP (k:=k) (x:=x) i r;refine⟨⟨_,rfl,m⟩,gb CR ?_,gb CR ?_⟩
  ·show C0 _<=1;unfold C0;split<;>omega
  ·exact gb (U0 i r) (by show _<=649;omega)
 ·rintro k v g J c ⟨f,rfl,h⟩ d;have d:(g.LL 0).length<=64:=d;show cut c (Y9 v g f c)<=864;by_cases b:c.kind=12
  ·rw[Ia b];exact ie _
  ·have:=xX b h;exact gb CR Zo
 ·have D:=n 0 VW;have m:=n 1 tG;have A:=n 2 kT;have E:Dm v 0 (g.LL 0)<=(g.LL 0).length:=jy ..;have F:Dm v 1 (g.LL 1)<=(g.LL 1).length:=jy ..;have G:Dm v 2 (g.LL 2)<=(g.LL 2).length:=jy ..;show EY v g<=3825;unfold EY;omega
def NR(b:1<=st)(d:st<=5):I9 st (Ys st):=by
 have:st=1\/st=2\/st=3\/st=4\/st=5:=Zo;rcases this with rfl|rfl|rfl|rfl|rfl
 ·exact zA
 ·exact qv
 ·exact zO
 ·exact wT
 ·exact xV
end
def vw(p:Pl):Vw:=⟨λr=>if 0<=r/\r<24 then p.board r else .zero,λs=>(p.slot s).AB,λs=>(p.slot s).used=true,λs=>(p.slot s).cell⟩
section
variable{p:Pl}{a:Yc}{w:Xe}{f s m:Int}{l:List Int}
def Of{v v':Vw}(b:∀r,v.root r=v'.root r)(c:∀s,v.AB s=v'.AB s)(d:∀s,v.held s↔v'.held s)(e:∀s,v.cell s=v'.cell s):v=v':=by
 obtain⟨g,h,i,j⟩:=v;obtain⟨k,n,o,q⟩:=v';obtain rfl:g=k:=funext b;obtain rfl:h=n:=funext c;obtain rfl:i=o:=funext λs=>propext (d s);obtain rfl:j=q:=funext e;rfl
def wJ(h:(vw p).Ad a):p.live a.sl a.gn=true/\p.get a=(vw p).get a:=by
 rcases h with⟨b,d,c,e⟩|⟨b,d,c,e,g⟩
 ·refine⟨Nq b,?_⟩;rw[rN b];unfold Vw.get;rw[ga b];show _=if 0<=a.fd/\a.fd<24 then p.board a.fd else .zero;rw[ga ⟨c,e⟩]
 ·refine⟨To d c.symm,?_⟩;rw[jX b];unfold Vw.get;rw[fw b];rfl
def uv(h:(vw p).Ad a):vw (p.put a w)=(vw p).put a w:=by
 rcases h with⟨b,d,g,i⟩|⟨b,d,g,i,j⟩
 ·rw[Ek b,show(vw p).put a w={vw p with root:=Ar (vw p).root a.fd w} from ga b];refine Of (λr=>?_) (λ_=>rfl) (λ_=>j3) λ_=>rfl;show(if 0<=r/\r<24 then Ar p.board a.fd w r else .zero)=Ar (λr=>if 0<=r/\r<24 then p.board r else .zero) a.fd w r;rw[X9,X9];by_cases e:r=a.fd
  ·rw[ga e,ga e,ga ⟨Zo,Zo⟩]
  ·rw[fw e,fw e]
 ·rw[Kl b,show(vw p).put a w={vw p with cell:=Ar (vw p).cell a.sl (Ar ((vw p).cell a.sl) a.fd w)} from fw b];have c:∀s,Ar p.slot a.sl {p.slot a.sl with cell:=Ar (p.slot a.sl).cell a.fd w} s=if s=a.sl then{p.slot a.sl with cell:=Ar (p.slot a.sl).cell a.fd w} else p.slot s:=λs=>X9 _ _ _ _;refine Of (λ_=>rfl) (λs=>?_) (λs=>?_) λs=>?_
  ·show(Ar p.slot a.sl _ s).AB=(p.slot s).AB;rw[c];split
   ·rename_i e;rw[e]
   ·rfl
  ·show(Ar p.slot a.sl _ s).used=true↔(p.slot s).used=true;rw[c];split
   ·rename_i e;rw[e]
   ·exact j3
  ·show(Ar p.slot a.sl _ s).cell=Ar (λs=>(p.slot s).cell) a.sl _ s;rw[c,X9];split
   ·rfl
   ·rfl
def Sj(h:24<=f):vw (p.put ⟨0,0,f⟩ w)=vw p:=by
 rw[Ek rfl];refine Of (λr=>?_) (λ_=>rfl) (λ_=>j3) λ_=>rfl;show(if 0<=r/\r<24 then Ar p.board f w r else .zero)=if 0<=r/\r<24 then p.board r else .zero;rw[X9];split
 ·rw[fw Zo]
 ·rfl
def wI(h:(p.slot m).used=false){g:Int}:vw {p.BJ with free:=l,slot:=Ar p.slot m ⟨g,true,Ar (λ_=>.zero) 9 (Y6 0)⟩,made:=wr (p.made+1)}=(vw p).take m g:=by
 have b:∀s,Ar p.slot m ⟨g,true,Ar (λ_=>.zero) 9 (Y6 0)⟩ s=if s=m then⟨g,true,Ar (λ_=>.zero) 9 (Y6 0)⟩ else p.slot s:=λs=>X9 _ _ _ _;refine Of (λ_=>rfl) (λs=>?_) (λs=>?_) λs=>?_
 ·show(Ar p.slot m _ s).AB=Ar (λs=>(p.slot s).AB) m g s;rw[b,X9];split<;>rfl
 ·show(Ar p.slot m _ s).used=true↔(s=m\/(p.slot s).used=true);rw[b];split
  ·rename_i e;simp[e]
  ·rename_i e;simp[e]
 ·show(Ar p.slot m _ s).cell=Ar (λs=>(p.slot s).cell) m (λ_=>.zero) s;rw[b,X9];split
  ·funext f;show Ar (λ_=>Xe.zero) 9 (Y6 0) f=.zero;rw[X9];split<;>rfl
  ·rfl
def bZ{F:List Int}:vw {p.BJ with slot:=Ar p.slot s {p.slot s with used:=false},free:=F}=(vw p).drop s:=by
 have b:∀t,Ar p.slot s {p.slot s with used:=false} t=if t=s then{p.slot s with used:=false} else p.slot t:=λt=>X9 _ _ _ _;refine Of (λ_=>rfl) (λt=>?_) (λt=>?_) λt=>?_
 ·show(Ar p.slot s _ t).AB=(p.slot t).AB;rw[b];split
  ·rename_i e;rw[e]
  ·rfl
 ·show(Ar p.slot s _ t).used=true↔(t≠s/\(p.slot t).used=true);rw[b];split
  ·rename_i e;simp[e]
  ·rename_i e;simp[e]
 ·show(Ar p.slot s _ t).cell=(p.slot t).cell;rw[b];split
  ·rename_i e;rw[e]
  ·rfl
structure WK(t:Nat)(v:Vw):Prop where
 rt:∀r,0<=(v.root r).tg/\(v.root r).tg<=t
 ce:∀s f,0<=(v.cell s f).tg/\(v.cell s f).tg<=t
variable{v:Vw}{t:Nat}{x:Xe}
def WK.tgv(h:WK t v)(b:t<=1000000000):Mu v:=⟨λr=>⟨(h.rt r).1,by have:=(h.rt r).2;omega⟩,λs f=>⟨(h.ce s f).1,by have:=(h.ce s f).2;omega⟩⟩
def WK.up{u:Nat}(h:WK t v)(b:t<=u):WK u v:=⟨λr=>⟨(h.rt r).1,by have:=(h.rt r).2;omega⟩,λs f=>⟨(h.ce s f).1,by have:=(h.ce s f).2;omega⟩⟩
def WK.put(h:WK t v)(c:0<=x.tg/\x.tg<=t+1):WK (t+1) (v.put a x):=by
 have c:0<=x.tg/\x.tg<=((t+1:Nat):Int):=⟨c.1,Zo⟩;have b:=h.up (lw t);unfold Vw.put;split
 ·refine⟨λr=>?_,b.ce⟩;show 0<=(Ar v.root a.fd x r).tg/\(Ar v.root a.fd x r).tg<=_;rw[X9];split
  ·exact c
  ·exact b.rt r
 ·refine⟨b.rt,λs f=>?_⟩;show 0<=(Ar v.cell a.sl (Ar (v.cell a.sl) a.fd x) s f).tg/\(Ar v.cell a.sl (Ar (v.cell a.sl) a.fd x) s f).tg<=_;rw[X9];split
  ·rw[X9];split
   ·exact c
   ·exact b.ce _ f
  ·exact b.ce s f
def WK.take(h:WK t v){d:Int}:WK t (v.take s d):=by
 refine⟨h.rt,λq f=>?_⟩;show 0<=(Ar v.cell s (λ_=>Xe.zero) q f).tg/\(Ar v.cell s (λ_=>Xe.zero) q f).tg<=_;rw[X9];split
 ·exact⟨hJ 0,by show(0:Int)<=t;omega⟩
 ·exact h.ce q f
def WK.drop(h:WK t v):WK t (v.drop s):=⟨h.rt,h.ce⟩
def WK.get(h:WK t v)(a:Yc):0<=(v.get a).tg/\(v.get a).tg<=t:=by
 unfold Vw.get;split
 ·exact h.rt _
 ·exact h.ce _ _
end
structure Si(nt:Nat)(p:Pl)(g:EG):Prop where
 c1:(p.board 24).sl=0/\(p.board 24).mark=false/\(p.board 24).nm=(p.board 24).tg+1/\0<=(p.board 24).tg
 a1:∀k b,g.A k=some b->b<=(p.board 24).nm/\(p.board 24).nm<=b+1
 s0:∀k:Nat,k<nt->g.A k=none->(p.board (79+k)).mark=false
 s1:∀k:Nat,k<nt->∀b,g.A k=some b->(p.board (79+k)).mark=true/\(p.board (79+k)).nm<=b
section
variable{nt k:Nat}{p p':Pl}{g g':EG}{s d st:Int}{w x:Xe}
def Si.same(h:Si nt p g)(c:∀r,24<=r->p'.board r=p.board r)(e:g'.A=g.A):Si nt p' g':=by
 refine⟨by rw[c 24 Zd];exact h.c1,λk b a=>?_,λk a q=>?_,λk a b q=>?_⟩
 ·rw[c 24 Zd];rw[e] at a;exact h.a1 k b a
 ·rw[c _ Zo];rw[e] at q;exact h.s0 k a q
 ·rw[c _ Zo];rw[e] at q;exact h.s1 k a b q
def FI{f:Int}(r:Int):(p.put ⟨0,0,f⟩ w).board r=if r=f then w else p.board r:=by rw[Ek rfl];exact X9 _ _ _ _
def Si.enter(h:Si nt p g)(i:w.mark=true/\w.nm<=(p.board 24).nm):Si nt (p.put ⟨0,0,79+k⟩ w) (g.enter k st (p.board 24).nm):=by
 have c:(p.put ⟨0,0,79+k⟩ w).board 24=p.board 24:=(FI _).trans (fw Zo);have f:∀j,(g.enter k st (p.board 24).nm).A j=if j=k then some (p.board 24).nm else g.A j:=λ_=>rfl;refine⟨by rw[c];exact h.c1,λj b a=>?_,λj a q=>?_,λj a b q=>?_⟩
 ·rw[c];rw[f] at a;by_cases e:j=k
  ·rw[ga e] at a;injection a with a;omega
  ·rw[fw e] at a;exact h.a1 j b a
 ·rw[f] at q;by_cases e:j=k
  ·rw[ga e] at q;cases q
  ·rw[fw e] at q;rw[FI,fw Zo];exact h.s0 j a q
 ·rw[f] at q;by_cases e:j=k
  ·rw[ga e] at q;injection q with q;rw[FI,ga Zo];exact⟨i.1,Zo⟩
  ·rw[fw e] at q;rw[FI,fw Zo];exact h.s1 j a b q
def Si.Cw(h:Si nt p g)(i:w.mark=false):Si nt (p.put ⟨0,0,79+k⟩ w) (g.Cw k):=by
 have c:(p.put ⟨0,0,79+k⟩ w).board 24=p.board 24:=(FI _).trans (fw Zo);have f:∀j,(g.Cw k).A j=if j=k then none else g.A j:=λ_=>rfl;refine⟨by rw[c];exact h.c1,λj b a=>?_,λj a q=>?_,λj a b q=>?_⟩
 ·rw[c];rw[f] at a;by_cases e:j=k
  ·rw[ga e] at a;cases a
  ·rw[fw e] at a;exact h.a1 j b a
 ·rw[f] at q;by_cases e:j=k
  ·rw[FI,ga Zo];exact i
  ·rw[fw e] at q;rw[FI,fw Zo];exact h.s0 j a q
 ·rw[f] at q;by_cases e:j=k
  ·rw[ga e] at q;cases q
  ·rw[fw e] at q;rw[FI,fw Zo];exact h.s1 j a b q
def Si.tick(h:Si nt p g)(l:(p.board 24).tg<1000000000)(i:∀k b,g.A k=some b->(p.board 24).nm<=b):Si nt (p.put (root 24) (Y5 (p.board 24) 1)) g/\((p.put (root 24) (Y5 (p.board 24) 1)).board 24).nm=(p.board 24).nm+1:=by
 obtain⟨m,n,o,r⟩:=h.c1;have a:(p.put (root 24) (Y5 (p.board 24) 1)).board 24=Y5 (p.board 24) 1:=(FI _).trans (ga rfl);have e:(Y5 (p.board 24) 1).nm=(p.board 24).nm+1:=FK Zo Zo;have t:(Y5 (p.board 24) 1).tg=(p.board 24).tg+1:=FK Zo Zo;have f:∀j:Nat,(p.put (root 24) (Y5 (p.board 24) 1)).board (79+j)=p.board (79+j):=λj=>(FI _).trans (fw Zo);refine⟨⟨?_,λj b c=>?_,λj c q=>by rw[f];exact h.s0 j c q,λj c b q=>by rw[f];exact h.s1 j c b q⟩,by rw[a];exact e⟩
 ·rw[a];exact⟨rfl,rfl,Zo,Zo⟩
 ·rw[a,e];have:=h.a1 j b c;have:=i j b c;omega
end
def Gv(g:EG)(c:Int)(ss:List Xe):Prop:=∀(k:Nat) (w:Xe),ss[k]?=some w->(w.mark=true->w.nm=c)->∀b,g.A k=some b->c<=b
section
variable{nt k:Nat}{p:Pl}{g g':EG}{c:Int}{ss:List Xe}
def Gv.nil:Gv g c []:=λk w h=>by simp at h
def Gv.snoc(h:Gv g c ss)(i:Si nt p g)(j:ss.length<nt):Gv g c (ss++[p.board (79+ss.length)]):=λk w a d b f=>by
 by_cases e:k<ss.length
 ·rw[ke e] at a;exact h k w a d b f
 ·by_cases l:k=ss.length
  ·subst l;rw[je (Nat.le_refl _)] at a;simp at a;obtain⟨m,n⟩:=i.s1 _ j b f;rw[←a] at d;have:=d m;omega
  ·rw[ik (by simp;omega)] at a;cases a
def Gv.A3(h:Gv g c ss)(a:∀k b,g'.A k=some b->g.A k=some b\/c<=b):Gv g' c ss:=λk w d e b f=>by
 rcases a k b f with q|q
 ·exact h k w d e b q
 ·exact q
def Gv.may(h:Gv g c ss)(a:CM c (ss.map Ei)=true)(i:∀k b,g.A k=some b->k<ss.length):∀k b,g.A k=some b->c<=b:=λk b e=>by
 have f:=i k b e;refine h k ss[k] (gl f) (λd=>?_) b e;unfold CM at a;simp only[jp,qb] at a;have:=a (Ei ss[k]) (n9 (nu f));unfold Ei FG at this;rw[d] at this;simpa using this
end
structure Ig(st:Int)(W:KF)(n nt t:Nat)(p:Pl)(g:EG):Prop where
 eg:AA st (vw p) g
 si:W.L.si (vw p) g
 ck:Si nt p g
 fa:p.fault=false
 ai:∀k b,g.A k=some b->k<nt
 us:∀s,(p.slot s).used=true->1<=s/\s<=(n:Int)
 fr:∀x∈p.free,1<=x/\x<=(n:Int)/\(p.slot x).used=false
 fd:p.free.Nodup
 tg:WK t (vw p)
 ti:(p.board 24).tg<=t
structure TV(W:KF)(a:Nat)(p:Pl)(g:EG)(p':Pl)(g':EG):Prop where
 e:Ev a W.L.ce (vw p) g (vw p') g'
 x:W.L.x a (vw p) g (vw p') g'
 c1:p'.board 24=p.board 24\/(p'.board 24).tg=(p.board 24).tg+1
 c2:(p.board 24).nm<=(p'.board 24).nm
 aa:∀j b,g'.A j=some b->g.A j=some b\/(p.board 24).nm<=b
inductive Sg(st:Int)(W:KF)(k:Nat):Pl->EG->Pl->EG->Prop
 |refl {p g}:Sg st W k p g p g
 |step {p g p' g' p2 g2} (a:Nat) (ha:a=k\/a=k+1000) (h:AA st (vw p) g/\W.L.si (vw p) g) (h':AA st (vw p') g'/\W.L.si (vw p') g') (e:TV W a p g p' g') (r:Sg st W k p' g' p2 g2):Sg st W k p g p2 g2
inductive mF(nt:Nat)(p:Pl)(g:EG)(M:MR):Prop
 |qD (h:M.R.step=12) (h0:M.ss=[]) (ha:M.R.AH=⟨1,root 24,.zero,.zero⟩)
 |mJ (h:M.R.step=13) (hl:M.ss.length<nt) (hi:M.R.index=(M.ss.length:Int)) (ha:M.R.AH=⟨1,⟨0,0,79+(M.ss.length:Int)⟩,.zero,.zero⟩) (hc:IC (p.board 24) M.R.clock) (hm:M.R.clock.nm<=(p.board 24).nm) (hs:Gv g M.R.clock.nm M.ss)
 |K3 (h:M.R.step=14) (ha:M.R.AH=⟨3,root 24,M.R.clock,Y5 M.R.clock 1⟩) (hc:IC (p.board 24) M.R.clock) (hm:M.R.clock.nm<=(p.board 24).nm) (hA:∀k b,g.A k=some b->M.R.clock.nm<=b)
 |vv (h:M.R.step=15) (ha:M.R.AH=⟨1,root 24,.zero,.zero⟩)
 |iJ (d r) (h:M.R.step=16) (hd:M.ds=d::r) (ha:M.R.AH=⟨5,.zero,d.ref,.zero⟩)
def AcOk(c:Xi)(R:Xd):Prop:=
 (c.kind=3/\R.step=1/\R.AH=⟨1,c.AJ,.zero,.zero⟩)\/(c.kind=4/\R.step=1/\R.AH=⟨2,c.AJ,c.AU,c.new⟩)\/(c.kind=5/\R.step=1/\R.AH=⟨3,c.AJ,c.AU,c.new⟩)\/
 (c.kind=6/\R.step=5/\R.AH=⟨1,c.AJ,.zero,.zero⟩)\/(c.kind=8/\R.step=1/\R.AH=⟨4,.zero,.zero,.zero⟩)\/(c.kind=9/\R.step=2/\R.AH=⟨5,.zero,c.AU,.zero⟩)\/(c.kind=10/\R.step=10/\R.AH=⟨1,root 24,.zero,.zero⟩/\R.call=c)
structure rv(st:Int)(nt k:Nat)(V:MV):Prop where
 st:V.st=st
 en:V.M.R.Aa=4
 me:V.M.R.me=k
 th:V.M.R.Ae=nt
structure Mx(p:Pl)(g:EG)(k:Nat)(M:MR):Prop where
 nt:∀m∈M.ns,g.own m.ref.sl=.note (k+1000)/\(p.slot m.ref.sl).AB=m.ref.gn/\g.mO m.ref.sl=m.AF/\m.AF<=(p.board 24).nm
 nd:(M.ns.map (·.ref.sl)).Nodup
 sb:M.ds.Sublist M.ns
 dd:∀d∈M.ds,d.AF+2<=(p.board 24).nm
inductive TW(st:Int)(W:KF)(nt:Nat)(p:Pl)(g:EG)(k:Nat)(V:MV):Prop
 |vX (o) (hd:V.Ac=1) (hs:V.M.R.step=3) (ha:V.M.R.AH=⟨1,root 24,.zero,.zero⟩) (hA:g.A k=none) (hj:V.Bl=some (Xz.new st o)) (ho:N3 st o)
 |vY (o w) (hd:V.Ac=1) (hs:V.M.R.step=2) (ha:V.M.R.AH=⟨2,⟨0,0,79+(k:Int)⟩,.zero,w⟩) (hw:w.mark=true/\w.nm<=(p.board 24).nm) (hsp:V.M.R.span.is=true) (hA:g.A k=none) (hj:V.Bl=some (Xz.new st o)) (ho:N3 st o)
 |wk (J) (hd:V.Ac=2) (hj:V.Bl=some J) (hA:g.A k≠none) (hsp:V.M.R.span.is=true) (hE:W.E (vw p) g k J V.call) (hc:AcOk V.call V.M.R) (hss:V.M.ss=[])
 |rt (J) (hd:V.Ac=2) (hj:V.Bl=some J) (hA:g.A k≠none) (hsp:V.M.R.span.is=true) (hE:W.E (vw p) g k (J.next ⟨.zero,true⟩).1 (J.next ⟨.zero,true⟩).2) (hs:mF nt p g V.M)
 |lv (hd:V.Ac=3) (hs:V.M.R.step=2) (ha:V.M.R.AH=⟨2,⟨0,0,79+(k:Int)⟩,.zero,.zero⟩) (hA:g.A k≠none)
 |sc (hd:V.Ac=4) (hA:g.A k=none) (hs:mF nt p g V.M)
structure TE(st:Int)(W:KF)(nt:Nat)(p:Pl)(g:EG)(k:Nat)(V:MV):Prop where
 b:rv st nt k V
 n:Mx p g k V.M
 s:(V.Ac=0/\V.M.R.step=0/\g.A k=none)\/(V.M.R.step≠0/\TW st W nt p g k V)
structure TP(st:Int)(W:KF)(nt:Nat)(p:Pl)(g:EG)(k:Nat)(J:Xz)(V:MV):Prop where
 b:rv st nt k V
 n:Mx p g k V.M
 d:V.Ac=1\/V.Ac=2
 h0:V.M.R.step=0
 j:V.Bl=some J
 A:g.A k≠none
 sp:V.M.R.span.is=true
 E:W.E (vw p) g k (J.next V.M.R.Az).1 (J.next V.M.R.Az).2
structure TF(st:Int)(nt:Nat)(p:Pl)(g:EG)(k:Nat)(V:MV):Prop where
 b:rv st nt k V
 n:Mx p g k V.M
 d:V.Ac=3\/V.Ac=4
 h0:V.M.R.step=0
 A:g.A k=none
def N9(nt:Nat)(M:MR):Nat:=if M.R.step=12 then nt+3 else if M.R.step=13 then nt-M.ss.length+2 else if M.R.step=14 then 2 else if M.R.step=15 then 1 else 0
def Fz(W:KF)(nt:Nat)(v:Vw)(g:EG)(V:MV):Nat:=
 V.M.ns.length+(if V.Ac = 0 then 0 else if V.M.R.step = 0 then (if V.Ac = 1∨V.Ac = 2 then (match V.Bl with | some J=>W.M v g (J.next V.M.R.Az).1 (J.next V.M.R.Az).2+1 | none=>0) else 0)
  else if V.Ac=1 then W.cf+(if V.M.R.step=3 then 3 else 2)
  else if V.Ac=2 then(match V.Bl with|some J=>(if V.M.R.step<11 then W.M v g J V.call+1 else W.M v g (J.next ⟨.zero,true⟩).1 (J.next ⟨.zero,true⟩).2+1+N9 nt V.M)|none=>0)
  else if V.Ac=3 then 1 else N9 nt V.M)
def Gn(W:KF)(V:MV):Nat:=
 if V.M.R.step=0 then(if V.Ac=1\/V.Ac=2 then(match V.Bl with|some J=>W.lk (J.next V.M.R.Az).1 (J.next V.M.R.Az).2|none=>0) else 0)
 else if V.Ac=1 then 1
 else if V.Ac=2 then(match V.Bl with|some J=>(if V.M.R.step<11 then W.lk J V.call else W.lk (J.next ⟨.zero,true⟩).1 (J.next ⟨.zero,true⟩).2)|none=>0) else 0
section
variable{st:Int}{W:KF}{n nt t k a j:Nat}{p p' p2:Pl}{g g' g2:EG}{V:MV}{M:MR}{J:Xz}{c:Xi}
def Ig.both(h:Ig st W n nt t p g):AA st (vw p) g/\W.L.si (vw p) g:=⟨h.eg,h.si⟩
def Sg.one(h:Ig st W n nt t p g)(h':AA st (vw p') g'/\W.L.si (vw p') g')(e:TV W a p g p' g')(ha:a=k\/a=k+1000:=by first|exact fq rfl|exact db rfl):Sg st W k p g p' g':=.step a ha h.both h' e .refl
def Ig.up{u:Nat}(h:Ig st W n nt t p g)(b:t<=u):Ig st W n nt u p g:=⟨h.eg,h.si,h.ck,h.fa,h.ai,h.us,h.fr,h.fd,h.tg.up b,by have:=h.ti;omega⟩
def mF.A3(h:mF nt p g M)(e:TV W a p g p' g'):mF nt p' g' M:=by
 have f:=e.c2;cases h with
 |qD h m ha=>exact .qD h m ha
 |mJ h o s ha l i u=>exact .mJ h o s ha (l.up e.c1) (mb i f) (u.A3 λk b q=>(e.aa k b q).imp id λq=>mb i q)
 |K3 h ha l i v=>exact .K3 h ha (l.up e.c1) (mb i f) λk b q=>(e.aa k b q).elim (v k b) λq=>mb i q
 |vv h ha=>exact .vv h ha
 |iJ d r h w ha=>exact .iJ d r h w ha
def Mx.A3(h:Mx p g k M)(e:TV W a p g p' g')(i:k+1000≠a):Mx p' g' k M:=by
 refine⟨λm l=>?_,h.nd,h.sb,λd o=>mb (h.dd d o) e.c2⟩;obtain⟨b,q,r,s⟩:=h.nt m l;obtain⟨f,u⟩:=(e.e.pe m.ref.sl (k+1000) i).2 b;refine⟨f,?_,by rw[u];exact r,mb s e.c2⟩;have:=(e.e.pc m.ref.sl (by rw[b];simp) (λj=>by rw[b];simp) (by rw[f];simp)).1;exact(show(p'.slot m.ref.sl).AB=(p.slot m.ref.sl).AB from this).trans q
def TW.A3(z:I9 st W)(h:TW st W nt p g k V)(q:AA st (vw p) g/\W.L.si (vw p) g)(r:AA st (vw p') g'/\W.L.si (vw p') g')(e:TV W a p g p' g')(s:k≠a):TW st W nt p' g' k V:=by
 have b:=e.e.ak k s;cases h with
 |vX o f l ha d m u=>exact .vX o f l ha (by rw[b];exact d) m u
 |vY o w f l ha A i d m u=>exact .vY o w f l ha ⟨A.1,mb A.2 e.c2⟩ i (by rw[b];exact d) m u
 |wk J f m d i v B y=>exact .wk J f m (by rw[b];exact d) i (z.A3 v q.1 r.1 q.2 r.2 e.e e.x s d) B y
 |rt J f m d i v l=>exact .rt J f m (by rw[b];exact d) i (z.A3 v q.1 r.1 q.2 r.2 e.e e.x s d) (l.A3 e)
 |lv f l ha d=>exact .lv f l ha (by rw[b];exact d)
 |sc f d l=>exact .sc f (by rw[b];exact d) (l.A3 e)
def TE.A3(i:I9 st W)(h:TE st W nt p g k V)(q:AA st (vw p) g/\W.L.si (vw p) g)(l:AA st (vw p') g'/\W.L.si (vw p') g')(e:TV W a p g p' g')(f:k≠a)(d:k+1000≠a):TE st W nt p' g' k V:=
 ⟨h.b,h.n.A3 e d,h.s.imp (λh=>⟨h.1,h.2.1,by rw[e.e.ak k f];exact h.2.2⟩) λh=>⟨h.1,h.2.A3 i q l e f⟩⟩
def TE.K'(b:I9 st W)(h:TE st W nt p g k V)(e:Sg st W j p g p' g')(i:k≠j)(l:k<1000)(m:j<1000):TE st W nt p' g' k V:=by
 induction e with
 |refl=>exact h
 |step a ha q d e _ f=>exact f (h.A3 b q d e Zo Zo)
end
section
variable{st:Int}{W:KF}{n nt t k a j:Nat}{p p' p2:Pl}{g g' g2:EG}{V:MV}{M:MR}{J:Xz}{c:Xi}
def WV(st:Int)(W:KF)(nt:Nat)(p:Pl)(g:EG)(k:Nat)(b l:Nat)(V:MV):Prop:=((TE st W nt p g k V/\V.M.R.step≠0)\/∃J,TP st W nt p g k J V)/\Fz W nt (vw p) g V<=b/\Gn W V<=l
theorem Mx.new{R:Xd}(h:Mx p g k M){ss:List Xe}:Mx p g k ⟨R,M.ns,[],ss⟩:=⟨h.nt,h.nd,oq _,λd b=>by cases b⟩
def IF{V':MV}(o:rv st nt k V')(q:Mx p g k V'.M)(r:g.A k≠none)(d:V'.M.R.span.is=true)(e:V'.Ac=2)(f:V'.Bl=some J)(i:V'.call=c)(s:W.E (vw p) g k J c)(m:AcOk c V'.M.R)(u:V'.M.ns.length=V.M.ns.length)(l:V'.M.ss=[]):WV st W nt p g k (V.M.ns.length+W.M (vw p) g J c+1) (W.lk J c) V':=by
 have b:V'.M.R.step≠0/\V'.M.R.step<11:=by
  rcases m with⟨_,h,_⟩|⟨_,h,_⟩|⟨_,h,_⟩|⟨_,h,_⟩|⟨_,h,_⟩|⟨_,h,_⟩|⟨_,h,_⟩<;>rw[h]<;>decide
 subst i;refine⟨fq ⟨⟨o,q,db ⟨b.1,.wk J e f r d s m l⟩⟩,b.1⟩,?_,?_⟩
 ·unfold Fz;rw[e,f,u];simp[b.1,b.2];omega
 ·unfold Gn;rw[e,f];simp[b.1,b.2]
def xM(w:I9 st W)(B:nt<=6)(s:Ig st W n nt t p g)(x:t<=1000000000)(f:rv st nt k V)(q:Mx p g k V.M)(o:g.A k≠none)(l:V.M.R.span.is=true)(u:W.cn (vw p) g<=W.mx)(r:W.E (vw p) g k J c):WV st W nt p g k (V.M.ns.length+W.M (vw p) g J c+1) (W.lk J c) (post V J c):=by
 have v:wr (79+V.M.R.me)=79+(k:Int):=by
  rw[f.me];obtain⟨b,f⟩:=lr.1 o;have:=s.ai k b f;exact FK Zo Zo
 have m:=f.en;have fin:c.kind≠12->post V J c=MV.Ag {V with Bl:=some J} 2 c:=wg;cases w.BJ s.eg s.si o (s.tg.tgv x) u r with
 |done i=>
  have y:post V J c=MV.Ag {V with Bl:=some J,BR:=c.BR} 3 Y7:=by unfold post;rw[i];rfl
  have d:V.M.Ag Y7=⟨Xd.ask {V.M.R.A8 Y7 with span:=.zero} 2 ⟨2,⟨0,0,79+(k:Int)⟩,.zero,.zero⟩,V.M.ns,[],[]⟩:=by
   rw[TH V.M Zd Zd,show V.M.R.Aw Y7=(V.M.R.A8 Y7).Cw [0,1,2,3,4,5,6,7,8] from rfl];unfold Xd.Cw;rw[show(V.M.R.A8 Y7).EU=true by show(V.M.R.Aa==4||V.M.R.Aa==5)=true;rw[m];rfl,show(V.M.R.A8 Y7).span.is=true from l];simp only[iv,px,k9,Bool.and_self,i9];unfold Xd.DV;rw[show(V.M.R.A8 Y7).me=V.M.R.me from rfl,v];rfl
  rw[y];refine⟨fq ⟨⟨⟨f.st,?_,?_,?_⟩,?_,db ⟨?_,.lv rfl ?_ ?_ o⟩⟩,?_⟩,?_,?_⟩;all_goals try (show Xd.Aa (V.M.Ag Y7).R=4;rw[d];exact m)
  ·show Xd.me (V.M.Ag Y7).R=k;rw[d];exact f.me
  ·show Xd.Ae (V.M.Ag Y7).R=nt;rw[d];exact f.th
  ·show Mx p g k (V.M.Ag Y7);rw[d];exact q.new
  ·show Xd.step (V.M.Ag Y7).R≠0;rw[d];show(2:Int)≠0;decide
  ·show Xd.step (V.M.Ag Y7).R=2;rw[d];rfl
  ·show Xd.AH (V.M.Ag Y7).R=_;rw[d];rfl
  ·show Xd.step (V.M.Ag Y7).R≠0;rw[d];show(2:Int)≠0;decide
  ·have:(MV.Ag {V with Bl:=some J,BR:=c.BR} 3 Y7).M=V.M.Ag Y7:=rfl;unfold Fz;rw[this,d];show V.M.ns.length+1<=_;omega
  ·have:(MV.Ag {V with Bl:=some J,BR:=c.BR} 3 Y7).M=V.M.Ag Y7:=rfl;unfold Gn;rw[this,d];exact ie _
 |look i ha h=>
  rcases i with i|i
  ·rw[fin Zo];have d:V.M.Ag c=⟨(V.M.R.A8 c).load 1 c.AJ,V.M.ns,[],[]⟩:=by rw[TH V.M Zo Zo,rh i]
   have e:(MV.Ag {V with Bl:=some J} 2 c).M=V.M.Ag c:=rfl;refine IF ⟨f.st,by rw[e,d];exact m,by rw[e,d];exact f.me,by rw[e,d];exact f.th⟩ (by rw[e,d];exact q.new) o (by rw[e,d];exact l) rfl rfl rfl r (by rw[e,d];exact fq ⟨i,rfl,rfl⟩) (by rw[e,d]) (by rw[e,d])
  ·rw[fin Zo];have d:V.M.Ag c=⟨(V.M.R.A8 c).load 5 c.AJ,V.M.ns,[],[]⟩:=by rw[TH V.M Zo Zo,re i]
   have e:(MV.Ag {V with Bl:=some J} 2 c).M=V.M.Ag c:=rfl;refine IF ⟨f.st,by rw[e,d];exact m,by rw[e,d];exact f.me,by rw[e,d];exact f.th⟩ (by rw[e,d];exact q.new) o (by rw[e,d];exact l) rfl rfl rfl r (by rw[e,d];exact d2 (db (fq ⟨i,rfl,rfl⟩))) (by rw[e,d]) (by rw[e,d])
 |store i=>
  rw[fin Zo];have d:V.M.Ag c=⟨(V.M.R.A8 c).ask 1 ⟨2,c.AJ,c.AU,c.new⟩,V.M.ns,[],[]⟩:=by rw[TH V.M Zo Zo,uW i]
  have e:(MV.Ag {V with Bl:=some J} 2 c).M=V.M.Ag c:=rfl;refine IF ⟨f.st,by rw[e,d];exact m,by rw[e,d];exact f.me,by rw[e,d];exact f.th⟩ (by rw[e,d];exact q.new) o (by rw[e,d];exact l) rfl rfl rfl r (by rw[e,d];exact db (fq ⟨i,rfl,rfl⟩)) (by rw[e,d]) (by rw[e,d])
 |swap i=>
  rw[fin Zo];have d:V.M.Ag c=⟨(V.M.R.A8 c).ask 1 ⟨3,c.AJ,c.AU,c.new⟩,V.M.ns,[],[]⟩:=by rw[TH V.M Zo Zo,rc i]
  have e:(MV.Ag {V with Bl:=some J} 2 c).M=V.M.Ag c:=rfl;refine IF ⟨f.st,by rw[e,d];exact m,by rw[e,d];exact f.me,by rw[e,d];exact f.th⟩ (by rw[e,d];exact q.new) o (by rw[e,d];exact l) rfl rfl rfl r (by rw[e,d];exact d2 (fq ⟨i,rfl,rfl⟩)) (by rw[e,d]) (by rw[e,d])
 |hold i C h=>
  rw[fin Zo];have d:V.M.Ag c=⟨(V.M.R.A8 c).done,V.M.ns,[],[]⟩:=by
   rw[TH V.M Zo Zo,ri i];unfold Xd.hold;rw[show(V.M.R.A8 c).AO=false by show(V.M.R.Aa==2||V.M.R.Aa==3)=false;rw[m];rfl];rfl
  have e:(MV.Ag {V with Bl:=some J} 2 c).M=V.M.Ag c:=rfl;obtain⟨z,D,F⟩:=h;refine⟨db ⟨J,⟨f.st,by rw[e,d];exact m,by rw[e,d];exact f.me,by rw[e,d];exact f.th⟩,by rw[e,d];exact q.new,db rfl,by rw[e,d];rfl,rfl,o,by rw[e,d];exact l,by rw[e,d];exact z⟩,?_,?_⟩
  ·unfold Fz;rw[e,d];show V.M.ns.length+(W.M (vw p) g (J.next ⟨.zero,true⟩).1 (J.next ⟨.zero,true⟩).2+1)<=_;omega
  ·unfold Gn;rw[e,d];show W.lk (J.next ⟨.zero,true⟩).1 (J.next ⟨.zero,true⟩).2<=_;omega
 |alloc i=>
  rw[fin Zo];have d:V.M.Ag c=⟨(V.M.R.A8 c).ask 1 ⟨4,.zero,.zero,.zero⟩,V.M.ns,[],[]⟩:=by
   rw[TH V.M Zo Zo,uX i];unfold Xd.alloc;rw[show(V.M.R.A8 c).dating=false by show(V.M.R.Aa==3||V.M.R.Aa==5)=false;rw[m];rfl];rfl
  have e:(MV.Ag {V with Bl:=some J} 2 c).M=V.M.Ag c:=rfl;refine IF ⟨f.st,by rw[e,d];exact m,by rw[e,d];exact f.me,by rw[e,d];exact f.th⟩ (by rw[e,d];exact q.new) o (by rw[e,d];exact l) rfl rfl rfl r (by rw[e,d];exact d4 (fq ⟨i,rfl,rfl⟩)) (by rw[e,d]) (by rw[e,d])
 |drop i=>
  rw[fin Zo];have d:V.M.Ag c=⟨(V.M.R.A8 c).ask 2 ⟨5,.zero,c.AU,.zero⟩,V.M.ns,[],[]⟩:=by rw[TH V.M Zo Zo,rj i]
  have e:(MV.Ag {V with Bl:=some J} 2 c).M=V.M.Ag c:=rfl;refine IF ⟨f.st,by rw[e,d];exact m,by rw[e,d];exact f.me,by rw[e,d];exact f.th⟩ (by rw[e,d];exact q.new) o (by rw[e,d];exact l) rfl rfl rfl r (by rw[e,d];exact d4 (db (fq ⟨i,rfl,rfl⟩))) (by rw[e,d]) (by rw[e,d])
 |retire i=>
  rw[fin Zo];have d:V.M.Ag c=⟨(V.M.R.A8 c).load 10 (root 24),V.M.ns,[],[]⟩:=by
   unfold MR.Ag;rw[i];show MR.retire ⟨V.M.R.A8 c,V.M.ns,[],[]⟩=_;unfold MR.retire;rw[show(MR.R ⟨V.M.R.A8 c,V.M.ns,[],[]⟩).Aa=4 from m];show MR.wrap ⟨V.M.R.A8 c,V.M.ns,[],[]⟩ (V.M.R.A8 c).Ki=_;unfold Xd.Ki;rw[show(V.M.R.A8 c).Aa=4 from m];rfl
  have e:(MV.Ag {V with Bl:=some J} 2 c).M=V.M.Ag c:=rfl;refine IF ⟨f.st,by rw[e,d];exact m,by rw[e,d];exact f.me,by rw[e,d];exact f.th⟩ (by rw[e,d];exact q.new) o (by rw[e,d];exact l) rfl rfl rfl r (by rw[e,d];exact d4 (db (db ⟨i,rfl,rfl,rfl⟩))) (by rw[e,d]) (by rw[e,d])
def zw(h:TP st W nt p g k J V):Fz W nt (vw p) g V=V.M.ns.length+W.M (vw p) g (J.next V.M.R.Az).1 (J.next V.M.R.Az).2+1/\Gn W V=W.lk (J.next V.M.R.Az).1 (J.next V.M.R.Az).2:=by
 have b:V.Ac≠0:=by rcases h.d with q|q<;>rw[q]<;>decide
 unfold Fz Gn;rw[fw b,ga h.h0,ga h.d,ga h.h0,ga h.d,h.j];exact⟨by simp only;omega,rfl⟩
def oM(f:I9 st W)(i:nt<=6)(o:Ig st W n nt t p g)(r:t<=1000000000)(e:W.cn (vw p) g<=W.mx):∀(m b l:Nat) (V:MV),WV st W nt p g k b l V->WV st W nt p g k b l (MV.Sb m V)
 |0,_,_,_,h=>h
 |m+1,b,l,V,h=>by
  obtain⟨h|⟨J,h⟩,s,u⟩:=h
  ·have v:=Lz h.2;rw[Md v];exact⟨fq h,s,u⟩
  ·have w:V.Ac≠0:=by rcases h.d with q|q<;>rw[q]<;>decide
   rw[WH (SY w h.h0),mD h.j h.d rfl];obtain⟨y,z⟩:=zw h;obtain⟨x,B,C⟩:=xM f i o r h.b h.n h.A h.sp e h.E;exact oM f i o r e m b l _ ⟨x,Zo,Zo⟩
def Ot(i:I9 st W)(m:nt<=6)(o:Ig st W n nt t p g)(r:t<=1000000000)(e:W.cn (vw p) g<=W.mx){b l:Nat}(h:WV st W nt p g k b l V)(f:V.advance.quiet=true):TE st W nt p g k V.advance/\V.advance.M.R.step≠0/\Fz W nt (vw p) g V.advance<=b/\Gn W V.advance<=l:=by
 obtain⟨h|⟨J,h⟩,s,u⟩:=oM i m o r e 16 b l V h
 ·exact⟨h.1,h.2,s,u⟩
 ·have v:V.advance.Ac≠0:=by rcases h.d with q|q<;>rw[show V.advance.Ac=_ from q]<;>decide
  have:=SY v h.h0;rw[show V.advance.quiet=false from this] at f;cases f
def Oq(h:TF st nt p g k V):V.advance={V with Ac:=0}/\TE st W nt p g k V.advance:=by
 have f:V.Ac≠0:=by rcases h.d with q|q<;>rw[q]<;>decide
 have i:V.Hi={V with Ac:=0}:=by
  unfold MV.Hi;rw[show(V.Ac==1||V.Ac==2)=false by rcases h.d with q|q<;>rw[q]<;>rfl];rfl
 have e:V.advance={V with Ac:=0}:=by
  show MV.Sb 16 V=_;rw[WH (SY f h.h0),i,Md (cZ rfl)]
 exact⟨e,by rw[e];exact⟨⟨h.b.st,h.b.en,h.b.me,h.b.th⟩,h.n,fq ⟨rfl,h.h0,h.A⟩⟩⟩
end
