/- Core: QE, QF, QG. -/
import Derived.Test.YtaipogljokblkaaGreatDoorP34
set_option linter.all false
set_option maxRecDepth 100000
set_option maxHeartbeats 8000000
namespace Go.Proofs.YtaipogljokblkaaGreatDoor
open Go Go.RowKit
def Gg{w w':World}{b:Nat}(h:w'.heap[b]?=w.heap[b]?)(o:Nat):w'.cell? ⟨b,o,none⟩=w.cell? ⟨b,o,none⟩:=by
 unfold World.cell?;rw[h]
def OP{w:World}{E:TypeId}{sz n g a b:Nat}{xs:List Value}(h:Own w E sz (.slice (some ⟨g,a,none⟩) n b) n xs)(i:Nat):w.frozen? ⟨g,i,none⟩=false:=by
 rcases h.2 with⟨e,_⟩|⟨k,c,d,A,R,f,j,_⟩
 ·cases e
 ·cases f;exact j.free i
def wB(w:World)(c gh:Nat)(P:Aj)(lab:Nat->Nat)(w':World):Prop:=
 ∃d bv e f g a,DK w' c gh P d bv e f g a/\CI (λb=>lab b<1000) w w'/\∀b,a b<1000->lab b<1000\/w.heap.size<=b
def Aj.queue(P:Aj)(k:Nat)(T:MT)(o:AV):Aj:={P with Av:=P.Av.set k {T with queue:=T.queue++[o],BK:=T.BK+1}}
def jL{w:World}{gp gh:Nat}{P:Aj}{tv bv:B5}{x:List E6}{Fh:List Nat}{Ft:Nat->Nat->Prop}{lab:Nat->Nat}(h:DK w gp gh P tv bv x Fh Ft lab)(he:AT w){k:Nat}{T:MT}(hT:P.Av[k]?=some T)(o:AV)(hf:Hh P.st o)(g0:0<=T.BK)(ax:T.BK<64)(ak:T.queue.length<=100000):
  Kp 9 #[.pointer (some ⟨gp,0,none⟩),.int .i64 (k:Int),.agg o.l.toArray] w λen w'=>en=.returned .nilIface/\wB w gp gh (P.queue k T o) lab w':=by
 have hk:k<P.Av.length:=by
  rcases iw k P.Av.length with h|h
  ·exact h
  ·rw[ik h] at hT;cases hT
 have ab:P.has (k:Int)=true:=by unfold Aj.has;simp;omega
 obtain⟨z,n,p,B⟩:=o
 show Kp _ #[.pointer (some ⟨gp,0,none⟩),.int .i64 (k:Int),.agg #[.int .i64 z,.int .i64 n,.int .i64 p,.int .i64 B]] w _
 obtain⟨g,m,c,rfl,hr,_⟩:=h.Vi hk
 have N:Below w.heap.size w (w.alloc (.cells #[.int .i64 z,.int .i64 n,.int .i64 p,.int .i64 B] 35)):=(fx _ _).alloc (Nat.le_refl _) _
 have HP:=eR (h.cut.below N)
 have HE:=eR (he.below N)
 have HX:=eR (Bk.at_ (w:=w) (g:=w.heap.size) (cs:=#[.int .i64 z,.int .i64 n,.int .i64 p,.int .i64 B]) (t:=35) rfl)
 have HC:=eR N
 have HF:=eR hf
 have ay:=he.lt
 clear h he N hf
 go_enter Tryz.func9,Tryz.ntmps9
 go_wp2
 generalize w.alloc (.cells #[.int .i64 z,.int .i64 n,.int .i64 p,.int .i64 B] 35)=W at*
 have hh:∀w',Below W.heap.size W w'->Kp 24 #[.pointer (some ⟨gp,0,none⟩),.int .i64 (k:Int)] w' (λen X=>en=.returned (.bool true)/\w'=X):=λw' r=>by have:=Ku (HP.out.below r) (k:Int);rwa [ab] at this
 (refine Jc ((λw':World=>Below W.heap.size W w')) Zk Zk ((fx _ _).drew) ?_;(repeat (first|go_big_quiet_skip|(go_big_quiet_want;first|(go_big_quiet_op;go_big_quiet_on)|(apply g7;refine⟨λw' r=>?_,?_⟩;(· ((have q0:=(HP.out.below r).bk.cell 0;simp at q0;have y0:=(HX.out.Af r).cell 0;have y1:=(HX.out.Af r).cell 1;have y2:=(HX.out.Af r).cell 2;have y3:=(HX.out.Af r).cell 3;simp at y0 y1 y2 y3);go_simp;first|done|rfl|exact⟨rfl,rfl⟩|((first|(go_at_call 24;(refine(hh w' r).mono ?_);rintro e X ⟨rfl,rfl⟩;exact⟨rfl,r⟩)|(go_at_call 25;(with_reducible refine(tV HF.out (HE.out.below r)).mono ?_);rintro e X ⟨rfl,j⟩;exact⟨rfl,r.trans (j.mono r.size)⟩)))));go_big_quiet_on;simp only[ZL]))));refine gw ?_;intro w' r)
 have d:=eR (HP.out.below r)
 have H:=eR (HX.out.Af r)
 have I:=eR (HC.out.trans (r.mono HC.out.size))
 have aq:w.heap.size<w'.heap.size:=H.out.lt
 clear HP HE HX HC r hh HF
 generalize w'=s at*
 clear W w'
 obtain⟨g',ar,c',al,az,J⟩:=d.out.Vi hk
 cases al
 have am:=d.out.th k x[k] T (gl hr) hT
 obtain⟨t1,t2,Fv,hv,hq,ad⟩:=am
 have c2:=d.out.bk.cell 2
 simp[B5.v] at c2
 have r1:=J 1 _ rfl;have r2:=J 2 _ rfl
 simp[E6.l,t1] at r1 r2
 have S:=eR (fy t1 (fy t2 (fy hv (fy hq ad))))
 clear t1 t2 hv hq ad J
 go_wp2
 have ae:=S.out.2.2.2.1
 obtain⟨u,O,af,ho,hg,ag⟩:=OO (s.drew.alloc (.cells #[.int .i64 z,.int .i64 n,.int .i64 p,.int .i64 B] 35)) x[k].q.v T.queue (ae.drew.alloc _) ak ⟨z,n,p,B⟩ s.heap.size (Bk.at_ rfl) 22
 obtain⟨D,E,rfl,_⟩:=AN ho
 have e1:=d.out.l0
 have Nt:=d.out.Nt
 have lq:∀b,x[k].q.v.ownBlock=some b->(if b<w.heap.size then lab b else 1000)=4+k:=λb j=>d.out.l4 k b hk ((S.out.2.2.2.2.2 b).2 (db j))
 have lg:(if g<w.heap.size then lab g else 1000)=1:=d.out.l1 g rfl
 have Y:x[k].q.v.ownBlock≠some g:=λe=>by have:=lq g e;omega
 have an:x[k].q.v.ownBlock≠some w.heap.size:=λe=>by have:=lq _ e;rw[fw Zo] at this;omega
 have Z:g<s.heap.size:=d.out.KH.lt rfl
 have X7:Bk O w.heap.size 35 #[.int .i64 z,.int .i64 n,.int .i64 p,.int .i64 B]:=(H.out.drew.alloc _).grown hg (λe=>an e.symm)
 have cg:∀i,O.cell? ⟨g,i,none⟩=s.cell? ⟨g,i,none⟩:=λi=>(Gg (hg.block g (by simp;omega) (λe=>Y e.symm)) i).trans (kg s.drew _ ⟨g,i,none⟩ (by simpa using Z))
 have aa:=(cg (m+k*4+1)).trans r1
 have ah:=(cg (m+k*4+2)).trans r2
 have T7:=d.out.KH.drew.alloc (.cells #[.int .i64 z,.int .i64 n,.int .i64 p,.int .i64 B] 35)
 replace T7:=T7.grown hg (db λe=>Y (by rw[←e];rfl))
 have ef:x.length=P.Av.length:=d.out.len
 rw[ef] at T7
 have f1:=OP T7 (m+k*4+1)
 have HO:=eR (fy ho (fy hg ag))
 clear ho hg ag ae
 generalize ao:(T.queue++[(⟨z,n,p,B⟩:AV)]).length=F at*
 refine Yh (λw'=>Bk w' w.heap.size 35 #[.int .i64 z,.int .i64 n,.int .i64 p,.int .i64 B]/\w'.cell? ⟨g,m+k*4+1,none⟩=some x[k].q.v) 8 Zk ⟨H.out.drew,r1⟩ (λhS=>?_)
 ((try simp only[ZL]);refine vT (fuel:=5) hS [0,1,2,3,4,5] ?_;simp only[Yb,Xv,fs];(repeat (first|go_big_quiet_skip|(go_big_quiet_want;first|(go_big_quiet_op;go_big_quiet_on)|(apply g7;refine⟨λw' L=>?_,?_⟩;(· ((have q0:=L.2;have y0:=L.1.cell 0;have y1:=L.1.cell 1;have y2:=L.1.cell 2;have y3:=L.1.cell 3;simp at y0 y1 y2 y3);go_simp;first|done|rfl|exact⟨rfl,rfl⟩));go_big_quiet_on;simp only[ZL]))));refine gw ?_;(try dsimp only))
 (refine Xn 6 Zk (λK C=>?_);simp only[Xv,fs])
 go_wp2_with fail
 refine C.out _ _ (λ_=>⟨H.out.drew.alloc _,(kg s.drew _ ⟨g,m+k*4+1,none⟩ (by simpa using Z)).trans r1⟩) ?_
 clear C hS
 have hS:=fy (H.out.drew.alloc (.cells #[.int .i64 z,.int .i64 n,.int .i64 p,.int .i64 B] 35)) ((kg s.drew (.cells #[.int .i64 z,.int .i64 n,.int .i64 p,.int .i64 B] 35) ⟨g,m+k*4+1,none⟩ (by simpa using Z)).trans r1)
 (refine Xn 7 Zk (λK C=>?_);simp only[Xv,fs])
 go_wp2_with (at_builtin;refine Yj Zr _ _ _ _ _ _ _ Zr Zr Zr af ?_)
 refine C.out _ _ (λ_=>⟨X7,aa⟩) ?_
 clear C hS
 have hS:=fy X7 aa
 ((refine Xn 8 Zk (λK C=>?_);simp only[Xv,fs]);go_wp2_with fail;refine C.out _ _ (λh=>absurd h Zo) ?_;clear C)
 ((refine Xn 9 Zk (λK C=>?_);simp only[Xv,fs]);go_wp2_with fail;refine C.out _ _ (λh=>absurd h Zo) ?_;clear C)
 (refine Xn 10 Zk (λK C=>?_);simp only[Xv,fs])
 go_wp2
 refine C.out _ _ (λh=>absurd h Zo) ?_
 clear C hS
 refine Yk Zk ?_ _
 rw[←ef] at T7
 have T8:=NO Vj T7 k hr 1 (.slice D F E) {x[k] with q:=⟨D,F,E⟩} rfl Zd
 have T9:=NO Vj T8 k (by rw[jc];exact hr) 2 (.int .i64 (T.BK+1)) {x[k] with q:=⟨D,F,E⟩,BK:=T.BK+1} (by rw[List.getElem_set_self];rfl) Zd
 have f2:=OP T8 (m+k*4+2)
 have av:(O.setCell ⟨g,m+k*4+1,none⟩ (.slice D F E)).cell? ⟨g,m+k*4+2,none⟩=some (.int .i64 T.BK):=(World.cell?_setCell_other (w:=O) (a:=⟨g,m+k*4+1,none⟩) (b:=⟨g,m+k*4+2,none⟩) (v:=.slice D F E) (λh=>by injection h with h1 h2 h3;omega)).trans ah
 have ap:=eR T9
 clear T7 T8 T9 f1 aa ah cg X7
 generalize ai:O.setCell ⟨g,m+k*4+1,none⟩ (.slice D F E)=W8 at*
 go_wp2
 go_ret
 generalize aj:W8.setCell ⟨g,m+k*4+2,none⟩ (.int .i64 (T.BK+1))=W9 at*
 have a0:s.heap.size+1<=O.heap.size:=by have:=HO.out.2.1.size;simpa using this
 have a1:W9.heap.size=O.heap.size:=by rw[←aj,←ai];simp[World.setCell]
 have y:=X2 O g (m+k*4+1) (.slice D F E)
 rw[ai] at y
 have G:=X2 W8 g (m+k*4+2) (.int .i64 (T.BK+1))
 rw[aj] at G
 have a2:O.heap.size<=W8.heap.size:=y.size
 have A5:∀b,b<s.heap.size->b≠g->x[k].q.v.ownBlock≠some b->W9.heap[b]?=s.heap[b]?:=λb j h1 h2=>
  (G.block b Zo (λe=>h1 (by cases e;rfl))).trans ((y.block b Zo (λe=>h1 (by cases e;rfl))).trans ((HO.out.2.1.block b (by simp;omega) (λe=>h2 e.symm)).trans (lp s.drew _ b j)))
 have ub:∀b,(Value.slice D F E).ownBlock=some b->x[k].q.v.ownBlock=some b\/s.heap.size<=b:=λb j=>(HO.out.2.2 b j).imp id λh=>by simp at h;omega
 have Q:∀b c,(if b<w.heap.size then lab b else 1000)=c->c≠1->c≠4+k->b<s.heap.size->W9.heap[b]?=s.heap[b]?:=λb c e c1 c4 j=>A5 b j (λe'=>c1 (by rw[←e,e',lg])) λe'=>c4 (by rw[←e,lq b e'])
 have hu:∀b,(Value.slice D F E).ownBlock=some b->(if b<w.heap.size then lab b else 1000)=4+k\/s.heap.size<=b:=λb j=>(ub b j).imp (lq b) id
 have U:(Value.slice D F E).ownBlock≠some g:=λe=>(ub g e).elim Y λh=>Zo
 have R:∀b,Fv b->(if b<w.heap.size then lab b else 1000)=4+k:=λb j=>d.out.l4 k b hk ((S.out.2.2.2.2.2 b).2 (fq j))
 have V:∀b,Fv b->b<s.heap.size:=S.out.2.2.1.lt
 have KH:=ap.out
 rw[ob,jc,ef] at KH
 obtain⟨a3,aw,p1,p2⟩:=d.out.Ar (w2:=W9) (P':=P.queue k T ⟨z,n,p,B⟩) (bv':=bv) (Fh':=Fh) (ro':=x.set k {x[k] with q:=⟨D,F,E⟩,BK:=T.BK+1}) (F':=λb=>Fv b\/(Value.slice D F E).ownBlock=some b) (T':={T with queue:=T.queue++[⟨z,n,p,B⟩],BK:=T.BK+1}) (r':={x[k] with q:=⟨D,F,E⟩,BK:=T.BK+1}) hk rfl rfl rfl
  (d.out.bk.same (Q gp 0 d.out.l0 Zd Zo d.out.bk.lt)) (by rw[jc,ef];exact KH) (d.out.KE.kept λb j=>Q b 2 (d.out.l2 b j) Zd Zo (d.out.KE.lt j))
  (d.out.hp.same λb j=>Q b 3 (d.out.l3 b j) Zd Zo (d.out.hp.lt b j))
  ⟨rfl,S.out.2.1,Fv,S.out.2.2.1.AL fun b j=>A5 b (V b j) (fun e=>by have:=R b j;rw [e,lg] at this;omega) (S.out.2.2.2.2.1 b j),by show Own W9 _ 4 _ (T.queue++[_]).length _;rw [ao];exact (HO.out.1.grown y (db U)).grown G (db U),
   λb j e=>(ub b e).elim (S.out.2.2.2.2.1 b j) λh=>by have:=V b j;omega,λ_=>j3⟩
  (λi b hi hl j=>Q b (4+i) (d.out.l4 i b hl j) Zo Zo (d.out.dG hl b j)) Zo Zo
  (λb j=>fq (d.out.l2 b j)) (λb j=>fq (d.out.l3 b j)) (λb j=>db (j.elim (λh=>fq (R b h)) (hu b)))
  (λb h2 h3=>by have:=d.out.l2 b h2;have:=d.out.l3 b h3;omega)
  (λb h2 M=>by have a7:=d.out.l2 b h2;exact M.elim (λM=>by have:=R b M;omega) λM=>(hu b M).elim (λh=>Zo) λh=>by have:=d.out.KE.lt h2;omega)
  (λb h3 M=>by have a8:=d.out.l3 b h3;exact M.elim (λM=>by have:=R b M;omega) λM=>(hu b M).elim (λh=>Zo) λh=>by have:=d.out.hp.lt b h3;omega)
 have a9:w.heap.size<=s.heap.size:=I.out.size
 refine⟨rfl,_,_,_,_,_,_,p1,⟨G.os.trans (y.os.trans (HO.out.2.1.os.trans I.out.os)),G.tape.trans (y.tape.trans (HO.out.2.1.tape.trans I.out.tape)),G.output.trans (y.output.trans (HO.out.2.1.output.trans I.out.output)),Zo,λb j hf=>?_⟩,λb j=>?_⟩
 ·refine(A5 b Zo (λe=>hf ?_) λe=>hf ?_).trans (I.out.block b j)
  ·have:=lg;rw[←e,ga j] at this;omega
  ·have:=lq b e;rw[ga j] at this;omega
 ·rcases p2 b j with h|h
  ·by_cases hx:b<w.heap.size
   ·rw[ga hx] at h;exact fq h
   ·exact db Zo
  ·exact db Zo
def PaS(w:World)(gp gh:Nat)(P:Aj)(tv bv:B5)(ro:List E6)(lab:Nat->Nat)(w':World):Prop:=
 ∃Fh Ft a,DK w' gp gh P tv bv ro Fh Ft a/\CI (λb=>lab b<1000) w w'/\∀b,a b<1000->lab b<1000\/w.heap.size<=b
def Aj.Qw(P:Aj)(k:Nat)(T:MT)(V:MV):Aj:={P with Av:=P.Av.set k {T with V:=V}}
section
variable{w w':World}{gp gh:Nat}{P:Aj}{tv bv:B5}{ro:List E6}{Fh:List Nat}{Ft:Nat->Nat->Prop}{lab:Nat->Nat}{k:Nat}{T:MT}
def Zg{b:Type}{l:List b}{k:Nat}{x:b}(h:l[k]?=some x):k<l.length:=by
 rcases iw k l.length with a|a
 ·exact a
 ·rw[ik a] at h;cases h
def DK.upV(h:DK w gp gh P tv bv ro Fh Ft lab)(z:7<=w.heap.size)(C:P.Av[k]?=some T)(H:k<ro.length){V':MV}{p':Pl}{m Fv':Nat->Prop}{Fh':List Nat}
  (hF:∀b,Ft k b↔m b\/ro[k].q.v.ownBlock=some b)(l:∀b,m b->ro[k].q.v.ownBlock≠some b)(I:VB w' ro[k].gv V' Fv')(J:NG w' gh p' Fh')(D:∀b,Fv' b->m b\/b∈Fh\/w.heap.size<=b)(E:∀b∈Fh',m b\/b∈Fh\/w.heap.size<=b)(K:∀b∈Fh',¬Fv' b)
  (j:CI (λb=>m b\/b∈Fh) w w'):PaS w gp gh {P with heap:=p',Av:=P.Av.set k {T with V:=V'}} tv bv ro lab w':=by
 have A:=Zg C
 have Z:=h.Nt
 obtain⟨t1,t2,L,M,t,N,O⟩:=h.th k ro[k] T (gl H) C
 have u:∀b,m b->lab b=4+k:=λb a=>h.l4 k b A ((hF b).2 (fq a))
 have n:∀b,ro[k].q.v.ownBlock=some b->lab b=4+k:=λb a=>h.l4 k b A ((hF b).2 (db a))
 have x:∀b c,lab b=c->c≠3->c≠4+k->b<w.heap.size->w'.heap[b]?=w.heap[b]?:=λb c e Q R a=>j.A5 b a λf=>by
  rcases f with f|f
  ·exact R (by rw[←e,u b f])
  ·exact Q (by rw[←e,h.l3 b f])
 have o:∀b,ro[k].q.v.ownBlock=some b->w'.heap[b]?=w.heap[b]?:=λb a=>j.A5 b (t.lt a) λf=>by
  rcases f with f|f
  ·exact l b f a
  ·have:=h.l3 b f;have:=n b a;omega
 have p:∀b,Fv' b->lab b=3\/lab b=4+k\/w.heap.size<=b:=λb a=>(D b a).elim (λd=>db (fq (u b d))) λd=>d.imp (h.l3 b) db
 have F:∀b∈Fh',lab b=3\/lab b=4+k\/w.heap.size<=b:=λb a=>(E b a).elim (λd=>db (fq (u b d))) λd=>d.imp (h.l3 b) db
 obtain⟨B,r,p1,p2⟩:=h.Ar (w2:=w') (P':={P with heap:=p',Av:=P.Av.set k {T with V:=V'}}) (bv':=bv) (Fh':=Fh') (ro':=ro) (r':=ro[k]) (T':={T with V:=V'}) (F':=λb=>Fv' b\/ro[k].q.v.ownBlock=some b) A rfl Zs rfl
  (h.bk.same (x gp 0 h.l0 Zd Zo h.bk.lt)) (h.KH.kept λb a=>x b 1 (h.l1 b a) Zd Zo (h.KH.lt a)) (h.KE.kept λb a=>x b 2 (h.l2 b a) Zd Zo (h.KE.lt a)) J
  ⟨t1,t2,Fv',I,t.kept o,λb a e=>(D b a).elim (λd=>l b d e) λd=>d.elim (λd=>by have:=h.l3 b d;have:=n b e;omega) λd=>by have:=t.lt e;omega,λ_=>j3⟩
  (λi b hi G a=>x b (4+i) (h.l4 i b G a) Zo Zo (h.dG G b a)) j.size z
  (λb a=>fq (h.l2 b a)) F (λb a=>a.elim (p b) λd=>db (fq (n b d)))
  (λb s y=>by have W:=h.l2 b s;have:=h.KE.lt s;have:=F b y;omega)
  (λb s g=>by have W:=h.l2 b s;have:=h.KE.lt s;exact g.elim (λg=>by have:=p b g;omega) λg=>by have:=n b g;omega)
  (fun b y g=>g.elim (fun g=>K b y g) fun g=>by
   have e4:=n b g;have X:=t.lt g;rcases E b y with d|d|d
   ·exact l b d g
   ·have:=h.l3 b d;omega
   ·omega)
 refine⟨Fh',B,r,p1,⟨j.os,j.tape,j.output,j.size,λb a Y=>j.A5 b a λf=>Y ?_⟩,p2⟩
 rcases f with f|f
 ·have:=u b f;omega
 ·have:=h.l3 b f;omega
def zZ(h:DK w gp gh P tv bv ro Fh Ft lab)(v:AT w)(r:P.Av[k]?=some T)(x:k<ro.length)(o:AV)(i:Hh T.V.st o)(E:T.V.Ac=0)(ok:TR T.V.M)(F:T.V.M.R.step=0)
  (s:Qi (MV.Ag {T.V with op:=o,Bl:=some (Xz.new T.V.st o),BR:=.zero} 1 Zj)):
  Kp 36 #[.pointer (some ⟨ro[k].gv,0,none⟩),.agg o.l.toArray] w λy w'=>y=.returned .nilIface/\PaS w gp gh (P.Qw k T (T.V.GY o)) tv bv ro lab w':=by
 have G:=Zg r
 obtain⟨t1,t2,p,z,X,t,j⟩:=h.th k ro[k] T (gl x) r
 obtain⟨A,H,I,J,K,L,q⟩:=id z
 refine(tM T.V o ro[k].gv A H w I v i E J K L ok F s).mono λy w' N=>?_
 obtain⟨O,p1,p2,m,B,Q,S,Y,C⟩:=N
 have D:∀b,p b->b<w.heap.size:=z.lt
 have e:∀b,p b->lab b=4+k:=λb a=>h.l4 k b G ((j b).2 (fq a))
 have c:CI p w w':=⟨m.os,m.tape,m.output,m.size,λb a i=>m.A5 b a λd=>i ((q b).2 d)⟩
 have u:NG w' gh P.heap Fh:=h.hp.same λb a=>c.A5 b (h.hp.lt b a) λd=>by have:=e b d;have:=h.l3 b a;omega
 have n:p ro[k].gv:=(q _).2 (fq rfl)
 refine⟨p1,h.upV v.lt r x j t (V':=T.V.GY o) (Fv':=λb=>b=ro[k].gv\/B b) ⟨A,O,B,p2,Q,S,λ_=>j3⟩ u (λb a=>?_) (λb a=>db (fq a)) (λb a d=>?_) ⟨c.os,c.tape,c.output,c.size,λb a i=>c.A5 b a λd=>i (fq d)⟩⟩
 ·rcases a with rfl|a
  ·exact fq n
  ·exact(C b a).elim (λg=>fq ((q b).2 (db g))) λg=>db (db g)
 ·have h3:=h.l3 b a;have W:=h.hp.lt b a;rcases d with rfl|d
  ·have:=e _ n;omega
  ·rcases C b d with g|g
   ·have:=e b ((q b).2 (db g));omega
   ·omega
def NJ(h:DK w gp gh P tv bv ro Fh Ft lab)(y:AT w)(q:P.Av[k]?=some T)(z:k<ro.length)(ok:WN T.V P.heap):
  Kp 37 #[.pointer (some ⟨ro[k].gv,0,none⟩),.pointer (some ⟨gh,0,none⟩)] w λA w'=>A=.returned (.tuple #[.agg (T.V.step P.heap).2.2.l.toArray,.nilIface])/\
   PaS w gp gh {P with heap:=(T.V.step P.heap).2.1,Av:=P.Av.set k {T with V:=(T.V.step P.heap).1}} tv bv ro lab w':=by
 have D:=Zg q
 obtain⟨t1,t2,r,E,Y,s,j⟩:=h.th k ro[k] T (gl z) q
 obtain⟨t,u,v,F,G,H,o⟩:=id E
 have g:∀b,r b->lab b=4+k:=λb a=>h.l4 k b D ((j b).2 (fq a))
 have m:∀b,v b->lab b=4+k:=λb a=>g b ((o b).2 (db a))
 have e:r ro[k].gv:=(o _).2 (fq rfl)
 have Z:=h.Nt
 have low:∀b,lab b<1000->7<=b:=λb a=>by
  rcases iw b 7 with d|d
  ·have:=h.low b d;omega
  ·exact d
 have x:RP w t u gh T.V.M T.V.Bl P.heap w (λb=>v b\/b∈Fh\/b<7):=⟨λ_ _=>rfl,v,Fh,G,h.hp,λb a c=>by have:=m b a;have:=h.l3 b c;omega,λb a=>low b (by have:=m b a;omega),λb a=>low b (by have:=h.l3 b a;omega),λ_=>j3⟩
 refine(oQ T.V P.heap ro[k].gv t gh u w w _ y F x (λc=>?_) ok).mono λA w' I=>?_
 ·rcases c with c|c|c
  ·exact H c
  ·have:=g _ e;have:=h.l3 _ c;omega
  ·have:=low _ (by have:=g _ e;omega:lab ro[k].gv<1000);omega
 ·obtain⟨p1,p2,n,J,⟨K,B,L,N,O,Q,R,S,p⟩,C,U⟩:=I;have n2:∀b,7<=b->J b->r b\/b∈Fh\/w.heap.size<=b:=λb i a=>by
   rcases U b a with(d|d|d)|d
   ·exact fq ((o b).2 (db d))
   ·exact db (fq d)
   ·omega
   ·exact db (db d)
  refine⟨p1,h.upV y.lt q z j s (V':=(T.V.step P.heap).1) (Fv':=λb=>b=ro[k].gv\/B b) ⟨t,u,B,p2,N,λc=>C ((p _).2 (fq c)),λ_=>j3⟩ O (λb a=>?_) (λb a=>n2 b (S b a) ((p b).2 (db (fq a)))) (λb a c=>?_) ⟨n.os,n.tape,n.output,n.size,λb a X=>?_⟩⟩
  ·rcases a with rfl|a
   ·exact fq e
   ·exact n2 b (R b a) ((p b).2 (fq a))
  ·rcases c with rfl|c
   ·exact C ((p _).2 (db (fq a)))
   ·exact Q b c a
  ·by_cases i:b<7
   ·exact K b i
   ·refine n.A5 b a λc=>X ?_;rcases c with rfl|c|c|c
    ·exact fq e
    ·exact fq ((o b).2 (db c))
    ·exact db c
    ·exact absurd c i
end
def Vd{a:Type}{l:List a}{k:Nat}{x:a}(h:l[k]?=some x):l.set k x=l:=by
 apply ni;intro i;by_cases e:i=k
 ·subst e;rw[ij (Zg h),h]
 ·rw[jo (λh=>e h.symm)]
section
variable{w w2:World}{gp gh:Nat}{P:Aj}{tv bv u:B5}{ro:List E6}{Fh:List Nat}{Ft:Nat->Nat->Prop}{lab:Nat->Nat}{k:Nat}{T:MT}{x:Yr}
def DK.qI(h:DK w gp gh P tv bv ro Fh Ft lab)(q:7<=w.heap.size)(E:P.Av[k]?=some T)(F:k<ro.length){g a n c:Nat}(A:tv=⟨some ⟨g,a,none⟩,n,c⟩)(j:Nat)(v:Value)(r':E6)(T':MT)(r:r'.l=ro[k].l.set j v)(G:j<4)(s:mQ w r' T' (Ft k)):
  ∃Fh m f,DK (w.setCell ⟨g,a+k*4+j,none⟩ v) gp gh {P with Av:=P.Av.set k T'} tv bv (ro.set k r') Fh m f/\∀b,f b<1000->lab b<1000\/w.heap.size<=b:=by
 have o:=Zg E
 have O:=h.Nt
 have B:n=ro.length:=by have:=h.tvn;rw[A] at this;rw[h.len];exact this
 subst A
 have H:lab g=1:=h.l1 g rfl
 have I:=X2 w g (a+k*4+j) v
 have p:∀b c,lab b=c->c≠1->b<w.heap.size->(w.setCell ⟨g,a+k*4+j,none⟩ v).heap[b]?=w.heap[b]?:=λb c e J d=>I.block b d λK=>J (by cases K;rw[←e,H])
 have C:=h.KH
 rw[show(⟨some ⟨g,a,none⟩,n,c⟩:B5).v=.slice (some ⟨g,a,none⟩) n c from rfl,B] at C
 have t2:=NO Vj C k F j v r' r G
 rw[jc] at t2
 obtain⟨m,f,p1,p2⟩:=h.Ar (w2:=w.setCell ⟨g,a+k*4+j,none⟩ v) (P':={P with Av:=P.Av.set k T'}) (bv':=bv) (Fh':=Fh) (ro':=ro.set k r') (r':=r') (T':=T') (F':=Ft k) o rfl rfl rfl
  (h.bk.same (p gp 0 h.l0 Zd h.bk.lt)) (by rw[jc,show(⟨some ⟨g,a,none⟩,n,c⟩:B5).v=.slice (some ⟨g,a,none⟩) n c from rfl,B];exact t2) (h.KE.kept λb d=>p b 2 (h.l2 b d) Zd (h.KE.lt d)) (h.hp.same λb d=>p b 3 (h.l3 b d) Zd (h.hp.lt b d))
  (s.AL λb d=>p b (4+k) (h.l4 k b o d) Zo (h.dG o b d))
  (λi b S D d=>p b (4+i) (h.l4 i b D d) Zo (h.dG D b d)) (by simp[World.setCell]) q
  (λb d=>fq (h.l2 b d)) (λb d=>fq (h.l3 b d)) (λb d=>db (fq (h.l4 k b o d)))
  (λb t y=>by have:=h.l2 b t;have:=h.l3 b y;omega) (λb t z=>by have:=h.l2 b t;have:=h.l4 k b o z;omega) (λb y z=>by have:=h.l3 b y;have:=h.l4 k b o z;omega)
 exact⟨Fh,m,f,p1,p2⟩
def DK.Ap(h:DK w gp gh P tv bv ro Fh Ft lab)(o:7<=w.heap.size)(p:P.Av[k]?=some T)(B:k<ro.length){l:List Yr}(C:Bk w2 gp 74 #[.int .i64 P.st,.pointer (some ⟨gh,0,none⟩),tv.v,u.v])(D:Own w2 42 10 u.v l.length (rows Yr.l l))
  (E:∀b,b<w.heap.size->b≠gp->bv.v.ownBlock≠some b->w2.heap[b]?=w.heap[b]?)(q:w.heap.size<=w2.heap.size)(F:∀b,u.v.ownBlock=some b->bv.v.ownBlock=some b\/w.heap.size<=b):
  ∃Fh g d,DK w2 gp gh {P with Ap:=l} tv u ro Fh g d/\∀b,d b<1000->lab b<1000\/w.heap.size<=b:=by
 have j:=Zg p
 have L:=h.Nt
 have f:∀b c,lab b=c->c≠0->c≠2->b<w.heap.size->w2.heap[b]?=w.heap[b]?:=λb c e G H a=>E b a (λr=>G (by rw[←e,r,h.l0])) λr=>H (by rw[←e,h.l2 b r])
 have s:=h.th k ro[k] T (gl B) p
 have y:∀b,u.v.ownBlock=some b->lab b=2\/w.heap.size<=b:=λb a=>(F b a).imp (h.l2 b) id
 obtain⟨g,d,p1,p2⟩:=h.Ar (w2:=w2) (P':={P with Ap:=l}) (bv':=u) (Fh':=Fh) (ro':=ro) (r':=ro[k]) (T':=T) (F':=Ft k) j (Vd p).symm Zs rfl
  C (h.KH.kept λb a=>f b 1 (h.l1 b a) Zd Zd (h.KH.lt a)) D (h.hp.same λb a=>f b 3 (h.l3 b a) Zd Zd (h.hp.lt b a))
  (s.AL λb a=>f b (4+k) (h.l4 k b j a) Zo Zo (h.dG j b a))
  (λi b R A a=>f b (4+i) (h.l4 i b A a) Zo Zo (h.dG A b a)) q o
  y (λb a=>fq (h.l3 b a)) (λb a=>db (fq (h.l4 k b j a)))
  (λb z m=>by have S:=h.l3 b m;have:=h.hp.lt b m;have:=y b z;omega) (λb z n=>by have U:=h.l4 k b j n;have:=h.dG j b n;have:=y b z;omega) (λb m n=>by have:=h.l3 b m;have:=h.l4 k b j n;omega)
 exact⟨Fh,g,d,p1,p2⟩
def DK.ra(h:DK w gp gh P tv bv ro Fh Ft lab)(d:7<=w.heap.size)(m:P.Av[k]?=some T)(n:k<ro.length)(o:Own w2 42 10 u.v (P.Ap++[x]).length (rows Yr.l (P.Ap++[x])))(c:w.grownBy w2 bv.v.ownBlock)(i:Gi w bv.v u.v):
  ∃Fh f a,DK (w2.setCell ⟨gp,3,none⟩ u.v) gp gh {P with Ap:=P.Ap++[x]} tv u ro Fh f a/\∀b,a b<1000->lab b<1000\/w.heap.size<=b:=by
 have p:=h.bk.lt
 have nb:bv.v.ownBlock≠some gp:=λe=>by have:=h.l2 gp e;rw[h.l0] at this;omega
 have q:u.v.ownBlock≠some gp:=λe=>(i gp e).elim nb λy=>Zo
 have g:=X2 w2 gp 3 u.v
 refine h.Ap d m n (Y1 ((h.bk.grown c (λe=>nb e.symm)).Ez 3 u.v) Zk) (o.grown g (db q)) (λb j r s=>(g.block b (ib j c.size) λe=>r (by cases e;rfl)).trans (c.block b j λe=>s e.symm)) (gb c.size g.size) i
def DK.qz(h:DK w gp gh P tv bv ro Fh Ft lab)(j:7<=w.heap.size)(r:P.Av[k]?=some T)(s:k<ro.length){g a n c:Nat}(f:bv=⟨some ⟨g,a,none⟩,n,c⟩)(i:Nat)(t:i<P.Ap.length):
  ∃Fh l d,DK (w.setCell ⟨g,a+i*10+6,none⟩ (.bool true)) gp gh {P with Ap:=P.Ap.set i {P.Ap[i] with real:=true}} tv bv ro Fh l d/\∀b,d b<1000->lab b<1000\/w.heap.size<=b:=by
 have p:n=P.Ap.length:=by
  obtain⟨A,B,m,_⟩:=AN h.KE;rw[f] at m;unfold B5.v at m;injection m
 subst f
 have o:=X2 w g (a+i*10+6) (.bool true)
 have l2:lab g=2:=h.l2 g rfl
 have y:g≠gp:=λe=>by have:=h.l0;rw[e] at l2;omega
 have q:=h.KE
 rw[show(⟨some ⟨g,a,none⟩,n,c⟩:B5).v=.slice (some ⟨g,a,none⟩) n c from rfl,p] at q
 have t2:=NO WB q i t 6 (.bool true) {P.Ap[i] with real:=true} rfl Zd
 refine h.Ap j r s (h.bk.grown o (λe=>y (by cases e;rfl))) (by rw[jc] at t2 ⊢;rw[show(⟨some ⟨g,a,none⟩,n,c⟩:B5).v=.slice (some ⟨g,a,none⟩) n c from rfl,p];exact t2) (λb f C z=>o.block b f λe=>z (by cases e;rfl)) o.size λb f=>fq f
end
