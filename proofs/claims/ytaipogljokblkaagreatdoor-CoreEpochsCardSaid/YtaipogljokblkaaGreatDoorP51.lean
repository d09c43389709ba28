/- Core: QM, QJ, QL, DcW, QS, QT, QU, FeD. -/
import Derived.Deep.DeepMust
import Derived.Test.YtaipogljokblkaaGreatDoorP50
set_option linter.all false
set_option maxRecDepth 100000
set_option maxHeartbeats 8000000
namespace Go.Proofs.YtaipogljokblkaaGreatDoor
open Go Go.RowKit
open Go.Proofs.YtaipogljokblkaaGreatDoor.Fn (Dt)
def WI{p:Pl}(h:p.free=[]):p.act Pl.A1=((p.act Pl.A1).1,⟨.zero,false⟩):=by
 refine pn rfl ?_;show(Pl.alloc _ _).2=_;unfold Pl.alloc;simp[h];rfl
def TC{wb:World}{gh:Nat}{p:Pl}{w:World}{F:Nat->Prop}(h:PH wb gh p w F)(ok:K2 p)(B:p.free=[]):
  Kp 45 #[.pointer (some ⟨gh,0,none⟩)] w λm w'=>(∃s q,m=.returned (.iface s (.pointer (some q))))/\CI F w w'/\∃F':Nat->Prop,PH wb gh (p.act Pl.A1).1 w' F'/\∀b,F' b->F b\/w.heap.size<=b:=by
 have d:=Td h ok Pl.A1 rfl (WI B)
 simp only[Xr.l,Xe.l,Xe.zero] at d
 have d:Kp 42 #[.pointer (some ⟨gh,0,none⟩),.agg #[.int .i64 4,.int .i64 0,.int .i64 0,.int .i64 0,.int .i64 0,.int .i64 0,.int .i64 0,.int .i64 0,.bool false,.int .i64 0,.int .i64 0,.int .i64 0,.int .i64 0,.bool false]] w λm w'=>m=.returned (.tuple #[.agg #[.int .i64 0,.int .i64 0,.int .i64 0,.int .i64 0,.bool false,.bool false],.nilIface])/\CI F w w'/\∃F':Nat->Prop,PH wb gh (p.act Pl.A1).1 w' F'/\∀b,F' b->F b\/w.heap.size<=b:=d
 go_enter Tryz.func45,Tryz.ntmps45
 go_wp2_with fail
 refine d.mono ?_
 rintro e k ⟨rfl,u,C,v,y⟩
 have g:=eR v
 have i:=eR (fy u y)
 obtain⟨⟨n,_⟩,_⟩:=v
 have D:Bk (k.alloc (.cells #[.int .i64 0,.int .i64 0,.int .i64 0,.int .i64 0,.bool false,.bool false] 108)) k.heap.size 108 #[.int .i64 0,.int .i64 0,.int .i64 0,.int .i64 0,.bool false,.bool false]:=Bk.at_ rfl
 have j:=(fx k.heap.size k).alloc (Nat.le_refl _) (.cells #[.int .i64 0,.int .i64 0,.int .i64 0,.int .i64 0,.bool false,.bool false] 108)
 have z:=eR (n.below j)
 have E:=n.lt
 clear d h n u y
 go_wp2_with (first|(refine vM D ?_;intro I a;have G:=a.bk.cell 5;simp at G;have o:=eR (z.out.low (λx J=>a.grown.block x (by simp;omega) (λe=>by injection e with e;omega)) (gb z.out.lt a.grown.size));have c:=eR (a.below j (Nat.le_refl _));clear a;obtain⟨s,q,r⟩:=o.out.full)|(go_at_call 31;refine(Dt _ _ _ _).mono ?_;rintro e w' ⟨rfl,rfl⟩))
 go_ret
 exact⟨⟨_,_,rfl⟩,AR i.out.1 (Cx (F:=λ_=>False) (c.out.alloc c.out.size _)) (λ_ h=>h.elim),C,g.out.AL λb H=>(c.out.alloc c.out.size _).block b (g.out.lt b H),i.out.2⟩
def Qt{wb:World}{gh:Nat}{p:Pl}{w:World}{F:Nat->Prop}(h:PH wb gh p w F)(ok:K2 p)(B:p.free=[]):
  Kp 46 #[.pointer (some ⟨gh,0,none⟩)] w λm w'=>(∃s q,m=.returned (.iface s (.pointer (some q))))/\CI F w w'/\∃F':Nat->Prop,PH wb gh (p.act Pl.A1).1 w' F'/\∀b,F' b->F b\/w.heap.size<=b:=by
 have d:=Td h ok Pl.A1 rfl (WI B)
 simp only[Xr.l,Xe.l,Xe.zero] at d
 have d:Kp 42 #[.pointer (some ⟨gh,0,none⟩),.agg #[.int .i64 4,.int .i64 0,.int .i64 0,.int .i64 0,.int .i64 0,.int .i64 0,.int .i64 0,.int .i64 0,.bool false,.int .i64 0,.int .i64 0,.int .i64 0,.int .i64 0,.bool false]] w λm w'=>m=.returned (.tuple #[.agg #[.int .i64 0,.int .i64 0,.int .i64 0,.int .i64 0,.bool false,.bool false],.nilIface])/\CI F w w'/\∃F':Nat->Prop,PH wb gh (p.act Pl.A1).1 w' F'/\∀b,F' b->F b\/w.heap.size<=b:=d
 go_enter Tryz.func46,Tryz.ntmps46
 go_wp2_with fail
 refine d.mono ?_
 rintro e k ⟨rfl,u,C,v,y⟩
 have g:=eR v
 have i:=eR (fy u y)
 obtain⟨⟨n,_⟩,_⟩:=v
 have D:Bk (k.alloc (.cells #[.int .i64 0,.int .i64 0,.int .i64 0,.int .i64 0,.bool false,.bool false] 108)) k.heap.size 108 #[.int .i64 0,.int .i64 0,.int .i64 0,.int .i64 0,.bool false,.bool false]:=Bk.at_ rfl
 have j:=(fx k.heap.size k).alloc (Nat.le_refl _) (.cells #[.int .i64 0,.int .i64 0,.int .i64 0,.int .i64 0,.bool false,.bool false] 108)
 have z:=eR (n.below j)
 have E:=n.lt
 clear d h n u y
 go_wp2_with (first|(refine vM D ?_;intro I a;have G:=a.bk.cell 5;simp at G;have o:=eR (z.out.low (λx J=>a.grown.block x (by simp;omega) (λe=>by injection e with e;omega)) (gb z.out.lt a.grown.size));have c:=eR (a.below j (Nat.le_refl _));clear a;obtain⟨s,q,r⟩:=o.out.full)|(go_at_call 31;refine(Dt _ _ _ _).mono ?_;rintro e w' ⟨rfl,rfl⟩))
 go_ret
 exact⟨⟨_,_,rfl⟩,AR i.out.1 (Cx (F:=λ_=>False) (c.out.alloc c.out.size _)) (λ_ h=>h.elim),C,g.out.AL λb H=>(c.out.alloc c.out.size _).block b (g.out.lt b H),i.out.2⟩
def VA(st:Int)(w:World)(H:AT w)(U:st=2\/st=4):Kp 22 #[.int .i64 st,.int .i64 0] w λV w'=>(∃u q,V=.returned (.tuple #[.pointer none,.iface u (.pointer (some q))]))/\Below w.heap.size w w':=by
 have h:0<=1024:=by decide
 have hz:=H.lt;go_enter Tryz.func22,Tryz.ntmps22;go_wp2_with fail;refine(PR _).mono ?_;rintro e W ⟨rfl,l⟩;have HB:=eR l.below;have E:=eR (H.below l.below);clear l H;go_wp2_with fail;refine(Nn 85 0 Zd h _).mono ?_;rintro e w2 ⟨I,X,rfl,P,hF,d⟩;replace E:=eR (E.out.below d);have v:w.heap.size<=W.heap.size:=HB.out.size;replace HB:=eR (HB.out.trans (d.mono HB.out.size));have c:=eR (PH.start (wb:=w) E.out (λb j=>HB.out.block b Zo) P λb d=>by have:=hF b d;omega);have n:=eR (λb (j:b∈X)=>gb v (hF b j));clear d P E hF v;go_wp2_with fail;refine(W0 _).mono ?_;rintro e w3 ⟨rfl,l⟩;replace HB:=eR (HB.out.trans (l.below.mono HB.out.size));replace c:=eR (c.out.AL λb j=>l.below.block b (c.out.lt b j));clear l;go_wp2_with fail;refine(RC _).mono ?_;rintro e Y ⟨rfl,l⟩;replace HB:=eR (HB.out.trans (l.below.mono HB.out.size));replace c:=eR (c.out.AL λb j=>l.below.block b (c.out.lt b j));clear l;go_wp2_with fail;refine(FM 24 0 0 1 c.out (Po 0 h) Zd (by show(24:Int)<((85:Nat):Int);decide)).mono ?_;rintro e o ⟨rfl,Q,G,R,S⟩;have J:w.heap.size<=Y.heap.size:=HB.out.size;have x:Hid (CI (λb=>b<7) w o):=eR (AR (Cx HB.out) Q λb j=>j.elim (λh=>db (n.out b h)) fq);replace n:Hid (∀b,G b->b<7\/w.heap.size<=b):=eR λb j=>(S b j).elim (λh=>h.elim (λh=>db (n.out b h)) fq) λh=>db Zo;replace c:Hid (PH w I (Pl.begun 0) o G):=eR R;have y:w.heap.size<=o.heap.size:=x.out.size;have T:Bk (o.alloc (.cells #[.int .i64 0,.int .i64 0,.int .i64 0,.int .i64 0,.bool false,.bool false] 108)) o.heap.size 108 #[.int .i64 0,.int .i64 0,.int .i64 0,.int .i64 0,.bool false,.bool false]:=Bk.at_ rfl;have k:=(fx o.heap.size o).alloc (Nat.le_refl _) (.cells #[.int .i64 0,.int .i64 0,.int .i64 0,.int .i64 0,.bool false,.bool false] 108);clear Q R S HB J;rcases U with Z|s4
 ·subst Z;go_wp2_with (refine vM T ?_;intro z g;have a:=eR (fy g.grown g.size);clear g);have m:Hid (PH w I (Pl.begun 0) z G):=eR (c.out.AL λb d=>(a.out.1.block b (by have:=c.out.lt b d;have:=k.size;omega) (λe=>by cases e;have:=c.out.lt _ d;omega)).trans (k.block b (c.out.lt b d)));have i:Hid (CI (λb=>b<7) w z):=eR (AR (AR x.out (Cx (F:=λ_=>False) k) (λ_ h=>h.elim)) (F1:=λb=>b=o.heap.size) ⟨a.out.1.os,a.out.1.tape,a.out.1.output,a.out.1.size,λb d K=>a.out.1.block b d (λe=>K (by cases e;rfl))⟩ (λb e=>by rw[e];exact db y));refine(TC m.out (Ma 0 h) rfl).mono ?_;rintro e L ⟨⟨u,q,rfl⟩,B,M,C,D⟩;have p:=eR C;have r:Hid (CI (λb=>b<7) w L):=eR (AR i.out B n.out);have s:Hid (∀b,M b->b<7\/w.heap.size<=b):=eR λb j=>(D b j).elim (n.out b) λh=>db (by have:=i.out.size;omega);clear C B D m i n c x;go_wp2_with fail;go_ret2;obtain⟨N,p1,p2,O⟩:=LG p.out r.out s.out;exact⟨⟨u,q,rfl⟩,O⟩
 ·subst s4;go_wp2_with (refine vM T ?_;intro z g;have a:=eR (fy g.grown g.size);clear g);have m:Hid (PH w I (Pl.begun 0) z G):=eR (c.out.AL λb d=>(a.out.1.block b (by have:=c.out.lt b d;have:=k.size;omega) (λe=>by cases e;have:=c.out.lt _ d;omega)).trans (k.block b (c.out.lt b d)));have i:Hid (CI (λb=>b<7) w z):=eR (AR (AR x.out (Cx (F:=λ_=>False) k) (λ_ h=>h.elim)) (F1:=λb=>b=o.heap.size) ⟨a.out.1.os,a.out.1.tape,a.out.1.output,a.out.1.size,λb d K=>a.out.1.block b d (λe=>K (by cases e;rfl))⟩ (λb e=>by rw[e];exact db y));refine(Qt m.out (Ma 0 h) rfl).mono ?_;rintro e L ⟨⟨u,q,rfl⟩,B,M,C,D⟩;have p:=eR C;have r:Hid (CI (λb=>b<7) w L):=eR (AR i.out B n.out);have s:Hid (∀b,M b->b<7\/w.heap.size<=b):=eR λb j=>(D b j).elim (n.out b) λh=>db (by have:=i.out.size;omega);clear C B D m i n c x;go_wp2_with fail;go_ret2;obtain⟨N,p1,p2,O⟩:=LG p.out r.out s.out;exact⟨⟨u,q,rfl⟩,O⟩
def V9(st eng most:Int)(n:Nat)(w:World)(h:AT w)(m:1<=st)(o:st<=5)(p:1<=eng)(r:eng<=5)(D:1<=n)(E:n<=6)(s:1<=most)(u:most<=64)(v:st=2\/st=4):
  Kp 8 #[.agg #[.int .i64 st,.int .i64 eng,.int .i64 (n:Int),.int .i64 0,.int .i64 most]] w λx w'=>(∃i q,x=.returned (.tuple #[.pointer none,.iface i (.pointer (some q))]))/\Below w.heap.size w w':=by
 have j:=eR (Bk.at_ (w:=w) (cs:=#[.int .i64 st,.int .i64 eng,.int .i64 (n:Int),.int .i64 0,.int .i64 most]) (t:=32) rfl)
 have d:=eR ((fx w.heap.size w).alloc (Nat.le_refl _) (.cells #[.int .i64 st,.int .i64 eng,.int .i64 (n:Int),.int .i64 0,.int .i64 most] 32))
 have k:=eR (h.below d.out)
 have y:=eR h.lt
 clear h
 go_enter Tryz.func8,Tryz.ntmps8
 go_wp2_with fail
 refine(Rn st eng n 0 most _ m o p r Zo Zo Zo Zo s u).mono ?_
 rintro e G ⟨rfl,g⟩
 have a:=eR (j.out.Af g.below)
 have c:=eR (k.out.below g.below)
 have b:=eR (d.out.trans (g.below.mono d.out.size))
 clear j k d g
 have z:=a.out.cell 0;have B:=a.out.cell 3
 simp at z B
 go_wp2_with fail
 refine(VA st _ c.out v).mono ?_
 rintro e H ⟨⟨i,q,rfl⟩,l⟩
 have C:=eR (b.out.trans (l.mono b.out.size))
 clear a c b l
 go_wp2_with fail
 go_ret2
 exact⟨⟨i,q,rfl⟩,C.out⟩
def bK(st eng most:Int)(n:Nat)(w:World)(j:AT w)(u:1<=st)(v:st<=5)(x:1<=eng)(y:eng<=5)(z:1<=n)(B:n<=6)(C:1<=most)(D:most<=64)(E:st=2\/st=4)(A d:Option Go.Addr)(c g on h:Nat):
  Kp 13 #[.agg #[.int .i64 st,.int .i64 eng,.int .i64 (n:Int),.int .i64 0,.int .i64 most,.slice A on c,.slice d h g]] w λF w'=>F=.returned (.pointer none)/\Below w.heap.size w w':=by
 have a:=(fx w.heap.size w).alloc (Nat.le_refl _) (.cells #[.int .i64 st,.int .i64 eng,.int .i64 (n:Int),.int .i64 0,.int .i64 most,.slice A on c,.slice d h g] 47)
 have b:=eR (Bk.at_ (w:=w) (cs:=#[.int .i64 st,.int .i64 eng,.int .i64 (n:Int),.int .i64 0,.int .i64 most,.slice A on c,.slice d h g]) (t:=47) rfl)
 have k:=eR (j.below a)
 have i:=eR a
 clear j a
 go_enter Tryz.func13,Tryz.ntmps13
 have l:=b.out.cell 0;have m:=b.out.cell 1;have o:=b.out.cell 2;have p:=b.out.cell 3;have r:=b.out.cell 4
 simp at l m o p r
 go_wp2_with fail
 refine(V9 st eng most n _ k.out u v x y z B C D E).mono ?_
 rintro e I ⟨⟨J,q,rfl⟩,s⟩
 have G:=eR (i.out.trans (s.mono i.out.size))
 clear b k i s l m o p r
 go_wp2_with fail
 go_ret
 exact⟨rfl,G.out⟩
end Go.Proofs.YtaipogljokblkaaGreatDoor
namespace Go.Proofs.YtaipogljokblkaaGreatDoor.Fn
open Go Go.RowKit
def PC(s:ByteArray)(w:World)(hs:s.size<=140737488351232):
  Kp 12 #[.string s] w (eQ s w):=by
 have Q:∀k,Jl s k<256:=IW s
 have q0:=Q 0
 have q1:=Q 1
 have q2:=Q 2
 have q3:=Q 3
 have q4:=Q 4
 have q5:=Q 5
 clear Q
 go_enter Tryz.func12,Tryz.ntmps12
 go_wp2_with fail
 have D:DW w _ s 0 #[.int .i64 0,.int .i64 0,.int .i64 0,.int .i64 0,.int .i64 0,.slice none 0 0,.slice none 0 0]:=⟨(((Bk.at_ rfl).alloc _).alloc _),by rw[iZ];exact((Bk.at_ Zs).alloc _),Bk.at_ Zs,(((fx _ _).alloc (Nat.le_refl _) _).alloc Zs _).alloc (by simp;omega) _⟩
 refine(Fc s 0 _ _ D.r).mono ?_
 rintro e w1 ⟨rfl,b⟩
 have B:=D.next ⟨rfl,b⟩
 clear D b
 have f0:=B.x.cell 0
 have g0:=B.x.free 0
 simp at f0
 go_wp2_with fail
 have D1:=B.Ez 0 (.int .i64 (CU s))
 clear B f0 g0
 refine(Fc s 1 _ _ D1.r).mono ?_
 rintro e w2 ⟨rfl,b⟩
 have C:=D1.next ⟨rfl,b⟩
 clear D1 b
 have f0:=C.x.cell 1
 have g0:=C.x.free 1
 simp at f0
 go_wp2_with fail
 have D2:=C.Ez 1 (.int .i64 (TB s))
 clear C f0 g0
 refine(Fc s 2 _ _ D2.r).mono ?_
 rintro e w3 ⟨rfl,b⟩
 have E:=D2.next ⟨rfl,b⟩
 clear D2 b
 have f0:=E.x.cell 2
 have g0:=E.x.free 2
 simp at f0
 go_wp2_with fail
 have D3:=E.Ez 2 (.int .i64 (EP s))
 clear E f0 g0
 refine(Fc s 3 _ _ D3.r).mono ?_
 rintro e w4 ⟨rfl,b⟩
 have F:=D3.next ⟨rfl,b⟩
 clear D3 b
 have f0:=F.x.cell 3
 have g0:=F.x.free 3
 simp at f0
 go_wp2_with fail
 have D4:=F.Ez 3 (.int .i64 (Ld s))
 clear F f0 g0
 refine(Fc s 4 _ _ D4.r).mono ?_
 rintro e w5 ⟨rfl,b⟩
 have u:=D4.next ⟨rfl,b⟩
 clear D4 b
 have f0:=u.x.cell 4
 have g0:=u.x.free 4
 simp at f0
 have f1:=u.x.cell 0
 simp at f1
 go_wp2_with fail
 have D5:=u.Ez 4 (.int .i64 (NV s))
 clear u f0 g0 f1
 refine(kP (CU s) _ (by unfold CU;omega) (by unfold CU;omega)).mono ?_
 rintro e w6 ⟨rfl,rfl⟩
 have ag:=D5.x.lt
 have D6:=D5.more ((fx _ _).alloc (Nat.le_refl _) (.cells ((BO (CU s)).map (Value.int .i64)).toArray 3))
 have l:Bk ((w5.setCell ⟨w.heap.size+2,4,none⟩ (.int .i64 (NV s))).alloc (.cells (Ts s) 3)) w5.heap.size 3 (Ts s):=Bk.at_ (by simp[World.setCell])
 simp[World.setCell] at ag
 clear D5
 go_wp2_with fail
 refine(Fc s 5 _ _ D6.r).mono ?_
 rintro e w7 ⟨rfl,b⟩
 have D7:=D6.next ⟨rfl,b⟩
 have R:=l.grown (t:=3) b.2.1 (by simp;omega)
 clear D6 l b
 generalize w5.heap.size=kb at*
 have ah:=R.lt
 have L:L1 w w7 s kb 6 0 (.slice none 0 0):=⟨D7,R,⟨rfl,.inl ⟨rfl,rfl⟩⟩,ag⟩
 clear D7 R ah
 go_wp2_with fail
 go_loopw [49] (λi wr=>∃(k:Nat) (v:Value),k<=dN s/\i=.int .i64 k/\L1 w wr s kb (6+4*k) k v) (λi _=>dN s-(intOf i).toNat)
 case atStart=>exact⟨0,_,ie _,rfl,L⟩
 case round=>
  obtain⟨k,v,hk,rfl,L⟩:=hrel
  by_cases S:k<dN s
  ·have a3:(k:Int)<(Jl s 5:Int)%65:=by unfold dN at S;omega
   have QY:1<=EP s:=by unfold EP;omega
   have ar:EP s<=6:=by unfold EP;omega
   have b6:=IW s (6+4*k);have c2:=L.th;have au:¬EP s=0:=Zo;go_wp2_with fail;go_region_held3 (λg=>g.cell? ⟨w.heap.size+1+1,2,none⟩=some (.int .i64 (EP s))) (first|go_keep|exact ai|exact c2)
    ((go_at_call 28;refine(Fc s (6+4*k) _ _ L.d.r.drew).mono ?_;rintro e z ⟨rfl,b⟩;have L8:=L.drew.next ⟨rfl,b⟩;have ai:=L8.th))
   clear b;have a7:1<=(BO (CU s)).length:=by
    have T:CU s=1\/CU s=2\/CU s=3\/CU s=4\/CU s=5:=by unfold CU;omega
    rcases T with e|e|e|e|e<;>rw[e]<;>decide
   have a8:(BO (CU s)).length<=3:=by
    have T:CU s=1\/CU s=2\/CU s=3\/CU s=4\/CU s=5:=by unfold CU;omega
    rcases T with e|e|e|e|e<;>rw[e]<;>decide
   go_wp2_with fail;refine(Fc s (6+4*k+1) _ _ L8.d.r).mono ?_;rintro e w9 ⟨rfl,b⟩;have L9:=L8.next ⟨rfl,b⟩;clear b L8 ai c2;have c3:=L9.kind (Jl s (6+4*k+1));have b7:=IW s (6+4*k+1);have m7:Jl s (6+4*k+1)%(BO (CU s)).length<(BO (CU s)).length:=oy _ Zo;go_wp2_with fail;clear c3 m7;refine(Fc s (6+4*k+1+1) _ _ L9.d.r).mono ?_;rintro e a9 ⟨rfl,b⟩;have U:=L9.next ⟨rfl,b⟩;clear b L9;have b8:=IW s (6+4*k+1+1);go_wp2_with fail;refine(Fc s (6+4*k+1+1+1) _ _ U.d.r).mono ?_;rintro e ba ⟨rfl,b⟩;have G:=U.next ⟨rfl,b⟩;clear b U;have b9:=IW s (6+4*k+1+1+1);have e5:=G.ops;have e0:=G.st;obtain⟨i0,V,W,Y,Z⟩:=og tE;have bb:k<65:=by unfold dN at S;omega
   go_wp2_with fail;refine Yh (λg=>g.cell? ⟨w.heap.size+1+1,5,none⟩=some v/\g.cell? ⟨w.heap.size+1+1,0,none⟩=some (.int .i64 (CU s))) 15 Zk ⟨e5,e0⟩ (λc=>?_);(refine Bm (i:=0) Zk Zo rfl Zk Zk Zk (λ_ _ _ _ h=>h) c ?_;apply g7;apply fy;(refine fq ⟨Zr,?_⟩;intro g a;obtain⟨m,n⟩:=a;go_simp;rfl);simp only[Act.put,List.setIfInBounds_toArray,List.set_cons_succ,List.set_cons_zero]);(refine Bm (i:=1) Zk Zo rfl Zk Zk Zk (λ_ _ _ _ h=>h) c ?_;apply g7;apply fy;(refine fq ⟨Zr,?_⟩;intro g a;obtain⟨m,n⟩:=a;go_simp;rfl);simp only[Act.put,List.setIfInBounds_toArray,List.set_cons_succ,List.set_cons_zero]);(refine Bm (i:=2) Zk Zo rfl Zk Zk Zk (λ_ _ _ _ h=>h) c ?_;apply g7;apply fy;(refine fq ⟨Zr,?_⟩;intro g a;obtain⟨m,n⟩:=a;go_simp;rfl);simp only[Act.put,List.setIfInBounds_toArray,List.set_cons_succ,List.set_cons_zero]);(refine Bm (i:=3) Zk Zo rfl Zk Zk Zk (λ_ _ _ _ h=>h) c ?_;apply g7;apply fy;(refine fq ⟨Zr,?_⟩;intro g a;obtain⟨m,n⟩:=a;go_simp;rfl);simp only[Act.put,List.setIfInBounds_toArray,List.set_cons_succ,List.set_cons_zero]);(refine Bm (i:=4) Zk Zo rfl Zk Zk Zk (λ_ _ _ _ h=>h) c ?_;apply g7;apply fy;(refine fq ⟨Zr,?_⟩;intro g a;obtain⟨m,n⟩:=a;go_simp;rfl);simp only[Act.put,List.setIfInBounds_toArray,List.set_cons_succ,List.set_cons_zero]);(refine Bm (i:=5) Zk Zo rfl Zk Zk Zk (λ_ _ _ _ h=>h) c ?_;apply g7;apply fy;(refine fq ⟨Zr,?_⟩;intro g a;obtain⟨m,n⟩:=a;go_simp;rfl);simp only[Act.put,List.setIfInBounds_toArray,List.set_cons_succ,List.set_cons_zero]);(refine Bm (i:=6) Zk Zo rfl Zk Zk Zk (λ_ _ _ _ h=>h) c ?_;apply g7;apply fy;(refine fq ⟨Zr,?_⟩;intro g a;obtain⟨m,n⟩:=a;go_simp;rfl);simp only[Act.put,List.setIfInBounds_toArray,List.set_cons_succ,List.set_cons_zero]);(refine Bm (i:=7) Zk Zo rfl Zk Zk Zk (λ_ _ _ _ h=>h) c ?_;apply g7;apply fy;(refine fq ⟨Zr,?_⟩;intro g a;obtain⟨m,n⟩:=a;go_simp;rfl);simp only[Act.put,List.setIfInBounds_toArray,List.set_cons_succ,List.set_cons_zero]);(refine Bm (i:=8) Zk Zo rfl Zk Zk Zk (λ_ _ _ _ h=>h) c ?_;apply g7;apply fy;(refine fq ⟨Zr,?_⟩;intro g a;obtain⟨m,n⟩:=a;go_simp;rfl);simp only[Act.put,List.setIfInBounds_toArray,List.set_cons_succ,List.set_cons_zero]);(refine Bm (i:=9) Zk Zo rfl Zk Zk Zk (λ_ _ _ _ h=>h) c ?_;apply g7;apply fy;(refine fq ⟨Zr,?_⟩;intro g a;obtain⟨m,n⟩:=a;go_simp;rfl);simp only[Act.put,List.setIfInBounds_toArray,List.set_cons_succ,List.set_cons_zero]);(refine ES (i:=10) rfl Zk (λK l=>?_));go_wp2_with (go_at_call 30;refine(tU (CU s) (KR (CU s) (Jl s (6+4*k+1))) (Jl s (6+4*k+1+1)) (Jl s (6+4*k+1+1+1)) _ Zo Zo Zo Zo).mono ?_;rintro e p ⟨rfl,aj⟩;have q:=G.drew.more aj;have aa:=q.ops;have ab:=q.st;have a4:=q.kk.lt);refine l.out _ _ (λ_=>⟨aa,ab⟩) ?_;clear l c;have c:=(⟨aa,ab⟩:p.cell? ⟨w.heap.size+1+1,5,none⟩=some v/\p.cell? ⟨w.heap.size+1+1,0,none⟩=some (.int .i64 (CU s)));(refine Bm (i:=11) Zk Zo rfl Zk Zk Zk (λ_ _ _ _ h=>h) c ?_;apply g7;apply fy;(refine fq ⟨Zr,?_⟩;intro g a;obtain⟨m,n⟩:=a;go_simp;rfl);simp only[Act.put,List.setIfInBounds_toArray,List.set_cons_succ,List.set_cons_zero]);(refine ES (i:=12) rfl Zk (λK l=>?_));go_wp2;have N:∀o:Obj,(p.alloc o).cell? ⟨w.heap.size+1+1,5,none⟩=some v/\(p.alloc o).cell? ⟨w.heap.size+1+1,0,none⟩=some (.int .i64 (CU s)):=λo=>⟨(kg p o _ (by have:=q.kb;simp;omega)).trans aa,(kg p o _ (by have:=q.kb;simp;omega)).trans ab⟩;refine l.out _ _ (λ_=>N _) ?_;clear l c;(refine ES (i:=13) rfl Zk (λK l=>?_));refine wpList_append_lies _ Zr _ _ _ Zr (kb+1) 91 i0 _ 5 40 Tryz.underlying44 V W Y Z rfl Zo v k (D0 (Fm s k)) Zr (q.own.alloc _) ⟨p.heap.size,0,none⟩ 1 1 (Ou s (6+4*k)).cells Zr Zr (World.news_of_block (cs:=(Ou s (6+4*k)).cells.toArray) (t:=91) (fr:=(0,0)) (heap_alloc_new p _)) (by simp[De.cells,Value.oneCell']) Zo (by simp only[maxLen];omega) Zo (by simp;omega) (p.heap.size+1) Zs ?_;intro gg av ak H P aw ax;obtain⟨al,am,fz⟩:=q.XC _ P;go_wp2;refine l.out _ _ (λ_=>⟨al,am⟩) ?_;clear l N;have c:=(⟨al,am⟩:ak.cell? ⟨w.heap.size+1+1,5,none⟩=some v/\ak.cell? ⟨w.heap.size+1+1,0,none⟩=some (.int .i64 (CU s)));(refine Bm (i:=14) Zk Zo rfl Zk Zk Zk (λ_ _ _ _ h=>h) c ?_;apply g7;apply fy;(refine fq ⟨Zr,?_⟩;intro g a;obtain⟨m,n⟩:=a;go_simp;rfl);simp only[Act.put,List.setIfInBounds_toArray,List.set_cons_succ,List.set_cons_zero]);(refine ES (i:=15) rfl Zk (λK l=>?_));go_wp2;refine l.out _ _ (λh=>absurd h Zo) ?_;clear l c;refine Yk Zk ?_ _;have Ln:=q.push _ H P Zo;clear q G L;go_wp2;go_roundw
   case rel=>exact⟨k+1,_,Zo,by go_num,Ln⟩
   case measure=>simp[intOf];omega
  ·have ay:k=dN s:=Zo;subst ay;have M0:=L.two;have az:¬((dN s:Nat):Int)<(Jl s 5:Int)%65:=by unfold dN;omega
   clear L;go_wp2_with fail;clear az;go_loopw [] (λwr=>∃(j:Nat) (I:Option Addr) (J:Nat),j<=dP s/\L2 w wr s kb (6+4*dN s+j) j v (.slice I j J)) (λwr=>Rx wr (w.heap.size+1));case atStart=>exact⟨0,none,0,ie _,M0⟩
   case round=>
    obtain⟨j,I,J,hj,M⟩:=hrel;have m4:=M.left;have m5:=M.EZ;have m6:=M.th;have QY:1<=EP s:=by unfold EP;omega
    have ar:EP s<=6:=by unfold EP;omega
    have au:¬EP s=0:=Zo;by_cases S:6+4*dN s+j<s.size
    ·have a0:(rest s (6+4*dN s+j)).toList.isEmpty=false:=Jf (by rw[M7];omega);by_cases h4:j<4096
     ·have a1:(j:Int)<4096:=Zo;have b6:=IW s (6+4*dN s+j);go_wp2_with fail;refine Yh (λg=>g.cell? ⟨w.heap.size+1+1,6,none⟩=some (.slice I j J)/\g.cell? ⟨w.heap.size+1+1,2,none⟩=some (.int .i64 (EP s))) 11 Zk ⟨m5,m6⟩ (λc=>?_);(refine Bm (i:=0) Zk Zo rfl Zk Zk Zk (λ_ _ _ _ h=>h) c ?_;apply g7;apply fy;(refine fq ⟨Zr,?_⟩;intro g a;obtain⟨m,n⟩:=a;go_simp;rfl);simp only[Act.put,List.setIfInBounds_toArray,List.set_cons_succ,List.set_cons_zero]);(refine Bm (i:=1) Zk Zo rfl Zk Zk Zk (λ_ _ _ _ h=>h) c ?_;apply g7;apply fy;(refine fq ⟨Zr,?_⟩;intro g a;obtain⟨m,n⟩:=a;go_simp;rfl);simp only[Act.put,List.setIfInBounds_toArray,List.set_cons_succ,List.set_cons_zero]);(refine Bm (i:=3) Zk Zo rfl Zk Zk Zk (λ_ _ _ _ h=>h) c ?_;apply g7;apply fy;(refine fq ⟨Zr,?_⟩;intro g a;obtain⟨m,n⟩:=a;go_simp;rfl);simp only[Act.put,List.setIfInBounds_toArray,List.set_cons_succ,List.set_cons_zero]);(refine Bm (i:=4) Zk Zo rfl Zk Zk Zk (λ_ _ _ _ h=>h) c ?_;apply g7;apply fy;(refine fq ⟨Zr,?_⟩;intro g a;obtain⟨m,n⟩:=a;go_simp;rfl);simp only[Act.put,List.setIfInBounds_toArray,List.set_cons_succ,List.set_cons_zero]);(refine Bm (i:=5) Zk Zo rfl Zk Zk Zk (λ_ _ _ _ h=>h) c ?_;apply g7;apply fy;(refine fq ⟨Zr,?_⟩;intro g a;obtain⟨m,n⟩:=a;go_simp;rfl);simp only[Act.put,List.setIfInBounds_toArray,List.set_cons_succ,List.set_cons_zero]);(refine Bm (i:=6) Zk Zo rfl Zk Zk Zk (λ_ _ _ _ h=>h) c ?_;apply g7;apply fy;(refine fq ⟨Zr,?_⟩;intro g a;obtain⟨m,n⟩:=a;go_simp;rfl);simp only[Act.put,List.setIfInBounds_toArray,List.set_cons_succ,List.set_cons_zero]);(refine ES (i:=2) rfl Zk (λK l=>?_));go_wp2_with (go_at_call 28;refine(Fc s (6+4*dN s+j) _ _ M.d.r.drew).mono ?_;rintro e z ⟨rfl,b⟩;have y:=M.drew.next ⟨rfl,b⟩;have ad:=y.EZ;have ae:=y.th);refine l.out _ _ (λ_=>⟨ad,ae⟩) ?_;clear l c b;have c:=(⟨ad,ae⟩:z.cell? ⟨w.heap.size+1+1,6,none⟩=some (.slice I j J)/\z.cell? ⟨w.heap.size+1+1,2,none⟩=some (.int .i64 (EP s)));(refine Bm (i:=7) Zk Zo rfl Zk Zk Zk (λ_ _ _ _ h=>h) c ?_;apply g7;apply fy;(refine fq ⟨Zr,?_⟩;intro g a;obtain⟨m,n⟩:=a;go_simp;rfl);simp only[Act.put,List.setIfInBounds_toArray,List.set_cons_succ,List.set_cons_zero]);(refine ES (i:=8) rfl Zk (λK l=>?_));go_wp2;have an:∀o:Obj,(z.alloc o).cell? ⟨w.heap.size+1+1,6,none⟩=some (.slice I j J)/\(z.alloc o).cell? ⟨w.heap.size+1+1,2,none⟩=some (.int .i64 (EP s)):=λo=>⟨(kg z o _ (by have:=y.kb;have:=y.kl;simp;omega)).trans ad,(kg z o _ (by have:=y.kb;have:=y.kl;simp;omega)).trans ae⟩;refine l.out _ _ (λ_=>an _) ?_;clear l c;(refine ES (i:=9) rfl Zk (λK l=>?_));obtain⟨i0,V,W,Y,Z⟩:=og Tu;have bc:=y.kl;refine wpList_append_lies _ Zr _ _ _ Zr (kb+1) 3 i0 _ 1 8 Tryz.underlying45 V W Y Z rfl Zo (.slice I j J) j (BF (Dr s j)) Zr (y.VE.alloc _) ⟨z.heap.size,0,none⟩ 1 1 [.int .i64 (MC s (EP s) (dN s) j)] Zr Zr (World.news_of_block (cs:=#[.int .i64 (MC s (EP s) (dN s) j)]) (t:=3) (fr:=(0,0)) (heap_alloc_new z _)) (by simp[Value.oneCell']) Zo (by simp only[maxLen];omega) Zo (by simp;omega) (z.heap.size+1) Zs ?_;intro gg av w9 af ao a5 a6;obtain⟨ap,aq,fz⟩:=y.XC _ ao;go_wp2;refine l.out _ _ (λ_=>⟨ap,aq⟩) ?_;clear l an;have c:=(⟨ap,aq⟩:w9.cell? ⟨w.heap.size+1+1,6,none⟩=some (.slice I j J)/\w9.cell? ⟨w.heap.size+1+1,2,none⟩=some (.int .i64 (EP s)));(refine Bm (i:=10) Zk Zo rfl Zk Zk Zk (λ_ _ _ _ h=>h) c ?_;apply g7;apply fy;(refine fq ⟨Zr,?_⟩;intro g a;obtain⟨m,n⟩:=a;go_simp;rfl);simp only[Act.put,List.setIfInBounds_toArray,List.set_cons_succ,List.set_cons_zero]);(refine ES (i:=11) rfl Zk (λK l=>?_));go_wp2;refine l.out _ _ (λh=>absurd h Zo) ?_;clear l c;refine Yk Zk ?_ _;have Mn:=y.push _ af ao;have a2:=M.Rx;clear y M;go_wp2;go_roundw
      case rel=>exact⟨j+1,_,_,by unfold dP;omega,Mn⟩
      case measure=>rw[Mn.Rx,a2];omega
     ·obtain rfl:j=dP s:=by unfold dP at hj ⊢;omega
      have a1:¬((dP s:Nat):Int)<4096:=Zo;((obtain⟨A0,c0,rfl⟩:=Rq M.own);have O:=M.d.o;have X:=M.d.x;have o0:=O.cell 0;have o1:=O.cell 1;have o2:=O.cell 2;have o3:=O.cell 3;have o4:=O.cell 4;have o5:=O.cell 5;have o6:=O.cell 6;have x0:=X.cell 0;have x1:=X.cell 1;have x3:=X.cell 3;have x4:=X.cell 4;have x5:=X.cell 5;simp[Ec] at o0 o1 o2 o3 o4 o5 o6 x0 x1 x3 x4 x5;have fo:=O.free;go_wp2_with fail;refine js (v:=.agg #[.int .i64 (CU s),.int .i64 (TB s),.int .i64 (EP s),.int .i64 (Ld s),.int .i64 (NV s),.slice A0 (dN s) c0,.slice I (dP s) J]) (by simp[results,Tryz.results12,go_sem,o0,o1,o2,o3,o4,o5,o6]) rfl (M.out _ _ _ _ _ _ _))
    ·have a0:(rest s (6+4*dN s+j)).toList.isEmpty=true:=by rw[IH _ _ Zo,Go.ByteArray.toList_eq];rfl
     obtain rfl:j=dP s:=by unfold dP at hj ⊢;omega
     ((obtain⟨A0,c0,rfl⟩:=Rq M.own);have O:=M.d.o;have X:=M.d.x;have o0:=O.cell 0;have o1:=O.cell 1;have o2:=O.cell 2;have o3:=O.cell 3;have o4:=O.cell 4;have o5:=O.cell 5;have o6:=O.cell 6;have x0:=X.cell 0;have x1:=X.cell 1;have x3:=X.cell 3;have x4:=X.cell 4;have x5:=X.cell 5;simp[Ec] at o0 o1 o2 o3 o4 o5 o6 x0 x1 x3 x4 x5;have fo:=O.free;go_wp2_with fail;refine js (v:=.agg #[.int .i64 (CU s),.int .i64 (TB s),.int .i64 (EP s),.int .i64 (Ld s),.int .i64 (NV s),.slice A0 (dN s) c0,.slice I (dP s) J]) (by simp[results,Tryz.results12,go_sem,o0,o1,o2,o3,o4,o5,o6]) rfl (M.out _ _ _ _ _ _ _))
end Go.Proofs.YtaipogljokblkaaGreatDoor.Fn
namespace Go.Proofs.YtaipogljokblkaaGreatDoor
open Go Go.RowKit
def MW(s:ByteArray):Aj:=(Aj.fresh (Fn.CU s) (Fn.TB s) (Fn.NV s) (Fn.EP s).toNat (Fn.Ld s).toNat (Fn.EP s).toNat).fill (Fn.dec s).ops
def bare(s:ByteArray):Prop:=(Fn.CU s=2\/Fn.CU s=4)/\Fn.Ld s=0
def DO(s:ByteArray):(1<=Fn.CU s/\Fn.CU s<=5)/\(1<=Fn.TB s/\Fn.TB s<=5)/\(1<=Fn.EP s/\Fn.EP s<=6)/\(0<=Fn.Ld s/\Fn.Ld s<=255)/\(1<=Fn.NV s/\Fn.NV s<=64):=by
 have a:=IW s 3;refine⟨Fn.uC s,?_,?_,?_,?_⟩
 ·unfold Fn.TB;omega
 ·unfold Fn.EP;omega
 ·unfold Fn.Ld;omega
 ·unfold Fn.NV;omega
def TA(s:ByteArray):(Fn.dec s).ops.length<=64:=by
 show(Fn.Fm s (Fn.dN s)).length<=64;rw[Fn.HY];unfold Fn.dN;omega
def lV(s:ByteArray)(a:¬bare s)(b:Fn.TB s=2\/Fn.TB s=4):GI (Fn.CU s) (Fn.Ld s).toNat (Fn.EP s).toNat 0 (MW s):=by
 obtain⟨⟨d,e⟩,⟨f,g⟩,⟨i,j⟩,⟨k,l⟩,_⟩:=DO s;refine GI.fill _ _ (Pp (λh=>?_) b Zo Zo) λx c=>(Fn.LU x c).2.2;rcases mv (Fn.Ld s).toNat with h0|h0
 ·exact absurd ⟨h,Zo⟩ a
 ·exact h0
def bM(s:ByteArray)(w:World)(o:AT w)(j:7<=w.heap.size)(A d:Option Go.Addr)(c g:Nat)(q:Fn.Sl w w.heap.size 5 A (Fn.dec s).ops.length (Fn.D0 (Fn.dec s).ops))(p:¬bare s)(r:Fn.TB s=2\/Fn.TB s=4):
  Kp 13 #[(Fn.dec s).v A c d g] w λu w'=>∃i gh,u=.returned (.pointer (some ⟨i,0,none⟩))/\PW w w' i gh (Fn.CU s) (Fn.Ld s).toNat (Fn.EP s).toNat 0 (MW s):=by
 obtain⟨⟨x,y⟩,⟨z,B⟩,⟨R,S⟩,⟨C,T⟩,⟨D,E⟩⟩:=DO s
 have F:=lV s p r
 obtain⟨n,k⟩:∃n:Nat,Fn.EP s=n:=⟨_,(jm Zo).symm⟩
 obtain⟨ns,a⟩:∃ns:Nat,Fn.Ld s=ns:=⟨_,(jm C).symm⟩
 have G:Fn.CU s=2\/Fn.CU s=4->1<=ns:=λh=>by
  rcases mv ns with h0|h0
  ·exact absurd ⟨h,Zo⟩ p
  ·exact h0
 have H:∀t∈(Fn.dec s).ops,0<=t.AW/\t.AW<(n:Int)/\Hh (Fn.CU s) (Ns t.op):=λt I=>by rw[←k];exact Fn.LU t I
 have J:=RY (Fn.CU s) (Fn.TB s) (Fn.NV s) n ns w o x y z B Zo Zo Zo D E G (Fn.dec s).ops A d c g (Fn.dec s).EZ.length q (TA s) H
 have K:(Fn.dec s).v A c d g=.agg #[.int .i64 (Fn.CU s),.int .i64 (Fn.TB s),.int .i64 (n:Int),.int .i64 (ns:Int),.int .i64 (Fn.NV s),.slice A (Fn.dec s).ops.length c,.slice d (Fn.dec s).EZ.length g]:=by rw[←k,←a];rfl
 rw[K]
 refine J.mono ?_
 rintro e U ⟨i,gh,L,bv,M,N,O,l,rfl,P,b,m⟩
 refine⟨i,gh,rfl,⟨L,bv,M,N,O,l,?_,m⟩,F,o.below b,b,j⟩
 have Q:MW s=(Aj.fresh (Fn.CU s) (Fn.TB s) (Fn.NV s) n ns n).fill (Fn.dec s).ops:=by
  unfold MW;rw[k,a,kq,kq]
 rw[Q]
 exact P
end Go.Proofs.YtaipogljokblkaaGreatDoor
namespace Go.Proofs.YtaipogljokblkaaGreatDoor
open Go Go.RowKit
def Lj:ByteArray:={data:=#[0,1,1,9,1,2,0,0,0,4,1,1]}
def QO:Aj:=Aj.AI 8 (MW Lj) 2
def eX:¬bare Lj:=λh=>by
 rcases h.1 with h|h
 ·exact absurd h Zd
 ·exact absurd h Zd
def eW:∀k,k<2->(Aj.AI 8 (MW Lj) (k+1)).idle k=true
 |0,_=>Zk
 |1,_=>Zk
 |_+2,h=>Zo
def Ul:QO.Ap.length=12:=Zk
def Kc:(rows Yr.l QO.Ap)[1]?=some (.bool true)/\(rows Yr.l QO.Ap)[117]?=some (.bool true)/\(rows Yr.l QO.Ap)[118]?=some (.int .i64 1)/\(rows Yr.l QO.Ap)[119]?=some (.int .i64 4):=
 ⟨Zk,Zk,Zk,Zk⟩
def wH:(Fn.EP Lj).toNat=2:=Zk
def mZ(A a:Option Addr)(c b:Nat):(Fn.dec Lj).v A c a b=.agg #[.int .i64 1,.int .i64 2,.int .i64 2,.int .i64 9,.int .i64 2,.slice A 2 c,.slice a 0 b]:=Zk
def eV(Q:La)(w:World)(B:AT w):Kp 7 #[] w λC w'=>C=.returned (.bool true)/\Below w.heap.size w w':=by
 have K:=Fn.PC Lj w Zd;have L:=eR B;have D:=B.lt;clear B;go_enter Tryz.func7,Tryz.ntmps7;go_wp2_with fail;refine K.mono ?_;rintro e l ⟨A,c,s,u,rfl,M,E,x⟩;rw[mZ];have m:=(fx l.heap.size l).alloc (Nat.le_refl _) (.cells #[.int .i64 1,.int .i64 2,.int .i64 2,.int .i64 9,.int .i64 2,.slice A 2 c,.slice s 0 u] 47);have n:=eR ((L.out.below x).below m);have a:=eR (x.trans (m.mono x.size));have F:=eR (Bk.at_ (w:=l) (g:=l.heap.size) (cs:=#[.int .i64 1,.int .i64 2,.int .i64 2,.int .i64 9,.int .i64 2,.slice A 2 c,.slice s 0 u]) (t:=47) rfl);have d:=bM Lj _ n.out (gb D a.out.size) A s c u ((M.below m).more m.size) eX (fq Zk);rw[mZ,wH] at d;clear K M E x m L;go_wp2_with fail;generalize(l.alloc (.cells #[.int .i64 1,.int .i64 2,.int .i64 2,.int .i64 9,.int .i64 2,.slice A 2 c,.slice s 0 u] 47))=R at*;refine d.mono ?_;rintro e S ⟨N,T,rfl,y⟩;have o:=eR (F.out.Af y.b);have z:=qQ Q 8 y Zd eW Zd Zd Zd;have O:=o.out.cell 2;simp at O;clear d;have z:Kp 10 #[.pointer (some ⟨N,0,none⟩),.int .i64 2] S λC w'=>C=.returned (.bool true)/\PW R w' N T (Fn.CU Lj) (Fn.Ld Lj).toNat 2 (0+12*(8*2)) QO:=z;have HW:=eR y;clear y;go_wp2_with fail;refine z.mono ?_;rintro e w4 ⟨rfl,G⟩;obtain⟨tv,bv,ro,Fh,Ft,U,P,H⟩:=G.p;have h:=lZ P (by rw[Ul];decide);rw[Ul] at h;have I:=eR G.b;clear G z P H O;go_wp2_with fail;refine h.mono ?_;rintro e J ⟨v,rfl,k,i,V⟩;obtain⟨g,j,W,rfl,q⟩:=Fa k Zd;have k1:=Cl k 1 _ Kc.1;have X:=Cl k 117 _ Kc.2.1;have Y:=Cl k 118 _ Kc.2.2.1;have Z:=Cl k 119 _ Kc.2.2.2;have r:=eR ((F.out.Af I.out).Af i);have y5:=r.out.cell 5;simp at y5;have HZ:=eR (a.out.trans ((I.out.trans (i.mono I.out.size)).mono a.out.size));clear k i V q h F o r n;have k5:J.cell? ⟨g,j+110+7,none⟩=some (.bool true):=X;have k6:J.cell? ⟨g,j+110+8,none⟩=some (.int .i64 1):=Y;have k7:J.cell? ⟨g,j+110+9,none⟩=some (.int .i64 4):=Z;go_wp2_with fail;go_ret;exact⟨rfl,HZ.out⟩
def KW(s:ByteArray)(a:Int):Aj:=(Aj.fresh (Fn.CU s) a (Fn.NV s) (Fn.EP s).toNat (Fn.Ld s).toNat (Fn.EP s).toNat).fill (Fn.dec s).ops
def bG(s:ByteArray)(a:Int)(A:Option Addr)(c:Nat)(b:Option Addr)(d:Nat):Value:=
 .agg #[.int .i64 (Fn.CU s),.int .i64 a,.int .i64 (Fn.EP s),.int .i64 (Fn.Ld s),.int .i64 (Fn.NV s),.slice A (Fn.dec s).ops.length c,.slice b (Fn.dec s).EZ.length d]
def UW{s:ByteArray}(a:¬bare s):Fn.CU s=2\/Fn.CU s=4->1<=(Fn.Ld s).toNat:=λh=>by
 have:=(DO s).2.2.2.1;rcases mv (Fn.Ld s).toNat with h0|h0
 ·exact absurd ⟨h,Zo⟩ a
 ·exact h0
def bL(s:ByteArray)(a:Int)(r:a=2\/a=4)(w:World)(q:AT w)(j:7<=w.heap.size)(A g:Option Go.Addr)(c h:Nat)(u:Fn.Sl w w.heap.size 5 A (Fn.dec s).ops.length (Fn.D0 (Fn.dec s).ops))(v:¬bare s):
  Kp 13 #[bG s a A c g h] w λk w'=>∃i gh,k=.returned (.pointer (some ⟨i,0,none⟩))/\PW w w' i gh (Fn.CU s) (Fn.Ld s).toNat (Fn.EP s).toNat 0 (KW s a):=by
 obtain⟨⟨y,z⟩,_,⟨Q,R⟩,⟨B,S⟩,⟨C,D⟩⟩:=DO s
 have l:=UW v
 have E:GI (Fn.CU s) (Fn.Ld s).toNat (Fn.EP s).toNat 0 (KW s a):=GI.fill _ _ (Pp l r Zo Zo) λx F=>(Fn.LU x F).2.2
 obtain⟨n,m⟩:∃n:Nat,Fn.EP s=n:=⟨_,(jm Zo).symm⟩
 obtain⟨ns,b⟩:∃ns:Nat,Fn.Ld s=ns:=⟨_,(jm B).symm⟩
 rw[b,kq] at l
 have G:∀t∈(Fn.dec s).ops,0<=t.AW/\t.AW<(n:Int)/\Hh (Fn.CU s) (Ns t.op):=λt H=>by rw[←m];exact Fn.LU t H
 have I:=RY (Fn.CU s) a (Fn.NV s) n ns w q y z Zo Zo Zo Zo Zo C D l (Fn.dec s).ops A g c h (Fn.dec s).EZ.length u (TA s) G
 have J:bG s a A c g h=.agg #[.int .i64 (Fn.CU s),.int .i64 a,.int .i64 (n:Int),.int .i64 (ns:Int),.int .i64 (Fn.NV s),.slice A (Fn.dec s).ops.length c,.slice g (Fn.dec s).EZ.length h]:=by unfold bG;rw[m,b]
 rw[J]
 refine I.mono ?_
 rintro e T ⟨i,gh,K,bv,L,M,N,o,rfl,O,d,p⟩
 refine⟨i,gh,rfl,⟨K,bv,L,M,N,o,?_,p⟩,E,q.below d,d,j⟩
 have P:KW s a=(Aj.fresh (Fn.CU s) a (Fn.NV s) n ns n).fill (Fn.dec s).ops:=by
  unfold KW;rw[m,b,kq,kq]
 rw[P]
 exact O
def WC(s:ByteArray)(a:Int)(h:1<=a)(i:a<=5)(w:World)(j:AT w)(A b:Option Go.Addr)(c d:Nat)(g:bare s):
  Kp 13 #[bG s a A c b d] w λe w'=>e=.returned (.pointer none)/\Below w.heap.size w w':=by
 obtain⟨⟨k,l⟩,_,⟨r,t⟩,⟨u,v⟩,⟨m,o⟩⟩:=DO s
 obtain⟨n,p⟩:∃n:Nat,Fn.EP s=n:=⟨_,(jm Zo).symm⟩
 have q:bG s a A c b d=.agg #[.int .i64 (Fn.CU s),.int .i64 a,.int .i64 (n:Int),.int .i64 0,.int .i64 (Fn.NV s),.slice A (Fn.dec s).ops.length c,.slice b (Fn.dec s).EZ.length d]:=by unfold bG;rw[p,g.2]
 rw[q]
 exact bK (Fn.CU s) a (Fn.NV s) n w j k l h i Zo Zo m o g.1 A b c d _ _
def Px:∀(l:List Fn.De) (P:Aj),(P.fill l).Ap=P.Ap
 |[],_=>rfl
 |x::l,P=>by
  have:(P.put x).Ap=P.Ap:=by
   unfold Aj.put;cases P.Av[x.AW.toNat]?<;>rfl
  exact(Px l (P.put x)).trans this
def lW(s:ByteArray)(b:¬bare s):∃g,K4 (Fn.CU s) (Fn.Ld s).toNat (Fn.EP s).toNat 0 (KW s 4) g/\(KW s 4).Ap.length=0:=by
 obtain⟨⟨c,d⟩,_,⟨i,j⟩,⟨k,l⟩,⟨m,o⟩⟩:=DO s;obtain⟨g,e,p,f⟩:=tR (st:=Fn.CU s) (most:=Fn.NV s) (n:=(Fn.Ld s).toNat) (nt:=(Fn.EP s).toNat) c d (UW b) Zo Zo Zo;refine⟨g,K4.fill _ _ e (λx h=>(Fn.LU x h).2.2) (by have:=TA s;rw[f];omega),?_⟩;unfold KW;rw[Px];rfl
def uo(a:Int)(nt:Nat)(h:1<=nt/\nt<=6):∃k:Nat,IntKind.i64.wrap ((IntKind.u64.wrap a).tmod (IntKind.u64.wrap (nt:Int)))=(k:Int)/\k<nt:=by
 have b:0<=IntKind.u64.wrap a:=by
  unfold IntKind.wrap;simp[IntKind.bits,IntKind.signed];omega
 have c:IntKind.u64.wrap (nt:Int)=nt:=by
  unfold IntKind.wrap;simp[IntKind.bits,IntKind.signed];omega
 rw[c];have d:=pj (nt:Int) b;have e:=oi (IntKind.u64.wrap a) (show(0:Int)<nt by omega);obtain⟨k,f⟩:=lj d;rw[f] at e ⊢;refine⟨k,?_,Zo⟩;exact FK Zo Zo
def coreEpochs_any(hP:La)(s:ByteArray)(aa:Int)(w:World)(he:AT w):Kp 6 #[.string s,.int .i64 aa] w λen w'=>en=.returned (.bool true)/\Below w.heap.size w w':=by
 have K:=eV hP w he;have HE:=eR he;have ao:=he.lt;clear he;go_enter Tryz.func6,Tryz.ntmps6;by_cases aw:(3000:Int)<(s.size:Int)
 ·go_wp2_with fail;refine K.mono ?_;rintro e w1 ⟨rfl,hb⟩;go_wp2_with fail;go_ret;exact⟨rfl,hb⟩
 ·go_wp2_with fail;refine K.mono ?_;rintro e w1 ⟨rfl,n⟩;have hd:=Fn.PC s w1 Zo;clear K;go_wp2_with fail;refine hd.mono ?_;rintro e I ⟨A,c,x,y,rfl,hl,ab,d⟩;clear hd;obtain⟨st,B⟩:∃z,Fn.CU s=z:=⟨_,rfl⟩;obtain⟨en,ad⟩:∃z,Fn.TB s=z:=⟨_,rfl⟩;obtain⟨L,a⟩:∃z,Fn.EP s=z:=⟨_,rfl⟩;obtain⟨sl,D⟩:∃z,Fn.Ld s=z:=⟨_,rfl⟩;obtain⟨no,E⟩:∃z,Fn.NV s=z:=⟨_,rfl⟩;obtain⟨on,M⟩:∃z,(Fn.dec s).ops.length=z:=⟨_,rfl⟩;obtain⟨o,p⟩:∃z,(Fn.dec s).EZ.length=z:=⟨_,rfl⟩;have ev:(Fn.dec s).v A c x y=.agg #[.int .i64 st,.int .i64 en,.int .i64 L,.int .i64 sl,.int .i64 no,.slice A on c,.slice x o y]:=by rw[←B,←ad,←a,←D,←E,←M,←p];rfl
  have N:bG s 4 A c x y=.agg #[.int .i64 st,.int .i64 4,.int .i64 L,.int .i64 sl,.int .i64 no,.slice A on c,.slice x o y]:=by rw[←B,←a,←D,←E,←M,←p];rfl
  rw[ev];have O:=(fx I.heap.size I).alloc (Nat.le_refl _) (.cells #[.int .i64 st,.int .i64 4,.int .i64 L,.int .i64 sl,.int .i64 no,.slice A on c,.slice x o y] 47);have HX:=eR (Bk.at_ (w:=I) (g:=I.heap.size) (cs:=#[.int .i64 st,.int .i64 4,.int .i64 L,.int .i64 sl,.int .i64 no,.slice A on c,.slice x o y]) (t:=47) rfl);have Q:=eR (((HE.out.below n).below d).below O);have q:=eR ((n.trans (d.mono n.size)).trans (O.mono (gb n.size d.size)));have HL:=eR ((hl.below O).more O.size);have ae:=eR ((ab.below O).more O.size);clear hl ab n d O HE;by_cases R:bare s
  ·have l:=WC s 4 Zd Zd _ Q.out A x c y R;rw[N] at l;go_wp2_with fail;refine l.mono ?_;rintro e w4 ⟨rfl,af⟩;have HZ:=eR (q.out.trans (af.mono q.out.size));clear af l;go_wp2_with fail;go_ret;exact⟨rfl,HZ.out⟩
  ·have l:=bL s 4 (db rfl) _ Q.out (gb ao q.out.size) A x c y HL.out R;rw [N] at l;have F:=eR (fy B (fy a (fy D (fy E p))));clear ev N B ad a D E M p;go_wp2_with fail;have ay:I.heap.size < (I.alloc (.cells #[.int .i64 st,.int .i64 4,.int .i64 L,.int .i64 sl,.int .i64 no,.slice A on c,.slice x o y] 47)).heap.size:=HX.out.lt;generalize (I.alloc (.cells #[.int .i64 st,.int .i64 4,.int .i64 L,.int .i64 sl,.int .i64 no,.slice A on c,.slice x o y] 47)) = w3 at *;generalize I.heap.size = xb at *;refine l.mono ?_;rintro e w4 ⟨gp,gh,rfl,hw⟩;have S:Hid (∃ P g,CE w3 w4 gp gh (Fn.CU s) (Fn.Ld s).toNat (Fn.EP s).toNat 0 P g∧P.Ap.length = 0):=eR (by
    obtain⟨g,q1,q2⟩:=lW s R;exact⟨_,g,⟨hw.up Zd,q1⟩,q2⟩)
   clear hw l;have ap:=DO s;have U:Hid (∀j,j<o->∃k:Nat,(Fn.dec s).EZ[j]?=some (k:Int)/\k<(Fn.EP s).toNat):=eR λj hj=>by
    have h6:=(DO s).2.2.1;have ag:j<(Fn.dec s).EZ.length:=by rw[F.out.2.2.2.2];exact hj
    obtain⟨z,hz⟩:∃z,(Fn.dec s).EZ[j]=z:=⟨_,rfl⟩;have hm:z∈(Fn.dec s).EZ:=hz▸nu ag;have hm:z∈Fn.Dr s (Fn.dP s):=hm;unfold Fn.Dr at hm;obtain⟨i,_,rfl⟩:=j7.1 hm;unfold Fn.MC at hz;have h0:=Int.emod_nonneg (Jl s (6+4*Fn.dN s+i):Int) (show Fn.EP s≠0 by omega);have h1:=Int.emod_lt_of_pos (Jl s (6+4*Fn.dN s+i):Int) (show 0<Fn.EP s by omega);obtain⟨k,J⟩:=lj h0;refine⟨k,?_,Zo⟩;rw[gl ag,hz,J]
   have p:o<=3000:=by
    rw[←F.out.2.2.2.2];show(Fn.Dr s (Fn.dP s)).length<=3000;rw[Fn.Gr];unfold Fn.dP;omega
   have az:(Fn.Ld s).toNat<=1024:=Zo;obtain⟨r,ah⟩:∃r:Nat,(Fn.EP s).toNat=r:=⟨_,rfl⟩;have a:L=(r:Int)/\r<=6:=by have:=F.out.2.1;omega
   rw[ah] at S U;obtain⟨a,a0⟩:=a;subst a;clear F HL Q ah ap;generalize Fn.CU s=V at*;generalize(Fn.Ld s).toNat=sn at*;go_wp2_with fail;go_loopw [7] (λi wr=>∃(j:Nat),j<=o/\i=.int .i64 j/\Hid (∃P g,CE w3 wr gp gh V sn r 0 P g/\P.Ap.length<=j)) (λi _=>o-(intOf i).toNat);case atStart=>exact⟨0,ie _,rfl,eR (by obtain⟨P,g,q1,q2⟩:=S.out;exact⟨P,g,q1,Zo⟩)⟩
   case round=>
    obtain⟨j,hj,rfl,C⟩:=hrel;obtain⟨P,g,C,a1⟩:=C.out;have G:=eR (HX.out.Af C.w.b);have y6:=G.out.cell 6;simp at y6;by_cases ai:j<o
    ·have aj:(j:Int)<(o:Int):=Zo;obtain⟨k,J,W⟩:=U.out j ai;have ak:0<(Fn.dec s).EZ.length:=by
      rcases mv (Fn.dec s).EZ.length with h|h
      ·rw[jr h] at J;cases J
      ·exact h
     obtain⟨pb,po,al,a2,u⟩:=(ae.out.below C.w.b).2 ak;rw[al] at y6;have hc:=u j (.int .i64 (k:Int)) (by unfold Fn.BF;rw[kf,J];rfl);have hp:=C.any hP W Zo;clear u al J ak;go_wp2_with fail;refine hp.mono ?_;rintro e W1 ⟨⟨v,rfl⟩,P',g',C1,n⟩;have X:=eR C1;clear C C1 hp y6 hc G;go_wp2_with fail;exact⟨⟨j+1,ai,by go_num,eR ⟨P',g',X.out,Zo⟩⟩,by simp[intOf];omega⟩
    ·have aq:j=o:=Zo;subst aq;have aj:¬(j:Int)<(j:Int):=Zo;have y2:=G.out.cell 2;simp at y2;have hr:=C.rest hP Zo;have am:=C.g.n6;clear ae U S C;go_wp2_with fail;refine hr.mono ?_;rintro e W1 ⟨rfl,P',g',hQ⟩;obtain⟨k,J,W⟩:=uo aa r am;obtain⟨T,Y⟩:=hQ k W;have X:Hid (CL w3 W1 gp gh V sn r k 0):=eR ⟨0,P',g',T,Y,ie _,λh=>(by cases h),λh=>absurd h Zd⟩;have y2:=(HX.out.Af Y.c.w.b).cell 2;simp at y2;have a3:¬((r:Int)=0):=Zo;have ar:IntKind.u64.wrap (r:Int)=r:=by
      unfold IntKind.wrap;simp[IntKind.bits,IntKind.signed];omega
     rw[ar] at J;clear hr hQ Y y6 G;go_wp2_with fail;go_loopw [9] (λi wq=>∃m:Nat,m<=3/\i=.int .i64 m/\Hid (CL w3 wq gp gh V sn r k m)) (λi _=>3-(intOf i).toNat);case atStart=>exact⟨0,ie _,rfl,X⟩
     case round=>
      obtain⟨m,hm,rfl,C⟩:=hrel;by_cases an:m<3
      ·have ax:(m:Int)<3:=Zo;have hs:=C.out.scan an;go_wp2_with fail;refine hs.mono ?_;rintro e W2 ⟨rfl,C2⟩;have au:=eR C2;clear C C2 hs;go_wp2_with fail;exact⟨⟨m+1,an,by go_num,au⟩,by simp[intOf];omega⟩
      ·have av:m=3:=Zo;subst av;obtain⟨e,P2,g2,T2,hq,_,_,H⟩:=C.out;have H:=H Zd;go_wp2_with fail;refine(hq.notes H).mono ?_;rintro e W2 ⟨qA,qc,rfl,d⟩;have Z:=eR (hq.below d);clear C hq H d;go_wp2_with (first|(go_at_call 15;refine Z.out.heap.mono ?_;rintro e W3 ⟨rfl,rfl⟩)|(go_at_call 20;refine Z.out.fault.mono ?_;rintro e W3 ⟨rfl,rfl⟩));go_ret;exact⟨rfl,q.out.trans (Z.out.c.w.b.mono q.out.size)⟩
