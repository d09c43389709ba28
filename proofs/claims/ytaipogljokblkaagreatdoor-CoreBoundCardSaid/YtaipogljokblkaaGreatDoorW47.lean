/- Core: DcB, DcW. -/
import Derived.Test.YtaipogljokblkaaGreatDoorW38
import Derived.Test.YtaipogljokblkaaGreatDoorW01
import Derived.KernelRfl
import Derived.Deep.AppendLies
import Derived.Deep.DeepMust
set_option linter.all false
set_option maxRecDepth 100000
set_option maxHeartbeats 8000000
namespace Go.Proofs.YtaipogljokblkaaGreatDoor.Fn
open Go Go.RowKit
set_option linter.unusedSimpArgs false
set_option linter.unusedVariables false
set_option linter.unusedSectionVars false
def KF(st:Int)(b:Nat):Int:=(BE st)[b%(BE st).length]?.getD 0
def RK(s:ByteArray)(st th:Int)(i:Nat):CL:=
 ⟨(Jd s (6+4*i):Int)%th,Ga st (KF st (Jd s (7+4*i))) (Jd s (8+4*i)) (Jd s (9+4*i))⟩
def Mx(s:ByteArray)(th:Int)(n i:Nat):Int:=(Jd s (6+4*n+i):Int)%th
def Ct(s:ByteArray):Int:=(Jd s 0:Int)%5+1
def YU(s:ByteArray):Int:=(Jd s 1:Int)%5+1
def Ev(s:ByteArray):Int:=(Jd s 2:Int)%6+1
def KQ(s:ByteArray):Int:=(Jd s 3:Int)
def ME(s:ByteArray):Int:=(Jd s 4:Int)%64+1
def dN(s:ByteArray):Nat:=Jd s 5%65
def dP(s:ByteArray):Nat:=min (s.size-(6+4*dN s)) 4096
def EL(s:ByteArray)(k:Nat):List CL:=(List.range k).map (RK s (Ct s) (Ev s))
def Da(s:ByteArray)(k:Nat):List Int:=(List.range k).map (Mx s (Ev s) (dN s))
def dec(s:ByteArray):wP:=⟨Ct s,YU s,Ev s,KQ s,ME s,EL s (dN s),Da s (dP s)⟩
def Ma(s:ByteArray)(k b:Nat)(w:World)(e:Ending)(w':World):Prop:=
 e=.returned (.int .i64 (Jd s k))/\Bk w' b 85 #[.string (rest s (k+1))]/\w.grownBy w' (some b)/\w'.heap.size=w.heap.size
theorem EF(s:ByteArray)(k b:Nat)(w:World)(h:Bk w b 85 #[.string (rest s k)]):
  Calls Tryz.prog 28 #[.pointer (some ⟨b,0,none⟩)] w (Ma s k b w):=
 (oF s k ⟨b,0,none⟩ w (by rw[h.cell];rfl) (h.free 0)).mono λe w' ⟨he,hw⟩=>by
  subst hw;exact⟨he,by simpa using h.E3 0 (.string (rest s (k+1))),Xr _ _ _ _,by simp[World.setCell]⟩
structure DW(w wr:World)(s:ByteArray)(k:Nat)(xc:Array Value):Prop where
 o:Bk wr w.heap.size 47 #[.int .i64 0,.int .i64 0,.int .i64 0,.int .i64 0,.int .i64 0,.slice none 0 0,.slice none 0 0]
 r:Bk wr (w.heap.size+1) 85 #[.string (rest s k)]
 x:Bk wr (w.heap.size+2) 47 xc
 below:Below w.heap.size w wr
theorem DW.next{w wr w':World}{s:ByteArray}{k:Nat}{xc:Array Value}{e:Ending}(D:DW w wr s k xc)(h:Ma s k (w.heap.size+1) wr e w'):
  DW w w' s (k+1) xc:=
 ⟨D.o.grown h.2.2.1 Zs,h.2.1,D.x.grown h.2.2.1 Zs,D.below.grown h.2.2.1 D.below.size Zs⟩
theorem DW.E3{w wr:World}{s:ByteArray}{k:Nat}{xc:Array Value}(D:DW w wr s k xc)(i:Nat)(u:Value):
  DW w (wr.setCell ⟨w.heap.size+2,i,none⟩ u) s k (xc.setIfInBounds i u):=
 ⟨D.o.Av Zs u,D.r.Av Zs u,D.x.E3 i u,D.below.setCell Zs u⟩
theorem DW.more{w wr w':World}{s:ByteArray}{k:Nat}{xc:Array Value}(D:DW w wr s k xc)(h:Below wr.heap.size wr w'):DW w w' s k xc:=
 ⟨D.o.Ad h,D.r.Ad h,D.x.Ad h,D.below.trans (h.mono D.below.size)⟩
def DR(s:ByteArray)(v v':Value):Array Value:=#[.int .i64 (Ct s),.int .i64 (YU s),.int .i64 (Ev s),.int .i64 (KQ s),.int .i64 (ME s),v,v']
def SF(s:ByteArray):Array Value:=((BE (Ct s)).map (Value.int .i64)).toArray
structure L1(w wr:World)(s:ByteArray)(kb p k:Nat)(v:Value):Prop where
 d:DW w wr s p (DR s v (.slice none 0 0))
 kk:Bk wr kb 3 (SF s)
 own:wr.ownsRow (kb+1) 91 5 v k (Dk (EL s k))
 kb:w.heap.size+2<kb
theorem DW.drew{w wr:World}{s:ByteArray}{k:Nat}{xc:Array Value}(D:DW w wr s k xc):DW w wr.drew s k xc:=⟨D.o,D.r,D.x,D.below.drew⟩
theorem L1.drew{w wr:World}{s:ByteArray}{kb p k:Nat}{v:Value}(L:L1 w wr s kb p k v):L1 w wr.drew s kb p k v:=⟨L.d.drew,L.kk,L.own,L.kb⟩
theorem L1.next{w wr w':World}{s:ByteArray}{kb p k:Nat}{v:Value}{e:Ending}(L:L1 w wr s kb p k v)(h:Ma s p (w.heap.size+1) wr e w'):L1 w w' s kb (p+1) k v:=
 ⟨L.d.next h,L.kk.grown h.2.2.1 (by have:=L.kb;simp;omega),L.own.kept h.2.2.1 (by
  cases hv:v.ownBlock with
  |none=>simp
  |some g=>right;intro e;have:=(L.own.lt g hv).1;have:=L.kb;simp at e;omega),L.kb⟩
theorem L1.more{w wr w':World}{s:ByteArray}{kb p k:Nat}{v:Value}(L:L1 w wr s kb p k v)(h:Below wr.heap.size wr w'):L1 w w' s kb p k v:=
 ⟨L.d.more h,L.kk.Ad h,gA L.own h,L.kb⟩
theorem L1.th{w wr:World}{s:ByteArray}{kb p k:Nat}{v:Value}(L:L1 w wr s kb p k v):wr.cell? ⟨w.heap.size+1+1,2,none⟩=some (.int .i64 (Ev s)):=by
 have:=L.d.x.cell 2;simpa [DR] using this
theorem L1.st{w wr:World}{s:ByteArray}{kb p k:Nat}{v:Value}(L:L1 w wr s kb p k v):wr.cell? ⟨w.heap.size+1+1,0,none⟩=some (.int .i64 (Ct s)):=by
 have:=L.d.x.cell 0;simpa [DR] using this
theorem L1.ops{w wr:World}{s:ByteArray}{kb p k:Nat}{v:Value}(L:L1 w wr s kb p k v):wr.cell? ⟨w.heap.size+1+1,5,none⟩=some v:=by
 have:=L.d.x.cell 5;simpa [DR] using this
theorem L1.kind{w wr:World}{s:ByteArray}{kb p k:Nat}{v:Value}(L:L1 w wr s kb p k v)(b:Nat):wr.cell? ⟨kb,b%(BE (Ct s)).length,none⟩=some (.int .i64 (KF (Ct s) b)):=by
 have h:=L.kk.cell (b%(BE (Ct s)).length);have hst:Ct s=1\/Ct s=2\/Ct s=3\/Ct s=4\/Ct s=5:=by unfold Ct;omega
 rw[h];unfold SF KF;rcases hst with e|e|e|e|e<;>rw[e]
 ·have:b%3<3:=Nat.mod_lt _ Zo;generalize hc:b%3=c at this;simp[BE,hc];match c,this with
  |0,_=>rfl
  |1,_=>rfl
  |2,_=>rfl
 ·have:b%2<2:=Nat.mod_lt _ Zo;generalize hc:b%2=c at this;simp[BE,hc];match c,this with
  |0,_=>rfl
  |1,_=>rfl
 all_goals
  have:b%3<3:=Nat.mod_lt _ Zo
  generalize hc:b%3=c at this
  simp[BE,hc]
  match c,this with
  |0,_=>rfl
  |1,_=>rfl
  |2,_=>rfl
theorem Vn(s:ByteArray)(k:Nat):EL s (k+1)=EL s k++[RK s (Ct s) (Ev s) k]:=by
 simp[EL,List.range_succ]
theorem Hp(s:ByteArray)(k:Nat):(EL s k).length=k:=by simp[EL]
theorem Qe(a b:List CL):Dk (a++b)=Dk a++Dk b:=by simp[Dk]
def Oe(s:ByteArray)(p:Nat):CL:=⟨(Jd s p:Int)%Ev s,Ga (Ct s) (KF (Ct s) (Jd s (p+1))) (Jd s (p+1+1)) (Jd s (p+1+1+1))⟩
theorem dG(s:ByteArray)(k:Nat):Oe s (6+4*k)=RK s (Ct s) (Ev s) k:=by
 unfold Oe RK;rw[show 6+4*k+1=7+4*k from by omega,show 7+4*k+1=8+4*k from by omega,show 8+4*k+1=9+4*k from by omega]
theorem L1.push{w w12 w13:World}{s:ByteArray}{kb p k:Nat}{v v':Value}(L:L1 w w12 s kb p k v)(o:Obj)
  (hown:w13.ownsRow (kb+1) 91 5 v' (k+1) (Dk (EL s k)++(Oe s (6+4*k)).cells))(hg:(w12.alloc o).grownBy w13 v.ownBlock)(hp:p=6+4*k+4):
  L1 w (w13.setCell ⟨w.heap.size+2,5,none⟩ v') s kb (6+4*(k+1)) (k+1) v':=by
 have hkb:=L.kb
 have hne:∀g,g<=kb->some g≠v.ownBlock:=by
  intro g hgk e;have:=(L.own.lt g e.symm).1;omega
 have hs:=L.d.below.size
 have hlt:=L.kk.lt
 have Dx:Bk w13 (w.heap.size+2) 47 (DR s v (.slice none 0 0)):=(L.d.x.alloc o).grown hg (hne _ Zo)
 have D:DW w w13 s p (DR s v (.slice none 0 0)):=
  ⟨(L.d.o.alloc o).grown hg (hne _ Zo),(L.d.r.alloc o).grown hg (hne _ Zo),Dx,
   (L.d.below.alloc hs o).grown hg (by simp;omega) (λg e=>by have:=(L.own.lt g e).1;omega)⟩
 have D2:=D.E3 5 v'
 have e:(DR s v (.slice none 0 0)).setIfInBounds 5 v'=DR s v' (.slice none 0 0):=rfl
 rw[e] at D2
 refine⟨by rw[show 6+4*(k+1)=p from by omega];exact D2,((L.kk.alloc o).grown hg (hne _ Zo)).Av (by simp;omega) _,?_,hkb⟩
 have h2:=Y0 hown (a:=⟨w.heap.size+2,5,none⟩) (by simp;omega) v'
 rw[Vn,Qe,←dG]
 simpa [Dk] using h2
theorem L1.VR{w w12 w13:World}{s:ByteArray}{kb p k:Nat}{v:Value}(L:L1 w w12 s kb p k v)(o:Obj)(hg:(w12.alloc o).grownBy w13 v.ownBlock):
  w13.cell? ⟨w.heap.size+1+1,5,none⟩=some v/\w13.cell? ⟨w.heap.size+1+1,0,none⟩=some (.int .i64 (Ct s))/\w13.frozen? ⟨w.heap.size+1+1,5,none⟩=false:=by
 have hkb:=L.kb
 have Dx:Bk w13 (w.heap.size+2) 47 (DR s v (.slice none 0 0)):=(L.d.x.alloc o).grown hg (by intro e;have:=(L.own.lt _ e.symm).1;omega)
 exact⟨by have:=Dx.cell 5;simpa [DR] using this,by have:=Dx.cell 0;simpa [DR] using this,Dx.free 5⟩
theorem gB{w:World}{b b':Nat}{e e':TypeId}{sz sz' n n':Nat}{v v':Value}{xs xs':List Value}(h:w.ownsRow b e sz v n xs)(h':w.ownsRow b' e' sz' v' n' xs')(hne:e≠e'):
  v.ownBlock=none\/v.ownBlock≠v'.ownBlock:=by
 rcases h.2 with⟨rfl,_⟩|⟨g,cap,Ay,rfl,_,hh,_⟩
 ·left;rfl
 ·right;rcases h'.2 with⟨rfl,_⟩|⟨g',cap',cur',rfl,_,hh',_⟩
  ·simp[Value.ownBlock]
  ·simp only[Value.ownBlock,Option.map_some,ne_eq,Option.some.injEq];intro e1;subst e1;rw[hh] at hh';simp at hh';exact hne hh'.2
structure L2(w wr:World)(s:ByteArray)(kb p j:Nat)(v v':Value):Prop where
 d:DW w wr s p (DR s v v')
 own:wr.ownsRow (kb+1) 91 5 v (dN s) (Dk (EL s (dN s)))
 own':wr.ownsRow (kb+1) 3 1 v' j (AA (Da s j))
 kl:kb<wr.heap.size
 kb:w.heap.size+2<kb
theorem L1.two{w wr:World}{s:ByteArray}{kb p:Nat}{v:Value}(L:L1 w wr s kb p (dN s) v):L2 w wr s kb p 0 v (.slice none 0 0):=
 ⟨L.d,L.own,⟨rfl,.inl ⟨rfl,rfl⟩⟩,L.kk.lt,L.kb⟩
theorem L2.drew{w wr:World}{s:ByteArray}{kb p j:Nat}{v v':Value}(L:L2 w wr s kb p j v v'):L2 w wr.drew s kb p j v v':=⟨L.d.drew,L.own,L.own',L.kl,L.kb⟩
theorem L2.next{w wr w':World}{s:ByteArray}{kb p j:Nat}{v v':Value}{e:Ending}(L:L2 w wr s kb p j v v')(h:Ma s p (w.heap.size+1) wr e w'):L2 w w' s kb (p+1) j v v':=by
 have aux:∀ {e sz n x xs},wr.ownsRow (kb+1) e sz x n xs→w'.ownsRow (kb+1) e sz x n xs:=fun {e sz n x xs} ho=>ho.kept h.2.2.1 (by
  cases hv:x.ownBlock with
  |none=>simp
  |some g=>right;intro e;have:=(ho.lt g hv).1;have:=L.kb;simp at e;omega)
 exact⟨L.d.next h,aux L.own,aux L.own',by have:=h.2.2.1.size;have:=L.kl;omega,L.kb⟩
theorem L2.th{w wr:World}{s:ByteArray}{kb p j:Nat}{v v':Value}(L:L2 w wr s kb p j v v'):wr.cell? ⟨w.heap.size+1+1,2,none⟩=some (.int .i64 (Ev s)):=by
 have:=L.d.x.cell 2;simpa [DR] using this
theorem L2.E9{w wr:World}{s:ByteArray}{kb p j:Nat}{v v':Value}(L:L2 w wr s kb p j v v'):wr.cell? ⟨w.heap.size+1+1,6,none⟩=some v':=by
 have:=L.d.x.cell 6;simpa [DR] using this
theorem L2.left{w wr:World}{s:ByteArray}{kb p j:Nat}{v v':Value}(L:L2 w wr s kb p j v v'):wr.cell? ⟨w.heap.size+1,0,none⟩=some (.string (rest s p)):=by
 have:=L.d.r.cell 0;simpa using this
theorem L2.VR{w w12 w13:World}{s:ByteArray}{kb p j:Nat}{v v':Value}(L:L2 w w12 s kb p j v v')(o:Obj)(hg:(w12.alloc o).grownBy w13 v'.ownBlock):
  w13.cell? ⟨w.heap.size+1+1,6,none⟩=some v'/\w13.cell? ⟨w.heap.size+1+1,2,none⟩=some (.int .i64 (Ev s))/\w13.frozen? ⟨w.heap.size+1+1,6,none⟩=false:=by
 have hkb:=L.kb
 have Dx:Bk w13 (w.heap.size+2) 47 (DR s v v'):=(L.d.x.alloc o).grown hg (by intro e;have:=(L.own'.lt _ e.symm).1;omega)
 exact⟨by have:=Dx.cell 6;simpa [DR] using this,by have:=Dx.cell 2;simpa [DR] using this,Dx.free 6⟩
theorem Qs(s:ByteArray)(j:Nat):Da s (j+1)=Da s j++[Mx s (Ev s) (dN s) j]:=by
 simp[Da,List.range_succ]
theorem L2.push{w w12 w13:World}{s:ByteArray}{kb p j:Nat}{v v' v'':Value}(L:L2 w w12 s kb p j v v')(o:Obj)
  (hown:w13.ownsRow (kb+1) 3 1 v'' (j+1) (AA (Da s j)++[.int .i64 (Mx s (Ev s) (dN s) j)]))(hg:(w12.alloc o).grownBy w13 v'.ownBlock):
  L2 w (w13.setCell ⟨w.heap.size+2,6,none⟩ v'') s kb p (j+1) v v'':=by
 have hkb:=L.kb
 have hne:∀g,g<=kb->some g≠v'.ownBlock:=by
  intro g hgk e;have:=(L.own'.lt g e.symm).1;omega
 have hs:=L.d.below.size
 have hlt:=L.kl
 have D:DW w w13 s p (DR s v v'):=
  ⟨(L.d.o.alloc o).grown hg (hne _ Zo),(L.d.r.alloc o).grown hg (hne _ Zo),(L.d.x.alloc o).grown hg (hne _ Zo),
   (L.d.below.alloc hs o).grown hg (by simp;omega) (λg e=>by have:=(L.own'.lt g e).1;omega)⟩
 have D2:=D.E3 6 v''
 have e:(DR s v v').setIfInBounds 6 v''=DR s v v'':=rfl
 rw[e] at D2
 have ho:w13.ownsRow (kb+1) 91 5 v (dN s) (Dk (EL s (dN s))):=(L.own.alloc o).kept hg (gB L.own L.own' Zd)
 refine⟨D2,Y0 ho (a:=⟨w.heap.size+2,6,none⟩) (by simp;omega) v'',?_,?_,hkb⟩
 ·have h2:=Y0 hown (a:=⟨w.heap.size+2,6,none⟩) (by simp;omega) v'';rw[Qs];simpa [AA] using h2
 ·have:=hg.size;simp[World.setCell] at this ⊢;omega
def QT(w:World)(b:Nat):Nat:=match w.cell? ⟨b,0,none⟩ with|some (.string t)=>t.size|_=>0
theorem L2.QT{w wr:World}{s:ByteArray}{kb p j:Nat}{v v':Value}(L:L2 w wr s kb p j v v'):QT wr (w.heap.size+1)=s.size-p:=by
 unfold Go.Proofs.YtaipogljokblkaaGreatDoor.Fn.QT;rw[L.left];simp[Mr]
theorem QL{w:World}{base:Nat}{e:TypeId}{sz n:Nat}{v:Value}{xs:List Value}(h:w.ownsRow base e sz v n xs):∃A c,v=.slice A n c:=by
 obtain⟨h1,h2⟩:=h;rcases Nat.eq_zero_or_pos n with h0|h0
 ·subst h0;rcases h2 with⟨rfl,_⟩|⟨g,cap,Ay,hv,hg,r⟩
  ·exact⟨_,_,rfl⟩
  ·exact⟨_,_,hv⟩
 ·obtain⟨g,cap,hv,_⟩:=World.ownsRow.form (w:=w) (base:=base) (e:=e) (xs:=xs) ⟨h1,h2⟩ h0;exact⟨_,_,hv⟩
def bN(s:ByteArray)(w:World)(e:Ending)(w':World):Prop:=
 ∃A c A' c',e=.returned ((dec s).v A c A' c')/\Sl w' w'.heap.size 5 A (dec s).ops.length (Dk (dec s).ops)/\Sl w' w'.heap.size 1 A' (dec s).E9.length (AA (dec s).E9)/\
  Below w.heap.size w w'
theorem Gc(s:ByteArray)(k:Nat):(Da s k).length=k:=by simp[Da]
theorem dec_v(s:ByteArray)(A:Option Addr)(c:Nat)(A':Option Addr)(c':Nat):
  Value.agg #[.int .i64 (Ct s),.int .i64 (YU s),.int .i64 (Ev s),.int .i64 (KQ s),.int .i64 (ME s),.slice A (dN s) c,.slice A' (dP s) c']=(dec s).v A c A' c':=by
 simp[wP.v,dec,Hp,Gc]
theorem L2.out{w wr:World}{s:ByteArray}{kb p:Nat}{A A':Option Addr}{c c':Nat}(M:L2 w wr s kb p (dP s) (.slice A (dN s) c) (.slice A' (dP s) c'))(u0 u1 u2 u3 u4 u5 u6:Value):
  bN s w (.returned (.agg #[.int .i64 (Ct s),.int .i64 (YU s),.int .i64 (Ev s),.int .i64 (KQ s),.int .i64 (ME s),.slice A (dN s) c,.slice A' (dP s) c']))
   (((((((wr.setCell ⟨w.heap.size,0,none⟩ u0).setCell ⟨w.heap.size,1,none⟩ u1).setCell ⟨w.heap.size,2,none⟩ u2).setCell ⟨w.heap.size,3,none⟩ u3).setCell ⟨w.heap.size,4,none⟩ u4).setCell ⟨w.heap.size,5,none⟩ u5).setCell ⟨w.heap.size,6,none⟩ u6):=by
 have hk:=M.kb
 have o1:=M.own
 have o2:=M.own'
 have hb:=M.d.below
 refine⟨A,c,A',c',by rw[dec_v],?_,?_,?_⟩
 ·have q1:∀i,(⟨w.heap.size,i,none⟩:Addr).block<kb+1:=λi=>by simp;omega
  have:=Y0 (Y0 (Y0 (Y0 (Y0 (Y0 (Y0 o1 (q1 0) u0) (q1 1) u1) (q1 2) u2) (q1 3) u3) (q1 4) u4) (q1 5) u5) (q1 6) u6;have h:=Sl.XY this;simpa [dec,Hp] using h
 ·have q1:∀i,(⟨w.heap.size,i,none⟩:Addr).block<kb+1:=λi=>by simp;omega
  have:=Y0 (Y0 (Y0 (Y0 (Y0 (Y0 (Y0 o2 (q1 0) u0) (q1 1) u1) (q1 2) u2) (q1 3) u3) (q1 4) u4) (q1 5) u5) (q1 6) u6;have h:=Sl.XY this;simpa [dec,Gc] using h
 ·exact((((((hb.setCell Zs u0).setCell Zs u1).setCell Zs u2).setCell Zs u3).setCell Zs u4).setCell Zs u5).setCell Zs u6
theorem qC(st kind x y:Int)(w:World)(hx0:0<=x)(hx1:x<=255)(hy0:0<=y)(hy1:y<=255):
  Calls Tryz.prog 30 #[.int .i64 st,.int .i64 kind,.int .i64 x,.int .i64 y] w
   (RetV (.agg #[.int .i64 (Ga st kind x y).kind,.int .i64 (Ga st kind x y).key,.int .i64 (Ga st kind x y).val,.int .i64 (Ga st kind x y).Aj]) w):=
 qB st kind x y w hx0 hx1 hy0 hy1
theorem pH:(Tryz.prog.info? 91).map (λi=>(i.zero,i.size,i.bytes))=some (some (.agg #[.int .i64 0,.int .i64 0,.int .i64 0,.int .i64 0,.int .i64 0]),5,40):=Zk
theorem NF:(Tryz.prog.info? 3).map (λi=>(i.zero,i.size,i.bytes))=some (some (.int .i64 0),1,8):=Zk
end Go.Proofs.YtaipogljokblkaaGreatDoor.Fn
namespace Go.Proofs.YtaipogljokblkaaGreatDoor.Fn
open Go Go.RowKit
theorem Pf(s:ByteArray)(w:World)(hs:s.size<=140737488351232):
  Calls Tryz.prog 12 #[.string s] w (bN s w):=by
 have hq:∀k,Jd s k<256:=IL s
 have q0:=hq 0
 have q1:=hq 1
 have q2:=hq 2
 have q3:=hq 3
 have q4:=hq 4
 have q5:=hq 5
 clear hq
 go_enter Tryz.func12,Tryz.ntmps12
 go_wp2_with fail
 have D:DW w _ s 0 #[.int .i64 0,.int .i64 0,.int .i64 0,.int .i64 0,.int .i64 0,.slice none 0 0,.slice none 0 0]:=⟨(((Bk.at_ rfl).alloc _).alloc _),by rw[fC];exact((Bk.at_ Zs).alloc _),Bk.at_ Zs,(((Below.refl _ _).alloc (Nat.le_refl _) _).alloc Zs _).alloc (by simp;omega) _⟩
 refine(EF s 0 _ _ D.r).mono ?_
 rintro e w1 ⟨rfl,hn⟩
 have D0a:=D.next ⟨rfl,hn⟩
 clear D hn
 have f0:=D0a.x.cell 0
 have g0:=D0a.x.free 0
 simp at f0
 go_wp2_with fail
 have D1:=D0a.E3 0 (.int .i64 (Ct s))
 clear D0a f0 g0
 refine(EF s 1 _ _ D1.r).mono ?_
 rintro e w2 ⟨rfl,hn⟩
 have D1a:=D1.next ⟨rfl,hn⟩
 clear D1 hn
 have f0:=D1a.x.cell 1
 have g0:=D1a.x.free 1
 simp at f0
 go_wp2_with fail
 have D2:=D1a.E3 1 (.int .i64 (YU s))
 clear D1a f0 g0
 refine(EF s 2 _ _ D2.r).mono ?_
 rintro e w3 ⟨rfl,hn⟩
 have D2a:=D2.next ⟨rfl,hn⟩
 clear D2 hn
 have f0:=D2a.x.cell 2
 have g0:=D2a.x.free 2
 simp at f0
 go_wp2_with fail
 have D3:=D2a.E3 2 (.int .i64 (Ev s))
 clear D2a f0 g0
 refine(EF s 3 _ _ D3.r).mono ?_
 rintro e w4 ⟨rfl,hn⟩
 have D3a:=D3.next ⟨rfl,hn⟩
 clear D3 hn
 have f0:=D3a.x.cell 3
 have g0:=D3a.x.free 3
 simp at f0
 go_wp2_with fail
 have D4:=D3a.E3 3 (.int .i64 (KQ s))
 clear D3a f0 g0
 refine(EF s 4 _ _ D4.r).mono ?_
 rintro e w5 ⟨rfl,hn⟩
 have D4a:=D4.next ⟨rfl,hn⟩
 clear D4 hn
 have f0:=D4a.x.cell 4
 have g0:=D4a.x.free 4
 simp at f0
 have f1:=D4a.x.cell 0
 simp at f1
 go_wp2_with fail
 have D5:=D4a.E3 4 (.int .i64 (ME s))
 clear D4a f0 g0 f1
 refine(gQ (Ct s) _ (by unfold Ct;omega) (by unfold Ct;omega)).mono ?_
 rintro e w6 ⟨rfl,rfl⟩
 have hkb:=D5.x.lt
 have D6:=D5.more ((Below.refl _ _).alloc (Nat.le_refl _) (.cells ((BE (Ct s)).map (Value.int .i64)).toArray 3))
 have hK:Bk ((w5.setCell ⟨w.heap.size+2,4,none⟩ (.int .i64 (ME s))).alloc (.cells (SF s) 3)) w5.heap.size 3 (SF s):=Bk.at_ (by simp[World.setCell])
 simp[World.setCell] at hkb
 clear D5
 go_wp2_with fail
 refine(EF s 5 _ _ D6.r).mono ?_
 rintro e w7 ⟨rfl,hn⟩
 have D7:=D6.next ⟨rfl,hn⟩
 have hK7:=hK.grown (t:=3) hn.2.1 (by simp;omega)
 clear D6 hK hn
 generalize w5.heap.size=kb at*
 have hsz7:=hK7.lt
 have L:L1 w w7 s kb 6 0 (.slice none 0 0):=⟨D7,hK7,⟨rfl,.inl ⟨rfl,rfl⟩⟩,hkb⟩
 clear D7 hK7 hsz7
 go_wp2_with fail
 go_loopw [49] (λi wr=>∃(k:Nat) (v:Value),k<=dN s/\i=.int .i64 k/\L1 w wr s kb (6+4*k) k v) (λi _=>dN s-(intOf i).toNat)
 case atStart=>exact⟨0,_,Nat.zero_le _,rfl,L⟩
 case round=>
  obtain⟨k,v,hk,rfl,L⟩:=hrel
  by_cases hlt:k<dN s
  ·have hlt':(k:Int)<(Jd s 5:Int)%65:=by unfold dN at hlt;omega
   have Q7:1<=Ev s:=by unfold Ev;omega
   have th2:Ev s<=6:=by unfold Ev;omega
   have b6:=IL s (6+4*k);have c2:=L.th;have th0:¬Ev s=0:=Zo;go_wp2_with fail;go_region_held3 (λw'=>w'.cell? ⟨w.heap.size+1+1,2,none⟩=some (.int .i64 (Ev s))) (first|go_keep|exact c2'|exact c2)
    ((go_at_call 28;refine(EF s (6+4*k) _ _ L.d.r.drew).mono ?_;rintro e w8 ⟨rfl,hn⟩;have L8:=L.drew.next ⟨rfl,hn⟩;have c2':=L8.th))
   clear hn;have hl1:1<=(BE (Ct s)).length:=by
    have hst:Ct s=1\/Ct s=2\/Ct s=3\/Ct s=4\/Ct s=5:=by unfold Ct;omega
    rcases hst with e|e|e|e|e<;>rw[e]<;>decide
   have hl3:(BE (Ct s)).length<=3:=by
    have hst:Ct s=1\/Ct s=2\/Ct s=3\/Ct s=4\/Ct s=5:=by unfold Ct;omega
    rcases hst with e|e|e|e|e<;>rw[e]<;>decide
   go_wp2_with fail;refine(EF s (6+4*k+1) _ _ L8.d.r).mono ?_;rintro e w9 ⟨rfl,hn⟩;have L9:=L8.next ⟨rfl,hn⟩;clear hn L8 c2' c2;have c3:=L9.kind (Jd s (6+4*k+1));have b7:=IL s (6+4*k+1);have m7:Jd s (6+4*k+1)%(BE (Ct s)).length<(BE (Ct s)).length:=Nat.mod_lt _ Zo;go_wp2_with fail;clear c3 m7;refine(EF s (6+4*k+1+1) _ _ L9.d.r).mono ?_;rintro e w10 ⟨rfl,hn⟩;have L10:=L9.next ⟨rfl,hn⟩;clear hn L9;have b8:=IL s (6+4*k+1+1);go_wp2_with fail;refine(EF s (6+4*k+1+1+1) _ _ L10.d.r).mono ?_;rintro e w11 ⟨rfl,hn⟩;have L11:=L10.next ⟨rfl,hn⟩;clear hn L10;have b9:=IL s (6+4*k+1+1+1);have e5:=L11.ops;have e0:=L11.st;obtain⟨i0,hi0,hz0,hz1,hz2⟩:=info_parts pH;have hkN:k<65:=by unfold dN at hlt;omega
   go_wp2_with fail;refine Yb (λw'=>w'.cell? ⟨w.heap.size+1+1,5,none⟩=some v/\w'.cell? ⟨w.heap.size+1+1,0,none⟩=some (.int .i64 (Ct s))) 15 Zk ⟨e5,e0⟩ (λhS=>?_);(refine Bc (i:=0) Zk Zo rfl Zk Zk Zk (λ_ _ _ _ h=>h) hS ?_;apply Exists.intro;apply And.intro;(refine Or.inl ⟨by rfl,?_⟩;intro w' hS';obtain⟨h1,h2⟩:=hS';go_simp;rfl);simp only[Act.put,List.setIfInBounds_toArray,List.set_cons_succ,List.set_cons_zero]);(refine Bc (i:=1) Zk Zo rfl Zk Zk Zk (λ_ _ _ _ h=>h) hS ?_;apply Exists.intro;apply And.intro;(refine Or.inl ⟨by rfl,?_⟩;intro w' hS';obtain⟨h1,h2⟩:=hS';go_simp;rfl);simp only[Act.put,List.setIfInBounds_toArray,List.set_cons_succ,List.set_cons_zero]);(refine Bc (i:=2) Zk Zo rfl Zk Zk Zk (λ_ _ _ _ h=>h) hS ?_;apply Exists.intro;apply And.intro;(refine Or.inl ⟨by rfl,?_⟩;intro w' hS';obtain⟨h1,h2⟩:=hS';go_simp;rfl);simp only[Act.put,List.setIfInBounds_toArray,List.set_cons_succ,List.set_cons_zero]);(refine Bc (i:=3) Zk Zo rfl Zk Zk Zk (λ_ _ _ _ h=>h) hS ?_;apply Exists.intro;apply And.intro;(refine Or.inl ⟨by rfl,?_⟩;intro w' hS';obtain⟨h1,h2⟩:=hS';go_simp;rfl);simp only[Act.put,List.setIfInBounds_toArray,List.set_cons_succ,List.set_cons_zero]);(refine Bc (i:=4) Zk Zo rfl Zk Zk Zk (λ_ _ _ _ h=>h) hS ?_;apply Exists.intro;apply And.intro;(refine Or.inl ⟨by rfl,?_⟩;intro w' hS';obtain⟨h1,h2⟩:=hS';go_simp;rfl);simp only[Act.put,List.setIfInBounds_toArray,List.set_cons_succ,List.set_cons_zero]);(refine Bc (i:=5) Zk Zo rfl Zk Zk Zk (λ_ _ _ _ h=>h) hS ?_;apply Exists.intro;apply And.intro;(refine Or.inl ⟨by rfl,?_⟩;intro w' hS';obtain⟨h1,h2⟩:=hS';go_simp;rfl);simp only[Act.put,List.setIfInBounds_toArray,List.set_cons_succ,List.set_cons_zero]);(refine Bc (i:=6) Zk Zo rfl Zk Zk Zk (λ_ _ _ _ h=>h) hS ?_;apply Exists.intro;apply And.intro;(refine Or.inl ⟨by rfl,?_⟩;intro w' hS';obtain⟨h1,h2⟩:=hS';go_simp;rfl);simp only[Act.put,List.setIfInBounds_toArray,List.set_cons_succ,List.set_cons_zero]);(refine Bc (i:=7) Zk Zo rfl Zk Zk Zk (λ_ _ _ _ h=>h) hS ?_;apply Exists.intro;apply And.intro;(refine Or.inl ⟨by rfl,?_⟩;intro w' hS';obtain⟨h1,h2⟩:=hS';go_simp;rfl);simp only[Act.put,List.setIfInBounds_toArray,List.set_cons_succ,List.set_cons_zero]);(refine Bc (i:=8) Zk Zo rfl Zk Zk Zk (λ_ _ _ _ h=>h) hS ?_;apply Exists.intro;apply And.intro;(refine Or.inl ⟨by rfl,?_⟩;intro w' hS';obtain⟨h1,h2⟩:=hS';go_simp;rfl);simp only[Act.put,List.setIfInBounds_toArray,List.set_cons_succ,List.set_cons_zero]);(refine Bc (i:=9) Zk Zo rfl Zk Zk Zk (λ_ _ _ _ h=>h) hS ?_;apply Exists.intro;apply And.intro;(refine Or.inl ⟨by rfl,?_⟩;intro w' hS';obtain⟨h1,h2⟩:=hS';go_simp;rfl);simp only[Act.put,List.setIfInBounds_toArray,List.set_cons_succ,List.set_cons_zero]);(refine E6 (i:=10) rfl Zk (λK hK=>?_));go_wp2_with (go_at_call 30;refine(qC (Ct s) (KF (Ct s) (Jd s (6+4*k+1))) (Jd s (6+4*k+1+1)) (Jd s (6+4*k+1+1+1)) _ Zo Zo Zo Zo).mono ?_;rintro e w12 ⟨rfl,hb12⟩;have L12:=L11.drew.more hb12;have e5':=L12.ops;have e0':=L12.st;have hk12:=L12.kk.lt);refine hK.out _ _ (λ_=>⟨e5',e0'⟩) ?_;clear hK hS;have hS:=(⟨e5',e0'⟩:w12.cell? ⟨w.heap.size+1+1,5,none⟩=some v/\w12.cell? ⟨w.heap.size+1+1,0,none⟩=some (.int .i64 (Ct s)));(refine Bc (i:=11) Zk Zo rfl Zk Zk Zk (λ_ _ _ _ h=>h) hS ?_;apply Exists.intro;apply And.intro;(refine Or.inl ⟨by rfl,?_⟩;intro w' hS';obtain⟨h1,h2⟩:=hS';go_simp;rfl);simp only[Act.put,List.setIfInBounds_toArray,List.set_cons_succ,List.set_cons_zero]);(refine E6 (i:=12) rfl Zk (λK hK=>?_));go_wp2;have hS12:∀o:Obj,(w12.alloc o).cell? ⟨w.heap.size+1+1,5,none⟩=some v/\(w12.alloc o).cell? ⟨w.heap.size+1+1,0,none⟩=some (.int .i64 (Ct s)):=λo=>⟨(World.cell?_alloc_lt w12 o _ (by have:=L12.kb;simp;omega)).trans e5',(World.cell?_alloc_lt w12 o _ (by have:=L12.kb;simp;omega)).trans e0'⟩;refine hK.out _ _ (λ_=>hS12 _) ?_;clear hK hS;(refine E6 (i:=13) rfl Zk (λK hK=>?_));refine wpList_append_lies _ Zr _ _ _ Zr (kb+1) 91 i0 _ 5 40 Tryz.underlying44 hi0 hz0 hz1 hz2 rfl Zo v k (Dk (EL s k)) Zr (L12.own.alloc _) ⟨w12.heap.size,0,none⟩ 1 1 (Oe s (6+4*k)).cells Zr Zr (World.news_of_block (cs:=(Oe s (6+4*k)).cells.toArray) (t:=91) (fr:=(0,0)) (heap_alloc_new w12 _)) (by simp[CL.cells,Value.oneCell']) Zo (by simp only[maxLen];omega) Zo (by simp;omega) (w12.heap.size+1) Zs ?_;intro gg cap w13 hown13 hg13 hat13 hlt13;obtain⟨e5a,e0a,fz⟩:=L12.VR _ hg13;go_wp2;refine hK.out _ _ (λ_=>⟨e5a,e0a⟩) ?_;clear hK hS12;have hS:=(⟨e5a,e0a⟩:w13.cell? ⟨w.heap.size+1+1,5,none⟩=some v/\w13.cell? ⟨w.heap.size+1+1,0,none⟩=some (.int .i64 (Ct s)));(refine Bc (i:=14) Zk Zo rfl Zk Zk Zk (λ_ _ _ _ h=>h) hS ?_;apply Exists.intro;apply And.intro;(refine Or.inl ⟨by rfl,?_⟩;intro w' hS';obtain⟨h1,h2⟩:=hS';go_simp;rfl);simp only[Act.put,List.setIfInBounds_toArray,List.set_cons_succ,List.set_cons_zero]);(refine E6 (i:=15) rfl Zk (λK hK=>?_));go_wp2;refine hK.out _ _ (λh=>absurd h Zo) ?_;clear hK hS;refine Yg Zk ?_ _;have Ln:=L12.push _ hown13 hg13 Zo;clear L12 L11 L;go_wp2;go_roundw
   case rel=>exact⟨k+1,_,by omega,by go_num,Ln⟩
   case measure=>simp[intOf];omega
  ·have hke:k=dN s:=Zo;subst hke;have M0:=L.two;have hge:¬((dN s:Nat):Int)<(Jd s 5:Int)%65:=by unfold dN;omega
   clear L;go_wp2_with fail;clear hge;go_loopw [] (λwr=>∃(j:Nat) (A':Option Addr) (c':Nat),j<=dP s/\L2 w wr s kb (6+4*dN s+j) j v (.slice A' j c')) (λwr=>QT wr (w.heap.size+1));case atStart=>exact⟨0,none,0,Nat.zero_le _,M0⟩
   case round=>
    obtain⟨j,A',c',hj,M⟩:=hrel;have m4:=M.left;have m5:=M.E9;have m6:=M.th;have Q7:1<=Ev s:=by unfold Ev;omega
    have th2:Ev s<=6:=by unfold Ev;omega
    have th0:¬Ev s=0:=Zo;by_cases hlt:6+4*dN s+j<s.size
    ·have hne:(rest s (6+4*dN s+j)).toList.isEmpty=false:=IW (by rw[Mr];omega);by_cases h4:j<4096
     ·have h4':(j:Int)<4096:=Zo;have b6:=IL s (6+4*dN s+j);go_wp2_with fail;refine Yb (λw'=>w'.cell? ⟨w.heap.size+1+1,6,none⟩=some (.slice A' j c')/\w'.cell? ⟨w.heap.size+1+1,2,none⟩=some (.int .i64 (Ev s))) 11 Zk ⟨m5,m6⟩ (λhS=>?_);(refine Bc (i:=0) Zk Zo rfl Zk Zk Zk (λ_ _ _ _ h=>h) hS ?_;apply Exists.intro;apply And.intro;(refine Or.inl ⟨by rfl,?_⟩;intro w' hS';obtain⟨h1,h2⟩:=hS';go_simp;rfl);simp only[Act.put,List.setIfInBounds_toArray,List.set_cons_succ,List.set_cons_zero]);(refine Bc (i:=1) Zk Zo rfl Zk Zk Zk (λ_ _ _ _ h=>h) hS ?_;apply Exists.intro;apply And.intro;(refine Or.inl ⟨by rfl,?_⟩;intro w' hS';obtain⟨h1,h2⟩:=hS';go_simp;rfl);simp only[Act.put,List.setIfInBounds_toArray,List.set_cons_succ,List.set_cons_zero]);(refine Bc (i:=3) Zk Zo rfl Zk Zk Zk (λ_ _ _ _ h=>h) hS ?_;apply Exists.intro;apply And.intro;(refine Or.inl ⟨by rfl,?_⟩;intro w' hS';obtain⟨h1,h2⟩:=hS';go_simp;rfl);simp only[Act.put,List.setIfInBounds_toArray,List.set_cons_succ,List.set_cons_zero]);(refine Bc (i:=4) Zk Zo rfl Zk Zk Zk (λ_ _ _ _ h=>h) hS ?_;apply Exists.intro;apply And.intro;(refine Or.inl ⟨by rfl,?_⟩;intro w' hS';obtain⟨h1,h2⟩:=hS';go_simp;rfl);simp only[Act.put,List.setIfInBounds_toArray,List.set_cons_succ,List.set_cons_zero]);(refine Bc (i:=5) Zk Zo rfl Zk Zk Zk (λ_ _ _ _ h=>h) hS ?_;apply Exists.intro;apply And.intro;(refine Or.inl ⟨by rfl,?_⟩;intro w' hS';obtain⟨h1,h2⟩:=hS';go_simp;rfl);simp only[Act.put,List.setIfInBounds_toArray,List.set_cons_succ,List.set_cons_zero]);(refine Bc (i:=6) Zk Zo rfl Zk Zk Zk (λ_ _ _ _ h=>h) hS ?_;apply Exists.intro;apply And.intro;(refine Or.inl ⟨by rfl,?_⟩;intro w' hS';obtain⟨h1,h2⟩:=hS';go_simp;rfl);simp only[Act.put,List.setIfInBounds_toArray,List.set_cons_succ,List.set_cons_zero]);(refine E6 (i:=2) rfl Zk (λK hK=>?_));go_wp2_with (go_at_call 28;refine(EF s (6+4*dN s+j) _ _ M.d.r.drew).mono ?_;rintro e w8 ⟨rfl,hn⟩;have M8:=M.drew.next ⟨rfl,hn⟩;have m5':=M8.E9;have m6':=M8.th);refine hK.out _ _ (λ_=>⟨m5',m6'⟩) ?_;clear hK hS hn;have hS:=(⟨m5',m6'⟩:w8.cell? ⟨w.heap.size+1+1,6,none⟩=some (.slice A' j c')/\w8.cell? ⟨w.heap.size+1+1,2,none⟩=some (.int .i64 (Ev s)));(refine Bc (i:=7) Zk Zo rfl Zk Zk Zk (λ_ _ _ _ h=>h) hS ?_;apply Exists.intro;apply And.intro;(refine Or.inl ⟨by rfl,?_⟩;intro w' hS';obtain⟨h1,h2⟩:=hS';go_simp;rfl);simp only[Act.put,List.setIfInBounds_toArray,List.set_cons_succ,List.set_cons_zero]);(refine E6 (i:=8) rfl Zk (λK hK=>?_));go_wp2;have hS8:∀o:Obj,(w8.alloc o).cell? ⟨w.heap.size+1+1,6,none⟩=some (.slice A' j c')/\(w8.alloc o).cell? ⟨w.heap.size+1+1,2,none⟩=some (.int .i64 (Ev s)):=λo=>⟨(World.cell?_alloc_lt w8 o _ (by have:=M8.kb;have:=M8.kl;simp;omega)).trans m5',(World.cell?_alloc_lt w8 o _ (by have:=M8.kb;have:=M8.kl;simp;omega)).trans m6'⟩;refine hK.out _ _ (λ_=>hS8 _) ?_;clear hK hS;(refine E6 (i:=9) rfl Zk (λK hK=>?_));obtain⟨i0,hi0,hz0,hz1,hz2⟩:=info_parts NF;have hk8:=M8.kl;refine wpList_append_lies _ Zr _ _ _ Zr (kb+1) 3 i0 _ 1 8 Tryz.underlying45 hi0 hz0 hz1 hz2 rfl Zo (.slice A' j c') j (AA (Da s j)) Zr (M8.own'.alloc _) ⟨w8.heap.size,0,none⟩ 1 1 [.int .i64 (Mx s (Ev s) (dN s) j)] Zr Zr (World.news_of_block (cs:=#[.int .i64 (Mx s (Ev s) (dN s) j)]) (t:=3) (fr:=(0,0)) (heap_alloc_new w8 _)) (by simp[Value.oneCell']) Zo (by simp only[maxLen];omega) Zo (by simp;omega) (w8.heap.size+1) Zs ?_;intro gg cap w9 hown9 hg9 hat9 hlt9;obtain⟨e6a,e2a,fz⟩:=M8.VR _ hg9;go_wp2;refine hK.out _ _ (λ_=>⟨e6a,e2a⟩) ?_;clear hK hS8;have hS:=(⟨e6a,e2a⟩:w9.cell? ⟨w.heap.size+1+1,6,none⟩=some (.slice A' j c')/\w9.cell? ⟨w.heap.size+1+1,2,none⟩=some (.int .i64 (Ev s)));(refine Bc (i:=10) Zk Zo rfl Zk Zk Zk (λ_ _ _ _ h=>h) hS ?_;apply Exists.intro;apply And.intro;(refine Or.inl ⟨by rfl,?_⟩;intro w' hS';obtain⟨h1,h2⟩:=hS';go_simp;rfl);simp only[Act.put,List.setIfInBounds_toArray,List.set_cons_succ,List.set_cons_zero]);(refine E6 (i:=11) rfl Zk (λK hK=>?_));go_wp2;refine hK.out _ _ (λh=>absurd h Zo) ?_;clear hK hS;refine Yg Zk ?_ _;have Mn:=M8.push _ hown9 hg9;have hl0:=M.QT;clear M8 M;go_wp2;go_roundw
      case rel=>exact⟨j+1,_,_,by unfold dP;omega,Mn⟩
      case measure=>rw[Mn.QT,hl0];omega
     ·obtain rfl:j=dP s:=by unfold dP at hj ⊢;omega
      have h4':¬((dP s:Nat):Int)<4096:=Zo;((obtain⟨A0,c0,rfl⟩:=QL M.own);have O:=M.d.o;have X:=M.d.x;have o0:=O.cell 0;have o1:=O.cell 1;have o2:=O.cell 2;have o3:=O.cell 3;have o4:=O.cell 4;have o5:=O.cell 5;have o6:=O.cell 6;have x0:=X.cell 0;have x1:=X.cell 1;have x3:=X.cell 3;have x4:=X.cell 4;have x5:=X.cell 5;simp[DR] at o0 o1 o2 o3 o4 o5 o6 x0 x1 x3 x4 x5;have fo:=O.free;go_wp2_with fail;refine bodyPost_ret (v:=.agg #[.int .i64 (Ct s),.int .i64 (YU s),.int .i64 (Ev s),.int .i64 (KQ s),.int .i64 (ME s),.slice A0 (dN s) c0,.slice A' (dP s) c']) (by simp[results,Tryz.results12,go_sem,o0,o1,o2,o3,o4,o5,o6]) rfl (M.out _ _ _ _ _ _ _))
    ·have hne:(rest s (6+4*dN s+j)).toList.isEmpty=true:=by rw[I5 _ _ Zo,Go.ByteArray.toList_eq];rfl
     obtain rfl:j=dP s:=by unfold dP at hj ⊢;omega
     ((obtain⟨A0,c0,rfl⟩:=QL M.own);have O:=M.d.o;have X:=M.d.x;have o0:=O.cell 0;have o1:=O.cell 1;have o2:=O.cell 2;have o3:=O.cell 3;have o4:=O.cell 4;have o5:=O.cell 5;have o6:=O.cell 6;have x0:=X.cell 0;have x1:=X.cell 1;have x3:=X.cell 3;have x4:=X.cell 4;have x5:=X.cell 5;simp[DR] at o0 o1 o2 o3 o4 o5 o6 x0 x1 x3 x4 x5;have fo:=O.free;go_wp2_with fail;refine bodyPost_ret (v:=.agg #[.int .i64 (Ct s),.int .i64 (YU s),.int .i64 (Ev s),.int .i64 (KQ s),.int .i64 (ME s),.slice A0 (dN s) c0,.slice A' (dP s) c']) (by simp[results,Tryz.results12,go_sem,o0,o1,o2,o3,o4,o5,o6]) rfl (M.out _ _ _ _ _ _ _))
end Go.Proofs.YtaipogljokblkaaGreatDoor.Fn
