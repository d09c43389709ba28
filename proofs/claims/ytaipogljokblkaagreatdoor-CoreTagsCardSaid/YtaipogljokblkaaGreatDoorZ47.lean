/- Core: DcB, DcW. -/
import Derived.Test.YtaipogljokblkaaGreatDoorZ10
import Derived.Test.YtaipogljokblkaaGreatDoorZ01
import Derived.KernelRfl
import Derived.Deep.AppendLies
import Derived.Deep.DeepMust
set_option linter.all false
set_option maxRecDepth 100000
set_option maxHeartbeats 8000000
namespace Go.Proofs.YtaipogljokblkaaGreatDoor.Fn
open Go Go.RowKit
set_option linter.unusedSimpArgs false
set_option linter.unusedVariables false
set_option linter.unusedSectionVars false
def kindAt (st:Int) (b:Nat):Int:=(kindsOf st)[b % (kindsOf st).length]?.getD 0
def taskAt (s:ByteArray) (st th:Int) (i:Nat):PTask :=
 ⟨(bat s (6+4*i):Int) % th,formOp st (kindAt st (bat s (7+4*i))) (bat s (8+4*i)) (bat s (9+4*i))⟩
def pickAt (s:ByteArray) (th:Int) (n i:Nat):Int:=(bat s (6+4*n+i):Int) % th
def dSt (s:ByteArray):Int:=(bat s 0:Int) % 5+1
def dEn (s:ByteArray):Int:=(bat s 1:Int) % 5+1
def dTh (s:ByteArray):Int:=(bat s 2:Int) % 6+1
def dSl (s:ByteArray):Int:=(bat s 3:Int)
def dNo (s:ByteArray):Int:=(bat s 4:Int) % 64+1
def dN (s:ByteArray):Nat:=bat s 5 % 65
def dP (s:ByteArray):Nat:=min (s.size - (6+4*dN s)) 4096
def decOps (s:ByteArray) (k:Nat):List PTask:=(List.range k).map (taskAt s (dSt s) (dTh s))
def decPicks (s:ByteArray) (k:Nat):List Int:=(List.range k).map (pickAt s (dTh s) (dN s))
def dec (s:ByteArray):PScr:=⟨dSt s,dEn s,dTh s,dSl s,dNo s,decOps s (dN s),decPicks s (dP s)⟩
def NextPost (s:ByteArray) (k b:Nat) (w:World) (e:Ending) (w':World):Prop :=
 e = .returned (.int .i64 (bat s k))∧Bk w' b 85 #[.string (rest s (k+1))]∧w.grownBy w' (some b)∧w'.heap.size = w.heap.size
theorem next_bk (s:ByteArray) (k b:Nat) (w:World) (h:Bk w b 85 #[.string (rest s k)]) :
  Calls Tryz.prog 28 #[.pointer (some ⟨b,0,none⟩)] w (NextPost s k b w) :=
 (next_any s k ⟨b,0,none⟩ w (by rw [h.cell];rfl) (h.free 0)).mono fun e w' ⟨he,hw⟩=>by
  subst hw
  exact ⟨he,by simpa using h.set_ 0 (.string (rest s (k+1))),Xq _ _ _ _,by simp [World.setCell]⟩
structure DW (w wr:World) (s:ByteArray) (k:Nat) (xc:Array Value):Prop where
 o:Bk wr w.heap.size 47 #[.int .i64 0,.int .i64 0,.int .i64 0,.int .i64 0,.int .i64 0,.slice none 0 0,.slice none 0 0]
 r:Bk wr (w.heap.size+1) 85 #[.string (rest s k)]
 x:Bk wr (w.heap.size+2) 47 xc
 below:Below w.heap.size w wr
theorem DW.next {w wr w':World} {s:ByteArray} {k:Nat} {xc:Array Value} {e:Ending} (D:DW w wr s k xc) (h:NextPost s k (w.heap.size+1) wr e w') :
  DW w w' s (k+1) xc :=
 ⟨D.o.grown h.2.2.1 (by simp),h.2.1,D.x.grown h.2.2.1 (by simp),D.below.grown h.2.2.1 D.below.size (by simp)⟩
theorem DW.set_ {w wr:World} {s:ByteArray} {k:Nat} {xc:Array Value} (D:DW w wr s k xc) (i:Nat) (u:Value) :
  DW w (wr.setCell ⟨w.heap.size+2,i,none⟩ u) s k (xc.setIfInBounds i u) :=
 ⟨D.o.far (by simp) u,D.r.far (by simp) u,D.x.set_ i u,D.below.setCell (by simp) u⟩
theorem DW.more {w wr w':World} {s:ByteArray} {k:Nat} {xc:Array Value} (D:DW w wr s k xc) (h:Below wr.heap.size wr w'):DW w w' s k xc :=
 ⟨D.o.belowAll h,D.r.belowAll h,D.x.belowAll h,D.below.trans (h.mono D.below.size)⟩
def xcell (s:ByteArray) (v v':Value):Array Value:=#[.int .i64 (dSt s),.int .i64 (dEn s),.int .i64 (dTh s),.int .i64 (dSl s),.int .i64 (dNo s),v,v']
def kcells (s:ByteArray):Array Value:=((kindsOf (dSt s)).map (Value.int .i64)).toArray
structure L1 (w wr:World) (s:ByteArray) (kb p k:Nat) (v:Value):Prop where
 d:DW w wr s p (xcell s v (.slice none 0 0))
 kk:Bk wr kb 3 (kcells s)
 own:wr.ownsRow (kb+1) 91 5 v k (tcells (decOps s k))
 kb:w.heap.size+2 < kb
theorem DW.drew {w wr:World} {s:ByteArray} {k:Nat} {xc:Array Value} (D:DW w wr s k xc):DW w wr.drew s k xc:=⟨D.o,D.r,D.x,D.below.drew⟩
theorem L1.drew {w wr:World} {s:ByteArray} {kb p k:Nat} {v:Value} (L:L1 w wr s kb p k v):L1 w wr.drew s kb p k v:=⟨L.d.drew,L.kk,L.own,L.kb⟩
theorem L1.next {w wr w':World} {s:ByteArray} {kb p k:Nat} {v:Value} {e:Ending} (L:L1 w wr s kb p k v) (h:NextPost s p (w.heap.size+1) wr e w'):L1 w w' s kb (p+1) k v :=
 ⟨L.d.next h,L.kk.grown h.2.2.1 (by have:=L.kb;simp;omega),L.own.kept h.2.2.1 (by
  cases hv:v.ownBlock with
  | none=>simp
  | some g=>right;intro e;have:=(L.own.lt g hv).1;have:=L.kb;simp at e;omega),L.kb⟩
theorem L1.more {w wr w':World} {s:ByteArray} {kb p k:Nat} {v:Value} (L:L1 w wr s kb p k v) (h:Below wr.heap.size wr w'):L1 w w' s kb p k v :=
 ⟨L.d.more h,L.kk.belowAll h,own_below L.own h,L.kb⟩
theorem L1.th {w wr:World} {s:ByteArray} {kb p k:Nat} {v:Value} (L:L1 w wr s kb p k v):wr.cell? ⟨w.heap.size+1+1,2,none⟩ = some (.int .i64 (dTh s)):=by
 have:=L.d.x.cell 2;simpa [xcell] using this
theorem L1.st {w wr:World} {s:ByteArray} {kb p k:Nat} {v:Value} (L:L1 w wr s kb p k v):wr.cell? ⟨w.heap.size+1+1,0,none⟩ = some (.int .i64 (dSt s)):=by
 have:=L.d.x.cell 0;simpa [xcell] using this
theorem L1.ops {w wr:World} {s:ByteArray} {kb p k:Nat} {v:Value} (L:L1 w wr s kb p k v):wr.cell? ⟨w.heap.size+1+1,5,none⟩ = some v:=by
 have:=L.d.x.cell 5;simpa [xcell] using this
theorem L1.kind {w wr:World} {s:ByteArray} {kb p k:Nat} {v:Value} (L:L1 w wr s kb p k v) (b:Nat):wr.cell? ⟨kb,b % (kindsOf (dSt s)).length,none⟩ = some (.int .i64 (kindAt (dSt s) b)):=by
 have h:=L.kk.cell (b % (kindsOf (dSt s)).length)
 have hst:dSt s = 1∨dSt s = 2∨dSt s = 3∨dSt s = 4∨dSt s = 5:=by unfold dSt;omega
 rw [h]
 unfold kcells kindAt
 rcases hst with e | e | e | e | e <;> rw [e]
 ·have:b % 3 < 3:=Nat.mod_lt _ (by omega)
  generalize hc:b % 3 = c at this
  simp [kindsOf,hc]
  match c,this with
  | 0,_=>rfl
  | 1,_=>rfl
  | 2,_=>rfl
 ·have:b % 2 < 2:=Nat.mod_lt _ (by omega)
  generalize hc:b % 2 = c at this
  simp [kindsOf,hc]
  match c,this with
  | 0,_=>rfl
  | 1,_=>rfl
 all_goals
  have:b % 3 < 3:=Nat.mod_lt _ (by omega)
  generalize hc:b % 3 = c at this
  simp [kindsOf,hc]
  match c,this with
  | 0,_=>rfl
  | 1,_=>rfl
  | 2,_=>rfl
theorem decOps_succ (s:ByteArray) (k:Nat):decOps s (k+1) = decOps s k++[taskAt s (dSt s) (dTh s) k]:=by
 simp [decOps,List.range_succ]
theorem decOps_length (s:ByteArray) (k:Nat):(decOps s k).length = k:=by simp [decOps]
theorem tcells_append (a b:List PTask):tcells (a++b) = tcells a++tcells b:=by simp [tcells]
def taskOf (s:ByteArray) (p:Nat):PTask:=⟨(bat s p:Int) % dTh s,formOp (dSt s) (kindAt (dSt s) (bat s (p+1))) (bat s (p+1+1)) (bat s (p+1+1+1))⟩
theorem taskOf_at (s:ByteArray) (k:Nat):taskOf s (6+4*k) = taskAt s (dSt s) (dTh s) k:=by
 unfold taskOf taskAt
 rw [show 6+4*k+1 = 7+4*k from by omega,show 7+4*k+1 = 8+4*k from by omega,show 8+4*k+1 = 9+4*k from by omega]
theorem L1.push {w w12 w13:World} {s:ByteArray} {kb p k:Nat} {v v':Value} (L:L1 w w12 s kb p k v) (o:Obj)
  (hown:w13.ownsRow (kb+1) 91 5 v' (k+1) (tcells (decOps s k)++(taskOf s (6+4*k)).cells)) (hg:(w12.alloc o).grownBy w13 v.ownBlock) (hp:p = 6+4*k+4) :
  L1 w (w13.setCell ⟨w.heap.size+2,5,none⟩ v') s kb (6+4*(k+1)) (k+1) v':=by
 have hkb:=L.kb
 have hne:∀ g,g≤kb→some g≠v.ownBlock:=by
  intro g hgk e
  have:=(L.own.lt g e.symm).1
  omega
 have hs:=L.d.below.size
 have hlt:=L.kk.lt
 have Dx:Bk w13 (w.heap.size+2) 47 (xcell s v (.slice none 0 0)):=(L.d.x.alloc o).grown hg (hne _ (by omega))
 have D:DW w w13 s p (xcell s v (.slice none 0 0)) :=
  ⟨(L.d.o.alloc o).grown hg (hne _ (by omega)),(L.d.r.alloc o).grown hg (hne _ (by omega)),Dx,
   (L.d.below.alloc hs o).grown hg (by simp;omega) (fun g e=>by have:=(L.own.lt g e).1;omega)⟩
 have D2:=D.set_ 5 v'
 have e:(xcell s v (.slice none 0 0)).setIfInBounds 5 v' = xcell s v' (.slice none 0 0):=rfl
 rw [e] at D2
 refine ⟨by rw [show 6+4*(k+1) = p from by omega];exact D2,((L.kk.alloc o).grown hg (hne _ (by omega))).far (by simp;omega) _,?_,hkb⟩
 have h2:=Yu hown (a:=⟨w.heap.size+2,5,none⟩) (by simp;omega) v'
 rw [decOps_succ,tcells_append,← taskOf_at]
 simpa [tcells] using h2
theorem L1.xAfter {w w12 w13:World} {s:ByteArray} {kb p k:Nat} {v:Value} (L:L1 w w12 s kb p k v) (o:Obj) (hg:(w12.alloc o).grownBy w13 v.ownBlock) :
  w13.cell? ⟨w.heap.size+1+1,5,none⟩ = some v∧w13.cell? ⟨w.heap.size+1+1,0,none⟩ = some (.int .i64 (dSt s))∧w13.frozen? ⟨w.heap.size+1+1,5,none⟩ = false:=by
 have hkb:=L.kb
 have Dx:Bk w13 (w.heap.size+2) 47 (xcell s v (.slice none 0 0)):=(L.d.x.alloc o).grown hg (by intro e;have:=(L.own.lt _ e.symm).1;omega)
 exact ⟨by have:=Dx.cell 5;simpa [xcell] using this,by have:=Dx.cell 0;simpa [xcell] using this,Dx.free 5⟩
theorem own_apart {w:World} {b b':Nat} {e e':TypeId} {sz sz' n n':Nat} {v v':Value} {xs xs':List Value} (h:w.ownsRow b e sz v n xs) (h':w.ownsRow b' e' sz' v' n' xs') (hne:e≠e') :
  v.ownBlock = none∨v.ownBlock≠v'.ownBlock:=by
 rcases h.2 with ⟨rfl,_⟩ | ⟨g,cap,cur,rfl,_,hh,_⟩
 ·left;rfl
 ·right
  rcases h'.2 with ⟨rfl,_⟩ | ⟨g',cap',cur',rfl,_,hh',_⟩
  ·simp [Value.ownBlock]
  ·simp only [Value.ownBlock,Option.map_some,ne_eq,Option.some.injEq]
   intro e1
   subst e1
   rw [hh] at hh'
   simp at hh'
   exact hne hh'.2
structure L2 (w wr:World) (s:ByteArray) (kb p j:Nat) (v v':Value):Prop where
 d:DW w wr s p (xcell s v v')
 own:wr.ownsRow (kb+1) 91 5 v (dN s) (tcells (decOps s (dN s)))
 own':wr.ownsRow (kb+1) 3 1 v' j (icells (decPicks s j))
 kl:kb < wr.heap.size
 kb:w.heap.size+2 < kb
theorem L1.two {w wr:World} {s:ByteArray} {kb p:Nat} {v:Value} (L:L1 w wr s kb p (dN s) v):L2 w wr s kb p 0 v (.slice none 0 0) :=
 ⟨L.d,L.own,⟨rfl,.inl ⟨rfl,rfl⟩⟩,L.kk.lt,L.kb⟩
theorem L2.drew {w wr:World} {s:ByteArray} {kb p j:Nat} {v v':Value} (L:L2 w wr s kb p j v v'):L2 w wr.drew s kb p j v v':=⟨L.d.drew,L.own,L.own',L.kl,L.kb⟩
theorem L2.next {w wr w':World} {s:ByteArray} {kb p j:Nat} {v v':Value} {e:Ending} (L:L2 w wr s kb p j v v') (h:NextPost s p (w.heap.size+1) wr e w'):L2 w w' s kb (p+1) j v v':=by
 have aux:∀ {e sz n x xs},wr.ownsRow (kb+1) e sz x n xs→w'.ownsRow (kb+1) e sz x n xs:=fun {e sz n x xs} ho=>ho.kept h.2.2.1 (by
  cases hv:x.ownBlock with
  | none=>simp
  | some g=>right;intro e;have:=(ho.lt g hv).1;have:=L.kb;simp at e;omega)
 exact ⟨L.d.next h,aux L.own,aux L.own',by have:=h.2.2.1.size;have:=L.kl;omega,L.kb⟩
theorem L2.th {w wr:World} {s:ByteArray} {kb p j:Nat} {v v':Value} (L:L2 w wr s kb p j v v'):wr.cell? ⟨w.heap.size+1+1,2,none⟩ = some (.int .i64 (dTh s)):=by
 have:=L.d.x.cell 2;simpa [xcell] using this
theorem L2.picks {w wr:World} {s:ByteArray} {kb p j:Nat} {v v':Value} (L:L2 w wr s kb p j v v'):wr.cell? ⟨w.heap.size+1+1,6,none⟩ = some v':=by
 have:=L.d.x.cell 6;simpa [xcell] using this
theorem L2.left {w wr:World} {s:ByteArray} {kb p j:Nat} {v v':Value} (L:L2 w wr s kb p j v v'):wr.cell? ⟨w.heap.size+1,0,none⟩ = some (.string (rest s p)):=by
 have:=L.d.r.cell 0;simpa using this
theorem L2.xAfter {w w12 w13:World} {s:ByteArray} {kb p j:Nat} {v v':Value} (L:L2 w w12 s kb p j v v') (o:Obj) (hg:(w12.alloc o).grownBy w13 v'.ownBlock) :
  w13.cell? ⟨w.heap.size+1+1,6,none⟩ = some v'∧w13.cell? ⟨w.heap.size+1+1,2,none⟩ = some (.int .i64 (dTh s))∧w13.frozen? ⟨w.heap.size+1+1,6,none⟩ = false:=by
 have hkb:=L.kb
 have Dx:Bk w13 (w.heap.size+2) 47 (xcell s v v'):=(L.d.x.alloc o).grown hg (by intro e;have:=(L.own'.lt _ e.symm).1;omega)
 exact ⟨by have:=Dx.cell 6;simpa [xcell] using this,by have:=Dx.cell 2;simpa [xcell] using this,Dx.free 6⟩
theorem decPicks_succ (s:ByteArray) (j:Nat):decPicks s (j+1) = decPicks s j++[pickAt s (dTh s) (dN s) j]:=by
 simp [decPicks,List.range_succ]
theorem L2.push {w w12 w13:World} {s:ByteArray} {kb p j:Nat} {v v' v'':Value} (L:L2 w w12 s kb p j v v') (o:Obj)
  (hown:w13.ownsRow (kb+1) 3 1 v'' (j+1) (icells (decPicks s j)++[.int .i64 (pickAt s (dTh s) (dN s) j)])) (hg:(w12.alloc o).grownBy w13 v'.ownBlock) :
  L2 w (w13.setCell ⟨w.heap.size+2,6,none⟩ v'') s kb p (j+1) v v'':=by
 have hkb:=L.kb
 have hne:∀ g,g≤kb→some g≠v'.ownBlock:=by
  intro g hgk e
  have:=(L.own'.lt g e.symm).1
  omega
 have hs:=L.d.below.size
 have hlt:=L.kl
 have D:DW w w13 s p (xcell s v v') :=
  ⟨(L.d.o.alloc o).grown hg (hne _ (by omega)),(L.d.r.alloc o).grown hg (hne _ (by omega)),(L.d.x.alloc o).grown hg (hne _ (by omega)),
   (L.d.below.alloc hs o).grown hg (by simp;omega) (fun g e=>by have:=(L.own'.lt g e).1;omega)⟩
 have D2:=D.set_ 6 v''
 have e:(xcell s v v').setIfInBounds 6 v'' = xcell s v v'':=rfl
 rw [e] at D2
 have ho:w13.ownsRow (kb+1) 91 5 v (dN s) (tcells (decOps s (dN s))):=(L.own.alloc o).kept hg (own_apart L.own L.own' (by decide))
 refine ⟨D2,Yu ho (a:=⟨w.heap.size+2,6,none⟩) (by simp;omega) v'',?_,?_,hkb⟩
 ·have h2:=Yu hown (a:=⟨w.heap.size+2,6,none⟩) (by simp;omega) v''
  rw [decPicks_succ]
  simpa [icells] using h2
 ·have:=hg.size
  simp [World.setCell] at this ⊢
  omega
def leftN (w:World) (b:Nat):Nat:=match w.cell? ⟨b,0,none⟩ with | some (.string t)=>t.size | _=>0
theorem L2.leftN {w wr:World} {s:ByteArray} {kb p j:Nat} {v v':Value} (L:L2 w wr s kb p j v v'):leftN wr (w.heap.size+1) = s.size - p:=by
 unfold Go.Proofs.YtaipogljokblkaaGreatDoor.Fn.leftN
 rw [L.left]
 simp [rest_size]
theorem own_slice {w:World} {base:Nat} {e:TypeId} {sz n:Nat} {v:Value} {xs:List Value} (h:w.ownsRow base e sz v n xs):∃ A c,v = .slice A n c:=by
 obtain ⟨h1,h2⟩:=h
 rcases Nat.eq_zero_or_pos n with h0 | h0
 ·subst h0
  rcases h2 with ⟨rfl,_⟩ | ⟨g,cap,cur,hv,hg,r⟩
  ·exact ⟨_,_,rfl⟩
  ·exact ⟨_,_,hv⟩
 ·obtain ⟨g,cap,hv,_⟩:=World.ownsRow.form (w:=w) (base:=base) (e:=e) (xs:=xs) ⟨h1,h2⟩ h0
  exact ⟨_,_,hv⟩
def DecPost (s:ByteArray) (w:World) (e:Ending) (w':World):Prop :=
 ∃ A c A' c',e = .returned ((dec s).v A c A' c')∧Sl w' w'.heap.size 5 A (dec s).ops.length (tcells (dec s).ops)∧Sl w' w'.heap.size 1 A' (dec s).picks.length (icells (dec s).picks) ∧
  Below w.heap.size w w'
theorem decPicks_length (s:ByteArray) (k:Nat):(decPicks s k).length = k:=by simp [decPicks]
theorem dec_v (s:ByteArray) (A:Option Addr) (c:Nat) (A':Option Addr) (c':Nat) :
  Value.agg #[.int .i64 (dSt s),.int .i64 (dEn s),.int .i64 (dTh s),.int .i64 (dSl s),.int .i64 (dNo s),.slice A (dN s) c,.slice A' (dP s) c'] = (dec s).v A c A' c':=by
 simp [PScr.v,dec,decOps_length,decPicks_length]
theorem L2.out {w wr:World} {s:ByteArray} {kb p:Nat} {A A':Option Addr} {c c':Nat} (M:L2 w wr s kb p (dP s) (.slice A (dN s) c) (.slice A' (dP s) c')) (u0 u1 u2 u3 u4 u5 u6:Value) :
  DecPost s w (.returned (.agg #[.int .i64 (dSt s),.int .i64 (dEn s),.int .i64 (dTh s),.int .i64 (dSl s),.int .i64 (dNo s),.slice A (dN s) c,.slice A' (dP s) c']))
   (((((((wr.setCell ⟨w.heap.size,0,none⟩ u0).setCell ⟨w.heap.size,1,none⟩ u1).setCell ⟨w.heap.size,2,none⟩ u2).setCell ⟨w.heap.size,3,none⟩ u3).setCell ⟨w.heap.size,4,none⟩ u4).setCell ⟨w.heap.size,5,none⟩ u5).setCell ⟨w.heap.size,6,none⟩ u6):=by
 have hk:=M.kb
 have o1:=M.own
 have o2:=M.own'
 have hb:=M.d.below
 refine ⟨A,c,A',c',by rw [dec_v],?_,?_,?_⟩
 ·have q1:∀ i,(⟨w.heap.size,i,none⟩:Addr).block < kb+1:=fun i=>by simp;omega
  have:=Yu (Yu (Yu (Yu (Yu (Yu (Yu o1 (q1 0) u0) (q1 1) u1) (q1 2) u2) (q1 3) u3) (q1 4) u4) (q1 5) u5) (q1 6) u6
  have h:=Sl.of_own this
  simpa [dec,decOps_length] using h
 ·have q1:∀ i,(⟨w.heap.size,i,none⟩:Addr).block < kb+1:=fun i=>by simp;omega
  have:=Yu (Yu (Yu (Yu (Yu (Yu (Yu o2 (q1 0) u0) (q1 1) u1) (q1 2) u2) (q1 3) u3) (q1 4) u4) (q1 5) u5) (q1 6) u6
  have h:=Sl.of_own this
  simpa [dec,decPicks_length] using h
 ·exact ((((((hb.setCell (by simp) u0).setCell (by simp) u1).setCell (by simp) u2).setCell (by simp) u3).setCell (by simp) u4).setCell (by simp) u5).setCell (by simp) u6
theorem form_agg (st kind x y:Int) (w:World) (hx0:0≤x) (hx1:x≤255) (hy0:0≤y) (hy1:y≤255) :
  Calls Tryz.prog 30 #[.int .i64 st,.int .i64 kind,.int .i64 x,.int .i64 y] w
   (RetV (.agg #[.int .i64 (formOp st kind x y).kind,.int .i64 (formOp st kind x y).key,.int .i64 (formOp st kind x y).val,.int .i64 (formOp st kind x y).tall]) w) :=
 form_any st kind x y w hx0 hx1 hy0 hy1
theorem infoTask:(Tryz.prog.info? 91).map (fun i=>(i.zero,i.size,i.bytes)) = some (some (.agg #[.int .i64 0,.int .i64 0,.int .i64 0,.int .i64 0,.int .i64 0]),5,40):=by kernel_rfl
theorem infoInt:(Tryz.prog.info? 3).map (fun i=>(i.zero,i.size,i.bytes)) = some (some (.int .i64 0),1,8):=by kernel_rfl
end Go.Proofs.YtaipogljokblkaaGreatDoor.Fn
namespace Go.Proofs.YtaipogljokblkaaGreatDoor.Fn
open Go Go.RowKit
theorem decode_any (s:ByteArray) (w:World) (hs:s.size≤140737488351232) :
  Calls Tryz.prog 12 #[.string s] w (DecPost s w):=by
 have hq:∀ k,bat s k < 256:=bat_lt s
 have q0:=hq 0
 have q1:=hq 1
 have q2:=hq 2
 have q3:=hq 3
 have q4:=hq 4
 have q5:=hq 5
 clear hq
 go_enter Tryz.func12,Tryz.ntmps12
 go_wp2_with fail
 have D:DW w _ s 0 #[.int .i64 0,.int .i64 0,.int .i64 0,.int .i64 0,.int .i64 0,.slice none 0 0,.slice none 0 0]:=⟨(((Bk.at_ rfl).alloc _).alloc _),by rw [rest_zero];exact ((Bk.at_ (by simp)).alloc _),Bk.at_ (by simp),(((Below.refl _ _).alloc (Nat.le_refl _) _).alloc (by simp) _).alloc (by simp;omega) _⟩
 refine (next_bk s 0 _ _ D.r).mono ?_
 rintro e w1 ⟨rfl,hn⟩
 have D0a:=D.next ⟨rfl,hn⟩
 clear D hn
 have f0:=D0a.x.cell 0
 have g0:=D0a.x.free 0
 simp at f0
 go_wp2_with fail
 have D1:=D0a.set_ 0 (.int .i64 (dSt s))
 clear D0a f0 g0
 refine (next_bk s 1 _ _ D1.r).mono ?_
 rintro e w2 ⟨rfl,hn⟩
 have D1a:=D1.next ⟨rfl,hn⟩
 clear D1 hn
 have f0:=D1a.x.cell 1
 have g0:=D1a.x.free 1
 simp at f0
 go_wp2_with fail
 have D2:=D1a.set_ 1 (.int .i64 (dEn s))
 clear D1a f0 g0
 refine (next_bk s 2 _ _ D2.r).mono ?_
 rintro e w3 ⟨rfl,hn⟩
 have D2a:=D2.next ⟨rfl,hn⟩
 clear D2 hn
 have f0:=D2a.x.cell 2
 have g0:=D2a.x.free 2
 simp at f0
 go_wp2_with fail
 have D3:=D2a.set_ 2 (.int .i64 (dTh s))
 clear D2a f0 g0
 refine (next_bk s 3 _ _ D3.r).mono ?_
 rintro e w4 ⟨rfl,hn⟩
 have D3a:=D3.next ⟨rfl,hn⟩
 clear D3 hn
 have f0:=D3a.x.cell 3
 have g0:=D3a.x.free 3
 simp at f0
 go_wp2_with fail
 have D4:=D3a.set_ 3 (.int .i64 (dSl s))
 clear D3a f0 g0
 refine (next_bk s 4 _ _ D4.r).mono ?_
 rintro e w5 ⟨rfl,hn⟩
 have D4a:=D4.next ⟨rfl,hn⟩
 clear D4 hn
 have f0:=D4a.x.cell 4
 have g0:=D4a.x.free 4
 simp at f0
 have f1:=D4a.x.cell 0
 simp at f1
 go_wp2_with fail
 have D5:=D4a.set_ 4 (.int .i64 (dNo s))
 clear D4a f0 g0 f1
 refine (kinds_any (dSt s) _ (by unfold dSt;omega) (by unfold dSt;omega)).mono ?_
 rintro e w6 ⟨rfl,rfl⟩
 have hkb:=D5.x.lt
 have D6:=D5.more ((Below.refl _ _).alloc (Nat.le_refl _) (.cells ((kindsOf (dSt s)).map (Value.int .i64)).toArray 3))
 have hK:Bk ((w5.setCell ⟨w.heap.size+2,4,none⟩ (.int .i64 (dNo s))).alloc (.cells (kcells s) 3)) w5.heap.size 3 (kcells s):=Bk.at_ (by simp [World.setCell])
 simp [World.setCell] at hkb
 clear D5
 go_wp2_with fail
 refine (next_bk s 5 _ _ D6.r).mono ?_
 rintro e w7 ⟨rfl,hn⟩
 have D7:=D6.next ⟨rfl,hn⟩
 have hK7:=hK.grown (t:=3) hn.2.1 (by simp;omega)
 clear D6 hK hn
 generalize w5.heap.size = kb at *
 have hsz7:=hK7.lt
 have L:L1 w w7 s kb 6 0 (.slice none 0 0):=⟨D7,hK7,⟨rfl,.inl ⟨rfl,rfl⟩⟩,hkb⟩
 clear D7 hK7 hsz7
 go_wp2_with fail
 go_loopw [49] (fun i wr=>∃ (k:Nat) (v:Value),k≤dN s∧i = .int .i64 k∧L1 w wr s kb (6+4*k) k v) (fun i _=>dN s - (intOf i).toNat)
 case atStart=>exact ⟨0,_,Nat.zero_le _,rfl,L⟩
 case round =>
  obtain ⟨k,v,hk,rfl,L⟩:=hrel
  by_cases hlt:k < dN s
  ·have hlt':(k:Int) < (bat s 5:Int) % 65:=by unfold dN at hlt;omega
   have th1:1≤dTh s:=by unfold dTh;omega
   have th2:dTh s≤6:=by unfold dTh;omega
   have b6:=bat_lt s (6+4*k)
   have c2:=L.th
   have th0:¬ dTh s = 0:=by omega
   go_wp2_with fail
   go_region_held3 (fun w'=>w'.cell? ⟨w.heap.size+1+1,2,none⟩ = some (.int .i64 (dTh s))) (first | go_keep | exact c2' | exact c2)
    ((go_at_call 28;refine (next_bk s (6+4*k) _ _ L.d.r.drew).mono ?_;rintro e w8 ⟨rfl,hn⟩;have L8:=L.drew.next ⟨rfl,hn⟩;have c2':=L8.th))
   clear hn
   have hl1:1≤(kindsOf (dSt s)).length:=by
    have hst:dSt s = 1∨dSt s = 2∨dSt s = 3∨dSt s = 4∨dSt s = 5:=by unfold dSt;omega
    rcases hst with e | e | e | e | e <;> rw [e] <;> decide
   have hl3:(kindsOf (dSt s)).length≤3:=by
    have hst:dSt s = 1∨dSt s = 2∨dSt s = 3∨dSt s = 4∨dSt s = 5:=by unfold dSt;omega
    rcases hst with e | e | e | e | e <;> rw [e] <;> decide
   go_wp2_with fail
   refine (next_bk s (6+4*k+1) _ _ L8.d.r).mono ?_
   rintro e w9 ⟨rfl,hn⟩
   have L9:=L8.next ⟨rfl,hn⟩
   clear hn L8 c2' c2
   have c3:=L9.kind (bat s (6+4*k+1))
   have b7:=bat_lt s (6+4*k+1)
   have m7:bat s (6+4*k+1) % (kindsOf (dSt s)).length < (kindsOf (dSt s)).length:=Nat.mod_lt _ (by omega)
   go_wp2_with fail
   clear c3 m7
   refine (next_bk s (6+4*k+1+1) _ _ L9.d.r).mono ?_
   rintro e w10 ⟨rfl,hn⟩
   have L10:=L9.next ⟨rfl,hn⟩
   clear hn L9
   have b8:=bat_lt s (6+4*k+1+1)
   go_wp2_with fail
   refine (next_bk s (6+4*k+1+1+1) _ _ L10.d.r).mono ?_
   rintro e w11 ⟨rfl,hn⟩
   have L11:=L10.next ⟨rfl,hn⟩
   clear hn L10
   have b9:=bat_lt s (6+4*k+1+1+1)
   have e5:=L11.ops
   have e0:=L11.st
   obtain ⟨i0,hi0,hz0,hz1,hz2⟩:=info_parts infoTask
   have hkN:k < 65:=by unfold dN at hlt;omega
   go_wp2_with fail
   refine X2 (fun w'=>w'.cell? ⟨w.heap.size+1+1,5,none⟩ = some v∧w'.cell? ⟨w.heap.size+1+1,0,none⟩ = some (.int .i64 (dSt s))) 15 (by kernel_rfl) ⟨e5,e0⟩ (fun hS=>?_)
   (refine wpT_more (i:=0) (by kernel_rfl) (by omega) rfl (by kernel_rfl) (by kernel_rfl) (by kernel_rfl) (fun _ _ _ _ h=>h) hS ?_;apply Exists.intro;apply And.intro;(refine Or.inl ⟨by rfl,?_⟩;intro w' hS';obtain ⟨h1,h2⟩:=hS';go_simp;rfl);simp only [Act.put,List.setIfInBounds_toArray,List.set_cons_succ,List.set_cons_zero])
   (refine wpT_more (i:=1) (by kernel_rfl) (by omega) rfl (by kernel_rfl) (by kernel_rfl) (by kernel_rfl) (fun _ _ _ _ h=>h) hS ?_;apply Exists.intro;apply And.intro;(refine Or.inl ⟨by rfl,?_⟩;intro w' hS';obtain ⟨h1,h2⟩:=hS';go_simp;rfl);simp only [Act.put,List.setIfInBounds_toArray,List.set_cons_succ,List.set_cons_zero])
   (refine wpT_more (i:=2) (by kernel_rfl) (by omega) rfl (by kernel_rfl) (by kernel_rfl) (by kernel_rfl) (fun _ _ _ _ h=>h) hS ?_;apply Exists.intro;apply And.intro;(refine Or.inl ⟨by rfl,?_⟩;intro w' hS';obtain ⟨h1,h2⟩:=hS';go_simp;rfl);simp only [Act.put,List.setIfInBounds_toArray,List.set_cons_succ,List.set_cons_zero])
   (refine wpT_more (i:=3) (by kernel_rfl) (by omega) rfl (by kernel_rfl) (by kernel_rfl) (by kernel_rfl) (fun _ _ _ _ h=>h) hS ?_;apply Exists.intro;apply And.intro;(refine Or.inl ⟨by rfl,?_⟩;intro w' hS';obtain ⟨h1,h2⟩:=hS';go_simp;rfl);simp only [Act.put,List.setIfInBounds_toArray,List.set_cons_succ,List.set_cons_zero])
   (refine wpT_more (i:=4) (by kernel_rfl) (by omega) rfl (by kernel_rfl) (by kernel_rfl) (by kernel_rfl) (fun _ _ _ _ h=>h) hS ?_;apply Exists.intro;apply And.intro;(refine Or.inl ⟨by rfl,?_⟩;intro w' hS';obtain ⟨h1,h2⟩:=hS';go_simp;rfl);simp only [Act.put,List.setIfInBounds_toArray,List.set_cons_succ,List.set_cons_zero])
   (refine wpT_more (i:=5) (by kernel_rfl) (by omega) rfl (by kernel_rfl) (by kernel_rfl) (by kernel_rfl) (fun _ _ _ _ h=>h) hS ?_;apply Exists.intro;apply And.intro;(refine Or.inl ⟨by rfl,?_⟩;intro w' hS';obtain ⟨h1,h2⟩:=hS';go_simp;rfl);simp only [Act.put,List.setIfInBounds_toArray,List.set_cons_succ,List.set_cons_zero])
   (refine wpT_more (i:=6) (by kernel_rfl) (by omega) rfl (by kernel_rfl) (by kernel_rfl) (by kernel_rfl) (fun _ _ _ _ h=>h) hS ?_;apply Exists.intro;apply And.intro;(refine Or.inl ⟨by rfl,?_⟩;intro w' hS';obtain ⟨h1,h2⟩:=hS';go_simp;rfl);simp only [Act.put,List.setIfInBounds_toArray,List.set_cons_succ,List.set_cons_zero])
   (refine wpT_more (i:=7) (by kernel_rfl) (by omega) rfl (by kernel_rfl) (by kernel_rfl) (by kernel_rfl) (fun _ _ _ _ h=>h) hS ?_;apply Exists.intro;apply And.intro;(refine Or.inl ⟨by rfl,?_⟩;intro w' hS';obtain ⟨h1,h2⟩:=hS';go_simp;rfl);simp only [Act.put,List.setIfInBounds_toArray,List.set_cons_succ,List.set_cons_zero])
   (refine wpT_more (i:=8) (by kernel_rfl) (by omega) rfl (by kernel_rfl) (by kernel_rfl) (by kernel_rfl) (fun _ _ _ _ h=>h) hS ?_;apply Exists.intro;apply And.intro;(refine Or.inl ⟨by rfl,?_⟩;intro w' hS';obtain ⟨h1,h2⟩:=hS';go_simp;rfl);simp only [Act.put,List.setIfInBounds_toArray,List.set_cons_succ,List.set_cons_zero])
   (refine wpT_more (i:=9) (by kernel_rfl) (by omega) rfl (by kernel_rfl) (by kernel_rfl) (by kernel_rfl) (fun _ _ _ _ h=>h) hS ?_;apply Exists.intro;apply And.intro;(refine Or.inl ⟨by rfl,?_⟩;intro w' hS';obtain ⟨h1,h2⟩:=hS';go_simp;rfl);simp only [Act.put,List.setIfInBounds_toArray,List.set_cons_succ,List.set_cons_zero])
   (refine wpT_loud (i:=10) rfl (by kernel_rfl) (fun K hK=>?_))
   go_wp2_with (go_at_call 30;refine (form_agg (dSt s) (kindAt (dSt s) (bat s (6+4*k+1))) (bat s (6+4*k+1+1)) (bat s (6+4*k+1+1+1)) _ (by omega) (by omega) (by omega) (by omega)).mono ?_;rintro e w12 ⟨rfl,hb12⟩;have L12:=L11.drew.more hb12;have e5':=L12.ops;have e0':=L12.st;have hk12:=L12.kk.lt)
   refine hK.out _ _ (fun _=>⟨e5',e0'⟩) ?_
   clear hK hS
   have hS:=(⟨e5',e0'⟩:w12.cell? ⟨w.heap.size+1+1,5,none⟩ = some v∧w12.cell? ⟨w.heap.size+1+1,0,none⟩ = some (.int .i64 (dSt s)))
   (refine wpT_more (i:=11) (by kernel_rfl) (by omega) rfl (by kernel_rfl) (by kernel_rfl) (by kernel_rfl) (fun _ _ _ _ h=>h) hS ?_;apply Exists.intro;apply And.intro;(refine Or.inl ⟨by rfl,?_⟩;intro w' hS';obtain ⟨h1,h2⟩:=hS';go_simp;rfl);simp only [Act.put,List.setIfInBounds_toArray,List.set_cons_succ,List.set_cons_zero])
   (refine wpT_loud (i:=12) rfl (by kernel_rfl) (fun K hK=>?_))
   go_wp2
   have hS12:∀ o:Obj,(w12.alloc o).cell? ⟨w.heap.size+1+1,5,none⟩ = some v∧(w12.alloc o).cell? ⟨w.heap.size+1+1,0,none⟩ = some (.int .i64 (dSt s)):=fun o=>⟨(World.cell?_alloc_lt w12 o _ (by have:=L12.kb;simp;omega)).trans e5',(World.cell?_alloc_lt w12 o _ (by have:=L12.kb;simp;omega)).trans e0'⟩
   refine hK.out _ _ (fun _=>hS12 _) ?_
   clear hK hS
   (refine wpT_loud (i:=13) rfl (by kernel_rfl) (fun K hK=>?_))
   refine wpList_append_lies _ (by rfl) _ _ _ (by rfl) (kb+1) 91 i0 _ 5 40 Tryz.underlying44 hi0 hz0 hz1 hz2 rfl (by omega) v k (tcells (decOps s k)) (by rfl) (L12.own.alloc _) ⟨w12.heap.size,0,none⟩ 1 1 (taskOf s (6+4*k)).cells (by rfl) (by rfl) (World.news_of_block (cs:=(taskOf s (6+4*k)).cells.toArray) (t:=91) (fr:=(0,0)) (heap_alloc_new w12 _)) (by simp [PTask.cells,Value.oneCell']) (by omega) (by simp only [maxLen];omega) (by omega) (by simp;omega) (w12.heap.size+1) (by simp) ?_
   intro gg cap w13 hown13 hg13 hat13 hlt13
   obtain ⟨e5a,e0a,fz⟩:=L12.xAfter _ hg13
   go_wp2
   refine hK.out _ _ (fun _=>⟨e5a,e0a⟩) ?_
   clear hK hS12
   have hS:=(⟨e5a,e0a⟩:w13.cell? ⟨w.heap.size+1+1,5,none⟩ = some v∧w13.cell? ⟨w.heap.size+1+1,0,none⟩ = some (.int .i64 (dSt s)))
   (refine wpT_more (i:=14) (by kernel_rfl) (by omega) rfl (by kernel_rfl) (by kernel_rfl) (by kernel_rfl) (fun _ _ _ _ h=>h) hS ?_;apply Exists.intro;apply And.intro;(refine Or.inl ⟨by rfl,?_⟩;intro w' hS';obtain ⟨h1,h2⟩:=hS';go_simp;rfl);simp only [Act.put,List.setIfInBounds_toArray,List.set_cons_succ,List.set_cons_zero])
   (refine wpT_loud (i:=15) rfl (by kernel_rfl) (fun K hK=>?_))
   go_wp2
   refine hK.out _ _ (fun h=>absurd h (by omega)) ?_
   clear hK hS
   refine X9 (by kernel_rfl) ?_ _
   have Ln:=L12.push _ hown13 hg13 (by omega)
   clear L12 L11 L
   go_wp2
   go_roundw
   case rel=>exact ⟨k+1,_,by omega,by go_num,Ln⟩
   case measure=>simp [intOf];omega
  ·have hke:k = dN s:=by omega
   subst hke
   have M0:=L.two
   have hge:¬ ((dN s:Nat):Int) < (bat s 5:Int) % 65:=by unfold dN;omega
   clear L
   go_wp2_with fail
   clear hge
   go_loopw [] (fun wr=>∃ (j:Nat) (A':Option Addr) (c':Nat),j≤dP s∧L2 w wr s kb (6+4*dN s+j) j v (.slice A' j c')) (fun wr=>leftN wr (w.heap.size+1))
   case atStart=>exact ⟨0,none,0,Nat.zero_le _,M0⟩
   case round =>
    obtain ⟨j,A',c',hj,M⟩:=hrel
    have m4:=M.left
    have m5:=M.picks
    have m6:=M.th
    have th1:1≤dTh s:=by unfold dTh;omega
    have th2:dTh s≤6:=by unfold dTh;omega
    have th0:¬ dTh s = 0:=by omega
    by_cases hlt:6+4*dN s+j < s.size
    ·have hne:(rest s (6+4*dN s+j)).toList.isEmpty = false:=isEmpty_of_size (by rw [rest_size];omega)
     by_cases h4:j < 4096
     ·have h4':(j:Int) < 4096:=by omega
      have b6:=bat_lt s (6+4*dN s+j)
      go_wp2_with fail
      refine X2 (fun w'=>w'.cell? ⟨w.heap.size+1+1,6,none⟩ = some (.slice A' j c')∧w'.cell? ⟨w.heap.size+1+1,2,none⟩ = some (.int .i64 (dTh s))) 11 (by kernel_rfl) ⟨m5,m6⟩ (fun hS=>?_)
      (refine wpT_more (i:=0) (by kernel_rfl) (by omega) rfl (by kernel_rfl) (by kernel_rfl) (by kernel_rfl) (fun _ _ _ _ h=>h) hS ?_;apply Exists.intro;apply And.intro;(refine Or.inl ⟨by rfl,?_⟩;intro w' hS';obtain ⟨h1,h2⟩:=hS';go_simp;rfl);simp only [Act.put,List.setIfInBounds_toArray,List.set_cons_succ,List.set_cons_zero])
      (refine wpT_more (i:=1) (by kernel_rfl) (by omega) rfl (by kernel_rfl) (by kernel_rfl) (by kernel_rfl) (fun _ _ _ _ h=>h) hS ?_;apply Exists.intro;apply And.intro;(refine Or.inl ⟨by rfl,?_⟩;intro w' hS';obtain ⟨h1,h2⟩:=hS';go_simp;rfl);simp only [Act.put,List.setIfInBounds_toArray,List.set_cons_succ,List.set_cons_zero])
      (refine wpT_more (i:=3) (by kernel_rfl) (by omega) rfl (by kernel_rfl) (by kernel_rfl) (by kernel_rfl) (fun _ _ _ _ h=>h) hS ?_;apply Exists.intro;apply And.intro;(refine Or.inl ⟨by rfl,?_⟩;intro w' hS';obtain ⟨h1,h2⟩:=hS';go_simp;rfl);simp only [Act.put,List.setIfInBounds_toArray,List.set_cons_succ,List.set_cons_zero])
      (refine wpT_more (i:=4) (by kernel_rfl) (by omega) rfl (by kernel_rfl) (by kernel_rfl) (by kernel_rfl) (fun _ _ _ _ h=>h) hS ?_;apply Exists.intro;apply And.intro;(refine Or.inl ⟨by rfl,?_⟩;intro w' hS';obtain ⟨h1,h2⟩:=hS';go_simp;rfl);simp only [Act.put,List.setIfInBounds_toArray,List.set_cons_succ,List.set_cons_zero])
      (refine wpT_more (i:=5) (by kernel_rfl) (by omega) rfl (by kernel_rfl) (by kernel_rfl) (by kernel_rfl) (fun _ _ _ _ h=>h) hS ?_;apply Exists.intro;apply And.intro;(refine Or.inl ⟨by rfl,?_⟩;intro w' hS';obtain ⟨h1,h2⟩:=hS';go_simp;rfl);simp only [Act.put,List.setIfInBounds_toArray,List.set_cons_succ,List.set_cons_zero])
      (refine wpT_more (i:=6) (by kernel_rfl) (by omega) rfl (by kernel_rfl) (by kernel_rfl) (by kernel_rfl) (fun _ _ _ _ h=>h) hS ?_;apply Exists.intro;apply And.intro;(refine Or.inl ⟨by rfl,?_⟩;intro w' hS';obtain ⟨h1,h2⟩:=hS';go_simp;rfl);simp only [Act.put,List.setIfInBounds_toArray,List.set_cons_succ,List.set_cons_zero])
      (refine wpT_loud (i:=2) rfl (by kernel_rfl) (fun K hK=>?_))
      go_wp2_with (go_at_call 28;refine (next_bk s (6+4*dN s+j) _ _ M.d.r.drew).mono ?_;rintro e w8 ⟨rfl,hn⟩;have M8:=M.drew.next ⟨rfl,hn⟩;have m5':=M8.picks;have m6':=M8.th)
      refine hK.out _ _ (fun _=>⟨m5',m6'⟩) ?_
      clear hK hS hn
      have hS:=(⟨m5',m6'⟩:w8.cell? ⟨w.heap.size+1+1,6,none⟩ = some (.slice A' j c')∧w8.cell? ⟨w.heap.size+1+1,2,none⟩ = some (.int .i64 (dTh s)))
      (refine wpT_more (i:=7) (by kernel_rfl) (by omega) rfl (by kernel_rfl) (by kernel_rfl) (by kernel_rfl) (fun _ _ _ _ h=>h) hS ?_;apply Exists.intro;apply And.intro;(refine Or.inl ⟨by rfl,?_⟩;intro w' hS';obtain ⟨h1,h2⟩:=hS';go_simp;rfl);simp only [Act.put,List.setIfInBounds_toArray,List.set_cons_succ,List.set_cons_zero])
      (refine wpT_loud (i:=8) rfl (by kernel_rfl) (fun K hK=>?_))
      go_wp2
      have hS8:∀ o:Obj,(w8.alloc o).cell? ⟨w.heap.size+1+1,6,none⟩ = some (.slice A' j c')∧(w8.alloc o).cell? ⟨w.heap.size+1+1,2,none⟩ = some (.int .i64 (dTh s)):=fun o=>⟨(World.cell?_alloc_lt w8 o _ (by have:=M8.kb;have:=M8.kl;simp;omega)).trans m5',(World.cell?_alloc_lt w8 o _ (by have:=M8.kb;have:=M8.kl;simp;omega)).trans m6'⟩
      refine hK.out _ _ (fun _=>hS8 _) ?_
      clear hK hS
      (refine wpT_loud (i:=9) rfl (by kernel_rfl) (fun K hK=>?_))
      obtain ⟨i0,hi0,hz0,hz1,hz2⟩:=info_parts infoInt
      have hk8:=M8.kl
      refine wpList_append_lies _ (by rfl) _ _ _ (by rfl) (kb+1) 3 i0 _ 1 8 Tryz.underlying45 hi0 hz0 hz1 hz2 rfl (by omega) (.slice A' j c') j (icells (decPicks s j)) (by rfl) (M8.own'.alloc _) ⟨w8.heap.size,0,none⟩ 1 1 [.int .i64 (pickAt s (dTh s) (dN s) j)] (by rfl) (by rfl) (World.news_of_block (cs:=#[.int .i64 (pickAt s (dTh s) (dN s) j)]) (t:=3) (fr:=(0,0)) (heap_alloc_new w8 _)) (by simp [Value.oneCell']) (by omega) (by simp only [maxLen];omega) (by omega) (by simp;omega) (w8.heap.size+1) (by simp) ?_
      intro gg cap w9 hown9 hg9 hat9 hlt9
      obtain ⟨e6a,e2a,fz⟩:=M8.xAfter _ hg9
      go_wp2
      refine hK.out _ _ (fun _=>⟨e6a,e2a⟩) ?_
      clear hK hS8
      have hS:=(⟨e6a,e2a⟩:w9.cell? ⟨w.heap.size+1+1,6,none⟩ = some (.slice A' j c')∧w9.cell? ⟨w.heap.size+1+1,2,none⟩ = some (.int .i64 (dTh s)))
      (refine wpT_more (i:=10) (by kernel_rfl) (by omega) rfl (by kernel_rfl) (by kernel_rfl) (by kernel_rfl) (fun _ _ _ _ h=>h) hS ?_;apply Exists.intro;apply And.intro;(refine Or.inl ⟨by rfl,?_⟩;intro w' hS';obtain ⟨h1,h2⟩:=hS';go_simp;rfl);simp only [Act.put,List.setIfInBounds_toArray,List.set_cons_succ,List.set_cons_zero])
      (refine wpT_loud (i:=11) rfl (by kernel_rfl) (fun K hK=>?_))
      go_wp2
      refine hK.out _ _ (fun h=>absurd h (by omega)) ?_
      clear hK hS
      refine X9 (by kernel_rfl) ?_ _
      have Mn:=M8.push _ hown9 hg9
      have hl0:=M.leftN
      clear M8 M
      go_wp2
      go_roundw
      case rel=>exact ⟨j+1,_,_,by unfold dP;omega,Mn⟩
      case measure=>rw [Mn.leftN,hl0];omega
     ·obtain rfl:j = dP s:=by unfold dP at hj ⊢;omega
      have h4':¬ ((dP s:Nat):Int) < 4096:=by omega
      ((obtain ⟨A0,c0,rfl⟩:=own_slice M.own);have O:=M.d.o;have X:=M.d.x;have o0:=O.cell 0;have o1:=O.cell 1;have o2:=O.cell 2;have o3:=O.cell 3;have o4:=O.cell 4;have o5:=O.cell 5;have o6:=O.cell 6;have x0:=X.cell 0;have x1:=X.cell 1;have x3:=X.cell 3;have x4:=X.cell 4;have x5:=X.cell 5;simp [xcell] at o0 o1 o2 o3 o4 o5 o6 x0 x1 x3 x4 x5;have fo:=O.free;go_wp2_with fail;refine bodyPost_ret (v:=.agg #[.int .i64 (dSt s),.int .i64 (dEn s),.int .i64 (dTh s),.int .i64 (dSl s),.int .i64 (dNo s),.slice A0 (dN s) c0,.slice A' (dP s) c']) (by simp [results,Tryz.results12,go_sem,o0,o1,o2,o3,o4,o5,o6]) rfl (M.out _ _ _ _ _ _ _))
    ·have hne:(rest s (6+4*dN s+j)).toList.isEmpty = true:=by rw [rest_empty _ _ (by omega),Go.ByteArray.toList_eq];rfl
     obtain rfl:j = dP s:=by unfold dP at hj ⊢;omega
     ((obtain ⟨A0,c0,rfl⟩:=own_slice M.own);have O:=M.d.o;have X:=M.d.x;have o0:=O.cell 0;have o1:=O.cell 1;have o2:=O.cell 2;have o3:=O.cell 3;have o4:=O.cell 4;have o5:=O.cell 5;have o6:=O.cell 6;have x0:=X.cell 0;have x1:=X.cell 1;have x3:=X.cell 3;have x4:=X.cell 4;have x5:=X.cell 5;simp [xcell] at o0 o1 o2 o3 o4 o5 o6 x0 x1 x3 x4 x5;have fo:=O.free;go_wp2_with fail;refine bodyPost_ret (v:=.agg #[.int .i64 (dSt s),.int .i64 (dEn s),.int .i64 (dTh s),.int .i64 (dSl s),.int .i64 (dNo s),.slice A0 (dN s) c0,.slice A' (dP s) c']) (by simp [results,Tryz.results12,go_sem,o0,o1,o2,o3,o4,o5,o6]) rfl (M.out _ _ _ _ _ _ _))
end Go.Proofs.YtaipogljokblkaaGreatDoor.Fn
