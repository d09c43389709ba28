/- Core: SvB, SvD, SvE, SvF, SvG, SvH. -/
import Derived.Test.YtaipogljokblkaaGreatDoorW09
import Derived.Test.YtaipogljokblkaaGreatDoorW01
import Derived.Laws.StructEq
set_option linter.all false
set_option maxRecDepth 100000
set_option maxHeartbeats 8000000
namespace Go.Proofs.YtaipogljokblkaaGreatDoor
open Go Go.RowKit
set_option linter.unusedSimpArgs false
set_option linter.unusedVariables false
set_option linter.unusedSectionVars false
def Ck(n5 n6:Int)(x:AN):Bool:=x.is&&(decide (x.low<=n6)&&decide (n5<=x.IC))
def Ff(kept:List AN)(n:Xn):Bool:=kept.any (Ck n.A8 n.Db)
theorem WI(n:Xn)(gk:Nat)(a:Option Addr)(c:Nat)(kept:List AN)(w:World)(hk:Bk w gk 213 #[.slice a kept.length c])(hs:Sl w w.heap.size 3 a kept.length (rows AN.l kept))(hl:kept.length<=100000):
  Calls Tryz.prog 117 #[.agg n.l.toArray,.pointer (some ⟨gk,0,none⟩)] w (Nz (Ff kept n) w):=by
 obtain⟨⟨n0,n1,n2,n3,n4⟩,n5,n6⟩:=n
 show Calls Tryz.prog 117 #[.agg #[.int .i64 n0,.int .i64 n1,.int .i64 n2,.int .i64 n3,.bool n4,.int .i64 n5,.int .i64 n6],.pointer (some ⟨gk,0,none⟩)] w _
 have B0:Bk (w.alloc (.cells #[.int .i64 n0,.int .i64 n1,.int .i64 n2,.int .i64 n3,.bool n4,.int .i64 n5,.int .i64 n6] 201)) w.heap.size 201 #[.int .i64 n0,.int .i64 n1,.int .i64 n2,.int .i64 n3,.bool n4,.int .i64 n5,.int .i64 n6]:=Bk.at_ rfl
 have hb0:Below w.heap.size w (w.alloc (.cells #[.int .i64 n0,.int .i64 n1,.int .i64 n2,.int .i64 n3,.bool n4,.int .i64 n5,.int .i64 n6] 201)):=(Below.refl _ _).alloc (Nat.le_refl _) _
 have K0:=hk.alloc (.cells #[.int .i64 n0,.int .i64 n1,.int .i64 n2,.int .i64 n3,.bool n4,.int .i64 n5,.int .i64 n6] 201)
 have c0:=K0.cell 0
 simp at c0
 go_enter Tryz.func117,Tryz.ntmps117
 go_wp2_with fail
 generalize w.alloc (.cells #[.int .i64 n0,.int .i64 n1,.int .i64 n2,.int .i64 n3,.bool n4,.int .i64 n5,.int .i64 n6] 201)=w0 at*
 go_loopw [8] (λi wr=>∃k:Nat,k<=kept.length/\i=.int .i64 k/\Below w0.heap.size w0 wr/\Hid (∀x∈kept.take k,(Ck n5 n6 x)=false)) (λi _=>kept.length-(intOf i).toNat)
 case atStart=>exact⟨0,Nat.zero_le _,rfl,Below.refl _ _,by intro x hx;simp at hx⟩
 case round=>
  obtain⟨k,hkl,rfl,hB,HI⟩:=hrel
  have hz:=hB.size
  have hs1:=(hs.below hb0).SU hB hb0.size
  have K1:=K0.Ad hB
  have B1:=B0.Ad hB
  by_cases hlt:k<kept.length
  ·obtain⟨b,off,rfl,hbb,hr⟩:=hs1.row yS k hlt;obtain⟨q0,q1,q2⟩:=nB hr;have X1:Bk (wr.alloc (.cells #[.bool false,.int .i64 0,.int .i64 0] 169)) wr.heap.size 169 #[.bool false,.int .i64 0,.int .i64 0]:=Bk.at_ rfl;have B2:=B1.alloc (.cells #[.bool false,.int .i64 0,.int .i64 0] 169);have hB2:=hB.alloc hB.size (.cells #[.bool false,.int .i64 0,.int .i64 0] 169);have hlt1:w.heap.size<wr.heap.size:=B1.lt;cases d1:kept[k].is with
   |true=>
    cases d2:decide (kept[k].low<=n6) with
    |true=>
     cases d3:decide (n5<=kept[k].IC) with
     |true=>
      have hp:(Ck n5 n6 kept[k])=true:=by simp only[Ck,d1,d2,d3,Bool.true_and,Bool.and_true]
      have HT:=Zh (NM (p:=λx:AN=>Ck n5 n6 x) hlt hp);go_wp2_with (refine vM X1 ?_;intro w2 hst;have r0:=hst.bk.cell 0;have r1:=hst.bk.cell 1;have r2:=hst.bk.cell 2;have s0:=(hst.Av B2 Zo).cell 0;have s5:=(hst.Av B2 Zo).cell 5;have s6:=(hst.Av B2 Zo).cell 6;simp at r0 r1 r2 s0 s5 s6);go_ret;exact⟨CV HT.out.symm,hb0.trans ((hst.below hB2 Zo).mono hb0.size)⟩
     |false=>
      have hp:(Ck n5 n6 kept[k])=false:=by simp only[Ck,d1,d2,d3,Bool.false_and,Bool.and_false,Bool.true_and]
      have hn:=Eb (p:=λx:AN=>Ck n5 n6 x) hlt HI.out hp;have HN:=Zh hn;clear hn;go_wp2_with (refine vM X1 ?_;intro w2 hst;have r0:=hst.bk.cell 0;have r1:=hst.bk.cell 1;have r2:=hst.bk.cell 2;have s0:=(hst.Av B2 Zo).cell 0;have s5:=(hst.Av B2 Zo).cell 5;have s6:=(hst.Av B2 Zo).cell 6;simp at r0 r1 r2 s0 s5 s6);go_roundw
      case rel=>exact⟨k+1,by omega,by go_num,hst.below hB2 Zo,HN.out⟩
      case measure=>simp[intOf];omega
    |false=>
     have hp:(Ck n5 n6 kept[k])=false:=by simp only[Ck,d1,d2,Bool.false_and,Bool.and_false,Bool.true_and]
     have hn:=Eb (p:=λx:AN=>Ck n5 n6 x) hlt HI.out hp;have HN:=Zh hn;clear hn;go_wp2_with (refine vM X1 ?_;intro w2 hst;have r0:=hst.bk.cell 0;have r1:=hst.bk.cell 1;have r2:=hst.bk.cell 2;have s0:=(hst.Av B2 Zo).cell 0;have s5:=(hst.Av B2 Zo).cell 5;have s6:=(hst.Av B2 Zo).cell 6;simp at r0 r1 r2 s0 s5 s6);go_roundw
     case rel=>exact⟨k+1,by omega,by go_num,hst.below hB2 Zo,HN.out⟩
     case measure=>simp[intOf];omega
   |false=>
    have hp:(Ck n5 n6 kept[k])=false:=by simp only[Ck,d1,Bool.false_and,Bool.and_false,Bool.true_and]
    have hn:=Eb (p:=λx:AN=>Ck n5 n6 x) hlt HI.out hp;have HN:=Zh hn;clear hn;go_wp2_with (refine vM X1 ?_;intro w2 hst;have r0:=hst.bk.cell 0;have r1:=hst.bk.cell 1;have r2:=hst.bk.cell 2;have s0:=(hst.Av B2 Zo).cell 0;have s5:=(hst.Av B2 Zo).cell 5;have s6:=(hst.Av B2 Zo).cell 6;simp at r0 r1 r2 s0 s5 s6);go_roundw
    case rel=>exact⟨k+1,by omega,by go_num,hst.below hB2 Zo,HN.out⟩
    case measure=>simp[intOf];omega
  ·have hke:k=kept.length:=Zo;subst hke;have HT:=Zh (any_none HI.out);go_wp2_with fail;go_ret;exact⟨CV HT.out.symm,hb0.trans (hB.mono hb0.size)⟩
def Dq(n5 n6:Int)(x:Int):Bool:=decide (0<x)&&(decide (n5<=x)&&decide (x<=n6))
def GF(kept:List Int)(n:Xn):Bool:=kept.any (Dq n.A8 n.Db)
theorem iB(n:Xn)(gk:Nat)(a:Option Addr)(c:Nat)(kept:List Int)(w:World)(hk:Bk w gk 45 #[.slice a kept.length c])(hs:Sl w w.heap.size 1 a kept.length (AA kept))(hl:kept.length<=100000):
  Calls Tryz.prog 116 #[.agg n.l.toArray,.pointer (some ⟨gk,0,none⟩)] w (Nz (GF kept n) w):=by
 obtain⟨⟨n0,n1,n2,n3,n4⟩,n5,n6⟩:=n
 show Calls Tryz.prog 116 #[.agg #[.int .i64 n0,.int .i64 n1,.int .i64 n2,.int .i64 n3,.bool n4,.int .i64 n5,.int .i64 n6],.pointer (some ⟨gk,0,none⟩)] w _
 have B0:Bk (w.alloc (.cells #[.int .i64 n0,.int .i64 n1,.int .i64 n2,.int .i64 n3,.bool n4,.int .i64 n5,.int .i64 n6] 201)) w.heap.size 201 #[.int .i64 n0,.int .i64 n1,.int .i64 n2,.int .i64 n3,.bool n4,.int .i64 n5,.int .i64 n6]:=Bk.at_ rfl
 have hb0:Below w.heap.size w (w.alloc (.cells #[.int .i64 n0,.int .i64 n1,.int .i64 n2,.int .i64 n3,.bool n4,.int .i64 n5,.int .i64 n6] 201)):=(Below.refl _ _).alloc (Nat.le_refl _) _
 have K0:=hk.alloc (.cells #[.int .i64 n0,.int .i64 n1,.int .i64 n2,.int .i64 n3,.bool n4,.int .i64 n5,.int .i64 n6] 201)
 have c0:=K0.cell 0
 simp at c0
 go_enter Tryz.func116,Tryz.ntmps116
 go_wp2_with fail
 generalize w.alloc (.cells #[.int .i64 n0,.int .i64 n1,.int .i64 n2,.int .i64 n3,.bool n4,.int .i64 n5,.int .i64 n6] 201)=w0 at*
 go_loopw [8] (λi wr=>∃k:Nat,k<=kept.length/\i=.int .i64 k/\Below w0.heap.size w0 wr/\Hid (∀x∈kept.take k,(Dq n5 n6 x)=false)) (λi _=>kept.length-(intOf i).toNat)
 case atStart=>exact⟨0,Nat.zero_le _,rfl,Below.refl _ _,by intro x hx;simp at hx⟩
 case round=>
  obtain⟨k,hkl,rfl,hB,HI⟩:=hrel
  have hz:=hB.size
  have hs1:=(hs.below hb0).SU hB hb0.size
  have K1:=K0.Ad hB
  have B1:=B0.Ad hB
  by_cases hlt:k<kept.length
  ·obtain⟨b,off,rfl,hbb,q0⟩:=hs1.pick hlt;have s5:=B1.cell 5;have s6:=B1.cell 6;simp at s5 s6;cases d1:decide (0<kept[k]) with
   |true=>
    cases d2:decide (n5<=kept[k]) with
    |true=>
     cases d3:decide (kept[k]<=n6) with
     |true=>
      have hp:(Dq n5 n6 (kept[k]))=true:=by simp only[Dq,d1,d2,d3,Bool.true_and,Bool.and_true]
      have HT:=Zh (NM (p:=λx:Int=>Dq n5 n6 x) hlt hp);go_wp2_with fail;go_ret;exact⟨CV HT.out.symm,hb0.trans ((hB).mono hb0.size)⟩
     |false=>
      have hp:(Dq n5 n6 (kept[k]))=false:=by simp only[Dq,d1,d2,d3,Bool.false_and,Bool.and_false,Bool.true_and]
      have hn:=Eb (p:=λx:Int=>Dq n5 n6 x) hlt HI.out hp;have HN:=Zh hn;clear hn;go_wp2_with fail;go_roundw
      case rel=>exact⟨k+1,by omega,by go_num,hB,HN.out⟩
      case measure=>simp[intOf];omega
    |false=>
     have hp:(Dq n5 n6 (kept[k]))=false:=by simp only[Dq,d1,d2,Bool.false_and,Bool.and_false,Bool.true_and]
     have hn:=Eb (p:=λx:Int=>Dq n5 n6 x) hlt HI.out hp;have HN:=Zh hn;clear hn;go_wp2_with fail;go_roundw
     case rel=>exact⟨k+1,by omega,by go_num,hB,HN.out⟩
     case measure=>simp[intOf];omega
   |false=>
    have hp:(Dq n5 n6 (kept[k]))=false:=by simp only[Dq,d1,Bool.false_and,Bool.and_false,Bool.true_and]
    have hn:=Eb (p:=λx:Int=>Dq n5 n6 x) hlt HI.out hp;have HN:=Zh hn;clear hn;go_wp2_with fail;go_roundw
    case rel=>exact⟨k+1,by omega,by go_num,hB,HN.out⟩
    case measure=>simp[intOf];omega
  ·have hke:k=kept.length:=Zo;subst hke;have HT:=Zh (any_none HI.out);go_wp2_with fail;go_ret;exact⟨CV HT.out.symm,hb0.trans (hB.mono hb0.size)⟩
def DP(now:Int)(n:Xn):Bool:=bif decide (now< -9223372036854775806) then true else decide (wr (now-2)<n.Db)
theorem Vg(n:Xn)(gk:Nat)(now:Int)(w:World)(hk:Bk w gk 3 #[.int .i64 now]):
  Calls Tryz.prog 118 #[.agg n.l.toArray,.pointer (some ⟨gk,0,none⟩)] w (Nz (DP now n) w):=by
 obtain⟨⟨n0,n1,n2,n3,n4⟩,n5,n6⟩:=n
 show Calls Tryz.prog 118 #[.agg #[.int .i64 n0,.int .i64 n1,.int .i64 n2,.int .i64 n3,.bool n4,.int .i64 n5,.int .i64 n6],.pointer (some ⟨gk,0,none⟩)] w _
 have B0:Bk (w.alloc (.cells #[.int .i64 n0,.int .i64 n1,.int .i64 n2,.int .i64 n3,.bool n4,.int .i64 n5,.int .i64 n6] 201)) w.heap.size 201 #[.int .i64 n0,.int .i64 n1,.int .i64 n2,.int .i64 n3,.bool n4,.int .i64 n5,.int .i64 n6]:=Bk.at_ rfl
 have hb0:Below w.heap.size w (w.alloc (.cells #[.int .i64 n0,.int .i64 n1,.int .i64 n2,.int .i64 n3,.bool n4,.int .i64 n5,.int .i64 n6] 201)):=(Below.refl _ _).alloc (Nat.le_refl _) _
 have K0:=hk.alloc (.cells #[.int .i64 n0,.int .i64 n1,.int .i64 n2,.int .i64 n3,.bool n4,.int .i64 n5,.int .i64 n6] 201)
 have c0:=K0.cell 0
 have s6:=B0.cell 6
 simp at c0 s6
 cases d:decide (now< -9223372036854775806) with
 |true=>
  go_enter Tryz.func118,Tryz.ntmps118
  go_wp2_with fail
  go_ret
  exact⟨CV (by simp only[DP,d,cond_true,cond_false,Gg]),hb0⟩
 |false=>
  go_enter Tryz.func118,Tryz.ntmps118
  go_wp2_with fail
  go_ret
  exact⟨CV (by simp only[DP,d,cond_true,cond_false,Gg]),hb0⟩
theorem Fm(w:World)(v:Value)(l:List Xn)(h:Own w 201 7 v l.length (rows Xn.l l))(hl:l.length<=100000)(x:Xn)(b:Nat)(hb:Bk w b 201 x.l.toArray)(t:TypeId):
  ∃v' w',(Builtin.append_ #[64,64] t #[v,.slice (some ⟨b,0,none⟩) 1 1]).run Tryz.prog w=.ok v' w'/\
   Own w' 201 7 v' (l++[x]).length (rows Xn.l (l++[x]))/\w.grownBy w' v.ownBlock/\EW w v v':=
 Bq Qo none_ Tryz.underlying64 Ly rfl Zd Zd w v l h hl x b hb t
theorem OX{p:Xn->Bool}{l:List Xn}{k:Nat}(hk:k<l.length)(h:p l[k]=true):(l.take (k+1)).filter p=(l.take k).filter p++[l[k]]:=by
 rw[List.take_add_one,List.getElem?_eq_getElem hk,List.filter_append];simp[h]
theorem OY{p:Xn->Bool}{l:List Xn}{k:Nat}(hk:k<l.length)(h:p l[k]=false):(l.take (k+1)).filter p=(l.take k).filter p:=by
 rw[List.take_add_one,List.getElem?_eq_getElem hk,List.filter_append];simp[h]
theorem OZ{p:Xn->Bool}{l:List Xn}(k:Nat)(hl:l.length<=100000):((l.take k).filter p).length<=100000:=
 Nat.le_trans (List.length_filter_le _ _) (by rw[List.length_take];omega)
def PJ(w:World)(p:Xn->Bool)(l:List Xn)(e:Ending)(w':World):Prop:=
 ∃v u,e=.returned (.tuple #[v,u])/\Own w' 201 7 v (l.filter λn=>!p n).length (rows Xn.l (l.filter λn=>!p n))/\Own w' 201 7 u (l.filter p).length (rows Xn.l (l.filter p))/\
  Below w.heap.size w w'/\(∀b,v.ownBlock=some b->w.heap.size<=b)/\(∀b,u.ownBlock=some b->w.heap.size<=b)/\(∀b,v.ownBlock=some b->u.ownBlock≠some b)
theorem IH(p:Xn->Bool)(f gk:Nat)(T:TypeId)(kv:Value)(a:Option Addr)(c:Nat)(l:List Xn)(w:World)(hs:Sl w w.heap.size 7 a l.length (rows Xn.l l))(hl:l.length<=100000)(hk:Bk w gk T #[kv])
  (he:∀args w',(callFunc f args).run Tryz.prog w'=.ok (.enter f args) w')(hf:∀n w',Below w.heap.size w w'->Calls Tryz.prog f #[.agg n.l.toArray,.pointer (some ⟨gk,0,none⟩)] w' (Nz (p n) w')):
  Calls Tryz.prog 114 #[.slice a l.length c,.func (.func f) #[] #[.pointer (some ⟨gk,0,none⟩)]] w (PJ w p l):=by
 go_enter Tryz.func114,Tryz.ntmps114
 go_wp2_with fail
 go_loopw [4,5,10] (fun v u i wr=>∃ k:Nat,k≤l.length∧i = .int .i64 k∧Below w.heap.size w wr ∧
   Own wr 201 7 v ((l.take k).filter λn=>!p n).length (rows Xn.l ((l.take k).filter λn=>!p n))/\Own wr 201 7 u ((l.take k).filter p).length (rows Xn.l ((l.take k).filter p))/\
   (∀b,v.ownBlock=some b->w.heap.size<=b)/\(∀b,u.ownBlock=some b->w.heap.size<=b)/\(∀b,v.ownBlock=some b->u.ownBlock≠some b)) (λ_ _ i _=>l.length-(intOf i).toNat)
 case atStart=>exact⟨0,Nat.zero_le _,rfl,Below.refl _ _,Own.nil,Own.nil,by simp[Value.ownBlock],by simp[Value.ownBlock],by simp[Value.ownBlock]⟩
 case round=>
  obtain⟨k,hkl,rfl,hB,ho4,ho5,h4,h5,h45⟩:=hrel
  have hz:=hB.size
  have hs1:=hs.below hB
  by_cases hlt:k<l.length
  ·obtain⟨b,off,rfl,hbb,hr⟩:=hs1.row Qo k hlt;obtain⟨q0,q1,q2,q3,q4,q5,q6⟩:=Oy hr;have X1:Bk (wr.alloc (.cells #[.int .i64 0,.int .i64 0,.int .i64 0,.int .i64 0,.bool false,.int .i64 0,.int .i64 0] 201)) wr.heap.size 201 #[.int .i64 0,.int .i64 0,.int .i64 0,.int .i64 0,.bool false,.int .i64 0,.int .i64 0]:=Bk.at_ rfl;have hB2:=hB.alloc hB.size (.cells #[.int .i64 0,.int .i64 0,.int .i64 0,.int .i64 0,.bool false,.int .i64 0,.int .i64 0] 201);have o4:=ho4.alloc (.cells #[.int .i64 0,.int .i64 0,.int .i64 0,.int .i64 0,.bool false,.int .i64 0,.int .i64 0] 201);have o5:=ho5.alloc (.cells #[.int .i64 0,.int .i64 0,.int .i64 0,.int .i64 0,.bool false,.int .i64 0,.int .i64 0] 201);have lt4:∀b,u4.ownBlock=some b->b<wr.heap.size:=λb hb=>ho4.lt hb;have lt5:∀b,u5.ownBlock=some b->b<wr.heap.size:=λb hb=>ho5.lt hb;have hf1:=hf l[k];have ec:l[k].l.toArray=#[.int .i64 l[k].ref.sl,.int .i64 l[k].ref.gn,.int .i64 l[k].ref.tg,.int .i64 l[k].ref.nm,.bool l[k].ref.mark,.int .i64 l[k].A8,.int .i64 l[k].Db]:=rfl;rw[ec] at hf1;clear hf ho4 ho5 hs hs1 hr;go_wp2_with (refine vM X1 ?_;intro w2 hst;have r0:=hst.bk.cell 0;have r1:=hst.bk.cell 1;have r2:=hst.bk.cell 2;have r3:=hst.bk.cell 3;have r4:=hst.bk.cell 4;have r5:=hst.bk.cell 5;have r6:=hst.bk.cell 6;simp at r0 r1 r2 r3 r4 r5 r6);have hB3':=hst.below hB2 hz;refine(hf1 w2 hB3').mono ?_;rintro e w3 ⟨rfl,hb3⟩;have hB3:=hB3'.trans (hb3.mono hB3'.size);have K3:=hst.bk.Ad hb3;have r0:=K3.cell 0;have r1:=K3.cell 1;have r2:=K3.cell 2;have r3:=K3.cell 3;have r4:=K3.cell 4;have r5:=K3.cell 5;have r6:=K3.cell 6;simp at r0 r1 r2 r3 r4 r5 r6;have o43:=(o4.grown hst.grown (by cases h0:u4.ownBlock with|none=>exact Or.inl rfl|some b=>exact Or.inr (λe=>by have:=lt4 b h0;cases e;omega))).below hb3;have o53:=(o5.grown hst.grown (by cases h0:u5.ownBlock with|none=>exact Or.inl rfl|some b=>exact Or.inr (λe=>by have:=lt5 b h0;cases e;omega))).below hb3;clear hf1;cases hp:p l[k] with
   |true=>
    have fy:=OX (p:=p) hlt (by simp[hp]);have fn:=OY (p:=(λn=>!p n)) hlt (by simp[hp]);obtain⟨v',w5,hrun,ho,hg,hfr⟩:=Fm (w3.alloc (.cells #[.int .i64 l[k].ref.sl,.int .i64 l[k].ref.gn,.int .i64 l[k].ref.tg,.int .i64 l[k].ref.nm,.bool l[k].ref.mark,.int .i64 l[k].A8,.int .i64 l[k].Db] 201)) u5 ((l.take k).filter p) (o53.alloc _) (OZ k hl) l[k] w3.heap.size (Bk.at_ rfl) 64;rw[←fy] at ho;have FO:=Zh fn;have HO:=Zh (And.intro ho (And.intro hg hfr));clear ho hg hfr fy fn;go_wp2_with (at_builtin;refine Ye Zr _ _ _ _ _ _ _ Zr Zr Zr hrun ?_);obtain⟨ho,hg,hfr⟩:=HO.out;have z3:=hb3.size;have z2:=hst.size;simp at z2;have hB4:=(hB3.alloc hB3.size (.cells #[.int .i64 l[k].ref.sl,.int .i64 l[k].ref.gn,.int .i64 l[k].ref.tg,.int .i64 l[k].ref.nm,.bool l[k].ref.mark,.int .i64 l[k].A8,.int .i64 l[k].Db] 201));have hfr2:∀b,v'.ownBlock=some b->u5.ownBlock=some b\/w3.heap.size<=b:=λb hb=>(hfr b hb).imp id (λh=>by simp at h;omega);have hB5:Below w.heap.size w w5:=hB4.grown hg hB4.size (λb e=>h5 b e);have oo5:=(o43.alloc (.cells #[.int .i64 l[k].ref.sl,.int .i64 l[k].ref.gn,.int .i64 l[k].ref.tg,.int .i64 l[k].ref.nm,.bool l[k].ref.mark,.int .i64 l[k].A8,.int .i64 l[k].Db] 201)).grown hg (by cases h0:u4.ownBlock with|none=>exact Or.inl rfl|some b=>exact Or.inr (Ne.symm (h45 b h0)));rw[←FO.out] at oo5;go_roundw
    case rel=>exact⟨k+1,by omega,by go_num,hB5,oo5,ho,h4,λb hb=>(hfr2 b hb).elim (h5 b) (λh=>by omega),λb hb he=>(hfr2 b he).elim (h45 b hb) (λh=>by have:=lt4 b hb;omega)⟩
    case measure=>simp[intOf];omega
   |false=>
    have fy:=OX (p:=(λn=>!p n)) hlt (by simp[hp]);have fn:=OY (p:=p) hlt (by simp[hp]);obtain⟨v',w5,hrun,ho,hg,hfr⟩:=Fm (w3.alloc (.cells #[.int .i64 l[k].ref.sl,.int .i64 l[k].ref.gn,.int .i64 l[k].ref.tg,.int .i64 l[k].ref.nm,.bool l[k].ref.mark,.int .i64 l[k].A8,.int .i64 l[k].Db] 201)) u4 ((l.take k).filter (λn=>!p n)) (o43.alloc _) (OZ k hl) l[k] w3.heap.size (Bk.at_ rfl) 64;rw[←fy] at ho;have FO:=Zh fn;have HO:=Zh (And.intro ho (And.intro hg hfr));clear ho hg hfr fy fn;go_wp2_with (at_builtin;refine Ye Zr _ _ _ _ _ _ _ Zr Zr Zr hrun ?_);obtain⟨ho,hg,hfr⟩:=HO.out;have z3:=hb3.size;have z2:=hst.size;simp at z2;have hB4:=(hB3.alloc hB3.size (.cells #[.int .i64 l[k].ref.sl,.int .i64 l[k].ref.gn,.int .i64 l[k].ref.tg,.int .i64 l[k].ref.nm,.bool l[k].ref.mark,.int .i64 l[k].A8,.int .i64 l[k].Db] 201));have hfr2:∀b,v'.ownBlock=some b->u4.ownBlock=some b\/w3.heap.size<=b:=λb hb=>(hfr b hb).imp id (λh=>by simp at h;omega);have hB5:Below w.heap.size w w5:=hB4.grown hg hB4.size (λb e=>h4 b e);have oo5:=(o53.alloc (.cells #[.int .i64 l[k].ref.sl,.int .i64 l[k].ref.gn,.int .i64 l[k].ref.tg,.int .i64 l[k].ref.nm,.bool l[k].ref.mark,.int .i64 l[k].A8,.int .i64 l[k].Db] 201)).grown hg (by cases h0:u5.ownBlock with|none=>exact Or.inl rfl|some b=>exact Or.inr (λe=>h45 b e.symm h0));rw[←FO.out] at oo5;go_roundw
    case rel=>exact⟨k+1,by omega,by go_num,hB5,ho,oo5,λb hb=>(hfr2 b hb).elim (h4 b) (λh=>by omega),h5,λb hb he=>(hfr2 b hb).elim (λh=>h45 b h he) (λh=>by have:=lt5 b he;omega)⟩
    case measure=>simp[intOf];omega
  ·have hke:k=l.length:=Zo;subst hke;rw[List.take_length] at ho4 ho5;have HO:=Zh (And.intro ho4 ho5);clear ho4 ho5;go_wp2_with fail;go_ret2;exact⟨_,_,rfl,HO.out.1,HO.out.2,hB,h4,h5,h45⟩
theorem Kc{f:Nat}{fn:Func}(hf:Tryz.prog.funcs[f]?=some fn)(hn:(fn.name== "runtime.NumGoroutine")=false)(hb:fn.body.isNone=false)(args:Array Value)(w:World):(callFunc f args).run Tryz.prog w=.ok (.enter f args) w:=CJ hf hn hb args w
theorem eC(l:List Xn)(a:Option Addr)(c:Nat)(kept:List Xd)(ka:Option Addr)(kc:Nat)(w:World)(hs:Sl w w.heap.size 7 a l.length (rows Xn.l l))(hl:l.length<=100000)(hk:Sl w w.heap.size 5 ka kept.length (rows Xd.l kept))(hkl:kept.length<=100000):
  Calls Tryz.prog 108 #[.slice a l.length c,.slice ka kept.length kc] w (PJ w (Cz kept) l):=by
 have K0:Bk (w.alloc (.cells #[.slice ka kept.length kc] 103)) w.heap.size 103 #[.slice ka kept.length kc]:=Bk.at_ rfl
 have hb0:Below w.heap.size w (w.alloc (.cells #[.slice ka kept.length kc] 103)):=(Below.refl _ _).alloc (Nat.le_refl _) _
 have hz:(w.alloc (.cells #[.slice ka kept.length kc] 103)).heap.size=w.heap.size+1:=by simp
 have H:=IH (Cz kept) 115 w.heap.size 103 (.slice ka kept.length kc) a c l _ (hs.up hb0) hl K0 (Kc Tryz.func115 Zk Zk) (λn w' hb=>WK n w.heap.size ka kc 0 kept w' (K0.Ad hb) ((hk.up hb0).up hb) hkl)
 go_enter Tryz.func108,Tryz.ntmps108
 go_wp2_with fail
 generalize w.alloc (.cells #[.slice ka kept.length kc] 103)=w0 at*
 refine H.mono ?_
 rintro e w1 ⟨v,u,rfl,o1,o2,hb,f1,f2,f3⟩
 have HO:=Zh (And.intro o1 o2);clear o1 o2
 go_wp2_with fail
 go_ret2
 exact⟨v,u,rfl,HO.out.1,HO.out.2,hb0.trans (hb.mono hb0.size),λb h=>Nat.le_trans Zo (f1 b h),λb h=>Nat.le_trans Zo (f2 b h),f3⟩
theorem eA(l:List Xn)(a:Option Addr)(c:Nat)(kept:List AN)(ka:Option Addr)(kc:Nat)(w:World)(hs:Sl w w.heap.size 7 a l.length (rows Xn.l l))(hl:l.length<=100000)(hk:Sl w w.heap.size 3 ka kept.length (rows AN.l kept))(hkl:kept.length<=100000):
  Calls Tryz.prog 110 #[.slice a l.length c,.slice ka kept.length kc] w (PJ w (Ff kept) l):=by
 have K0:Bk (w.alloc (.cells #[.slice ka kept.length kc] 213)) w.heap.size 213 #[.slice ka kept.length kc]:=Bk.at_ rfl
 have hb0:Below w.heap.size w (w.alloc (.cells #[.slice ka kept.length kc] 213)):=(Below.refl _ _).alloc (Nat.le_refl _) _
 have hz:(w.alloc (.cells #[.slice ka kept.length kc] 213)).heap.size=w.heap.size+1:=by simp
 have H:=IH (Ff kept) 117 w.heap.size 213 (.slice ka kept.length kc) a c l _ (hs.up hb0) hl K0 (Kc Tryz.func117 Zk Zk) (λn w' hb=>WI n w.heap.size ka kc kept w' (K0.Ad hb) ((hk.up hb0).up hb) hkl)
 go_enter Tryz.func110,Tryz.ntmps110
 go_wp2_with fail
 generalize w.alloc (.cells #[.slice ka kept.length kc] 213)=w0 at*
 refine H.mono ?_
 rintro e w1 ⟨v,u,rfl,o1,o2,hb,f1,f2,f3⟩
 have HO:=Zh (And.intro o1 o2);clear o1 o2
 go_wp2_with fail
 go_ret2
 exact⟨v,u,rfl,HO.out.1,HO.out.2,hb0.trans (hb.mono hb0.size),λb h=>Nat.le_trans Zo (f1 b h),λb h=>Nat.le_trans Zo (f2 b h),f3⟩
theorem qG(l:List Xn)(a:Option Addr)(c:Nat)(kept:List Int)(ka:Option Addr)(kc:Nat)(w:World)(hs:Sl w w.heap.size 7 a l.length (rows Xn.l l))(hl:l.length<=100000)(hk:Sl w w.heap.size 1 ka kept.length (AA kept))(hkl:kept.length<=100000):
  Calls Tryz.prog 109 #[.slice a l.length c,.slice ka kept.length kc] w (PJ w (GF kept) l):=by
 have K0:Bk (w.alloc (.cells #[.slice ka kept.length kc] 45)) w.heap.size 45 #[.slice ka kept.length kc]:=Bk.at_ rfl
 have hb0:Below w.heap.size w (w.alloc (.cells #[.slice ka kept.length kc] 45)):=(Below.refl _ _).alloc (Nat.le_refl _) _
 have hz:(w.alloc (.cells #[.slice ka kept.length kc] 45)).heap.size=w.heap.size+1:=by simp
 have H:=IH (GF kept) 116 w.heap.size 45 (.slice ka kept.length kc) a c l _ (hs.up hb0) hl K0 (Kc Tryz.func116 Zk Zk) (λn w' hb=>iB n w.heap.size ka kc kept w' (K0.Ad hb) ((hk.up hb0).up hb) hkl)
 go_enter Tryz.func109,Tryz.ntmps109
 go_wp2_with fail
 generalize w.alloc (.cells #[.slice ka kept.length kc] 45)=w0 at*
 refine H.mono ?_
 rintro e w1 ⟨v,u,rfl,o1,o2,hb,f1,f2,f3⟩
 have HO:=Zh (And.intro o1 o2);clear o1 o2
 go_wp2_with fail
 go_ret2
 exact⟨v,u,rfl,HO.out.1,HO.out.2,hb0.trans (hb.mono hb0.size),λb h=>Nat.le_trans Zo (f1 b h),λb h=>Nat.le_trans Zo (f2 b h),f3⟩
theorem YP(l:List Xn)(a:Option Addr)(c:Nat)(now:Int)(w:World)(hs:Sl w w.heap.size 7 a l.length (rows Xn.l l))(hl:l.length<=100000):
  Calls Tryz.prog 111 #[.slice a l.length c,.int .i64 now] w (PJ w (DP now) l):=by
 have K0:Bk (w.alloc (.cells #[.int .i64 now] 3)) w.heap.size 3 #[.int .i64 now]:=Bk.at_ rfl
 have hb0:Below w.heap.size w (w.alloc (.cells #[.int .i64 now] 3)):=(Below.refl _ _).alloc (Nat.le_refl _) _
 have hz:(w.alloc (.cells #[.int .i64 now] 3)).heap.size=w.heap.size+1:=by simp
 have H:=IH (DP now) 118 w.heap.size 3 (.int .i64 now) a c l _ (hs.up hb0) hl K0 (Kc Tryz.func118 Zk Zk) (λn w' hb=>Vg n w.heap.size now w' (K0.Ad hb))
 go_enter Tryz.func111,Tryz.ntmps111
 go_wp2_with fail
 generalize w.alloc (.cells #[.int .i64 now] 3)=w0 at*
 refine H.mono ?_
 rintro e w1 ⟨v,u,rfl,o1,o2,hb,f1,f2,f3⟩
 have HO:=Zh (And.intro o1 o2);clear o1 o2
 go_wp2_with fail
 go_ret2
 exact⟨v,u,rfl,HO.out.1,HO.out.2,hb0.trans (hb.mono hb0.size),λb h=>Nat.le_trans Zo (f1 b h),λb h=>Nat.le_trans Zo (f2 b h),f3⟩
def G7(now:Int)(s:AN):Bool:=s.is&&!(s.low==now)
def FG(now:Int)(l:List AN):Bool:=!l.any (G7 now)
theorem uT(now:Int)(a:Option Addr)(c:Nat)(l:List AN)(w:World)(hs:Sl w w.heap.size 3 a l.length (rows AN.l l))(hl:l.length<=100000):
  Calls Tryz.prog 98 #[.int .i64 now,.slice a l.length c] w (Nz (FG now l) w):=by
 go_enter Tryz.func98,Tryz.ntmps98
 go_wp2_with fail
 go_loopw [9] (λi wr=>∃k:Nat,k<=l.length/\i=.int .i64 k/\Below w.heap.size w wr/\Hid (∀x∈l.take k,G7 now x=false)) (λi _=>l.length-(intOf i).toNat)
 case atStart=>exact⟨0,Nat.zero_le _,rfl,Below.refl _ _,by intro x hx;simp at hx⟩
 case round=>
  obtain⟨k,hkl,rfl,hB,HI⟩:=hrel
  have hz:=hB.size
  have hs1:=hs.below hB
  by_cases hlt:k<l.length
  ·obtain⟨b,off,rfl,hbb,hr⟩:=hs1.row yS k hlt;obtain⟨q0,q1,q2⟩:=nB hr;have X1:Bk (wr.alloc (.cells #[.bool false,.int .i64 0,.int .i64 0] 169)) wr.heap.size 169 #[.bool false,.int .i64 0,.int .i64 0]:=Bk.at_ rfl;have hB2:=hB.alloc hB.size (.cells #[.bool false,.int .i64 0,.int .i64 0] 169);cases d1:l[k].is with
   |true=>
    cases d2:(l[k].low==now) with
    |false=>
     have hp:G7 now l[k]=true:=by simp only[G7,d1,d2,Bool.not_false,Bool.true_and]
     have HT:=Zh (NM (p:=G7 now) hlt hp);have d3:(l[k].low !=now)=true:=by simp only[bne,d2,Bool.not_false]
     go_wp2_with (refine vM X1 ?_;intro w2 hst;have r0:=hst.bk.cell 0;have r1:=hst.bk.cell 1;simp at r0 r1);go_ret;exact⟨CV (by simp only[FG,HT.out,Bool.not_true]),hst.below hB2 Zo⟩
    |true=>
     have hp:G7 now l[k]=false:=by simp only[G7,d1,d2,Bool.not_true,Bool.and_false]
     have HN:=Zh (Eb (p:=G7 now) hlt HI.out hp);have d3:(l[k].low !=now)=false:=by simp only[bne,d2,Bool.not_true]
     go_wp2_with (refine vM X1 ?_;intro w2 hst;have r0:=hst.bk.cell 0;have r1:=hst.bk.cell 1;simp at r0 r1);go_roundw
     case rel=>exact⟨k+1,by omega,by go_num,hst.below hB2 Zo,HN.out⟩
     case measure=>simp[intOf];omega
   |false=>
    have hp:G7 now l[k]=false:=by simp only[G7,d1,Bool.false_and]
    have HN:=Zh (Eb (p:=G7 now) hlt HI.out hp);go_wp2_with (refine vM X1 ?_;intro w2 hst;have r0:=hst.bk.cell 0;have r1:=hst.bk.cell 1;simp at r0 r1);go_roundw
    case rel=>exact⟨k+1,by omega,by go_num,hst.below hB2 Zo,HN.out⟩
    case measure=>simp[intOf];omega
  ·have hke:k=l.length:=Zo;subst hke;have HT:=Zh (any_none HI.out);go_wp2_with fail;go_ret;exact⟨CV (by simp only[FG,HT.out,Bool.not_false]),hB⟩
def M2(v:Xn)(l:List Xn):Int:=match l.findIdx? (λn=>n==v) with
 |some i=>i
 |none=>-1
theorem YL{α:Type}{p:α->Bool}{l:List α}{k:Nat}(hk:k<l.length)(h:∀x∈l.take k,p x=false)(h1:p l[k]=true):l.findIdx? p=some k:=by
 rw[List.findIdx?_eq_some_iff_getElem];refine⟨hk,h1,λj hj=>?_⟩;have hjl:j<l.length:=Zo;have:=h l[j] (by rw[List.mem_take_iff_getElem];exact⟨j,by omega,rfl⟩);simp[this]
theorem uO{n m:Xn}(h:(n==m)=false):n.ref.sl≠m.ref.sl\/(n.ref.sl=m.ref.sl/\n.ref.gn≠m.ref.gn)\/(n.ref.sl=m.ref.sl/\n.ref.gn=m.ref.gn/\n.ref.tg≠m.ref.tg)\/(n.ref.sl=m.ref.sl/\n.ref.gn=m.ref.gn/\n.ref.tg=m.ref.tg/\n.ref.nm≠m.ref.nm)\/
  (n.ref.sl=m.ref.sl/\n.ref.gn=m.ref.gn/\n.ref.tg=m.ref.tg/\n.ref.nm=m.ref.nm/\n.ref.mark≠m.ref.mark)\/(n.ref.sl=m.ref.sl/\n.ref.gn=m.ref.gn/\n.ref.tg=m.ref.tg/\n.ref.nm=m.ref.nm/\n.ref.mark=m.ref.mark/\n.A8≠m.A8)\/
  (n.ref.sl=m.ref.sl/\n.ref.gn=m.ref.gn/\n.ref.tg=m.ref.tg/\n.ref.nm=m.ref.nm/\n.ref.mark=m.ref.mark/\n.A8=m.A8/\n.Db≠m.Db):=by
 obtain⟨⟨a0,a1,a2,a3,a4⟩,a5,a6⟩:=n
 obtain⟨⟨b0,b1,b2,b3,b4⟩,b5,b6⟩:=m
 simp only[beq_eq_false_iff_ne,ne_eq,Xn.mk.injEq,Xd.mk.injEq] at h
 simp only
 by_cases h0:a0=b0
 ·by_cases h1:a1=b1
  ·by_cases h2:a2=b2
   ·by_cases h3:a3=b3
    ·by_cases h4:a4=b4
     ·by_cases h5:a5=b5
      ·by_cases h6:a6=b6
       ·exact absurd ⟨⟨h0,h1,h2,h3,h4⟩,h5,h6⟩ h
       ·simp[*]
      ·simp[*]
     ·simp[*]
    ·simp[*]
   ·simp[*]
  ·simp[*]
 ·simp[*]
theorem Qq(v:Xn)(a:Option Addr)(c:Nat)(l:List Xn)(w:World)(hs:Sl w w.heap.size 7 a l.length (rows Xn.l l))(hl:l.length<=100000):
  Calls Tryz.prog 100 #[.slice a l.length c,.agg v.l.toArray] w (λe w'=>e=.returned (.int .i64 (M2 v l))/\Below w.heap.size w w'):=by
 obtain⟨⟨n0,n1,n2,n3,n4⟩,n5,n6⟩:=v
 show Calls Tryz.prog 100 #[.slice a l.length c,.agg #[.int .i64 n0,.int .i64 n1,.int .i64 n2,.int .i64 n3,.bool n4,.int .i64 n5,.int .i64 n6]] w _
 have B0:Bk (w.alloc (.cells #[.int .i64 n0,.int .i64 n1,.int .i64 n2,.int .i64 n3,.bool n4,.int .i64 n5,.int .i64 n6] 201)) w.heap.size 201 #[.int .i64 n0,.int .i64 n1,.int .i64 n2,.int .i64 n3,.bool n4,.int .i64 n5,.int .i64 n6]:=Bk.at_ rfl
 have hb0:Below w.heap.size w (w.alloc (.cells #[.int .i64 n0,.int .i64 n1,.int .i64 n2,.int .i64 n3,.bool n4,.int .i64 n5,.int .i64 n6] 201)):=(Below.refl _ _).alloc (Nat.le_refl _) _
 have hs0:=hs.up hb0
 go_enter Tryz.func100,Tryz.ntmps100
 go_wp2_with fail
 generalize w.alloc (.cells #[.int .i64 n0,.int .i64 n1,.int .i64 n2,.int .i64 n3,.bool n4,.int .i64 n5,.int .i64 n6] 201)=w0 at*
 go_loopw [8] (λi wr=>∃k m:Nat,k<=l.length/\i=.int .i64 k/\w0.drewN m=wr/\Hid (∀x∈l.take k,(x==(⟨⟨n0,n1,n2,n3,n4⟩,n5,n6⟩:Xn))=false)) (λi _=>l.length-(intOf i).toNat)
 case atStart=>exact⟨0,0,Nat.zero_le _,rfl,rfl,by intro x hx;simp at hx⟩
 case round=>
  obtain⟨k,m,hkl,rfl,rfl,HI⟩:=hrel
  have r0:=B0.cell 0;have r1:=B0.cell 1;have r2:=B0.cell 2;have r3:=B0.cell 3;have r4:=B0.cell 4;have r5:=B0.cell 5;have r6:=B0.cell 6
  simp at r0 r1 r2 r3 r4 r5 r6
  by_cases hlt:k<l.length
  ·obtain⟨b,off,rfl,hbb,hr⟩:=hs0.row Qo k hlt;obtain⟨q0,q1,q2,q3,q4,q5,q6⟩:=Oy hr;have BH:=Zh (And.intro B0 (And.intro hb0 (And.intro hs hs0)));clear B0 hb0 hs hs0 hr;cases hq:(l[k]==(⟨⟨n0,n1,n2,n3,n4⟩,n5,n6⟩:Xn)) with
   |true=>
    have HT:=Zh (YL (p:=λn=>n==(⟨⟨n0,n1,n2,n3,n4⟩,n5,n6⟩:Xn)) hlt HI.out hq);have he:l[k]=(⟨⟨n0,n1,n2,n3,n4⟩,n5,n6⟩:Xn):=by simpa using hq
    rw[he] at q0 q1 q2 q3 q4 q5 q6;clear he hq;go_wp2_with fail;go_quiet (fail);go_wp2_with fail;go_ret;exact⟨congrArg Ending.returned (show Value.int .i64 (k:Int)=_ from by simp only[M2,HT.out]),below_drewN (below_drewN BH.out.2.1 _) _⟩
   |false=>
    have HN:=Zh (Eb (p:=λn=>n==(⟨⟨n0,n1,n2,n3,n4⟩,n5,n6⟩:Xn)) hlt HI.out hq);have hq2:((⟨⟨n0,n1,n2,n3,n4⟩,n5,n6⟩:Xn)==l[k])=false:=by rw[←hq];exact BEq.comm
    have hn:=uO hq2;clear hq hq2;simp only at hn;rcases hn with d0|⟨d0,d1⟩|⟨d0,d1,d2⟩|⟨d0,d1,d2,d3⟩|⟨d0,d1,d2,d3,d4⟩|⟨d0,d1,d2,d3,d4,d5⟩|⟨d0,d1,d2,d3,d4,d5,d6⟩;all_goals
     go_wp2_with fail
     go_quiet (fail)
     go_wp2_with fail
     go_roundw
     case rel=>exact⟨k+1,_,by omega,by go_num,rfl,HN.out⟩
     case measure=>simp[intOf];omega
  ·have hke:k=l.length:=Zo;subst hke;have HT:Hid (M2 (⟨⟨n0,n1,n2,n3,n4⟩,n5,n6⟩:Xn) l=-1):=by
    have h0:=HI.out;rw[List.take_length] at h0;unfold M2;rw[List.findIdx?_eq_none_iff.2 h0];exact rfl
   go_wp2_with fail;go_ret;exact⟨congrArg Ending.returned (show Value.int .i64 (-1:Int)=_ from by rw[HT.out]),below_drewN hb0 _⟩
abbrev AR(l:List Xn):List Value:=rows Xn.l l
theorem AW(l:List Xn):(AR l).length=l.length*7:=Yx Qo l
theorem UQ(p:Xn)(l:List Xn):AR (p::l)=Xn.l p++AR l:=rfl
theorem Ks(l m:List Xn):AR (l++m)=AR l++AR m:=Jo l m
theorem Yl(l:List Xn):∀u∈AR l,u.oneCell'=true:=mO none_ l
def RetN2(w:World)(v:Value)(l:List Xn)(e:Ending)(w':World):Prop:=
 ∃v',e=.returned v'/\Own w' 201 7 v' l.length (AR l)/\w.grownBy w' v.ownBlock/\EW w v v'
theorem Zt(w:World)(g off i cap:Nat)(A cs R:List Value)(hb:Bk w g 201 (A++R).toArray)(ho:A.length=off+i*7)(hR:cs.length<=R.length)(a:Addr)(k c:Nat)(hn:cs.length=k*7)(hroom:i+k<=cap)
  (hsrc:∀j u,cs[j]?=some u->w.cell? (a.add j)=some u)(h1:∀u∈cs,u.oneCell'=true)(t:TypeId):
  ∃w',(Builtin.append_ #[64,64] t #[.slice (some ⟨g,off,none⟩) i cap,.slice (some a) k c]).run Tryz.prog w=.ok (.slice (some ⟨g,off,none⟩) (i+k) cap) w'/\
   Bk w' g 201 (A++(cs++R.drop cs.length)).toArray/\w.grownBy w' (some g):=by
 obtain⟨inf,hi0,hz,hz1,hz2⟩:=info_parts Ly
 have hr:=Gh (P:=Tryz.prog) w 64 t 201 inf Tryz.underlying64 hi0 g off i cap _ _ hb a k c cs (by rw[hn,hz1]) hsrc h1 hroom (by rw[hz1];simp;omega)
 rw[hz1,←ho] at hr
 refine⟨_,hr,?_,GC _ _ _⟩
 have e:(A++R).toArray.toList.take A.length++cs++(A++R).toArray.toList.drop (A.length+cs.length)=A++(cs++R.drop cs.length):=by
  show(A++R).take A.length++cs++(A++R).drop (A.length+cs.length)=_;rw[FL,List.take_left',List.append_assoc];rfl
 rw[e]
 exact hb.row
theorem iQ(w:World)(g o c:Nat)(A R:List Value)(hb:Bk w g 201 (A++R).toArray)(ho:A.length=o)(hR:7<=R.length)(t:TypeId):
  ∃w' Z,(Builtin.clear_ #[64] t #[.slice (some ⟨g,o,none⟩) 1 c]).run Tryz.prog w=.ok (.tuple #[]) w'/\
   Bk w' g 201 (A++Z).toArray/\Z.length=R.length/\w.grownBy w' (some g):=by
 subst ho
 obtain⟨inf,hi0,hz,hz1,hz2⟩:=info_parts Ly
 have zl:(Builtin.zeroCells (Value.agg Xn.zero.l.toArray).cells 1).toList.length=7:=by rw[Array.length_toList,size_zeroCells];rfl
 have zc:(Builtin.zeroCells (Value.agg Xn.zero.l.toArray).cells 1).toList=Xn.zero.l:=Zk
 have hr:=Qh (P:=Tryz.prog) w 64 201 t (.agg Xn.zero.l.toArray) Tryz.underlying64 (λw=>by simp[zeroValue,typeInfo,hi0,hz])
  (by intro u hu;rw[zc] at hu;exact none_ _ u hu) g A.length c _ _ hb (by show _+7<=_;simp;omega)
 refine⟨_,(Builtin.zeroCells (Value.agg Xn.zero.l.toArray).cells 1).toList++R.drop 7,hr,?_,?_,GC _ _ _⟩
 ·have e:(A++R).toArray.toList.take A.length++(Builtin.zeroCells (Value.agg Xn.zero.l.toArray).cells 1).toList++(A++R).toArray.toList.drop (A.length+(Value.agg Xn.zero.l.toArray).cells.size)=A++((Builtin.zeroCells (Value.agg Xn.zero.l.toArray).cells 1).toList++R.drop 7):=by
   show(A++R).take A.length++_++(A++R).drop (A.length+7)=_;rw[FL,List.take_left',List.append_assoc];rfl
  rw[e];exact hb.row
 ·rw[List.length_append,zl,List.length_drop];omega
theorem Pe(w:World)(v:Value)(l:List Xn)(h:Own w 201 7 v l.length (AR l))(hl:l.length<=100000)(i:Nat)(hi:i<l.length):
  Calls Tryz.prog 101 #[v,.int .i64 i,.int .i64 (i+1)] w (RetN2 w v (l.take i++l.drop (i+1))):=by
 have hlt:(l.take i).length=i:=by rw[List.length_take];omega
 have hld:(l.drop (i+1)).length=l.length-(i+1):=List.length_drop
 have h0:=h
 rcases h.2 with⟨_,h'⟩|⟨g,off,cap,A,R,rfl,hk,hA,hn,hmax,hs⟩
 ·omega
 rw[AW] at hs
 have hsp:AR l=AR (l.take i)++(Xn.l l[i]++AR (l.drop (i+1))):=by
  rw[←UQ,←Ks,List.getElem_cons_drop,List.take_append_drop]
 rw[hsp] at hk
 have hY:(AR (l.drop (i+1))).length=(l.length-(i+1))*7:=by rw[AW,hld]
 have hkd:Bk w.drew g 201 ((A++AR (l.take i))++((Xn.l l[i]++AR (l.drop (i+1)))++R)).toArray:=by
  have e:(A++AR (l.take i))++((Xn.l l[i]++AR (l.drop (i+1)))++R)=A++(AR (l.take i)++(Xn.l l[i]++AR (l.drop (i+1)))++R):=by simp only[List.append_assoc]
  rw[e];exact hk.drew
 have hp2:(Xn.l l[i]).length=7:=rfl
 have hsrc:∀j u,(AR (l.drop (i+1)))[j]?=some u->w.drew.cell? ((⟨g,off+(i+1)*7,none⟩:Addr).add j)=some u:=λj u hu=>by
  rw[Addr.add_lit,Nat.add_assoc];refine BW h0.drew ((i+1)*7+j) u ?_;rw[hsp,List.getElem?_append_right (by rw[AW,hlt];omega),List.getElem?_append_right (by rw[AW,hlt,hp2];omega),AW,hlt,hp2,show(i+1)*7+j-i*7-7=j from by omega];exact hu
 have hfirst:∀(a:Addr) (c:Nat),(a=⟨g,off+(i+1)*7,none⟩\/l.length=i+1)->∃w1,(Builtin.append_ #[64,64] 64 #[.slice (some ⟨g,off,none⟩) i cap,.slice (some a) (l.length-(i+1)) c]).run Tryz.prog w.drew=.ok (.slice (some ⟨g,off,none⟩) (i+(l.length-(i+1))) cap) w1/\
   Bk w1 g 201 ((A++AR (l.take i))++(AR (l.drop (i+1))++((Xn.l l[i]++AR (l.drop (i+1)))++R).drop (AR (l.drop (i+1))).length)).toArray/\w.drew.grownBy w1 (some g):=λa c ha=>by
  refine Zt w.drew g off i cap _ (AR (l.drop (i+1))) _ hkd (by rw[List.length_append,hA,AW,hlt]) (by simp only[List.length_append];omega) a (l.length-(i+1)) c hY Zo ?_ (Yl _) 64
  rcases ha with rfl|ha
  ·exact hsrc
  ·intro j u hu;have:AR (l.drop (i+1))=[]:=List.eq_nil_of_length_eq_zero Zo;rw[this] at hu;cases hu
 have hRl:(((Xn.l l[i]++AR (l.drop (i+1)))++R).drop (AR (l.drop (i+1))).length).length=R.length+7:=by
  rw[List.length_drop,List.length_append,List.length_append];omega
 have hsecond:∀w1 c,Bk w1 g 201 ((A++AR (l.take i))++(AR (l.drop (i+1))++((Xn.l l[i]++AR (l.drop (i+1)))++R).drop (AR (l.drop (i+1))).length)).toArray->∃w2 Z,(Builtin.clear_ #[64] 3 #[.slice (some ⟨g,off+(l.length-1)*7,none⟩) 1 c]).run Tryz.prog w1=.ok (.tuple #[]) w2/\
   Bk w2 g 201 (A++(AR (l.take i++l.drop (i+1))++Z)).toArray/\Z.length=R.length+7/\w1.grownBy w2 (some g):=λw1 c h1=>by
  rw[←List.append_assoc] at h1
  obtain⟨w2,Z,a1,a2,a3,a4⟩:=iQ w1 g (off+(l.length-1)*7) c _ _ h1 (by simp only[List.length_append,AW,hlt,hld,hA];omega) Zo 3
  refine⟨w2,Z,a1,?_,a3.trans hRl,a4⟩
  rw[Ks]
  simp only[List.append_assoc] at a2 ⊢
  exact a2
 obtain⟨w1,hr1,hb1,hg1⟩:=hfirst (if cap=i+1 then⟨g,off,none⟩ else⟨g,off+(i+1)*7,none⟩) (cap-(i+1)) (by by_cases h:cap=i+1;exact Or.inr Zo;rw[if_neg h];exact Or.inl rfl)
 obtain⟨w2,Z,hr2,hb2,hZ,hg2⟩:=hsecond w1 (cap-(l.length-1)) hb1
 have hlen:(l.take i++l.drop (i+1)).length=l.length-1:=by rw[List.length_append,hlt,hld];omega
 have HF:=Zh (And.intro hb2 (And.intro hZ (And.intro (Hn (SK hg1) hg2) (And.intro hA (And.intro hlen hs)))))
 clear hfirst hsecond hb1 hb2 hZ hg1 hg2 hsrc hkd hk hY h h0 hsp hld hRl hA hs hlen
 have HL:=Zh hlt;clear hlt
 have R1:=Zh hr1;have R2:=Zh hr2;clear hr1 hr2
 simp only[maxLen] at hmax
 obtain⟨n,hn'⟩:∃n,l.length=n:=⟨_,rfl⟩
 have HN:=Zh hn'
 rw[hn'] at R1 R2 hl hi hn ⊢
 clear hn' hp2
 obtain⟨m,rfl⟩:∃m,n=m+1:=⟨n-1,by omega⟩
 rw[show i+(m+1-(i+1))=m from by omega,show m+1-(i+1)=m-i from by omega] at R1
 rw[show m+1-1=m from rfl] at R2
 by_cases hic:cap=i+1
 ·obtain rfl:m=i:=Zo;subst hic;rw[if_pos rfl,Nat.sub_self,Nat.sub_self] at R1;rw[show m+1-m=1 from by omega] at R2;go_enter Tryz.func101,Tryz.ntmps101;go_wp2_with fail;(refine Yb (λ_=>True) 8 Zk trivial (λhS=>?_);((try simp only[ZL]);refine vT (fuel:=2) hS [0,1,2,3,4,5] ?_;simp only[Xv,Xp,List.toList_toArray];(repeat (first|go_big_quiet_skip|(go_big_quiet_want;first|(go_big_quiet_op;go_big_quiet_on)|(apply Exists.intro;refine⟨λw' hS'=>?_,?_⟩;(· (skip;go_simp;first|done|rfl|exact⟨rfl,rfl⟩));go_big_quiet_on;simp only[ZL]))));refine wpQuiet_nil ?_;(try dsimp only));(refine Xh 6 Zk (λK hK=>?_);simp only[Xp,List.toList_toArray]);refine Ye Zr _ _ _ _ _ _ _ Zr Zr Zr R1.out ?_;go_wp2_with fail;refine hK.out _ _ (λ_=>trivial) ?_;((try simp only[ZL]);refine vT (fuel:=0) hS [7] ?_;simp only[Xv,Xp,List.toList_toArray];(repeat (first|go_big_quiet_skip|(go_big_quiet_want;first|(go_big_quiet_op;go_big_quiet_on)|(apply Exists.intro;refine⟨λw' hS'=>?_,?_⟩;(· (skip;go_simp;first|done|rfl|exact⟨rfl,rfl⟩));go_big_quiet_on;simp only[ZL]))));refine wpQuiet_nil ?_;(try dsimp only));refine Yg Zk ?_ _;go_wp2_with (refine Ht Zr _ _ _ _ Zr Zr R2.out ?_);go_ret;have hn':=HN.out;obtain⟨h1,h2,h3,h4,h5,h6⟩:=HF.out;refine⟨_,rfl,⟨AW _,.inr ⟨g,off,m+1,A,Z,?_,h1,h4,?_,?_,?_⟩⟩,h3,λg' hg'=>Or.inl hg'⟩;(· rw[h5,hn'];rfl);(· omega);(· simp only[maxLen];omega);(· rw[AW,h5,h2];omega))
 ·rw[if_neg hic] at R1;go_enter Tryz.func101,Tryz.ntmps101;go_wp2_with fail;(refine Yb (λ_=>True) 8 Zk trivial (λhS=>?_);((try simp only[ZL]);refine vT (fuel:=2) hS [0,1,2,3,4,5] ?_;simp only[Xv,Xp,List.toList_toArray];(repeat (first|go_big_quiet_skip|(go_big_quiet_want;first|(go_big_quiet_op;go_big_quiet_on)|(apply Exists.intro;refine⟨λw' hS'=>?_,?_⟩;(· (skip;go_simp;first|done|rfl|exact⟨rfl,rfl⟩));go_big_quiet_on;simp only[ZL]))));refine wpQuiet_nil ?_;(try dsimp only));(refine Xh 6 Zk (λK hK=>?_);simp only[Xp,List.toList_toArray]);refine Ye Zr _ _ _ _ _ _ _ Zr Zr Zr R1.out ?_;go_wp2_with fail;refine hK.out _ _ (λ_=>trivial) ?_;((try simp only[ZL]);refine vT (fuel:=0) hS [7] ?_;simp only[Xv,Xp,List.toList_toArray];(repeat (first|go_big_quiet_skip|(go_big_quiet_want;first|(go_big_quiet_op;go_big_quiet_on)|(apply Exists.intro;refine⟨λw' hS'=>?_,?_⟩;(· (skip;go_simp;first|done|rfl|exact⟨rfl,rfl⟩));go_big_quiet_on;simp only[ZL]))));refine wpQuiet_nil ?_;(try dsimp only));refine Yg Zk ?_ _;go_wp2_with (refine Ht Zr _ _ _ _ Zr Zr R2.out ?_);go_ret;have hn':=HN.out;obtain⟨h1,h2,h3,h4,h5,h6⟩:=HF.out;refine⟨_,rfl,⟨AW _,.inr ⟨g,off,cap,A,Z,?_,h1,h4,?_,?_,?_⟩⟩,h3,λg' hg'=>Or.inl hg'⟩;(· rw[h5,hn'];rfl);(· omega);(· simp only[maxLen];omega);(· rw[AW,h5,h2];omega))
end Go.Proofs.YtaipogljokblkaaGreatDoor
