/- Core: Size, Sl, LN, SvA, FnRoot, FnLitanystart, FnVaultstart, FnFits, DcA. -/
import Derived.WalkKit
import Derived.Test.YtaipogljokblkaaGreatDoorZ01
import Derived.Laws.AppendOwn
import Derived.Test.YtaipogljokblkaaGreatDoorZ08
import Derived.Deep.MidRow
import Derived.IntWalk
import Derived.Handy
import Derived.Test.YtaipogljokblkaaGreatDoorZ09
set_option linter.all false
set_option maxRecDepth 100000
set_option maxHeartbeats 8000000
namespace Go.Proofs.YtaipogljokblkaaGreatDoor
open Go Go.RowKit
set_option linter.unusedSimpArgs false
set_option linter.unusedVariables false
set_option linter.unusedSectionVars false
@[go_sem] theorem size_le {n m:Nat} (h:n < m):n≤m:=Nat.le_of_lt h
@[go_sem] theorem size_lt_add {n m k:Nat} (h:n < m):n < m+k:=Nat.lt_of_lt_of_le h (Nat.le_add_right _ _)
@[go_sem] theorem size_le_add {n m k:Nat} (h:n≤m):n≤m+k:=Nat.le_trans h (Nat.le_add_right _ _)
def icells (l:List Int):List Value:=l.map (Value.int .i64)
def Sl (w:World) (B sz:Nat) (A:Option Addr) (n:Nat) (xs:List Value):Prop :=
 xs.length = n*sz∧(0 < n→∃ b off,A = some ⟨b,off,none⟩∧b < B∧∀ j u,xs[j]? = some u→w.cell? ⟨b,off+j,none⟩ = some u)
section
variable {w w':World} {B B' sz n:Nat} {A:Option Addr} {xs:List Value}
theorem Sl.keep (h:Sl w B sz A n xs) (hk:∀ b o,b < B→w'.cell? ⟨b,o,none⟩ = w.cell? ⟨b,o,none⟩):Sl w' B sz A n xs :=
 ⟨h.1,fun hn=>by
  obtain ⟨b,off,e,hb,hc⟩:=h.2 hn
  exact ⟨b,off,e,hb,fun j u hu=>(hk _ _ hb).trans (hc j u hu)⟩⟩
theorem Sl.more (h:Sl w B sz A n xs) (hB:B≤B'):Sl w B' sz A n xs :=
 ⟨h.1,fun hn=>by
  obtain ⟨b,off,e,hb,hc⟩:=h.2 hn
  exact ⟨b,off,e,by omega,hc⟩⟩
theorem Sl.below (h:Sl w B sz A n xs) (hb:Below B w w'):Sl w' B sz A n xs:=h.keep fun b o hp=>hb.cell (p:=⟨b,o,none⟩) hp
theorem Sl.below' {C:Nat} (h:Sl w B sz A n xs) (hb:Below C w w') (hBC:B≤C):Sl w' B sz A n xs:=h.below (hb.mono hBC)
theorem Sl.of_own {base:Nat} {e:TypeId} {c:Nat} (h:w.ownsRow base e sz (.slice A n c) n xs):Sl w w.heap.size sz A n xs:=by
 refine ⟨h.1,fun hn=>?_⟩
 obtain ⟨g,cap,hv,_,hlt⟩:=h.form hn
 have hA:A = some ⟨g,0,none⟩:=by injection hv
 subst hA
 have hc:=h.cells (g:=g) rfl
 refine ⟨g,0,rfl,hlt,fun j u hu=>?_⟩
 have:=hc j u hu
 simp only [Addr.add] at this
 split at this
 ·rename_i h0;subst h0;simpa using this
 ·simpa using this
end
theorem icells_length (l:List Int):(icells l).length = l.length:=by simp [icells]
theorem icells_get (l:List Int) (i:Nat) (h:i < l.length):(icells l)[i]? = some (.int .i64 l[i]):=by simp [icells,h]
theorem Sl.pick {w:World} {B:Nat} {A:Option Addr} {l:List Int} (h:Sl w B 1 A l.length (icells l)) {i:Nat} (hi:i < l.length) :
  ∃ b off,A = some ⟨b,off,none⟩∧b < B∧w.cell? ⟨b,off+i,none⟩ = some (.int .i64 l[i]):=by
 obtain ⟨b,off,e,hb,hc⟩:=h.2 (by omega)
 exact ⟨b,off,e,hb,hc i _ (icells_get l i hi)⟩
theorem Sl.up {w w':World} {sz n:Nat} {A:Option Addr} {xs:List Value} (h:Sl w w.heap.size sz A n xs) (hb:Below w.heap.size w w'):Sl w' w'.heap.size sz A n xs:=(h.below hb).more hb.size
theorem infoWordB:(Tryz.prog.info? 51).map (fun i=>(i.zero,i.size,i.bytes)) = some (some (.agg Xf.zero.l.toArray),5,40):=by kernel_rfl
theorem infoNote:(Tryz.prog.info? 201).map (fun i=>(i.zero,i.size,i.bytes)) = some (some (.agg Xp.zero.l.toArray),7,56):=by kernel_rfl
theorem infoSpan:(Tryz.prog.info? 169).map (fun i=>(i.zero,i.size,i.bytes)) = some (some (.agg GSpan.zero.l.toArray),3,24):=by kernel_rfl
theorem infoInt:(Tryz.prog.info? 3).map (fun i=>(i.zero,i.size,i.bytes)) = some (some (.int .i64 0),1,8):=by kernel_rfl
theorem wr_is (n:Int):wr n = wrap64 n:=IntWalk.i64_left n
def rows {α:Type} (f:α→List Value) (l:List α):List Value:=l.flatMap f
section
variable {α:Type} {f:α→List Value} {sz:Nat}
theorem rows_cons (p:α) (l:List α):rows f (p :: l) = f p++rows f l:=rfl
theorem rows_append (l m:List α):rows f (l++m) = rows f l++rows f m:=by simp [rows]
theorem Yt (hf:∀ x,(f x).length = sz) (l:List α):(rows f l).length = l.length*sz:=by
 induction l with
 | nil=>simp [rows]
 | cons p l ih=>rw [rows_cons,List.length_append,ih,hf,List.length_cons,Nat.add_mul];omega
theorem rows_get (hf:∀ x,(f x).length = sz) (l:List α):∀ (i:Nat) (_:i < l.length) (j:Nat) (u:Value),(f l[i])[j]? = some u→(rows f l)[i*sz+j]? = some u:=by
 induction l with
 | nil=>intro i h;simp at h
 | cons p l ih =>
  intro i h j u hu
  rw [rows_cons]
  have hj:j < sz:=by
   rcases Nat.lt_or_ge j sz with h' | h'
   ·exact h'
   ·rw [List.getElem?_eq_none (by rw [hf];exact h')] at hu;cases hu
  cases i with
  | zero =>
   rw [List.getElem?_append_left (by rw [hf];omega)]
   simpa using hu
  | succ i =>
   have h1:=ih i (by simpa using h) j u (by simpa using hu)
   have e:(i+1)*sz+j - sz = i*sz+j:=by rw [Nat.add_mul];omega
   rw [List.getElem?_append_right (by rw [hf,Nat.add_mul];omega),hf,e]
   exact h1
theorem rows_one (h1:∀ x,∀ u∈f x,u.oneCell' = true) (l:List α):∀ u∈rows f l,u.oneCell' = true:=by
 intro u hu
 obtain ⟨p,_,hp⟩:=List.mem_flatMap.1 hu
 exact h1 p u hp
end
theorem bk_cells {w:World} {g:Nat} {t:TypeId} {cs:List Value} (h:Bk w g t cs.toArray):∀ j u,cs[j]? = some u→w.cell? ((⟨g,0,none⟩:Addr).add j) = some u:=by
 intro j u hu
 rw [Addr.add_lit,Nat.zero_add,h.cell]
 simpa using hu
theorem wlen (x:Xf):x.l.length = 5:=rfl
theorem nlen (x:Xp):x.l.length = 7:=rfl
theorem slen (x:GSpan):x.l.length = 3:=rfl
theorem wone (x:Xf):∀ u∈x.l,u.oneCell' = true:=by intro u hu;simp [Xf.l] at hu;rcases hu with rfl | rfl | rfl | rfl | rfl <;> rfl
theorem none_ (x:Xp):∀ u∈x.l,u.oneCell' = true:=by intro u hu;simp [Xp.l,Xf.l] at hu;rcases hu with rfl | rfl | rfl | rfl | rfl | rfl | rfl <;> rfl
theorem sone (x:GSpan):∀ u∈x.l,u.oneCell' = true:=by intro u hu;simp [GSpan.l] at hu;rcases hu with rfl | rfl | rfl <;> rfl
theorem own_rows_append {α:Type} {f:α→List Value} {sz bytes:Nat} {T E:TypeId} {z:Value} (hf:∀ x,(f x).length = sz) (h1:∀ x,∀ u∈f x,u.oneCell' = true) (hT:Tryz.prog.underlying T = some (.slice E))
  (hE:(Tryz.prog.info? E).map (fun i=>(i.zero,i.size,i.bytes)) = some (some z,sz,bytes)) (hzs:z.cells.size = sz) (hsz:0 < sz) (hby:bytes≤1000)
  (w:World) (v:Value) (l:List α) (h:Own w E sz v l.length (rows f l)) (hl:l.length≤100000) (x:α) (b:Nat) (hb:Bk w b E (f x).toArray) (t:TypeId) :
  ∃ v' w',(Builtin.append_ #[T,T] t #[v,.slice (some ⟨b,0,none⟩) 1 1]).run Tryz.prog w = .ok v' w' ∧
   Own w' E sz v' (l++[x]).length (rows f (l++[x]))∧w.grownBy w' v.ownBlock∧Fresh w v v':=by
 obtain ⟨i,hi,hz,hz1,hz2⟩:=info_parts hE
 have hm:(l.length+1)*bytes≤140737488355328:=Nat.le_trans (Nat.mul_le_mul (show l.length+1≤100001 by omega) hby) (by decide)
 have h0:=own_append (P:=Tryz.prog) w T t E i z sz bytes hT hi hz hz1 hz2 hzs hsz v l.length (rows f l) h ⟨b,0,none⟩ 1 1 (f x) (by rw [hf,Nat.one_mul]) (bk_cells hb) (h1 x) (by omega) (by simp only [maxLen];omega) hm
 rw [rows_append,List.length_append]
 simpa [rows] using h0
theorem own_row {α:Type} {f:α→List Value} {sz:Nat} {E:TypeId} (hf:∀ x,(f x).length = sz) {w:World} {g off cap:Nat} {l:List α} (h:Own w E sz (.slice (some ⟨g,off,none⟩) l.length cap) l.length (rows f l)) (k:Nat) (hk:k < l.length):w.rangeAt g (off+k*sz) (f l[k]):=by
 intro j u hu
 rw [Nat.add_assoc]
 exact own_cells h _ _ (rows_get hf l k hk j u hu)
theorem own_form {w:World} {t:TypeId} {sz:Nat} {v:Value} {n:Nat} {xs:List Value} (h:Own w t sz v n xs) (hn:0 < n):∃ g off cap,v = .slice (some ⟨g,off,none⟩) n cap∧n≤cap:=by
 rcases h.2 with ⟨_,h0⟩ | ⟨g,off,cap,A,R,rfl,_,_,hc,_⟩
 ·omega
 ·exact ⟨g,off,cap,rfl,hc⟩
theorem Yq {w:World} {t:TypeId} {sz:Nat} {v:Value} {n:Nat} {xs:List Value} (h:Own w t sz v n xs):∃ a cap,v = .slice a n cap∧n≤cap∧cap≤maxLen:=by
 rcases h.2 with ⟨rfl,rfl⟩ | ⟨g,off,cap,A,R,rfl,_,_,hc,hm,_⟩
 ·exact ⟨none,0,rfl,Nat.le_refl _,by decide⟩
 ·exact ⟨_,cap,rfl,hc,hm⟩
theorem Sl.of_own2 {w:World} {E:TypeId} {sz n:Nat} {a:Option Addr} {c:Nat} {xs:List Value} (h:Own w E sz (.slice a n c) n xs):Sl w w.heap.size sz a n xs:=by
 refine ⟨h.1,fun hn=>?_⟩
 obtain ⟨g,off,cap,hv,_⟩:=own_form h hn
 injection hv with h1 h2 h3
 subst h1;subst h3
 exact ⟨g,off,rfl,h.lt rfl,own_cells h⟩
theorem Sl.row {α:Type} {f:α→List Value} {sz:Nat} (hf:∀ x,(f x).length = sz) {w:World} {B:Nat} {a:Option Addr} {l:List α} (h:Sl w B sz a l.length (rows f l)) (k:Nat) (hk:k < l.length) :
  ∃ b off,a = some ⟨b,off,none⟩∧b < B∧w.rangeAt b (off+k*sz) (f l[k]):=by
 obtain ⟨b,off,e,hb,hc⟩:=h.2 (by omega)
 refine ⟨b,off,e,hb,fun j u hu=>?_⟩
 rw [Nat.add_assoc]
 exact hc _ _ (rows_get hf l k hk j u hu)
theorem range5 {w:World} {b o:Nat} {x:Xf} (h:w.rangeAt b o x.l):w.cell? ⟨b,o,none⟩ = some (.int .i64 x.sl)∧w.cell? ⟨b,o+1,none⟩ = some (.int .i64 x.gn)∧w.cell? ⟨b,o+2,none⟩ = some (.int .i64 x.tg)∧w.cell? ⟨b,o+3,none⟩ = some (.int .i64 x.nm)∧w.cell? ⟨b,o+4,none⟩ = some (.bool x.mark) :=
 ⟨h 0 _ rfl,h 1 _ rfl,h 2 _ rfl,h 3 _ rfl,h 4 _ rfl⟩
theorem range3 {w:World} {b o:Nat} {x:GSpan} (h:w.rangeAt b o x.l):w.cell? ⟨b,o,none⟩ = some (.bool x.is)∧w.cell? ⟨b,o+1,none⟩ = some (.int .i64 x.low)∧w.cell? ⟨b,o+2,none⟩ = some (.int .i64 x.high) :=
 ⟨h 0 _ rfl,h 1 _ rfl,h 2 _ rfl⟩
theorem range7 {w:World} {b o:Nat} {x:Xp} (h:w.rangeAt b o x.l):w.cell? ⟨b,o,none⟩ = some (.int .i64 x.ref.sl)∧w.cell? ⟨b,o+1,none⟩ = some (.int .i64 x.ref.gn)∧w.cell? ⟨b,o+2,none⟩ = some (.int .i64 x.ref.tg)∧w.cell? ⟨b,o+3,none⟩ = some (.int .i64 x.ref.nm)∧w.cell? ⟨b,o+4,none⟩ = some (.bool x.ref.mark)∧w.cell? ⟨b,o+5,none⟩ = some (.int .i64 x.birth)∧w.cell? ⟨b,o+6,none⟩ = some (.int .i64 x.death) :=
 ⟨h 0 _ rfl,h 1 _ rfl,h 2 _ rfl,h 3 _ rfl,h 4 _ rfl,h 5 _ rfl,h 6 _ rfl⟩
theorem any_take {α:Type} {l:List α} {p:α→Bool} {k:Nat} (hk:k < l.length) (h:∀ x∈l.take k,p x = false) (h1:p l[k] = false):∀ x∈l.take (k+1),p x = false:=by
 intro x hx
 rw [List.take_add_one,List.getElem?_eq_getElem hk] at hx
 rcases List.mem_append.1 hx with hx | hx
 ·exact h x hx
 ·have:x = l[k]:=by simpa using hx
  rw [this];exact h1
theorem any_hit {α:Type} {l:List α} {p:α→Bool} {k:Nat} (hk:k < l.length) (h1:p l[k] = true):l.any p = true:=List.any_eq_true.2 ⟨_,List.getElem_mem hk,h1⟩
theorem any_none {α:Type} {l:List α} {p:α→Bool} (h:∀ x∈l.take l.length,p x = false):l.any p = false:=by
 rw [List.take_length] at h
 rw [List.any_eq_false]
 intro x hx
 rw [h x hx]
 simp
theorem ret_bool {a b:Bool} (h:a = b):Ending.returned (.bool a) = .returned (.bool b):=by rw [h]
def RetB (b:Bool) (w:World) (e:Ending) (w':World):Prop:=e = .returned (.bool b)∧Below w.heap.size w w'
def slotKept (kept:List Xf) (n:Xp):Bool:=kept.any fun x=>x.sl==n.ref.sl
theorem slots1_any (n:Xp) (gk:Nat) (a:Option Addr) (c B:Nat) (kept:List Xf) (w:World) (hk:Bk w gk 103 #[.slice a kept.length c]) (hs:Sl w w.heap.size 5 a kept.length (rows Xf.l kept)) (hl:kept.length≤100000) :
  Calls Tryz.prog 115 #[.agg n.l.toArray,.pointer (some ⟨gk,0,none⟩)] w (RetB (slotKept kept n) w):=by
 obtain ⟨⟨n0,n1,n2,n3,n4⟩,n5,n6⟩:=n
 show Calls Tryz.prog 115 #[.agg #[.int .i64 n0,.int .i64 n1,.int .i64 n2,.int .i64 n3,.bool n4,.int .i64 n5,.int .i64 n6],.pointer (some ⟨gk,0,none⟩)] w _
 have B0:Bk (w.alloc (.cells #[.int .i64 n0,.int .i64 n1,.int .i64 n2,.int .i64 n3,.bool n4,.int .i64 n5,.int .i64 n6] 201)) w.heap.size 201 #[.int .i64 n0,.int .i64 n1,.int .i64 n2,.int .i64 n3,.bool n4,.int .i64 n5,.int .i64 n6]:=Bk.at_ rfl
 have hb0:Below w.heap.size w (w.alloc (.cells #[.int .i64 n0,.int .i64 n1,.int .i64 n2,.int .i64 n3,.bool n4,.int .i64 n5,.int .i64 n6] 201)):=(Below.refl _ _).alloc (Nat.le_refl _) _
 have K0:=hk.alloc (.cells #[.int .i64 n0,.int .i64 n1,.int .i64 n2,.int .i64 n3,.bool n4,.int .i64 n5,.int .i64 n6] 201)
 have c0:=K0.cell 0
 simp at c0
 go_enter Tryz.func115,Tryz.ntmps115
 go_wp2_with fail
 generalize w.alloc (.cells #[.int .i64 n0,.int .i64 n1,.int .i64 n2,.int .i64 n3,.bool n4,.int .i64 n5,.int .i64 n6] 201) = w0 at *
 go_loopw [8] (fun i wr=>∃ k:Nat,k≤kept.length∧i = .int .i64 k∧Below w0.heap.size w0 wr∧Hid (∀ x∈kept.take k,(x.sl==n0) = false)) (fun i _=>kept.length - (intOf i).toNat)
 case atStart=>exact ⟨0,Nat.zero_le _,rfl,Below.refl _ _,by intro x hx;simp at hx⟩
 case round =>
  obtain ⟨k,hkl,rfl,hB,HI⟩:=hrel
  have hz:=hB.size
  have hs1:=(hs.below hb0).below' hB hb0.size
  have K1:=K0.belowAll hB
  have B1:=B0.belowAll hB
  by_cases hlt:k < kept.length
  ·obtain ⟨b,off,rfl,hbb,hr⟩:=hs1.row wlen k hlt
   obtain ⟨q0,q1,q2,q3,q4⟩:=range5 hr
   have X1:Bk (wr.alloc (.cells #[.int .i64 0,.int .i64 0,.int .i64 0,.int .i64 0,.bool false] 51)) wr.heap.size 51 #[.int .i64 0,.int .i64 0,.int .i64 0,.int .i64 0,.bool false]:=Bk.at_ rfl
   have B2:=B1.alloc (.cells #[.int .i64 0,.int .i64 0,.int .i64 0,.int .i64 0,.bool false] 51)
   have hB2:=hB.alloc hB.size (.cells #[.int .i64 0,.int .i64 0,.int .i64 0,.int .i64 0,.bool false] 51)
   have hlt1:=B1.lt
   cases hq:(kept[k].sl==n0) with
   | true =>
    have HT:=Lib.hid (any_hit (p:=fun x:Xf=>x.sl==n0) hlt hq)
    go_wp2_with (refine vM X1 ?_;intro w2 hst;have r0:=hst.bk.cell 0;have r1:=(hst.far B2 (by omega)).cell 0;simp at r0 r1)
    go_ret
    exact ⟨ret_bool HT.out.symm,hb0.trans ((hst.below hB2 (by omega)).mono hb0.size)⟩
   | false =>
    have hn:=any_take (p:=fun x:Xf=>x.sl==n0) hlt HI.out hq
    have HN:=Lib.hid hn;clear hn
    go_wp2_with (refine vM X1 ?_;intro w2 hst;have r0:=hst.bk.cell 0;have r1:=(hst.far B2 (by omega)).cell 0;simp at r0 r1)
    go_roundw
    case rel=>exact ⟨k+1,by omega,by go_num,hst.below hB2 (by omega),HN.out⟩
    case measure=>simp [intOf];omega
  ·have hke:k = kept.length:=by omega
   subst hke
   have HT:=Lib.hid (any_none HI.out)
   go_wp2_with fail
   go_ret
   exact ⟨ret_bool HT.out.symm,hb0.trans (hB.mono hb0.size)⟩
end Go.Proofs.YtaipogljokblkaaGreatDoor
namespace Go.Proofs.YtaipogljokblkaaGreatDoor.Fn
open Go Go.RowKit
theorem boardRoot_any (n:Int) (w:World) (h0:0≤n) (h1:n < 24) :
  Calls Tryz.prog 14 #[.int .i64 n] w fun e w'=>e = .returned (.tuple #[.agg #[.int .i64 0,.int .i64 0,.int .i64 n],.nilIface]) ∧
   w.alloc (.cells #[.int .i64 0,.int .i64 0,.int .i64 n] 54) = w':=by
 go_enter Tryz.func14,Tryz.ntmps14
 go_wp2
 go_returns
 exact ⟨by simp,rfl⟩
def RetP (w:World) (e:Ending) (w':World):Prop:=(∃ p,e = .returned (.pointer p))∧Below w.heap.size w w'
theorem litanyFrom_any (a b c k:Int) (o:POp) (w:World) :
  Calls Tryz.prog 70 #[.agg #[.int .i64 a,.int .i64 b,.int .i64 c],.int .i64 k,o.v] w (RetP w):=by
 obtain ⟨kind,key,val,tall⟩:=o
 simp only [POp.v]
 go_enter Tryz.func70,Tryz.ntmps70
 go_wp2
 all_goals
  go_ret
  exact ⟨⟨_,rfl⟩,vB⟩
end Go.Proofs.YtaipogljokblkaaGreatDoor.Fn
namespace Go.Proofs.YtaipogljokblkaaGreatDoor.Fn
open Go Go.RowKit
theorem litanyStart_any (o:POp) (w:World) (T:TypeId) (u:Value) (hE:w.cell? ⟨0,0,none⟩ = some (.iface T u)) :
  Calls Tryz.prog 50 #[o.v] w (RetErr (fitsB 3 o) w):=by
 obtain ⟨kind,key,val,tall⟩:=o
 simp only [POp.v]
 have hlt:=World.block_lt_of_cell? w _ hE
 simp at hlt
 cases hg:goodLB ⟨kind,key,val,tall⟩
 all_goals
  have hg':=hg
  first | rw [Bool.eq_false_iff,Ne,goodLB_true,goodL] at hg' | rw [goodLB_true,goodL] at hg'
  simp at hg'
  have HG:=Lib.hid hg';clear hg'
  go_enter Tryz.func50,Tryz.ntmps50
  go_wp2_with (first | (go_at_call 69;refine (litanyGood_any ⟨kind,key,val,tall⟩ _).mono ?_;rintro e w1 ⟨rfl,hb1⟩;obtain ⟨hc1,hf1⟩:=bcell hb1;have hz1:w.heap.size < w1.heap.size:=(by have h:=hb1.size;simp at h;omega)) | (go_at_call 31;refine (woeAt_any _ _ _ _).mono ?_;rintro e w' ⟨rfl,rfl⟩) | (go_at_call 14;refine (boardRoot_any _ _ (by omega) (by omega)).mono ?_;rintro e w' ⟨rfl,rfl⟩) | (go_at_call 70;refine (litanyFrom_any _ _ _ _ ⟨kind,key,val,tall⟩ _).mono ?_;rintro e w2 ⟨⟨p2,rfl⟩,hb2⟩))
  all_goals
   go_ret2
   have hg':=HG.out
   have hB:Below w.heap.size w w1:=((Below.refl _ _).alloc (Nat.le_refl _) _).trans (hb1.mono (by simp))
   have hsz:w.heap.size≤w1.heap.size:=by omega
   try (have hB2:Below w.heap.size w w2:=((hB.alloc hsz _).alloc (by simp;omega) _).trans (hb2.mono (by simp;omega)))
   try clear hb2
   clear hc1 hf1 hb1
   first
    | (refine retErr_yes ?_ vB;clear hB;(try clear hB2);(try simp at *);rw [fitsB_true,FitsP];simp;omega)
    | (refine retErr_no ?_ vB;clear hB;(try simp at *);rw [Bool.eq_false_iff,Ne,fitsB_true,FitsP];simp;omega)
end Go.Proofs.YtaipogljokblkaaGreatDoor.Fn
namespace Go.Proofs.YtaipogljokblkaaGreatDoor.Fn
open Go Go.RowKit
theorem vaultStart_any (o:POp) (w:World) (T:TypeId) (u:Value) (hE:w.cell? ⟨0,0,none⟩ = some (.iface T u)) :
  Calls Tryz.prog 51 #[o.v] w (RetErr (fitsB 4 o) w):=by
 obtain ⟨kind,key,val,tall⟩:=o
 simp only [POp.v]
 have hlt:=World.block_lt_of_cell? w _ hE
 simp at hlt
 cases hg:goodLB ⟨kind,key,val,tall⟩
 all_goals
  have hg':=hg
  first | rw [Bool.eq_false_iff,Ne,goodLB_true,goodL] at hg' | rw [goodLB_true,goodL] at hg'
  simp at hg'
  have HG:=Lib.hid hg';clear hg'
  go_enter Tryz.func51,Tryz.ntmps51
  go_wp2_with (first | (go_at_call 69;refine (litanyGood_any ⟨kind,key,val,tall⟩ _).mono ?_;rintro e w1 ⟨rfl,hb1⟩;obtain ⟨hc1,hf1⟩:=bcell hb1;have hz1:w.heap.size < w1.heap.size:=(by have h:=hb1.size;simp at h;omega)) | (go_at_call 31;refine (woeAt_any _ _ _ _).mono ?_;rintro e w' ⟨rfl,rfl⟩))
  all_goals
   go_ret2
   have hg':=HG.out
   have hB:Below w.heap.size w w1:=((Below.refl _ _).alloc (Nat.le_refl _) _).trans (hb1.mono (by simp))
   have hsz:w.heap.size≤w1.heap.size:=by omega
   clear hc1 hf1 hb1
   first
    | (refine retErr_yes ?_ vB;clear hB;(try simp at *);rw [fitsB_true,FitsP];simp;omega)
    | (refine retErr_no ?_ vB;clear hB;(try simp at *);rw [Bool.eq_false_iff,Ne,fitsB_true,FitsP];simp;omega)
end Go.Proofs.YtaipogljokblkaaGreatDoor.Fn
namespace Go.Proofs.YtaipogljokblkaaGreatDoor.Fn
open Go Go.RowKit
theorem eql_err {ok:Bool} {er:Value} (h:if ok then er = .nilIface else ∃ T p,er = .iface T (.pointer (some p))) (w:World) :
  (binOp .eql 28 er .nilIface).run Tryz.prog w = .ok (.bool ok) w:=by
 cases ok
 ·obtain ⟨T,p,rfl⟩:=(by simpa using h:∃ T p,er = .iface T (.pointer (some p)))
  simp [go_sem]
 ·obtain rfl:er = .nilIface:=by simpa using h
  simp [go_sem]
theorem eqg_err {ok:Bool} {er:Value} (h:if ok then er = .nilIface else ∃ T p,er = .iface T (.pointer (some p))) (x:Operand) (w:World) :
  (eqGuard .eql 28 x (.const .nilIface) er .nilIface).run Tryz.prog w = .ok () w:=by
 cases ok
 ·obtain ⟨T,p,rfl⟩:=(by simpa using h:∃ T p,er = .iface T (.pointer (some p)))
  simp [go_sem]
 ·obtain rfl:er = .nilIface:=by simpa using h
  simp [go_sem]
theorem fits_any (st:Int) (o:POp) (w:World) (T:TypeId) (u:Value) (hE:w.cell? ⟨0,0,none⟩ = some (.iface T u)) :
  Calls Tryz.prog 25 #[.int .i64 st,o.v] w (RetB (fitsB st o) w):=by
 have hlt:=World.block_lt_of_cell? w _ hE
 simp at hlt
 obtain ⟨kind,key,val,tall⟩:=o
 simp only [POp.v]
 have hE1:∀ o:Obj,(w.alloc o).cell? ⟨0,0,none⟩ = some (.iface T u):=fun o=>(World.cell?_alloc_lt w o _ hlt).trans hE
 go_enter Tryz.func25,Tryz.ntmps25
 go_wp2_with (first | (go_at_call 48;refine (pileStart_any ⟨kind,key,val,tall⟩ _ T u (hE1 _)).mono ?_;rintro e w1 ⟨⟨v1,er,rfl,her⟩,hb1⟩;have hq:=eql_err her;have hqg:=eqg_err her) | (go_at_call 49;refine (cortegeStart_any ⟨kind,key,val,tall⟩ _ T u (hE1 _)).mono ?_;rintro e w1 ⟨⟨v1,er,rfl,her⟩,hb1⟩;have hq:=eql_err her;have hqg:=eqg_err her) | (go_at_call 50;refine (litanyStart_any ⟨kind,key,val,tall⟩ _ T u (hE1 _)).mono ?_;rintro e w1 ⟨⟨v1,er,rfl,her⟩,hb1⟩;have hq:=eql_err her;have hqg:=eqg_err her) | (go_at_call 51;refine (vaultStart_any ⟨kind,key,val,tall⟩ _ T u (hE1 _)).mono ?_;rintro e w1 ⟨⟨v1,er,rfl,her⟩,hb1⟩;have hq:=eql_err her;have hqg:=eqg_err her) | (go_at_call 52;refine (steepleStart_any ⟨kind,key,val,tall⟩ _ T u (hE1 _)).mono ?_;rintro e w1 ⟨⟨v1,er,rfl,her⟩,hb1⟩;have hq:=eql_err her;have hqg:=eqg_err her))
 all_goals try go_ret
 rotate_right
 ·have hf:fitsB st ⟨kind,key,val,tall⟩ = false:=by rw [Bool.eq_false_iff,Ne,fitsB_true,FitsP];simp at *;omega
  exact ⟨by rw [hf];rfl,vB⟩
 all_goals
  have hst:st = 1∨st = 2∨st = 3∨st = 4∨st = 5:=by simp at *;omega
  rcases hst with rfl | rfl | rfl | rfl | rfl
  all_goals first
   | (exfalso;clear hb1 her hq hqg hE hE1;simp at *;done)
   | exact ⟨rfl,((Below.refl _ _).alloc (Nat.le_refl _) _).trans (hb1.mono (by simp))⟩
end Go.Proofs.YtaipogljokblkaaGreatDoor.Fn
namespace Go.Proofs.YtaipogljokblkaaGreatDoor.Fn
open Go Go.RowKit
theorem next_any (s:ByteArray) (k:Nat) (p:Addr) (w:World) (hc:w.cell? p = some (.string (rest s k))) (hf:w.frozen? p = false) :
  Calls Tryz.prog 28 #[.pointer (some p)] w fun e w'=>e = .returned (.int .i64 (bat s k))∧w.setCell p (.string (rest s (k+1))) = w':=by
 by_cases h:k < s.size
 ·have h1:0 < (rest s k).size:=by rw [rest_size];omega
  have hh:=rest_head s k h h1
  have hst:=rest_step s k
  generalize hr:rest s k = r at *
  generalize hr':rest s (k+1) = r' at *
  have hne:r.toList.isEmpty = false:=isEmpty_of_size h1
  have H1:=Lib.hid hh;clear hh
  have H2:=Lib.hid hst;clear hst
  clear hr hr'
  go_enter Tryz.func28,Tryz.ntmps28
  go_wp2
  go_ret
  exact ⟨ret_int (by rw [← H1.out];exact w64_byte _),by rw [H2.out]⟩
 ·have hb:bat s k = 0:=by unfold bat;rw [dif_neg h]
  have he:rest s (k+1) = rest s k:=by rw [rest_empty s k (by omega),rest_empty s (k+1) (by omega)]
  rw [he,setCell_same hc,hb]
  have h0:=rest_empty s k (by omega)
  rw [h0] at hc
  clear he hb h0
  go_enter Tryz.func28,Tryz.ntmps28
  go_wp2
  go_ret
  exact ⟨rfl,rfl⟩
def formOp (st kind x y:Int):POp :=
 if kind = 1∨kind = 4 then ⟨kind,0,256*x+y,0⟩
 else if kind = 6 then ⟨kind,x,y,if st = 5 then y % 3+1 else 0⟩
 else if kind = 7∨kind = 8 then ⟨kind,x,0,0⟩
 else ⟨kind,0,0,0⟩
theorem form_any (st kind x y:Int) (w:World) (hx0:0≤x) (hx1:x≤255) (hy0:0≤y) (hy1:y≤255) :
  Calls Tryz.prog 30 #[.int .i64 st,.int .i64 kind,.int .i64 x,.int .i64 y] w (RetV (formOp st kind x y).v w):=by
 go_enter Tryz.func30,Tryz.ntmps30
 go_wp2
 all_goals
  go_returns
  refine ⟨?_,by go_grown⟩
  simp_all [formOp,POp.v]
def kindsOf (st:Int):List Int:=if st = 1 then [1,2,3] else if st = 2 then [4,5] else if 3≤st∧st≤5 then [6,7,8] else []
theorem kinds_any (st:Int) (w:World) (h1:1≤st) (h5:st≤5) :
  Calls Tryz.prog 29 #[.int .i64 st] w fun e w'=>e = .returned (.slice (some ⟨w.heap.size,0,none⟩) (kindsOf st).length (kindsOf st).length) ∧
   w.alloc (.cells ((kindsOf st).map (Value.int .i64)).toArray 3) = w':=by
 go_enter Tryz.func29,Tryz.ntmps29
 go_wp2
 all_goals
  go_returns
  simp_all [kindsOf]
structure PTask where
 thread:Int
 op:POp
 deriving DecidableEq
structure PScr where
 st:Int
 en:Int
 th:Int
 sl:Int
 no:Int
 ops:List PTask
 picks:List Int
 deriving DecidableEq
def PTask.cells (t:PTask):List Value:=[.int .i64 t.thread,.int .i64 t.op.kind,.int .i64 t.op.key,.int .i64 t.op.val,.int .i64 t.op.tall]
def tcells (l:List PTask):List Value:=l.flatMap PTask.cells
def icells (l:List Int):List Value:=l.map (Value.int .i64)
def Sl (w:World) (B sz:Nat) (A:Option Addr) (n:Nat) (xs:List Value):Prop :=
 xs.length = n*sz∧(0 < n→∃ b off,A = some ⟨b,off,none⟩∧b < B∧∀ j u,xs[j]? = some u→w.cell? ⟨b,off+j,none⟩ = some u)
section
variable {w w':World} {B B' sz n:Nat} {A:Option Addr} {xs:List Value}
theorem Sl.keep (h:Sl w B sz A n xs) (hk:∀ b o,b < B→w'.cell? ⟨b,o,none⟩ = w.cell? ⟨b,o,none⟩):Sl w' B sz A n xs :=
 ⟨h.1,fun hn=>by
  obtain ⟨b,off,e,hb,hc⟩:=h.2 hn
  exact ⟨b,off,e,hb,fun j u hu=>(hk _ _ hb).trans (hc j u hu)⟩⟩
theorem Sl.more (h:Sl w B sz A n xs) (hB:B≤B'):Sl w B' sz A n xs :=
 ⟨h.1,fun hn=>by
  obtain ⟨b,off,e,hb,hc⟩:=h.2 hn
  exact ⟨b,off,e,by omega,hc⟩⟩
theorem Sl.below (h:Sl w B sz A n xs) (hb:Below B w w'):Sl w' B sz A n xs:=h.keep fun b o hp=>hb.cell (p:=⟨b,o,none⟩) hp
theorem Sl.below' {C:Nat} (h:Sl w B sz A n xs) (hb:Below C w w') (hBC:B≤C):Sl w' B sz A n xs:=h.below (hb.mono hBC)
theorem Sl.of_own {base:Nat} {e:TypeId} {c:Nat} (h:w.ownsRow base e sz (.slice A n c) n xs):Sl w w.heap.size sz A n xs:=by
 refine ⟨h.1,fun hn=>?_⟩
 obtain ⟨g,cap,hv,_,hlt⟩:=h.form hn
 have hA:A = some ⟨g,0,none⟩:=by injection hv
 subst hA
 have hc:=h.cells (g:=g) rfl
 refine ⟨g,0,rfl,hlt,fun j u hu=>?_⟩
 have:=hc j u hu
 simp only [Addr.add] at this
 split at this
 ·rename_i h0;subst h0;simpa using this
 ·simpa using this
end
theorem icells_length (l:List Int):(icells l).length = l.length:=by simp [icells]
theorem icells_get (l:List Int) (i:Nat) (h:i < l.length):(icells l)[i]? = some (.int .i64 l[i]):=by simp [icells,h]
theorem tcells_get (l:List PTask):∀ (i:Nat) (_:i < l.length) (j:Nat),j < 5→(tcells l)[i*5+j]? = (l[i]).cells[j]?:=by
 induction l with
 | nil=>intro i h;simp at h
 | cons a l ih =>
  intro i h j hj
  have ha:(PTask.cells a).length = 5:=rfl
  cases i with
  | zero =>
   simp only [tcells,List.flatMap_cons,Nat.zero_mul,Nat.zero_add,List.getElem_cons_zero]
   rw [List.getElem?_append_left (by omega)]
  | succ i =>
   simp only [tcells,List.flatMap_cons,List.getElem_cons_succ]
   rw [List.getElem?_append_right (by omega),ha,show (i+1)*5+j - 5 = i*5+j from by omega]
   exact ih i (by simpa using h) j hj
theorem Sl.pick {w:World} {B:Nat} {A:Option Addr} {l:List Int} (h:Sl w B 1 A l.length (icells l)) {i:Nat} (hi:i < l.length) :
  ∃ b off,A = some ⟨b,off,none⟩∧b < B∧w.cell? ⟨b,off+i,none⟩ = some (.int .i64 l[i]):=by
 obtain ⟨b,off,e,hb,hc⟩:=h.2 (by omega)
 exact ⟨b,off,e,hb,hc i _ (icells_get l i hi)⟩
theorem Sl.task {w:World} {B:Nat} {A:Option Addr} {l:List PTask} (h:Sl w B 5 A l.length (tcells l)) {i:Nat} (hi:i < l.length) :
  ∃ b off,A = some ⟨b,off,none⟩∧b < B∧w.cell? ⟨b,off+i*5,none⟩ = some (.int .i64 l[i].thread)∧w.cell? ⟨b,off+i*5+1,none⟩ = some (.int .i64 l[i].op.kind) ∧
   w.cell? ⟨b,off+i*5+2,none⟩ = some (.int .i64 l[i].op.key)∧w.cell? ⟨b,off+i*5+3,none⟩ = some (.int .i64 l[i].op.val)∧w.cell? ⟨b,off+i*5+4,none⟩ = some (.int .i64 l[i].op.tall):=by
 obtain ⟨b,off,e,hb,hc⟩:=h.2 (by omega)
 have g:=tcells_get l i hi
 exact ⟨b,off,e,hb,hc _ _ (g 0 (by omega)),hc _ _ (g 1 (by omega)),hc _ _ (g 2 (by omega)),hc _ _ (g 3 (by omega)),hc _ _ (g 4 (by omega))⟩
def PScr.v (x:PScr) (A:Option Addr) (c:Nat) (A':Option Addr) (c':Nat):Value :=
 .agg #[.int .i64 x.st,.int .i64 x.en,.int .i64 x.th,.int .i64 x.sl,.int .i64 x.no,.slice A x.ops.length c,.slice A' x.picks.length c']
end Go.Proofs.YtaipogljokblkaaGreatDoor.Fn
