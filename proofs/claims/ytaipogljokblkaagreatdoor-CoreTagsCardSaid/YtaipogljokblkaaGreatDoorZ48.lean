/- Core: QG, QI, LO, QK, LP, LQ, LR, QO, QP. -/
import Derived.Test.YtaipogljokblkaaGreatDoorZ46
import Derived.Test.YtaipogljokblkaaGreatDoorZ40
import Derived.Test.YtaipogljokblkaaGreatDoorZ10
import Derived.Test.YtaipogljokblkaaGreatDoorZ47
set_option linter.all false
set_option maxRecDepth 100000
set_option maxHeartbeats 8000000
namespace Go.Proofs.YtaipogljokblkaaGreatDoor
open Go Go.RowKit
set_option linter.unusedSimpArgs false
set_option linter.unusedVariables false
set_option linter.unusedSectionVars false
theorem set_same {α:Type} {l:List α} {k:Nat} {x:α} (h:l[k]? = some x):l.set k x = l:=by
 apply List.ext_getElem?
 intro i
 by_cases e:i = k
 ·subst e
  rw [List.getElem?_set_self (lt_of_get h),h]
 ·rw [List.getElem?_set_ne (fun h=>e h.symm)]
section
variable {w w2:World} {gp gh:Nat} {P:MPa} {tv bv u:GSl} {ro:List GRo} {Fh:List Nat} {Ft:Nat→Nat→Prop} {lab:Nat→Nat} {k:Nat} {T:MT} {x:Yh}
theorem PaB.rowset (h:PaB w gp gh P tv bv ro Fh Ft lab) (h40:7≤w.heap.size) (hT:P.ths[k]? = some T) (hr:k < ro.length) {g off n c:Nat} (ht:tv = ⟨some ⟨g,off,none⟩,n,c⟩) (j:Nat) (v:Value) (r':GRo) (T':MT) (hr':r'.l = ro[k].l.set j v) (hj:j < 4) (hth:ThB w r' T' (Ft k)) :
  ∃ Fh Ft' lab',PaB (w.setCell ⟨g,off+k*4+j,none⟩ v) gp gh { P with ths:=P.ths.set k T' } tv bv (ro.set k r') Fh Ft' lab'∧∀ b,lab' b < 1000→lab b < 1000∨w.heap.size≤b:=by
 have hk:=lt_of_get hT
 have few:=h.few
 have hn:n = ro.length:=by have:=h.tvn;rw [ht] at this;rw [h.len];exact this
 subst ht
 have lg:lab g = 1:=h.l1 g rfl
 have gr:=Xq w g (off+k*4+j) v
 have far:∀ b c,lab b = c→c≠1→b < w.heap.size→(w.setCell ⟨g,off+k*4+j,none⟩ v).heap[b]? = w.heap[b]?:=fun b c e c1 hb=>gr.block b hb fun e'=>c1 (by cases e';rw [← e,lg])
 have tho:=h.tho
 rw [show (⟨some ⟨g,off,none⟩,n,c⟩:GSl).v = .slice (some ⟨g,off,none⟩) n c from rfl,hn] at tho
 have t2:=own_set rolen tho k hr j v r' hr' hj
 rw [List.length_set] at t2
 obtain ⟨Ft',lab',p1,p2⟩:=h.upd (w2:=w.setCell ⟨g,off+k*4+j,none⟩ v) (P':={ P with ths:=P.ths.set k T' }) (bv':=bv) (Fh':=Fh) (ro':=ro.set k r') (r':=r') (T':=T') (F':=Ft k) hk rfl rfl rfl
  (h.bk.same (far gp 0 h.l0 (by decide) h.bk.lt)) (by rw [List.length_set,show (⟨some ⟨g,off,none⟩,n,c⟩:GSl).v = .slice (some ⟨g,off,none⟩) n c from rfl,hn];exact t2) (h.beo.kept fun b hb=>far b 2 (h.l2 b hb) (by decide) (h.beo.lt hb)) (h.hp.same fun b hb=>far b 3 (h.l3 b hb) (by decide) (h.hp.lt b hb))
  (hth.keep fun b hb=>far b (4+k) (h.l4 k b hk hb) (by omega) (h.ltF hk b hb))
  (fun i b hi hl hb=>far b (4+i) (h.l4 i b hl hb) (by omega) (h.ltF hl b hb)) (by simp [World.setCell]) h40
  (fun b hb=>Or.inl (h.l2 b hb)) (fun b hb=>Or.inl (h.l3 b hb)) (fun b hb=>Or.inr (Or.inl (h.l4 k b hk hb)))
  (fun b h2 h3=>by have:=h.l2 b h2;have:=h.l3 b h3;omega) (fun b h2 h4=>by have:=h.l2 b h2;have:=h.l4 k b hk h4;omega) (fun b h3 h4=>by have:=h.l3 b h3;have:=h.l4 k b hk h4;omega)
 exact ⟨Fh,Ft',lab',p1,p2⟩
theorem PaB.beats (h:PaB w gp gh P tv bv ro Fh Ft lab) (h40:7≤w.heap.size) (hT:P.ths[k]? = some T) (hr:k < ro.length) {l:List Yh} (bk:Bk w2 gp 74 #[.int .i64 P.st,.pointer (some ⟨gh,0,none⟩),tv.v,u.v]) (ho:Own w2 42 10 u.v l.length (rows Yh.l l))
  (far:∀ b,b < w.heap.size→b≠gp→bv.v.ownBlock≠some b→w2.heap[b]? = w.heap[b]?) (hsz:w.heap.size≤w2.heap.size) (hf:∀ b,u.v.ownBlock = some b→bv.v.ownBlock = some b∨w.heap.size≤b) :
  ∃ Fh Ft' lab',PaB w2 gp gh { P with beats:=l } tv u ro Fh Ft' lab'∧∀ b,lab' b < 1000→lab b < 1000∨w.heap.size≤b:=by
 have hk:=lt_of_get hT
 have few:=h.few
 have far':∀ b c,lab b = c→c≠0→c≠2→b < w.heap.size→w2.heap[b]? = w.heap[b]?:=fun b c e c0 c2 hb=>far b hb (fun e'=>c0 (by rw [← e,e',h.l0])) fun e'=>c2 (by rw [← e,h.l2 b e'])
 have hth:=h.th k ro[k] T (List.getElem?_eq_getElem hr) hT
 have hu:∀ b,u.v.ownBlock = some b→lab b = 2∨w.heap.size≤b:=fun b hb=>(hf b hb).imp (h.l2 b) id
 obtain ⟨Ft',lab',p1,p2⟩:=h.upd (w2:=w2) (P':={ P with beats:=l }) (bv':=u) (Fh':=Fh) (ro':=ro) (r':=ro[k]) (T':=T) (F':=Ft k) hk (set_same hT).symm (by simp) rfl
  bk (h.tho.kept fun b hb=>far' b 1 (h.l1 b hb) (by decide) (by decide) (h.tho.lt hb)) ho (h.hp.same fun b hb=>far' b 3 (h.l3 b hb) (by decide) (by decide) (h.hp.lt b hb))
  (hth.keep fun b hb=>far' b (4+k) (h.l4 k b hk hb) (by omega) (by omega) (h.ltF hk b hb))
  (fun i b hi hl hb=>far' b (4+i) (h.l4 i b hl hb) (by omega) (by omega) (h.ltF hl b hb)) hsz h40
  hu (fun b hb=>Or.inl (h.l3 b hb)) (fun b hb=>Or.inr (Or.inl (h.l4 k b hk hb)))
  (fun b h2 h3=>by have e3:=h.l3 b h3;have:=h.hp.lt b h3;have:=hu b h2;omega) (fun b h2 h4=>by have e4:=h.l4 k b hk h4;have:=h.ltF hk b h4;have:=hu b h2;omega) (fun b h3 h4=>by have:=h.l3 b h3;have:=h.l4 k b hk h4;omega)
 exact ⟨Fh,Ft',lab',p1,p2⟩
theorem PaB.beatadd (h:PaB w gp gh P tv bv ro Fh Ft lab) (h40:7≤w.heap.size) (hT:P.ths[k]? = some T) (hr:k < ro.length) (ho:Own w2 42 10 u.v (P.beats++[x]).length (rows Yh.l (P.beats++[x]))) (hg:w.grownBy w2 bv.v.ownBlock) (hf:Fresh w bv.v u.v) :
  ∃ Fh Ft' lab',PaB (w2.setCell ⟨gp,3,none⟩ u.v) gp gh { P with beats:=P.beats++[x] } tv u ro Fh Ft' lab'∧∀ b,lab' b < 1000→lab b < 1000∨w.heap.size≤b:=by
 have lgp:=h.bk.lt
 have nb:bv.v.ownBlock≠some gp:=fun e=>by have:=h.l2 gp e;rw [h.l0] at this;omega
 have nu:u.v.ownBlock≠some gp:=fun e=>(hf gp e).elim nb fun h'=>by omega
 have gr:=Xq w2 gp 3 u.v
 refine h.beats h40 hT hr (Yb ((h.bk.grown hg (fun e=>nb e.symm)).set_ 3 u.v) (by kernel_rfl)) (ho.grown gr (Or.inr nu)) (fun b hb h1 h2=>(gr.block b (Nat.lt_of_lt_of_le hb hg.size) fun e=>h1 (by cases e;rfl)).trans (hg.block b hb fun e=>h2 e.symm)) (Nat.le_trans hg.size gr.size) hf
theorem PaB.beatset (h:PaB w gp gh P tv bv ro Fh Ft lab) (h40:7≤w.heap.size) (hT:P.ths[k]? = some T) (hr:k < ro.length) {g off n c:Nat} (hb:bv = ⟨some ⟨g,off,none⟩,n,c⟩) (i:Nat) (hi:i < P.beats.length) :
  ∃ Fh Ft' lab',PaB (w.setCell ⟨g,off+i*10+6,none⟩ (.bool true)) gp gh { P with beats:=P.beats.set i { P.beats[i] with real:=true } } tv bv ro Fh Ft' lab'∧∀ b,lab' b < 1000→lab b < 1000∨w.heap.size≤b:=by
 have hn:n = P.beats.length:=by
  obtain ⟨A,c',hv,_⟩:=Yq h.beo
  rw [hb] at hv
  unfold GSl.v at hv
  injection hv
 subst hb
 have gr:=Xq w g (off+i*10+6) (.bool true)
 have l2:lab g = 2:=h.l2 g rfl
 have ng:g≠gp:=fun e=>by have:=h.l0;rw [e] at l2;omega
 have bo:=h.beo
 rw [show (⟨some ⟨g,off,none⟩,n,c⟩:GSl).v = .slice (some ⟨g,off,none⟩) n c from rfl,hn] at bo
 have t2:=own_set belen bo i hi 6 (.bool true) { P.beats[i] with real:=true } rfl (by decide)
 refine h.beats h40 hT hr (h.bk.grown gr (fun e=>ng (by cases e;rfl))) (by rw [List.length_set] at t2 ⊢;rw [show (⟨some ⟨g,off,none⟩,n,c⟩:GSl).v = .slice (some ⟨g,off,none⟩) n c from rfl,hn];exact t2) (fun b hb h1 h2=>gr.block b hb fun e=>h2 (by cases e;rfl)) gr.size fun b hb=>Or.inl hb
end
theorem PaB.same2 {w w':World} {gp gh:Nat} {P:MPa} {tv bv:GSl} {ro:List GRo} {Fh:List Nat} {Ft:Nat→Nat→Prop} {lab:Nat→Nat} (h:PaB w gp gh P tv bv ro Fh Ft lab) (hs:∀ b,lab b < 1000→b < w.heap.size→w'.heap[b]? = w.heap[b]?):PaB w' gp gh P tv bv ro Fh Ft lab:=by
 have few:=h.few
 refine ⟨h.bk.same (hs gp (by rw [h.l0];decide) h.bk.lt),h.tho.kept fun b hb=>hs b (by rw [h.l1 b hb];decide) (h.tho.lt hb),h.beo.kept fun b hb=>hs b (by rw [h.l2 b hb];decide) (h.beo.lt hb),h.hp.same fun b hb=>hs b (by rw [h.l3 b hb];decide) (h.hp.lt b hb),h.len,fun i r T h1 h2=>?_,h.l0,h.l1,h.l2,h.l3,h.l4,h.low,h.few⟩
 have hi:=lt_of_get h2
 exact (h.th i r T h1 h2).keep fun b hb=>hs b (by rw [h.l4 i b hi hb];omega) (h.ltF hi b hb)
theorem pickIdle_any {w:World} {gp gh:Nat} {P:MPa} {tv bv:GSl} {ro:List GRo} {Fh:List Nat} {Ft:Nat→Nat→Prop} {lab:Nat→Nat} (h:PaB w gp gh P tv bv ro Fh Ft lab) (he:ErrOk w) {k:Nat} {T:MT} (hT:P.ths[k]? = some T) (hi:MPa.idleT T = true) :
  Calls Tryz.prog 17 #[.pointer (some ⟨gp,0,none⟩),.int .i64 (k:Int)] w fun en w'=>(∃ Ty q,en = .returned (.tuple #[.agg Yh.zero.l.toArray,.iface Ty (.pointer (some q))]))∧PaR w gp gh P lab w':=by
 have hk:k < P.ths.length:=lt_of_get hT
 have hhas:P.has (k:Int) = true:=by unfold MPa.has;simp;omega
 have hal:Below w.heap.size w (w.alloc (.cells Yh.zero.l.toArray 42)):=(Below.refl _ _).alloc (Nat.le_refl _) _
 have HP:=Lib.hid (h.cut.below hal)
 have HE:=Lib.hid (he.below hal)
 have HX:=Lib.hid (Bk.at_ (w:=w) (g:=w.heap.size) (cs:=Yh.zero.l.toArray) (t:=42) rfl)
 have HC:=Lib.hid hal
 have h40:=he.lt
 have hh:=has_any HP.out (k:Int)
 rw [hhas] at hh
 have hid:=idle_any HP.out hT
 rw [hi] at hid
 clear h he hal
 go_enter Tryz.func17,Tryz.ntmps17
 go_upto_region 6 with (first | (go_at_call 24;refine hh.mono ?_;rintro e w1 ⟨rfl,rfl⟩) | (go_at_call 26;refine hid.mono ?_;rintro e w1 ⟨rfl,hb1⟩))
 have hb2:=hb1.trans ((Below.refl w1.heap.size w1).drew.mono hb1.size)
 have HP1:=Lib.hid (HP.out.below hb2)
 have HE1:=Lib.hid (HE.out.below hb2)
 have HX1:=Lib.hid (HX.out.belowAll hb2)
 have HC1:=Lib.hid (HC.out.trans (hb2.mono HC.out.size))
 clear HP HE HX HC hb1 hb2 hh hid
 obtain ⟨Ty,q,hst⟩:=HE1.out.state
 refine X2 (fun X=>X.cell? ⟨4,0,none⟩ = some (.iface Ty (.pointer (some q)))) 3 (by kernel_rfl) hst (fun hS=>?_)
 generalize w1.drew = W1 at *
 ((try simp only [Act.put,List.setIfInBounds_toArray,List.set_cons_succ,List.set_cons_zero]);refine vT (fuel:=2) hS [0,1] ?_;simp only [Xu,Xj,List.toList_toArray];(repeat (first | go_big_quiet_skip | (go_big_quiet_want;first | (go_big_quiet_op;go_big_quiet_on) | (apply Exists.intro;refine ⟨fun w' hS'=>?_,?_⟩;(· (skip;go_simp;first | done | rfl | exact ⟨rfl,rfl⟩));go_big_quiet_on;simp only [Act.put,List.setIfInBounds_toArray,List.set_cons_succ,List.set_cons_zero]))));refine wpQuiet_nil ?_;(try dsimp only))
 (refine Xh 2 (by kernel_rfl) (fun K hK=>?_);simp only [Xj,List.toList_toArray])
 go_wp2_with (refine vM HX1.out ?_;intro W2 hstd;have HZ:=Lib.hid hstd.bk;have HG:=Lib.hid hstd.grown;clear hstd)
 have hst2:W2.cell? ⟨4,0,none⟩ = some (.iface Ty (.pointer (some q))):=(cell_blk (HG.out.block 4 (by have:=HC1.out.size;omega) (fun e=>by injection e with e;omega)) 0).trans hst
 refine hK.out _ _ (fun _=>hst2) ?_
 clear hK hS hst hst2
 ((refine Xh 3 (by kernel_rfl) (fun K hK=>?_);simp only [Xj,List.toList_toArray]);go_wp2_with fail;refine hK.out _ _ (fun h=>absurd h (by omega)) ?_;clear hK)
 refine X9 (by kernel_rfl) ?_ _
 have HD:Hid (PaR w gp gh P lab W2):=Lib.hid (by
  have hzw:w.heap.size < W1.heap.size:=HX1.out.lt
  refine ⟨tv,bv,ro,Fh,Ft,_,HP1.out.same2 fun x hx hl=>HG.out.block x hl fun e=>?_,⟨HG.out.os.trans HC1.out.os,HG.out.tape.trans HC1.out.tape,HG.out.output.trans HC1.out.output,Nat.le_trans HC1.out.size HG.out.size,fun x hx _=>(HG.out.block x (by omega) fun e=>by cases e;omega).trans (HC1.out.block x hx)⟩,fun b hb=>?_⟩
  ·cases e
   have hx:(if w.heap.size < w.heap.size then lab w.heap.size else 1000) < 1000:=hx
   rw [if_neg (by omega)] at hx
   omega
  ·have hb:(if b < w.heap.size then lab b else 1000) < 1000:=hb
   split at hb
   ·exact Or.inl hb
   ·omega)
 have z0:=HZ.out.cell 0;have z1:=HZ.out.cell 1;have z2:=HZ.out.cell 2;have z3:=HZ.out.cell 3;have z4:=HZ.out.cell 4;have z5:=HZ.out.cell 5;have z6:=HZ.out.cell 6;have z7:=HZ.out.cell 7;have z8:=HZ.out.cell 8;have z9:=HZ.out.cell 9
 simp at z0 z1 z2 z3 z4 z5 z6 z7 z8 z9
 clear HZ HG HP1 HE1 HX1 HC1
 go_wp2_with fail
 refine bodyPost_ret (v:=.tuple #[.agg Yh.zero.l.toArray,.iface Ty (.pointer (some q))]) (by simp [results,Tryz.results17,go_sem,Yh.l,GOp.l,GAns.l,Yh.zero,GOp.zero,GAns.zero,z0,z1,z2,z3,z4,z5,z6,z7,z8,z9]) rfl ?_
 exact ⟨⟨Ty,q,rfl⟩,HD.out⟩
structure GI (st:Int) (n nt t:Nat) (P:MPa):Prop where
 s:P.st = st
 z:P.ths.length = nt
 h:HI st n P.heap
 b:P.beats.length≤t
 v:∀ (i:Nat) (T:MT),P.ths[i]? = some T→VI st n t T.V∧(∀ o∈T.queue,OpF st o)∧-1≤T.last∧T.last < (P.beats.length:Int)
section
variable {st:Int} {n nt t k:Nat} {P:MPa} {T:MT}
theorem ready_ok (h:VI st n t T.V) (hq:∀ o∈T.queue,OpF st o) (hi:MPa.idleT T = false):VI st n (t+6) (MPa.ready T).V∧(MPa.ready T).V.doing≠0∧(∀ o∈(MPa.ready T).queue,OpF st o)∧(MPa.ready T).last = T.last:=by
 unfold MPa.ready
 unfold MPa.idleT at hi
 cases hb:T.V.busy with
 | true =>
  refine ⟨h.up (by omega),fun e=>?_,hq,rfl⟩
  have e:T.V.doing = 0:=e
  unfold MV.busy at hb
  rw [e] at hb
  cases hb
 | false =>
  have h0:T.V.doing = 0:=by unfold MV.busy at hb;simpa using hb
  rw [hb] at hi
  cases hc:T.queue with
  | nil=>rw [hc] at hi;cases hi
  | cons o r =>
   have ho:=hq o (by rw [hc];exact List.mem_cons_self ..)
   obtain ⟨g1,g2⟩:=give_ok h h0 ho
   exact ⟨g1,g2,fun x hx=>hq x (by rw [hc];exact List.mem_cons_of_mem _ hx),rfl⟩
theorem pick_ok (h:GI st n nt t P) (hT:P.ths[k]? = some T) (hi:MPa.idleT T = false) (ht:t≤60000) (hn:n≤1024) :
  (T.V.busy = false→∀ o r,T.queue = o :: r→OpFit T.V.st o∧ROk T.V.M∧T.V.M.R.step = 0∧GoOk (MV.begin_ { T.V with op:=o,job:=some (GJob.new T.V.st o),ans:=.zero } 1 center))∧StOk (MPa.ready T).V P.heap ∧
  GI st n nt (t+12) (P.pickT k T).1∧Tags P.heap (P.pickT k T).1.heap:=by
 obtain ⟨v1,v2,v3,v4⟩:=h.v k T hT
 obtain ⟨r1,r2,r3,r4⟩:=ready_ok v1 v2 hi
 obtain ⟨s1,s2,s3⟩:=step_ok r1 r2 h.h
 have hbl:(P.pickT k T).1.beats.length = P.beats.length+1:=by
  unfold MPa.pickT
  simp only [List.length_append,List.length_cons,List.length_nil]
  cases ((MPa.ready T).V.step P.heap).2.2.real==1 && decide (0≤T.last) <;> simp
 refine ⟨fun hb o r hq=>?_,stOk_of r1 r2 h.h (by omega) hn,⟨h.s,?_,s2,by rw [hbl];have:=h.b;omega,fun i T' hi'=>?_⟩,s3⟩
 ·have h0:T.V.doing = 0:=by unfold MV.busy at hb;simpa using hb
  have ho:=v2 o (by rw [hq];exact List.mem_cons_self ..)
  obtain ⟨g1,g2,g3⟩:=giveOk_of v1 h0 ho (by omega)
  exact ⟨by rw [v1.vst];exact ho,g1,g2,g3⟩
 ·show (P.ths.set _ _).length = nt
  rw [List.length_set];exact h.z
 ·rw [hbl]
  have hi':(P.ths.set k { MPa.ready T with V:=((MPa.ready T).V.step P.heap).1,last:=P.beats.length })[i]? = some T':=hi'
  have hk:k < P.ths.length:=by
   rcases Nat.lt_or_ge k P.ths.length with h | h
   ·exact h
   ·rw [List.getElem?_eq_none h] at hT;cases hT
  by_cases e:k = i
  ·subst e
   rw [List.getElem?_set_self hk] at hi'
   injection hi' with hi'
   subst hi'
   exact ⟨s1.up (by omega),r3,by show (-1:Int)≤(P.beats.length:Int);omega,by show (P.beats.length:Int) < _;omega⟩
  ·rw [List.getElem?_set_ne e] at hi'
   obtain ⟨u1,u2,u3,u4⟩:=h.v i T' hi'
   exact ⟨u1.up (by omega),u2,u3,by omega⟩
end
def gop (o:Fn.POp):GOp:=⟨o.kind,o.key,o.val,o.tall⟩
def MPa.put (P:MPa) (t:Fn.PTask):MPa :=
 match P.ths[t.thread.toNat]? with
 | some T=>P.queue t.thread.toNat T (gop t.op)
 | none=>P
def MPa.fill (P:MPa) (l:List Fn.PTask):MPa:=l.foldl MPa.put P
structure FillI (st:Int) (n k:Nat) (P:MPa):Prop where
 s:P.st = st
 z:P.ths.length = n
 b:P.beats = []
 t:∀ (i:Nat) (T:MT),P.ths[i]? = some T→0≤T.given∧T.given≤k∧T.queue.length≤k
theorem FillI.put {st:Int} {n k:Nat} {P:MPa} (h:FillI st n k P) (t:Fn.PTask):FillI st n (k+1) (P.put t):=by
 unfold MPa.put
 cases hT:P.ths[t.thread.toNat]? with
 | none=>exact ⟨h.s,h.z,h.b,fun i T hi=>by have:=h.t i T hi;omega⟩
 | some T =>
  refine ⟨h.s,?_,h.b,fun i T' hi=>?_⟩
  ·show (P.ths.set _ _).length = n
   rw [List.length_set];exact h.z
  ·have hi:(P.ths.set t.thread.toNat { T with queue:=T.queue++[gop t.op],given:=T.given+1 })[i]? = some T':=hi
   have hk:=lt_of_get hT
   by_cases e:t.thread.toNat = i
   ·subst e
    rw [List.getElem?_set_self hk] at hi
    injection hi with hi
    subst hi
    have:=h.t _ _ hT
    simp
    omega
   ·rw [List.getElem?_set_ne e] at hi
    have:=h.t i T' hi
    omega
theorem fill_take (P:MPa) (l:List Fn.PTask) (k:Nat) (h:k < l.length):P.fill (l.take (k+1)) = (P.fill (l.take k)).put l[k]:=by
 unfold MPa.fill
 rw [List.take_add_one,List.getElem?_eq_getElem h,Option.toList_some,List.foldl_append]
 rfl
theorem FillI.fill {st:Int} {n:Nat} {P:MPa} (h:FillI st n 0 P) (l:List Fn.PTask):∀ k,k≤l.length→FillI st n k (P.fill (l.take k)):=by
 intro k
 induction k with
 | zero=>intro _;exact h
 | succ k ih =>
  intro hk
  rw [fill_take P l k hk]
  exact (ih (by omega)).put _
theorem fresh_fill (st eng most:Int) (n ns:Nat):FillI st n 0 (MPa.fresh st eng most n ns n) :=
 ⟨rfl,MPa.fresh_len _ _ _ _ _ _,rfl,fun i T hi=>by
  unfold MPa.fresh at hi
  simp only at hi
  rw [List.getElem?_map] at hi
  cases hr:(List.range n)[i]? with
  | none=>rw [hr] at hi;cases hi
  | some j=>rw [hr] at hi;injection hi with hi;subst hi;exact ⟨Int.le_refl _,Int.le_refl _,Nat.le_refl _⟩⟩
structure PBe (w wr:World) (st eng most:Int) (n ns gp gh:Nat) (ops:List Fn.PTask) (x:Array Value) (k:Nat):Prop where
 p:∃ tv bv ro Fh Ft lab,PaB wr gp gh ((MPa.fresh st eng most n ns n).fill (ops.take k)) tv bv ro Fh Ft lab∧∀ b,lab b < 1000→w.heap.size < b
 c:Bk wr w.heap.size 47 x
 b:Below w.heap.size w wr
 e:ErrOk wr
theorem PBe.below {w wr wr':World} {st eng most:Int} {n ns gp gh:Nat} {ops:List Fn.PTask} {x:Array Value} {k:Nat} (h:PBe w wr st eng most n ns gp gh ops x k) (hb:Below wr.heap.size wr wr'):PBe w wr' st eng most n ns gp gh ops x k:=by
 obtain ⟨tv,bv,ro,Fh,Ft,lab,hp,hl⟩:=h.p
 exact ⟨⟨tv,bv,ro,Fh,Ft,lab,hp.below hb,hl⟩,h.c.belowAll hb,h.b.trans (hb.mono h.b.size),h.e.below hb⟩
theorem PBe.next {w wr wr':World} {st eng most:Int} {n ns gp gh:Nat} {ops:List Fn.PTask} {x:Array Value} {k:Nat} {lab:Nat→Nat} (h:PBe w wr st eng most n ns gp gh ops x k) (h40:7≤w.heap.size) (hl:∀ b,lab b < 1000→w.heap.size < b) (hr:PaR wr gp gh ((MPa.fresh st eng most n ns n).fill (ops.take (k+1))) lab wr'):PBe w wr' st eng most n ns gp gh ops x (k+1):=by
 obtain ⟨tv,bv,ro,Fh,Ft,lab',hp,hc,hl'⟩:=hr
 have hz:=h.b.size
 have hcl:=h.c.lt
 have far:∀ b,b≤w.heap.size→b < wr.heap.size→wr'.heap[b]? = wr.heap[b]?:=fun b hb h1=>hc.far b h1 fun h2=>by have:=hl b h2;omega
 exact ⟨⟨tv,bv,ro,Fh,Ft,lab',hp,fun b hb=>(hl' b hb).elim (hl b) fun h'=>by omega⟩,h.c.same (far _ (Nat.le_refl _) hcl),
  h.b.trans ⟨hc.os,hc.tape,hc.output,hc.size,fun b hb=>far b (by omega) (by omega)⟩,h.e.low (fun b hb=>far b (by omega) (by omega)) (by have:=hc.size;omega)⟩
theorem begun_any (st eng most:Int) (n ns:Nat) (w:World) (he:ErrOk w) (a0:1≤st) (b0:st≤5) (a1:1≤eng) (b1:eng≤5) (a2:1≤n) (b2:n≤6) (b3:ns≤1024) (a4:1≤most) (b4:most≤64) (hs:st = 2∨st = 4→1≤ns)
  (ops:List Fn.PTask) (A A':Option Go.Addr) (c c' pn:Nat) (hl:Fn.Sl w w.heap.size 5 A ops.length (Fn.tcells ops)) (h64:ops.length≤64) (hok:∀ t∈ops,0≤t.thread∧t.thread < (n:Int)∧OpFit st (gop t.op)) :
  Calls Tryz.prog 13 #[.agg #[.int .i64 st,.int .i64 eng,.int .i64 (n:Int),.int .i64 (ns:Int),.int .i64 most,.slice A ops.length c,.slice A' pn c']] w fun en w'=>∃ gp gh tv bv ro Fh Ft lab,en = .returned (.pointer (some ⟨gp,0,none⟩))∧PaB w' gp gh ((MPa.fresh st eng most n ns n).fill ops) tv bv ro Fh Ft lab∧Below w.heap.size w w'∧∀ b,lab b < 1000→w.heap.size≤b:=by
 have hal:=(Below.refl w.heap.size w).alloc (Nat.le_refl _) (.cells #[.int .i64 st,.int .i64 eng,.int .i64 (n:Int),.int .i64 (ns:Int),.int .i64 most,.slice A ops.length c,.slice A' pn c'] 47)
 have HX:=Lib.hid (Bk.at_ (w:=w) (cs:=#[.int .i64 st,.int .i64 eng,.int .i64 (n:Int),.int .i64 (ns:Int),.int .i64 most,.slice A ops.length c,.slice A' pn c']) (t:=47) rfl)
 have HC:=Lib.hid hal
 have HE:=Lib.hid (he.below hal)
 have HS:=Lib.hid hl
 have HO:=Lib.hid hok
 have HI:=Lib.hid ((fresh_fill st eng most n ns).fill ops)
 have h40:=he.lt
 have hol:(ops.length:Int)≤64:=by omega
 clear he hal hl hok
 go_enter Tryz.func13,Tryz.ntmps13
 have y0:=HX.out.cell 0;have y1:=HX.out.cell 1;have y2:=HX.out.cell 2;have y3:=HX.out.cell 3;have y4:=HX.out.cell 4
 simp at y0 y1 y2 y3 y4
 go_wp2_with fail
 refine (parNew_any st eng most n ns _ HE.out a0 b0 a1 b1 a2 b2 b3 a4 b4 hs).mono ?_
 rintro e w1 ⟨gp,gh,tv,bv,ro,Fh,Ft,lab,rfl,hp,hb,hlb⟩
 have HB:Hid (PBe w w1 st eng most n ns gp gh ops #[.int .i64 st,.int .i64 eng,.int .i64 (n:Int),.int .i64 (ns:Int),.int .i64 most,.slice A ops.length c,.slice A' pn c'] 0):=Lib.hid ⟨⟨tv,bv,ro,Fh,Ft,lab,hp,fun b h=>by have:=hlb b h;simp at this;omega⟩,HX.out.belowAll hb,HC.out.trans (hb.mono HC.out.size),HE.out.below hb⟩
 clear hp hb hlb HX HC HE y0 y1 y2 y3 y4
 go_wp2_with fail
 go_loopw [5] (fun i wr=>∃ (k:Nat),k≤ops.length∧i = .int .i64 k∧PBe w wr st eng most n ns gp gh ops #[.int .i64 st,.int .i64 eng,.int .i64 (n:Int),.int .i64 (ns:Int),.int .i64 most,.slice A ops.length c,.slice A' pn c'] k) (fun i _=>ops.length - (intOf i).toNat)
 case atStart=>exact ⟨0,Nat.zero_le _,rfl,HB.out⟩
 case round =>
  obtain ⟨k,hk,rfl,L⟩:=hrel
  have HL:=Lib.hid L
  clear L
  have y5:=HL.out.c.cell 5
  simp at y5
  by_cases hlt:k < ops.length
  ·have hlt':(k:Int) < (ops.length:Int):=by omega
   obtain ⟨b,off,rfl,hbl,_⟩:=HS.out.task hlt
   go_upto_region 7 with (fail)
   have HL2:=Lib.hid (HL.out.below (Below.refl wr.heap.size wr).drew)
   clear HL y5
   have y5:=HL2.out.c.cell 5
   simp at y5
   obtain ⟨b',off',e',_,e0,e1,e2,e3,e4⟩:=(HS.out.below HL2.out.b).task hlt
   cases e'
   obtain ⟨o1,o2,o3⟩:=HO.out ops[k] (List.getElem_mem hlt)
   obtain ⟨i,hi0⟩:=Int.eq_ofNat_of_zero_le o1
   rw [hi0] at e0 o2
   have hI:=HI.out k hk
   obtain ⟨tv,bv,ro,Fh,Ft,lab,hp,hlb⟩:=HL2.out.p
   obtain ⟨T,hT⟩:∃ T,((MPa.fresh st eng most n ns n).fill (ops.take k)).ths[i]? = some T:=⟨_,List.getElem?_eq_getElem (by rw [hI.z];omega)⟩
   obtain ⟨t1,t2,t3⟩:=hI.t i T hT
   have hq:Calls Tryz.prog 9 #[.pointer (some ⟨gp,0,none⟩),.int .i64 (i:Int),.agg #[.int .i64 ops[k].op.kind,.int .i64 ops[k].op.key,.int .i64 ops[k].op.val,.int .i64 ops[k].op.tall]] _ _:=queue_any hp HL2.out.e hT (gop ops[k].op) (by rw [hI.s];exact o3) t1 (by omega) (by omega)
   have hput:((MPa.fresh st eng most n ns n).fill (ops.take k)).queue i T (gop ops[k].op) = (MPa.fresh st eng most n ns n).fill (ops.take (k+1)):=by
    rw [fill_take _ _ _ hlt]
    unfold MPa.put
    rw [hi0,Int.toNat_natCast,hT]
   rw [hput] at hq
   have HQ:=Lib.hid hlb
   clear hput hT t1 t2 t3 hp hlb hI o1 o2 o3
   refine X2 (fun X=>X.cell? ⟨w.heap.size,5,none⟩ = some (.slice (some ⟨b,off,none⟩) ops.length c)∧X.cell? ⟨b,off+k*5,none⟩ = some (.int .i64 i)∧X.cell? ⟨b,off+k*5+1,none⟩ = some (.int .i64 ops[k].op.kind)∧X.cell? ⟨b,off+k*5+2,none⟩ = some (.int .i64 ops[k].op.key)∧X.cell? ⟨b,off+k*5+3,none⟩ = some (.int .i64 ops[k].op.val)∧X.cell? ⟨b,off+k*5+4,none⟩ = some (.int .i64 ops[k].op.tall)) 15 (by kernel_rfl) ⟨y5,e0,e1,e2,e3,e4⟩ (fun hS=>?_)
   clear y5 e0 e1 e2 e3 e4
   generalize wr.drew = w0 at *
   ((try simp only [Act.put,List.setIfInBounds_toArray,List.set_cons_succ,List.set_cons_zero]);refine vT (fuel:=2) hS [0,1,2,3,4,5,6,7,8,9,10,11,12] ?_;simp only [Xu,Xj,List.toList_toArray];(repeat (first | go_big_quiet_skip | (go_big_quiet_want;first | (go_big_quiet_op;go_big_quiet_on) | (apply Exists.intro;refine ⟨fun w' hS'=>?_,?_⟩;(· ((obtain ⟨q1,q2,q3,q4,q5,q6⟩:=hS');go_simp;first | done | rfl | exact ⟨rfl,rfl⟩));go_big_quiet_on;simp only [Act.put,List.setIfInBounds_toArray,List.set_cons_succ,List.set_cons_zero]))));refine wpQuiet_nil ?_;(try dsimp only))
   (refine Xh 13 (by kernel_rfl) (fun K hK=>?_);simp only [Xj,List.toList_toArray])
   go_wp2_with fail
   refine hq.mono ?_
   rintro e w2 ⟨rfl,hr⟩
   have HL3:=Lib.hid (HL2.out.next h40 HQ.out hr)
   clear hr hq HQ HL2
   have y5:=HL3.out.c.cell 5
   simp at y5
   obtain ⟨b',off',e',_,e0,e1,e2,e3,e4⟩:=(HS.out.below HL3.out.b).task hlt
   cases e'
   rw [hi0] at e0
   go_wp2_with fail
   refine hK.out _ _ (fun _=>⟨y5,e0,e1,e2,e3,e4⟩) ?_
   clear hK hS
   have hS:=And.intro y5 (And.intro e0 (And.intro e1 (And.intro e2 (And.intro e3 e4))))
   clear y5 e0 e1 e2 e3 e4
   ((try simp only [Act.put,List.setIfInBounds_toArray,List.set_cons_succ,List.set_cons_zero]);refine vT (fuel:=0) hS [14] ?_;simp only [Xu,Xj,List.toList_toArray];(repeat (first | go_big_quiet_skip | (go_big_quiet_want;first | (go_big_quiet_op;go_big_quiet_on) | (apply Exists.intro;refine ⟨fun w' hS'=>?_,?_⟩;(· (skip;go_simp;first | done | rfl | exact ⟨rfl,rfl⟩));go_big_quiet_on;simp only [Act.put,List.setIfInBounds_toArray,List.set_cons_succ,List.set_cons_zero]))));refine wpQuiet_nil ?_;(try dsimp only))
   refine X9 (by kernel_rfl) ?_ _
   go_wp2_with fail
   refine ⟨⟨k+1,by omega,by go_num,HL3.out⟩,by simp [intOf];omega⟩
  ·have hke:k = ops.length:=by omega
   subst hke
   have hlt':¬ (ops.length:Int) < (ops.length:Int):=by omega
   go_wp2_with fail
   go_ret
   obtain ⟨tv,bv,ro,Fh,Ft,lab,hp,hlb⟩:=HL.out.p
   rw [List.take_length] at hp
   exact ⟨gp,rfl,gh,tv,bv,ro,Fh,Ft,lab,hp,HL.out.b,fun b hb=>Nat.le_of_lt (hlb b hb)⟩
structure HB (n:Nat) (p:Pl):Prop where
 nb:p.nb = 85
 ns:p.ns = n
 fex:∀ x∈p.free,1≤x∧x≤(n:Int)
 fnd:p.free.Nodup
 fus:∀ x∈p.free,(p.slot x).used = false
 bd:∀ r,WOk n (p.board r)∧(p.board r).tg = 0
 cell:∀ s f,WOk n ((p.slot s).cell f)
section
variable {n:Nat} {p:Pl} {st:Int}
theorem HB.fresh (n:Nat):HB n (Pl.fresh 85 n):=by
 refine ⟨rfl,rfl,fun x hx=>?_,?_,fun x hx=>rfl,fun r=>⟨Yi,rfl⟩,fun s f=>Yi⟩
 ·unfold Pl.fresh Pl.down at hx
  simp at hx
  obtain ⟨i,hi,rfl⟩:=hx
  omega
 ·show (Pl.down n n).Nodup
  unfold Pl.down
  unfold List.Nodup
  rw [List.pairwise_map]
  exact List.Pairwise.imp (fun h=>by omega) List.nodup_range
theorem HB.stored (h:HB n p) (fd:Int) {y:Xf} (hy:WOk n y) (ht:y.tg = 0):HB n (p.stored fd y) :=
 ⟨h.nb,h.ns,h.fex,h.fnd,h.fus,fun r=>by
  show WOk n (upd p.board fd y r)∧(upd p.board fd y r).tg = 0
  by_cases e:r = fd
  ·subst e;rw [upd_same];exact ⟨hy,ht⟩
  ·rw [upd_far _ _ e];exact h.bd r,h.cell⟩
theorem HB.alloc (h:HB n p) {l:List Int} {m:Int} (hf:p.free = l++[m]):HB n (p.act Pl.alloc0).1∧WOn n (p.act Pl.alloc0).2.word∧(p.act Pl.alloc0).1.board = p.board:=by
 have e1:p.free.getLast? = some m:=by rw [hf];simp
 have e2:p.free.dropLast = l:=by rw [hf];simp
 have e:p.act Pl.alloc0 = ({ p with steps:=wr (p.steps+1),free:=l,slot:=upd p.slot m ⟨wr ((p.slot m).gen+1),true,upd (fun _=>.zero) 9 (wnum 0)⟩,made:=wr (p.made+1) },⟨⟨m,wr ((p.slot m).gen+1),0,0,false⟩,true⟩):=by
  show Pl.alloc { p with steps:=wr (p.steps+1) } _ = _
  unfold Pl.alloc
  simp only [e1,e2]
  rfl
 rw [e]
 have hm:=h.fex m (by rw [hf];simp)
 have hnd:=h.fnd
 rw [hf] at hnd
 refine ⟨⟨h.nb,h.ns,fun x hx=>h.fex x (by rw [hf];exact List.mem_append_left _ hx),(List.nodup_append.1 hnd).1,fun x hx=>?_,h.bd,fun s f=>?_⟩,⟨hm.1,hm.2⟩,rfl⟩
 ·have hne:x≠m:=fun e=>by
   subst e
   exact (List.nodup_append.1 hnd).2.2 x hx x (by simp) rfl
  show (upd p.slot m _ x).used = false
  rw [upd_far _ _ hne]
  exact h.fus x (by rw [hf];exact List.mem_append_left _ hx)
 ·show WOk n ((upd p.slot m _ s).cell f)
  by_cases e:s = m
  ·subst e
   rw [upd_same]
   show WOk n (upd (fun _=>Xf.zero) 9 (wnum 0) f)
   by_cases e:f = 9
   ·subst e;rw [upd_same];exact wok_num
   ·rw [upd_far _ _ e];exact Yi
  ·rw [upd_far _ _ e];exact h.cell s f
theorem HB.hi (h:HB n p) (hs:st = 2→WOn n (p.board 0)):HI st n p :=
 ⟨h.nb,h.ns,h.fex,h.fnd,h.fus,fun r _ _=>⟨(h.bd r).1,fun e _ e0=>by
  have e0:r = 0:=e0
  subst e0
  exact hs e⟩,fun s f _ _ _ _=>h.cell s f⟩
theorem laid_hb (st:Int) (n:Nat) (hs:st = 2∨st = 4→1≤n):HB n (Pl.laid st n)∧(st = 2→WOn n ((Pl.laid st n).board 0)):=by
 have h0:HB n (Pl.begun n):=(HB.fresh n).stored 24 (wok_num) rfl
 unfold Pl.laid
 by_cases s2:st = 2
 ·subst s2
  obtain ⟨l,m,hf⟩:=begun_free n (hs (Or.inl rfl))
  obtain ⟨h1,h2,_⟩:=h0.alloc hf
  have h3:WOn n (wref ((Pl.begun n).act Pl.alloc0).2.word):=h2
  have h4:WOk n (wref ((Pl.begun n).act Pl.alloc0).2.word):=won_wok h3
  show HB n (Pl.begun n).layCort∧(_→WOn n ((Pl.begun n).layCort.board 0))
  refine ⟨(h1.stored 0 h4 rfl).stored 1 h4 rfl,fun _=>?_⟩
  have e:∀ (p1:Pl) (y:Xf),((p1.stored 0 y).stored 1 y).board 0 = y:=fun p1 y=>rfl
  show WOn n ((Pl.begun n).layCort.board 0)
  unfold Pl.layCort
  rw [e]
  exact h3
 ·rw [show (st==2) = false from by simp [s2]]
  by_cases s4:st = 4
  ·subst s4
   obtain ⟨l,m,hf⟩:=begun_free n (hs (Or.inr rfl))
   obtain ⟨h1,h2,_⟩:=h0.alloc hf
   have h3:WOk n (wref ((Pl.begun n).act Pl.alloc0).2.word):=won_wok h2
   exact ⟨(h1.stored 8 h3 rfl).stored 16 (wok_num) rfl,fun e=>absurd e (by decide)⟩
  ·rw [show (st==4) = false from by simp [s4]]
   exact ⟨h0,fun e=>absurd e s2⟩
end
section
variable {st eng me th most:Int} {n nt t:Nat} {P:MPa}
theorem fresh_vi (a1:1≤eng) (b1:eng≤5) (m0:0≤me) (m1:me < 6) (t0:1≤th) (t1:th≤6):VI st n 0 (MV.fresh st eng me th most) :=
 ⟨rfl,⟨m0,m1,t0,t1,by show eng = 1∨eng = 2∨eng = 3∨eng = 4∨eng = 5;omega,Nat.le_refl _,List.Sublist.refl _,Nat.zero_le _,fun d hd=>by cases hd⟩,Or.inl ⟨rfl,rfl⟩⟩
theorem fresh_gi (hs:st = 2∨st = 4→1≤n) (a1:1≤eng) (b1:eng≤5) (t0:1≤nt) (t1:nt≤6):GI st n nt 0 (MPa.fresh st eng most nt n nt):=by
 obtain ⟨l1,l2⟩:=laid_hb st n hs
 refine ⟨rfl,MPa.fresh_len _ _ _ _ _ _,l1.hi l2,Nat.le_refl _,fun i T hi=>?_⟩
 unfold MPa.fresh at hi
 simp only at hi
 rw [List.getElem?_map] at hi
 cases hr:(List.range nt)[i]? with
 | none=>rw [hr] at hi;cases hi
 | some j =>
  rw [hr] at hi
  injection hi with hi
  subst hi
  have hj:j < nt:=by
   have:=List.mem_of_getElem? hr
   simpa using this
  exact ⟨fresh_vi a1 b1 (by omega) (by omega) (by omega) (by omega),(fun (o:GOp) (ho:o∈([]:List GOp))=>by cases ho),by show (-1:Int)≤-1;omega,by show (-1:Int) < 0;omega⟩
theorem GI.put (h:GI st n nt t P) (x:Fn.PTask) (hx:OpF st (gop x.op)):GI st n nt t (P.put x):=by
 unfold MPa.put
 cases hT:P.ths[x.thread.toNat]? with
 | none=>exact h
 | some T =>
  have hk:x.thread.toNat < P.ths.length:=by
   rcases Nat.lt_or_ge x.thread.toNat P.ths.length with h | h
   ·exact h
   ·rw [List.getElem?_eq_none h] at hT;cases hT
  refine ⟨h.s,?_,h.h,h.b,fun i T' hi=>?_⟩
  ·show (P.ths.set _ _).length = nt
   rw [List.length_set];exact h.z
  ·have hi:(P.ths.set x.thread.toNat { T with queue:=T.queue++[gop x.op],given:=T.given+1 })[i]? = some T':=hi
   by_cases e:x.thread.toNat = i
   ·subst e
    rw [List.getElem?_set_self hk] at hi
    injection hi with hi
    subst hi
    obtain ⟨v1,v2,v3,v4⟩:=h.v _ T hT
    refine ⟨v1,fun o ho=>?_,v3,v4⟩
    have ho:o∈T.queue++[gop x.op]:=ho
    rcases List.mem_append.1 ho with ho | ho
    ·exact v2 o ho
    ·simp at ho;subst ho;exact hx
   ·rw [List.getElem?_set_ne e] at hi
    exact h.v i T' hi
theorem GI.fill:∀ (l:List Fn.PTask) (P:MPa),GI st n nt t P→(∀ x∈l,OpF st (gop x.op))→GI st n nt t (P.fill l)
 | [],_,h,_=>h
 | x :: l,P,h,hl=>GI.fill l (P.put x) (h.put x (hl x (List.mem_cons_self ..))) fun y hy=>hl y (List.mem_cons_of_mem _ hy)
end
namespace Fn
theorem kindAt_mem {st:Int} (h1:1≤st) (h5:st≤5) (b:Nat):kindAt st b∈kindsOf st:=by
 have hl:0 < (kindsOf st).length:=by
  obtain rfl | rfl | rfl | rfl | rfl:st = 1∨st = 2∨st = 3∨st = 4∨st = 5:=by omega
  all_goals decide
 unfold kindAt
 rw [List.getElem?_eq_getElem (Nat.mod_lt b hl)]
 exact List.getElem_mem _
theorem form_fits {st k x y:Int} (h1:1≤st) (h5:st≤5) (hk:k∈kindsOf st) (x0:0≤x) (x1:x≤255) (y0:0≤y) (y1:y≤255):fitsB st (formOp st k x y) = true:=by
 rw [fitsB_true]
 have hst:st = 1∨st = 2∨st = 3∨st = 4∨st = 5:=by omega
 rcases hst with rfl | rfl | rfl | rfl | rfl <;> simp [kindsOf] at hk
 all_goals
  rcases hk with rfl | hk
  ·simp [formOp,FitsP];omega
  ·first
    | (rcases hk with rfl | rfl <;> simp [formOp,FitsP] <;> omega)
    | (subst hk;simp [formOp,FitsP])
theorem dec_st (s:ByteArray):1≤dSt s∧dSt s≤5:=by unfold dSt;omega
theorem dec_ops {s:ByteArray}:∀ t∈(dec s).ops,0≤t.thread∧t.thread < dTh s∧OpFit (dSt s) (gop t.op):=by
 intro t ht
 have ht:t∈decOps s (dN s):=ht
 unfold decOps at ht
 obtain ⟨i,_,rfl⟩:=List.mem_map.1 ht
 have h6:1≤dTh s:=by unfold dTh;omega
 refine ⟨Int.emod_nonneg _ (by omega),Int.emod_lt_of_pos _ (by omega),?_⟩
 have hs:=dec_st s
 have:=form_fits hs.1 hs.2 (kindAt_mem hs.1 hs.2 (bat s (7+4*i))) (x:=bat s (8+4*i)) (y:=bat s (9+4*i)) (by omega) (by have:=bat_lt s (8+4*i);omega) (by omega) (by have:=bat_lt s (9+4*i);omega)
 rw [fitsB_true] at this
 exact this
end Fn
namespace MPa
def idle (P:MPa) (k:Nat):Bool:=match P.ths[k]? with
 | none=>true
 | some T=>idleT T
def runT:Nat→MPa→Nat→MPa
 | 0,P,_=>P
 | m+1,P,k=>match P.ths[k]? with
  | none=>P
  | some T=>bif idleT T then P else runT m (P.pickT k T).1 k
theorem runT_idle {P:MPa} {k:Nat} (h:P.idle k = true):∀ m,runT m P k = P
 | 0=>rfl
 | m+1=>by
  unfold runT
  unfold idle at h
  cases hT:P.ths[k]? with
  | none=>rfl
  | some T=>rw [hT] at h;simp only at h ⊢;rw [h];rfl
theorem runT_step {P:MPa} {k:Nat} {T:MT} (hT:P.ths[k]? = some T) (h:idleT T = false) (m:Nat):runT (m+1) P k = runT m (P.pickT k T).1 k:=by
 show (match P.ths[k]? with
  | none=>P
  | some T=>bif idleT T then P else runT m (P.pickT k T).1 k) = _
 rw [hT]
 simp only
 rw [h]
 rfl
def restT (m:Nat) (P:MPa):Nat→MPa
 | 0=>P
 | k+1=>runT m (restT m P k) k
end MPa
def PickOk:Prop:=∀ {w:World} {gp gh:Nat} {P:MPa} {tv bv:GSl} {ro:List GRo} {Fh:List Nat} {Ft:Nat→Nat→Prop} {lab:Nat→Nat} (_:PaB w gp gh P tv bv ro Fh Ft lab) (_:ErrOk w) {k:Nat} {T:MT} (_:P.ths[k]? = some T) (_:MPa.idleT T = false)
  (_:T.V.busy = false→∀ o r,T.queue = o :: r→OpFit T.V.st o∧ROk T.V.M∧T.V.M.R.step = 0∧GoOk (MV.begin_ { T.V with op:=o,job:=some (GJob.new T.V.st o),ans:=.zero } 1 center)) (_:StOk (MPa.ready T).V P.heap) (_:-1≤T.last) (_:T.last < (P.beats.length:Int)) (_:P.beats.length≤100000),
  Calls Tryz.prog 17 #[.pointer (some ⟨gp,0,none⟩),.int .i64 (k:Int)] w fun en w'=>en = .returned (.tuple #[.agg (P.pickT k T).2.l.toArray,.nilIface])∧PaR w gp gh (P.pickT k T).1 lab w'
structure PW (w0 w:World) (gp gh:Nat) (st:Int) (n nt t:Nat) (P:MPa):Prop where
 p:∃ tv bv ro Fh Ft lab,PaB w gp gh P tv bv ro Fh Ft lab∧∀ b,lab b < 1000→w0.heap.size≤b
 g:GI st n nt t P
 e:ErrOk w
 b:Below w0.heap.size w0 w
 z:7≤w0.heap.size
section
variable {w0 w w':World} {gp gh:Nat} {st:Int} {n nt t k:Nat} {P P':MPa} {T:MT} {lab:Nat→Nat}
theorem PW.next (h:PW w0 w gp gh st n nt t P) (hl:∀ b,lab b < 1000→w0.heap.size≤b) (hr:PaR w gp gh P' lab w') {t':Nat} (hg:GI st n nt t' P'):PW w0 w' gp gh st n nt t' P':=by
 obtain ⟨tv,bv,ro,Fh,Ft,lab',hp,hc,hl'⟩:=hr
 have hz:=h.b.size
 have h40:=h.z
 have far:∀ b,b < w0.heap.size→w'.heap[b]? = w.heap[b]?:=fun b hb=>hc.far b (by omega) fun h2=>by have:=hl b h2;omega
 exact ⟨⟨tv,bv,ro,Fh,Ft,lab',hp,fun b hb=>(hl' b hb).elim (hl b) fun h'=>by omega⟩,hg,h.e.low (fun b hb=>far b (by omega)) (by have:=hc.size;omega),
  h.b.trans ⟨hc.os,hc.tape,hc.output,hc.size,far⟩,h40⟩
theorem PW.below (h:PW w0 w gp gh st n nt t P) (hb:Below w.heap.size w w'):PW w0 w' gp gh st n nt t P:=by
 obtain ⟨tv,bv,ro,Fh,Ft,lab,hp,hl⟩:=h.p
 exact ⟨⟨tv,bv,ro,Fh,Ft,lab,hp.below hb,hl⟩,h.g,h.e.below hb,h.b.trans (hb.mono h.b.size),h.z⟩
theorem PW.ths (h:PW w0 w gp gh st n nt t P) (hk:k < nt):∃ T,P.ths[k]? = some T:=⟨_,List.getElem?_eq_getElem (by rw [h.g.z];exact hk)⟩
theorem PW.idle (h:PW w0 w gp gh st n nt t P) (hT:P.ths[k]? = some T):Calls Tryz.prog 26 #[.pointer (some ⟨gp,0,none⟩),.int .i64 (k:Int)] w fun en w'=>en = .returned (.bool (MPa.idleT T))∧PW w0 w' gp gh st n nt t P:=by
 obtain ⟨tv,bv,ro,Fh,Ft,lab,hp,hl⟩:=h.p
 refine (idle_any hp hT).mono ?_
 rintro e w1 ⟨rfl,hb⟩
 exact ⟨rfl,h.below hb⟩
theorem PW.pick (hP:PickOk) (h:PW w0 w gp gh st n nt t P) (hT:P.ths[k]? = some T) (hi:MPa.idleT T = false) (ht:t≤60000) (hn:n≤1024) :
  Calls Tryz.prog 17 #[.pointer (some ⟨gp,0,none⟩),.int .i64 (k:Int)] w fun en w'=>en = .returned (.tuple #[.agg (P.pickT k T).2.l.toArray,.nilIface])∧PW w0 w' gp gh st n nt (t+12) (P.pickT k T).1:=by
 obtain ⟨tv,bv,ro,Fh,Ft,lab,hp,hl⟩:=h.p
 obtain ⟨g1,g2,g3,_⟩:=pick_ok h.g hT hi ht hn
 have hv:=h.g.v k T hT
 have hb:=h.g.b
 refine (hP hp h.e hT hi g1 g2 hv.2.2.1 hv.2.2.2 (by omega)).mono ?_
 rintro e w1 ⟨rfl,hr⟩
 exact ⟨rfl,h.next hl hr g3⟩
end
namespace MPa
theorem runT_succ:∀ (j:Nat) (P:MPa) (k:Nat),runT (j+1) P k = runT 1 (runT j P k) k
 | 0,P,k=>rfl
 | j+1,P,k=>by
  cases hT:P.ths[k]? with
  | none =>
   have hi:P.idle k = true:=by unfold idle;rw [hT]
   rw [runT_idle hi,runT_idle hi,runT_idle hi]
  | some T =>
   cases hi:idleT T with
   | true =>
    have hi:P.idle k = true:=by unfold idle;rw [hT];exact hi
    rw [runT_idle hi,runT_idle hi,runT_idle hi]
   | false =>
    rw [runT_step hT hi,runT_step hT hi]
    exact runT_succ j _ k
theorem runT_stop {P:MPa} {k j:Nat} (h:(runT j P k).idle k = true):∀ d,runT (j+d) P k = runT j P k
 | 0=>rfl
 | d+1=>by
  show runT (j+d+1) P k = _
  rw [runT_succ,runT_stop h d]
  exact runT_idle h 1
theorem runT_one {P:MPa} {k:Nat} {T:MT} (hT:P.ths[k]? = some T) (h:idleT T = false):runT 1 P k = (P.pickT k T).1:=runT_step hT h 0
end MPa
theorem GI.up {st:Int} {n nt t t':Nat} {P:MPa} (h:GI st n nt t P) (ht:t≤t'):GI st n nt t' P :=
 ⟨h.s,h.z,h.h,Nat.le_trans h.b ht,fun i T hi=>⟨(h.v i T hi).1.up ht,(h.v i T hi).2⟩⟩
theorem PW.up {w0 w:World} {gp gh:Nat} {st:Int} {n nt t t':Nat} {P:MPa} (h:PW w0 w gp gh st n nt t P) (ht:t≤t'):PW w0 w gp gh st n nt t' P:=⟨h.p,h.g.up ht,h.e,h.b,h.z⟩
theorem rest_any (hP:PickOk) {w0 w:World} {gp gh:Nat} {st:Int} {n nt t:Nat} {P:MPa} (m:Nat) (h:PW w0 w gp gh st n nt t P) (hm:m < 60000) (hid:∀ k,k < nt→(MPa.restT m P (k+1)).idle k = true) (ht:t+12*(m*nt)≤60000) (hn:n≤1024) (h6:nt≤6) :
  Calls Tryz.prog 10 #[.pointer (some ⟨gp,0,none⟩),.int .i64 (nt:Int)] w fun en w'=>en = .returned (.bool true)∧PW w0 w' gp gh st n nt (t+12*(m*nt)) (MPa.restT m P nt):=by
 have HH:=Lib.hid h
 have HD:=Lib.hid hid
 clear h hid
 go_enter Tryz.func10,Tryz.ntmps10
 go_wp2_with fail
 go_loopw [5] (fun i wr=>∃ k:Nat,k≤nt∧i = .int .i64 k∧Hid (PW w0 wr gp gh st n nt (t+12*(m*k)) (MPa.restT m P k))) (fun i _=>nt - (intOf i).toNat)
 case atStart=>exact ⟨0,Nat.zero_le _,rfl,Lib.hid HH.out⟩
 case round =>
  obtain ⟨k,hk,rfl,L⟩:=hrel
  by_cases hlt:k < nt
  ·have hlt':(k:Int) < (nt:Int):=by omega
   go_wp2_with fail
   go_loopw [6] (fun i wq=>∃ j:Nat,j≤m∧i = .int .i64 j∧Hid (PW w0 wq gp gh st n nt (t+12*(m*k)+12*j) (MPa.runT j (MPa.restT m P k) k))) (fun i _=>m - (intOf i).toNat)
   case atStart=>exact ⟨0,Nat.zero_le _,rfl,Lib.hid L.out⟩
   case round =>
    obtain ⟨j,hj,rfl,M⟩:=hrel
    have hj6:(j:Int) < 60000:=by omega
    have hmk:m*k+m≤m*nt:=by
     have:=Nat.mul_le_mul_left m (show k+1≤nt from hlt)
     rwa [Nat.mul_succ] at this
    obtain ⟨T,hT⟩:=M.out.ths hlt
    have hidl:=M.out.idle hT
    go_wp2_with fail
    refine hidl.mono ?_
    rintro e w1 ⟨rfl,h1⟩
    cases hi:MPa.idleT T with
    | true =>
     have hst:(MPa.runT j (MPa.restT m P k) k).idle k = true:=by unfold MPa.idle;rw [hT];exact hi
     have e1:MPa.restT m P (k+1) = MPa.runT j (MPa.restT m P k) k:=by
      show MPa.runT m (MPa.restT m P k) k = _
      have:=MPa.runT_stop hst (m - j)
      rwa [show j+(m - j) = m from by omega] at this
     have hid2:=h1.idle hT
     rw [hi] at hid2
     have H1:=Lib.hid h1
     clear h1 hidl hT M L HH
     go_wp2_with fail
     refine hid2.mono ?_
     rintro e w2 ⟨rfl,h2⟩
     have H2:Hid (PW w0 w2 gp gh st n nt (t+12*(m*(k+1))) (MPa.restT m P (k+1))):=Lib.hid (by rw [e1,Nat.mul_succ];exact h2.up (by omega))
     clear h2 hid2 H1 e1 hst
     go_wp2_with fail
     exact ⟨⟨k+1,hlt,by go_num,H2⟩,by simp [intOf];omega⟩
    | false =>
     have hjm:j < m:=by
      rcases Nat.lt_or_ge j m with h | h
      ·exact h
      ·have e2:j = m:=by omega
       subst e2
       have:=HD.out k hlt
       unfold MPa.idle at this
       rw [show MPa.restT j P (k+1) = MPa.runT j (MPa.restT j P k) k from rfl,hT] at this
       simp only at this
       rw [hi] at this
       cases this
     have hp:=h1.pick hP hT hi (by omega) hn
     have e1:MPa.runT (j+1) (MPa.restT m P k) k = ((MPa.runT j (MPa.restT m P k) k).pickT k T).1:=by rw [MPa.runT_succ,MPa.runT_one hT hi]
     rw [← e1] at hp
     clear h1 hidl hT e1
     generalize ((MPa.runT j (MPa.restT m P k) k).pickT k T).2 = B at hp
     go_wp2_with fail
     refine hp.mono ?_
     rintro e w2 ⟨rfl,h2⟩
     have hA:=(Below.refl w2.heap.size w2).alloc (Nat.le_refl _) (.cells Yh.zero.l.toArray 42)
     have HX:=Lib.hid (Bk.at_ (w:=w2) (g:=w2.heap.size) (cs:=Yh.zero.l.toArray) (t:=42) rfl)
     have H2:=Lib.hid h2
     clear h2 hp
     go_wp2_with (refine vM HX.out ?_;intro w3 hst;have H3:Hid (PW w0 w3 gp gh st n nt (t+12*(m*k)+12*(j+1)) (MPa.runT (j+1) (MPa.restT m P k) k)):=Lib.hid ((H2.out.below (hst.below hA (Nat.le_refl _))).up (by omega));clear hst)
     exact ⟨⟨j+1,hjm,by go_num,H3⟩,by simp [intOf];omega⟩
  ·have hke:k = nt:=by omega
   subst hke
   have hlt':¬ (k:Int) < (k:Int):=by omega
   go_wp2_with fail
   go_ret
   exact ⟨rfl,L.out⟩
end Go.Proofs.YtaipogljokblkaaGreatDoor
