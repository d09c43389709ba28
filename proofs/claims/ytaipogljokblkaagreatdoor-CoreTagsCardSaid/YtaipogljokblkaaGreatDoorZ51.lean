/- Core: QH. -/
import Derived.Test.YtaipogljokblkaaGreatDoorZ48
import Derived.Deep.Cut
set_option linter.all false
set_option maxRecDepth 100000
set_option maxHeartbeats 8000000
namespace Go.Proofs.YtaipogljokblkaaGreatDoor
open Go Go.RowKit
set_option linter.unusedSimpArgs false
set_option linter.unusedVariables false
set_option linter.unusedSectionVars false
theorem own_tl {α:Type} {f:α→List Value} {sz:Nat} {E:TypeId} (hf:∀ x,(f x).length = sz) {w:World} {g off cap:Nat} {d:α} {r:List α} (h:Own w E sz (.slice (some ⟨g,off,none⟩) (d :: r).length cap) (d :: r).length (rows f (d :: r))) :
  Own w E sz (.slice (some ⟨g,if cap = 1 then off else off+sz,none⟩) r.length (cap - 1)) r.length (rows f r):=by
 rcases h.2 with ⟨h',_⟩ | ⟨g',off',cap',A,R,hv,hk,rfl,hn,hm,hs⟩
 ·cases h'
 ·cases hv
  simp only [List.length_cons] at hn hs
  have hl:(rows f (d :: r)).length = (r.length+1)*sz:=Yt hf _
  have hl2:(rows f r).length = r.length*sz:=Yt hf _
  refine ⟨hl2,.inr ?_⟩
  by_cases hc:cap = 1
  ·obtain rfl:r = []:=List.eq_nil_of_length_eq_zero (by omega)
   rw [if_pos hc]
   refine ⟨g,A.length,cap - 1,A,f d++R,rfl,?_,rfl,by simp,by omega,by subst hc;simp⟩
   have e:rows f [d] = f d:=by simp [rows]
   rw [e] at hk
   exact hk
  ·rw [if_neg hc]
   refine ⟨g,A.length+sz,cap - 1,A++f d,R,rfl,?_,by rw [List.length_append,hf],by omega,by omega,?_⟩
   ·rw [rows_cons] at hk
    have e:A++f d++(rows f r++R) = A++(f d++rows f r++R):=by simp only [List.append_assoc]
    rw [e]
    exact hk
   ·rw [hl2];rw [hl,Nat.add_mul] at hs;rw [Nat.sub_mul];omega
theorem own_fz {w:World} {E:TypeId} {sz n g:Nat} {v:Value} {xs:List Value} (h:Own w E sz v n xs) (hv:v.ownBlock = some g) (i:Nat):w.frozen? ⟨g,i,none⟩ = false:=by
 rcases h.2 with ⟨rfl,_⟩ | ⟨g',off',cap',A,R,rfl,hb,_⟩
 ·cases hv
 ·cases hv;exact hb.free i
theorem PaB.same {w w':World} {gp gh:Nat} {P:MPa} {tv bv:GSl} {ro:List GRo} {Fh:List Nat} {Ft:Nat→Nat→Prop} {lab:Nat→Nat} (h:PaB w gp gh P tv bv ro Fh Ft lab) (hs:∀ b,lab b < 1000→b < w.heap.size→w'.heap[b]? = w.heap[b]?):PaB w' gp gh P tv bv ro Fh Ft lab:=by
 have few:=h.few
 refine ⟨h.bk.same (hs gp (by rw [h.l0];decide) h.bk.lt),h.tho.kept fun b hb=>hs b (by rw [h.l1 b hb];decide) (h.tho.lt hb),h.beo.kept fun b hb=>hs b (by rw [h.l2 b hb];decide) (h.beo.lt hb),h.hp.same fun b hb=>hs b (by rw [h.l3 b hb];decide) (h.hp.lt b hb),h.len,fun i r T h1 h2=>?_,h.l0,h.l1,h.l2,h.l3,h.l4,h.low,h.few⟩
 have hi:=lt_of_get h2
 exact (h.th i r T h1 h2).keep fun b hb=>hs b (by rw [h.l4 i b hi hb];omega) (h.ltF hi b hb)
theorem PaB.rowg {w:World} {gp gh:Nat} {P:MPa} {bv:GSl} {g off n c:Nat} {ro:List GRo} {Fh:List Nat} {Ft:Nat→Nat→Prop} {lab:Nat→Nat} (h:PaB w gp gh P ⟨some ⟨g,off,none⟩,n,c⟩ bv ro Fh Ft lab) {i:Nat} (hi:i < P.ths.length):∃ hr:i < ro.length,w.rangeAt g (off+i*4) ro[i].l:=by
 obtain ⟨g',off',c',e,hr,hrow⟩:=h.rowk hi
 injection e with e1 e2 e3
 injection e1 with e1
 injection e1 with e4 e5 e6
 subst e4;subst e5
 exact ⟨hr,hrow⟩
structure PK (w:World) (lab0:Nat→Nat) (gp gh:Nat) (P:MPa) (tv:GSl) (rb bb:Nat) (b:Yh) (W:World):Prop where
 p:∃ bv ro Fh Ft lab,PaB W gp gh P tv bv ro Fh Ft lab∧1000≤lab rb∧1000≤lab bb∧∀ b,lab b < 1000→lab0 b < 1000∨w.heap.size≤b
 r:Bk W rb 42 Yh.zero.l.toArray
 b:Bk W bb 42 b.l.toArray
 c:ChgP (fun b=>lab0 b < 1000) w W
 e:ErrOk W
 rz:w.heap.size≤rb
 bz:w.heap.size≤bb
 ne:rb≠bb
 z:7≤w.heap.size
theorem pk_start {w W:World} {gp gh:Nat} {P:MPa} {tv bv:GSl} {ro:List GRo} {Fh:List Nat} {Ft:Nat→Nat→Prop} {lab:Nat→Nat} {n1 bb:Nat} {b:Yh} (h:PaB W gp gh P tv bv ro Fh Ft (fun b=>if b < n1 then (if b < w.heap.size then lab b else 1000) else 1000)) (hr:Bk W w.heap.size 42 Yh.zero.l.toArray) (hb:Bk W bb 42 b.l.toArray)
  (hc:Below w.heap.size w W) (he:ErrOk W) (h1:w.heap.size < bb) (h2:w.heap.size≤n1) (hz:7≤w.heap.size):PK w lab gp gh P tv w.heap.size bb b W:=by
 refine ⟨⟨bv,ro,Fh,Ft,_,h,?_,?_,fun b hb=>?_⟩,hr,hb,⟨hc.os,hc.tape,hc.output,hc.size,fun b hb _=>hc.block b hb⟩,he,Nat.le_refl _,by omega,by omega,hz⟩
 ·show 1000≤(if _ then _ else _)
  split
  ·rw [if_neg (by omega)];exact Nat.le_refl _
  ·exact Nat.le_refl _
 ·show 1000≤(if _ then _ else _)
  split
  ·rw [if_neg (by omega)];exact Nat.le_refl _
  ·exact Nat.le_refl _
 ·by_cases hx:b < w.heap.size
  ·rw [if_pos (by omega),if_pos hx] at hb;exact Or.inl hb
  ·exact Or.inr (by omega)
section
variable {w W W':World} {lab0:Nat→Nat} {gp gh rb bb:Nat} {P P':MPa} {tv:GSl} {b b':Yh}
theorem PK.below (h:PK w lab0 gp gh P tv rb bb b W) (hb:Below W.heap.size W W'):PK w lab0 gp gh P tv rb bb b W':=by
 obtain ⟨bv,ro,Fh,Ft,lab,hp,l1,l2,l3⟩:=h.p
 exact ⟨⟨bv,ro,Fh,Ft,lab,hp.below hb,l1,l2,l3⟩,h.r.belowAll hb,h.b.belowAll hb,⟨hb.os.trans h.c.os,hb.tape.trans h.c.tape,hb.output.trans h.c.output,Nat.le_trans h.c.size hb.size,fun b hb' hf=>(hb.block b (Nat.lt_of_lt_of_le hb' h.c.size)).trans (h.c.far b hb' hf)⟩,h.e.below hb,h.rz,h.bz,h.ne,h.z⟩
theorem PK.box (h:PK w lab0 gp gh P tv rb bb b W) (hg:W.grownBy W' (some bb)) (hb:Bk W' bb 42 b'.l.toArray):PK w lab0 gp gh P tv rb bb b' W':=by
 obtain ⟨bv,ro,Fh,Ft,lab,hp,l1,l2,l3⟩:=h.p
 have hbz:=h.bz
 have hz:=h.z
 refine ⟨⟨bv,ro,Fh,Ft,lab,hp.same fun x hx hl=>hg.block x hl fun e=>by cases e;omega,l1,l2,l3⟩,h.r.grown hg (fun e=>h.ne (by cases e;rfl)),hb,⟨hg.os.trans h.c.os,hg.tape.trans h.c.tape,hg.output.trans h.c.output,Nat.le_trans h.c.size hg.size,fun x hx hf=>(hg.block x (Nat.lt_of_lt_of_le hx h.c.size) fun e=>by cases e;omega).trans (h.c.far x hx hf)⟩,h.e.low (fun x hx=>hg.block x (by have:=h.e.lt;omega) fun e=>by cases e;omega) (Nat.le_trans h.e.lt hg.size),h.rz,h.bz,h.ne,h.z⟩
theorem PK.upd {bv bv':GSl} {ro ro':List GRo} {Fh Fh':List Nat} {Ft Ft':Nat→Nat→Prop} {lab lab':Nat→Nat} (h:PK w lab0 gp gh P tv rb bb b W) (hp:PaB W gp gh P tv bv ro Fh Ft lab) (l1:1000≤lab rb) (l2:1000≤lab bb) (l3:∀ b,lab b < 1000→lab0 b < 1000∨w.heap.size≤b)
  (hp':PaB W' gp gh P' tv bv' ro' Fh' Ft' lab') (hc:ChgP (fun b=>lab b < 1000) W W') (hl:∀ b,lab' b < 1000→lab b < 1000∨W.heap.size≤b):PK w lab0 gp gh P' tv rb bb b W':=by
 have hrl:=h.r.lt
 have hbl:=h.b.lt
 have cz:=h.c.size
 refine ⟨⟨bv',ro',Fh',Ft',lab',hp',?_,?_,fun x hx=>(hl x hx).elim (l3 x) fun h'=>Or.inr (by omega)⟩,h.r.same (hc.far rb hrl (by omega)),h.b.same (hc.far bb hbl (by omega)),⟨hc.os.trans h.c.os,hc.tape.trans h.c.tape,hc.output.trans h.c.output,Nat.le_trans h.c.size hc.size,fun x hx hf=>(hc.far x (by omega) fun h'=>?_).trans (h.c.far x hx hf)⟩,h.e.low (fun x hx=>hc.far x (by have:=h.e.lt;omega) fun h'=>by have:=hp.low x hx;omega) (Nat.le_trans h.e.lt hc.size),h.rz,h.bz,h.ne,h.z⟩
 ·rcases Nat.lt_or_ge (lab' rb) 1000 with h' | h'
  ·rcases hl rb h' with h' | h' <;> omega
  ·exact h'
 ·rcases Nat.lt_or_ge (lab' bb) 1000 with h' | h'
  ·rcases hl bb h' with h' | h' <;> omega
  ·exact h'
 ·rcases l3 x h' with h' | h'
  ·exact hf h'
  ·omega
theorem PK.other {bv:GSl} {ro:List GRo} {Fh:List Nat} {Ft:Nat→Nat→Prop} {lab:Nat→Nat} {s:Nat} (h:PK w lab0 gp gh P tv rb bb b W) (hp:PaB W gp gh P tv bv ro Fh Ft lab) (l1:1000≤lab rb) (l2:1000≤lab bb) (l3:∀ b,lab b < 1000→lab0 b < 1000∨w.heap.size≤b)
  (hg:W.grownBy W' (some s)) (hs:1000≤lab s) (n1:s≠rb) (n2:s≠bb) (hw:w.heap.size≤s):PK w lab0 gp gh P tv rb bb b W':=by
 have hz:=h.z
 exact ⟨⟨bv,ro,Fh,Ft,lab,hp.same fun x hx hl=>hg.block x hl fun e=>by cases e;omega,l1,l2,l3⟩,h.r.grown hg (fun e=>n1 (by cases e;rfl)),h.b.grown hg (fun e=>n2 (by cases e;rfl)),⟨hg.os.trans h.c.os,hg.tape.trans h.c.tape,hg.output.trans h.c.output,Nat.le_trans h.c.size hg.size,fun x hx hf=>(hg.block x (Nat.lt_of_lt_of_le hx h.c.size) fun e=>by cases e;omega).trans (h.c.far x hx hf)⟩,h.e.low (fun x hx=>hg.block x (by have:=h.e.lt;omega) fun e=>by cases e;omega) (Nat.le_trans h.e.lt hg.size),h.rz,h.bz,h.ne,h.z⟩
theorem chg_set {Q:Nat→Prop} (w:World) (g i:Nat) (v:Value) (h:Q g):ChgP Q w (w.setCell ⟨g,i,none⟩ v) :=
 have gr:=Xq w g i v
 ⟨gr.os,gr.tape,gr.output,gr.size,fun b hb hf=>gr.block b hb fun e=>hf (by cases e;exact h)⟩
end
theorem modify_set {α:Type} (f:α→α) (l:List α) (i:Nat) (h:i < l.length):l.modify i f = l.set i (f l[i]):=by
 apply List.ext_getElem?
 intro j
 rw [List.getElem?_modify,List.getElem?_set]
 by_cases e:i = j
 ·subst e;simp [h]
 ·simp [e]
theorem ready_last (T:MT):(MPa.ready T).last = T.last:=by
 unfold MPa.ready
 cases T.V.busy
 ·cases T.queue <;> rfl
 ·rfl
theorem chg_grown {Q:Nat→Prop} {w w2:World} {r:Option Nat} (g:w.grownBy w2 r) (h:∀ b,r = some b→Q b):ChgP Q w w2:=⟨g.os,g.tape,g.output,g.size,fun b hb hf=>g.block b hb fun e=>hf (h b e.symm)⟩
theorem PK.done {w W W':World} {lab0:Nat→Nat} {gp gh rb bb:Nat} {P:MPa} {tv:GSl} {b:Yh} (h:PK w lab0 gp gh P tv rb bb b W) (hg:W.grownBy W' (some rb)):PaR w gp gh P lab0 W':=by
 obtain ⟨bv,ro,Fh,Ft,lab,hp,l1,l2,l3⟩:=h.p
 have hr:=h.rz
 exact ⟨tv,bv,ro,Fh,Ft,lab,hp.same fun x hx hl=>hg.block x hl fun e=>by cases e;omega,⟨hg.os.trans h.c.os,hg.tape.trans h.c.tape,hg.output.trans h.c.output,Nat.le_trans h.c.size hg.size,fun x hx hf=>(hg.block x (Nat.lt_of_lt_of_le hx h.c.size) fun e=>by cases e;omega).trans (h.c.far x hx hf)⟩,l3⟩
def MPa.stepped (P:MPa) (k:Nat) (T:MT):MPa:={ P with heap:=((MPa.ready T).V.step P.heap).2.1,ths:=P.ths.set k { MPa.ready T with V:=((MPa.ready T).V.step P.heap).1 } }
def MPa.readied (P:MPa) (k:Nat) (T:MT):MPa:={ P with ths:=P.ths.set k (MPa.ready T) }
theorem pick_any {w:World} {gp gh:Nat} {P:MPa} {tv bv:GSl} {ro:List GRo} {Fh:List Nat} {Ft:Nat→Nat→Prop} {lab:Nat→Nat} (h:PaB w gp gh P tv bv ro Fh Ft lab) (he:ErrOk w) {k:Nat} {T:MT} (hT:P.ths[k]? = some T) (hi:MPa.idleT T = false)
  (hg:T.V.busy = false→∀ o r,T.queue = o :: r→OpFit T.V.st o∧ROk T.V.M∧T.V.M.R.step = 0∧GoOk (MV.begin_ { T.V with op:=o,job:=some (GJob.new T.V.st o),ans:=.zero } 1 center)) (hs:StOk (MPa.ready T).V P.heap) (hl0:-1≤T.last) (hl1:T.last < (P.beats.length:Int)) (hbl:P.beats.length≤100000) :
  Calls Tryz.prog 17 #[.pointer (some ⟨gp,0,none⟩),.int .i64 (k:Int)] w fun en w'=>en = .returned (.tuple #[.agg (P.pickT k T).2.l.toArray,.nilIface])∧PaR w gp gh (P.pickT k T).1 lab w':=by
 have hk:k < P.ths.length:=lt_of_get hT
 have hhas:P.has (k:Int) = true:=by unfold MPa.has;simp;omega
 obtain ⟨g,off,c,rfl,hr,hrow⟩:=h.rowk hk
 have hal:Below w.heap.size w (w.alloc (.cells Yh.zero.l.toArray 42)):=(Below.refl _ _).alloc (Nat.le_refl _) _
 have HP:=Lib.hid (h.cut.below hal)
 have HE:=Lib.hid (he.below hal)
 have HX:=Lib.hid (Bk.at_ (w:=w) (g:=w.heap.size) (cs:=Yh.zero.l.toArray) (t:=42) rfl)
 have HC:=Lib.hid hal
 have h40:=he.lt
 have hh:=has_any HP.out (k:Int)
 rw [hhas] at hh
 have hid:=idle_any HP.out hT
 rw [hi] at hid
 obtain ⟨Q,hQ⟩:∃ Q,P.pickT k T = Q:=⟨_,rfl⟩
 rw [hQ]
 have HQ:=Lib.hid hQ
 clear h he hal hrow hQ
 go_enter Tryz.func17,Tryz.ntmps17
 generalize hbz:T.V.busy = bz at hg
 have hrd:MPa.ready T = (bif bz then T else match T.queue with | []=>T | op :: r=>{ T with V:=T.V.give op,queue:=r }):=by unfold MPa.ready;rw [hbz];rfl
 go_upto_region 7 with (first | (go_at_call 24;refine hh.mono ?_;rintro e w1 ⟨rfl,rfl⟩) | (go_at_call 26;refine hid.mono ?_;rintro e w1 ⟨rfl,hb1⟩;have c2:=(HP.out.below hb1).bk.cell 2;simp [GSl.v] at c2;have hal2:=((Below.refl w1.heap.size w1).alloc (Nat.le_refl _) (.cells (Yh.l ⟨k,false,.zero,false,false,.zero⟩).toArray 42));have P2:=Lib.hid ((HP.out.cut.below hb1).below hal2);have hv2:=P2.out.th k ro[k] T (List.getElem?_eq_getElem hr) hT;obtain ⟨t1,t2,Fv,hv,hq,hqF⟩:=hv2;obtain ⟨g',off',c',he',hr',hrow⟩:=P2.out.rowk hk;cases he';have r0:=hrow 0 _ rfl;simp [GRo.l,Yh.l,GOp.l,GAns.l,GOp.zero,GAns.zero] at r0;have HV:=Lib.hid hv;have HB:=Lib.hid (Bk.at_ (w:=w1) (g:=w1.heap.size) (cs:=(Yh.l ⟨k,false,.zero,false,false,.zero⟩).toArray) (t:=42) rfl);have HC2:=Lib.hid ((HC.out.trans (hb1.mono HC.out.size)).trans (hal2.mono (Nat.le_trans HC.out.size hb1.size)));have HE2:=Lib.hid ((HE.out.below hb1).below hal2);have HX2:=Lib.hid ((HX.out.belowAll hb1).belowAll hal2);have hzx:w.heap.size < w1.heap.size:=(HX.out.belowAll hb1).lt;clear t1 t2 hv hq hqF hrow hal2 HP HE HX HC hb1))
 go_upto_region 10 with (fail)
 refine (vbusy_b HV.out).mono ?_
 rintro e w2 ⟨rfl,hb2⟩
 rw [hbz]
 have HK:=Lib.hid (pk_start (w:=w) (lab:=lab) (P2.out.below hb2) (HX2.out.belowAll hb2) (HB.out.belowAll hb2) (HC2.out.trans (hb2.mono HC2.out.size)) (HE2.out.below hb2) (by omega) (by simp) h40)
 clear P2 HX2 HB HC2 HE2 hb2 c2 r0 HV
 go_upto_if 39 with (fail)
 generalize hbb:w1.heap.size = bb at *
 go_cut [] from 8 (fun wx=>PK w lab gp gh (P.readied k T) ⟨some ⟨g,off,none⟩,P.ths.length,c⟩ w.heap.size bb ⟨k,!T.V.busy,MPa.beatOp T,false,false,.zero⟩ wx)
 case first =>
  cases bz
  rotate_left 1
  focus (
   have HK2:Hid (PK w lab gp gh (P.readied k T) ⟨some ⟨g,off,none⟩,P.ths.length,c⟩ w.heap.size bb ⟨k,!T.V.busy,MPa.beatOp T,false,false,.zero⟩ w2):=Lib.hid (by
    have e1:P.readied k T = P:=by unfold MPa.readied;rw [hrd];show { P with ths:=P.ths.set k T } = P;rw [set_same hT]
    rw [e1,show MPa.beatOp T = .zero from by unfold MPa.beatOp;rw [hbz];rfl,hbz]
    exact HK.out)
   go_wp2_with fail
   go_meet
   case rel=>exact HK2.out)
  obtain ⟨o,r,hqu⟩:∃ o r,T.queue = o :: r:=by
   cases hq:T.queue with
   | nil=>unfold MPa.idleT at hi;rw [hbz,hq] at hi;cases hi
   | cons o r=>exact ⟨o,r,rfl⟩
  obtain ⟨g1,g2,g3,g4⟩:=hg rfl o r hqu
  clear hg
  go_upto_region 10 with (fail)
  have HK2:=Lib.hid (HK.out.below (Below.refl w2.heap.size w2).drew)
  clear HK
  obtain ⟨bv,ro,Fh,Ft,lb,hp,l1,l2,l3⟩:=HK2.out.p
  obtain ⟨hr,hrow⟩:=hp.rowg hk
  obtain ⟨t1,t2,Fv,hv,hq,hq1,hq2⟩:=hp.th k ro[k] T (List.getElem?_eq_getElem hr) hT
  rw [hqu] at hq
  obtain ⟨qb,qo,qc,hqv,_⟩:=own_form hq (by simp)
  have ho:=hq
  rw [hqv] at ho
  have hoc:=own_cells ho
  have r1:=hrow 1 _ rfl
  simp [GRo.l,hqv] at r1
  have o0:=hoc 0 _ rfl;have o1:=hoc 1 _ rfl;have o2:=hoc 2 _ rfl;have o3:=hoc 3 _ rfl
  simp at o0 o1 o2 o3
  have lg:lb g = 1:=hp.l1 g rfl
  have lqb:lb qb = 4+k:=hp.l4 k qb hk ((hq2 qb).2 (Or.inr (by rw [hqv];rfl)))
  have few:=hp.few
  have ng:bb≠g:=fun e=>by rw [← e] at lg;omega
  have nq:bb≠qb:=fun e=>by rw [← e] at lqb;omega
  have hgl:g < w2.drew.heap.size:=hp.tho.lt rfl
  have hql:qb < w2.drew.heap.size:=hq.lt (by rw [hqv];rfl)
  clear hp t1 t2 hv hq hq1 hq2 hrow ho hoc
  refine X2 (fun w'=>w'.cell? ⟨g,off+k*4+1,none⟩ = some (.slice (some ⟨qb,qo,none⟩) (r.length+1) qc)∧w'.cell? ⟨qb,qo,none⟩ = some (.int .i64 o.kind)∧w'.cell? ⟨qb,qo+1,none⟩ = some (.int .i64 o.key)∧w'.cell? ⟨qb,qo+2,none⟩ = some (.int .i64 o.val)∧w'.cell? ⟨qb,qo+3,none⟩ = some (.int .i64 o.tall)) 10 (by kernel_rfl) ⟨r1,o0,o1,o2,o3⟩ (fun hS=>?_)
  have HR:Hid (w2.drew.cell? ⟨g,off+k*4+1,none⟩ = some (.slice (some ⟨qb,qo,none⟩) (r.length+1) qc)∧w2.drew.cell? ⟨qb,qo,none⟩ = some (.int .i64 o.kind)∧w2.drew.cell? ⟨qb,qo+1,none⟩ = some (.int .i64 o.key)∧w2.drew.cell? ⟨qb,qo+2,none⟩ = some (.int .i64 o.val)∧w2.drew.cell? ⟨qb,qo+3,none⟩ = some (.int .i64 o.tall)):=Lib.hid ⟨r1,o0,o1,o2,o3⟩
  clear r1 o0 o1 o2 o3
  generalize w2.drew = W2 at *
  have b1:=HK2.out.b.cell 1
  have f1:=HK2.out.b.free 1
  simp [Yh.l,GOp.l,GAns.l] at b1
  ((try simp only [Act.put,List.setIfInBounds_toArray,List.set_cons_succ,List.set_cons_zero]);refine vT (fuel:=3) hS [0,1,2,3,4,5,6] ?_;simp only [Xu,Xj,List.toList_toArray];(repeat (first | go_big_quiet_skip | (go_big_quiet_want;first | (go_big_quiet_op;go_big_quiet_on) | (apply Exists.intro;refine ⟨fun w' hS'=>?_,?_⟩;(· ((obtain ⟨q1,q2,q3,q4,q5⟩:=hS');go_simp;first | done | rfl | exact ⟨rfl,rfl⟩));go_big_quiet_on;simp only [Act.put,List.setIfInBounds_toArray,List.set_cons_succ,List.set_cons_zero]))));refine wpQuiet_nil ?_;(try dsimp only))
  have B3:=HK2.out.b.set_ 1 (.bool true)
  have HB3:=Lib.hid (Yb (cs':=(Yh.l ⟨k,true,.zero,false,false,.zero⟩).toArray) B3 (by kernel_rfl))
  have S3:∀ u:Value,(W2.setCell ⟨bb,1,none⟩ u).cell? ⟨g,off+k*4+1,none⟩ = some (.slice (some ⟨qb,qo,none⟩) (r.length+1) qc)∧(W2.setCell ⟨bb,1,none⟩ u).cell? ⟨qb,qo,none⟩ = some (.int .i64 o.kind)∧(W2.setCell ⟨bb,1,none⟩ u).cell? ⟨qb,qo+1,none⟩ = some (.int .i64 o.key)∧(W2.setCell ⟨bb,1,none⟩ u).cell? ⟨qb,qo+2,none⟩ = some (.int .i64 o.val)∧(W2.setCell ⟨bb,1,none⟩ u).cell? ⟨qb,qo+3,none⟩ = some (.int .i64 o.tall):=fun u =>
   ⟨(World.cell?_setCell_far _ _ _ _ ng).trans HR.out.1,(World.cell?_setCell_far _ _ _ _ nq).trans HR.out.2.1,(World.cell?_setCell_far _ _ _ _ nq).trans HR.out.2.2.1,(World.cell?_setCell_far _ _ _ _ nq).trans HR.out.2.2.2.1,(World.cell?_setCell_far _ _ _ _ nq).trans HR.out.2.2.2.2⟩
  have hK3:=Lib.hid (HK2.out.box (Xq W2 bb 1 (.bool true)) HB3.out)
  (refine Xh 7 (by kernel_rfl) (fun K hK=>?_);simp only [Xj,List.toList_toArray])
  go_wp2_with fail
  refine hK.out _ _ (fun _=>S3 _) ?_
  clear hK hS b1 f1 B3
  have hS:=S3 (.bool true)
  generalize hW3:W2.setCell ⟨bb,1,none⟩ (.bool true) = W3 at *
  ((try simp only [Act.put,List.setIfInBounds_toArray,List.set_cons_succ,List.set_cons_zero]);refine vT (fuel:=1) hS [8] ?_;simp only [Xu,Xj,List.toList_toArray];(repeat (first | go_big_quiet_skip | (go_big_quiet_want;first | (go_big_quiet_op;go_big_quiet_on) | (apply Exists.intro;refine ⟨fun w' hS'=>?_,?_⟩;(· (skip;go_simp;first | done | rfl | exact ⟨rfl,rfl⟩));go_big_quiet_on;simp only [Act.put,List.setIfInBounds_toArray,List.set_cons_succ,List.set_cons_zero]))));refine wpQuiet_nil ?_;(try dsimp only))
  (refine Xh 9 (by kernel_rfl) (fun K hK=>?_);simp only [Xj,List.toList_toArray])
  go_wp2_with (refine Ym (by rfl) _ _ _ (by rfl) bb 2 _ (by rfl) (by rfl) _ _ (Yh.l ⟨k,true,o,false,false,.zero⟩).toArray HB3.out (Nat.le_of_ble_eq_true (by kernel_rfl)) (by kernel_rfl) (by rfl) (by kernel_rfl) ?_;intro W4 hst;have HK4:=Lib.hid (hK3.out.box hst.grown hst.bk);have HG4:=Lib.hid hst.grown;clear hst)
  have S4:W4.cell? ⟨g,off+k*4+1,none⟩ = some (.slice (some ⟨qb,qo,none⟩) (r.length+1) qc)∧W4.cell? ⟨qb,qo,none⟩ = some (.int .i64 o.kind)∧W4.cell? ⟨qb,qo+1,none⟩ = some (.int .i64 o.key)∧W4.cell? ⟨qb,qo+2,none⟩ = some (.int .i64 o.val)∧W4.cell? ⟨qb,qo+3,none⟩ = some (.int .i64 o.tall):=by
   have e1:=HG4.out.block g (by rw [← hW3];simpa [World.setCell] using hgl) (fun e=>ng (by cases e;rfl))
   have e2:=HG4.out.block qb (by rw [← hW3];simpa [World.setCell] using hql) (fun e=>nq (by cases e;rfl))
   exact ⟨(cell_blk e1 _).trans hS.1,(cell_blk e2 _).trans hS.2.1,(cell_blk e2 _).trans hS.2.2.1,(cell_blk e2 _).trans hS.2.2.2.1,(cell_blk e2 _).trans hS.2.2.2.2⟩
  refine hK.out _ _ (fun _=>S4) ?_
  clear hK hS S3 S4 hK3 HB3 HG4 HR HK2 hW3
  refine X9 (by kernel_rfl) ?_ _
  clear l1 l2 l3 ng nq lqb hgl hql lg few hqv
  go_upto_region 11 with (fail)
  have HK5:=Lib.hid (HK4.out.below (Below.refl W4.heap.size W4).drew)
  clear HK4
  obtain ⟨bv2,ro2,Fh2,Ft2,lb2,hp,l1,l2,l3⟩:=HK5.out.p
  obtain ⟨hr2,hrow⟩:=hp.rowg hk
  have r0:=hrow 0 _ rfl
  simp [GRo.l] at r0
  have hG:=give_pa hp HK5.out.e hT hr2 o g1 (by simpa [MV.busy] using hbz) g2 g3 g4
  have b2:=HK5.out.b.cell 2;have b3:=HK5.out.b.cell 3;have b4:=HK5.out.b.cell 4;have b5:=HK5.out.b.cell 5
  simp [Yh.l,GOp.l,GAns.l] at b2 b3 b4 b5
  have HP5:=Lib.hid (And.intro hp (And.intro l1 (And.intro l2 l3)))
  clear hp l1 l2 l3 hrow
  refine X2 (fun w'=>w'.cell? ⟨g,off+k*4,none⟩ = some (.pointer (some ⟨ro2[k].gv,0,none⟩))∧w'.cell? ⟨bb,2,none⟩ = some (.int .i64 o.kind)∧w'.cell? ⟨bb,3,none⟩ = some (.int .i64 o.key)∧w'.cell? ⟨bb,4,none⟩ = some (.int .i64 o.val)∧w'.cell? ⟨bb,5,none⟩ = some (.int .i64 o.tall)) 7 (by kernel_rfl) ⟨r0,b2,b3,b4,b5⟩ (fun hS=>?_)
  clear r0 b2 b3 b4 b5
  generalize W4.drew = W5 at *
  ((try simp only [Act.put,List.setIfInBounds_toArray,List.set_cons_succ,List.set_cons_zero]);refine vT (fuel:=2) hS [0,1,2,3,4,5] ?_;simp only [Xu,Xj,List.toList_toArray];(repeat (first | go_big_quiet_skip | (go_big_quiet_want;first | (go_big_quiet_op;go_big_quiet_on) | (apply Exists.intro;refine ⟨fun w' hS'=>?_,?_⟩;(· ((obtain ⟨q1,q2,q3,q4,q5⟩:=hS');go_simp;first | done | rfl | exact ⟨rfl,rfl⟩));go_big_quiet_on;simp only [Act.put,List.setIfInBounds_toArray,List.set_cons_succ,List.set_cons_zero]))));refine wpQuiet_nil ?_;(try dsimp only))
  (refine Xh 6 (by kernel_rfl) (fun K hK=>?_);simp only [Xj,List.toList_toArray])
  go_wp2_with fail
  refine hG.mono ?_
  rintro e W6 ⟨rfl,Fh6,Ft6,lb6,hp6,hc6,hl6⟩
  have HK6:=Lib.hid (HK5.out.upd HP5.out.1 HP5.out.2.1 HP5.out.2.2.1 HP5.out.2.2.2 hp6 hc6 hl6)
  obtain ⟨hr6,hrow⟩:=hp6.rowg (i:=k) (by show k < (P.ths.set k _).length;rw [List.length_set];exact hk)
  have r0:=hrow 0 _ rfl
  simp [GRo.l] at r0
  have b2:=HK6.out.b.cell 2;have b3:=HK6.out.b.cell 3;have b4:=HK6.out.b.cell 4;have b5:=HK6.out.b.cell 5
  simp [Yh.l,GOp.l,GAns.l] at b2 b3 b4 b5
  clear hp6 hc6 hl6 hrow HP5 HK5 hG
  go_wp2_with fail
  refine hK.out _ _ (fun _=>⟨r0,b2,b3,b4,b5⟩) ?_
  clear hK hS r0 b2 b3 b4 b5
  ((refine Xh 7 (by kernel_rfl) (fun K hK=>?_);simp only [Xj,List.toList_toArray]);go_wp2_with fail;refine hK.out _ _ (fun h=>absurd h (by omega)) ?_;clear hK)
  refine X9 (by kernel_rfl) ?_ _
  go_upto_region 14 with (fail)
  obtain ⟨bv3,ro3,Fh3,Ft3,lb3,hp,l1,l2,l3⟩:=HK6.out.p
  have hT6:(P.setV k T (T.V.give o)).ths[k]? = some { T with V:=T.V.give o }:=by show (P.ths.set k _)[k]? = _;rw [List.getElem?_set_self hk]
  obtain ⟨hr3,hrow⟩:=hp.rowg (i:=k) (lt_of_get hT6)
  obtain ⟨t1,t2,Fv3,hv,hq,hq1,hq2⟩:=hp.th k ro3[k] _ (List.getElem?_eq_getElem hr3) hT6
  simp only [hqu] at hq
  obtain ⟨qb3,qo3,qc3,hqv3,hqc3⟩:=own_form hq (by simp)
  have hoT:=hq
  rw [hqv3] at hoT
  have hoT:=own_tl oplen hoT
  have r1:=hrow 1 _ rfl
  simp [GRo.l,hqv3] at r1
  have f1:=own_fz hp.tho (g:=g) rfl (off+k*4+1)
  have hqc4:1≤qc3:=by simp at hqc3;omega
  have hlg3:lb3 g = 1:=hp.l1 g rfl
  have fin:∀ X Y:Nat,Own W6 35 4 (.slice (some ⟨qb3,X,none⟩) r.length Y) r.length (rows GOp.l r)→PK w lab gp gh (P.readied k T) ⟨some ⟨g,off,none⟩,P.ths.length,c⟩ w.heap.size bb ⟨k,!T.V.busy,MPa.beatOp T,false,false,.zero⟩ (W6.setCell ⟨g,off+k*4+1,none⟩ (.slice (some ⟨qb3,X,none⟩) r.length Y)):=fun X Y hoX=>by
   obtain ⟨Fh7,Ft7,lb7,hp7,hl7⟩:=hp.rowset HK6.out.e.lt hT6 hr3 rfl 1 (.slice (some ⟨qb3,X,none⟩) r.length Y) { ro3[k] with q:=⟨some ⟨qb3,X,none⟩,r.length,Y⟩ } { T with V:=T.V.give o,queue:=r } rfl (by decide) ⟨t1,t2,Fv3,hv,hoX,fun b hb=>by have:=hq1 b hb;rw [hqv3] at this;exact this,fun b=>by have:=hq2 b;rw [hqv3] at this;exact this⟩
   have q:=HK6.out.upd hp l1 l2 l3 hp7 (chg_set W6 g _ _ (by rw [hlg3];decide)) hl7
   have e1:P.readied k T = { P.setV k T (T.V.give o) with ths:=(P.setV k T (T.V.give o)).ths.set k { T with V:=T.V.give o,queue:=r } }:=by
    unfold MPa.readied MPa.setV
    simp only [List.set_set]
    rw [hrd,hqu]
    rfl
   rw [e1,show MPa.beatOp T = o from by unfold MPa.beatOp;rw [hbz,hqu];rfl,hbz]
   exact q
  have HF:=Lib.hid fin
  have HOT:=Lib.hid hoT
  clear fin hoT hp t1 t2 hv hq hq1 hq2 hrow hqv3 HK6 l1 l2 l3
  by_cases hc1:qc3 = 1
  subst hc1
  focus (
   go_wp2_with fail
   go_meet
   case rel=>exact HF.out qo3 0 HOT.out)
  focus (
   go_wp2_with fail
   go_meet
   case rel=>exact HF.out (qo3+4) (qc3 - 1) (by have:=HOT.out;rwa [if_neg hc1] at this))
 case rest =>
  have HK1:=Lib.hid hcut
  clear hcut hrd hbz HK
  rename World=>W7
  obtain ⟨S,hSS⟩:∃ S,((MPa.ready T).V.step P.heap).2.2 = S:=⟨_,rfl⟩
  go_upto_region 15 with (fail)
  go_cut [9,10] from 11 (fun s9 s10 wx=>s10 = .nilIface∧∃ sb,s9 = .pointer (some ⟨sb,0,none⟩)∧sb≠bb∧Bk wx sb 99 S.l.toArray∧PK w lab gp gh (P.stepped k T) ⟨some ⟨g,off,none⟩,P.ths.length,c⟩ w.heap.size bb ⟨k,!T.V.busy,MPa.beatOp T,false,false,.zero⟩ wx)
  case first =>
   have HK:=HK1
   clear HK1
   have HK2:=Lib.hid (HK.out.below (Below.refl W7.heap.size W7).drew)
   clear HK
   obtain ⟨bv3,ro3,Fh3,Ft3,lb3,hp,l1,l2,l3⟩:=HK2.out.p
   have hTr:(P.readied k T).ths[k]? = some (MPa.ready T):=by show (P.ths.set k _)[k]? = _;rw [List.getElem?_set_self hk]
   obtain ⟨hr3,hrow⟩:=hp.rowg (i:=k) (lt_of_get hTr)
   have r0:=hrow 0 _ rfl
   simp [GRo.l] at r0
   have c1:=hp.bk.cell 1
   simp at c1
   have hG:=step_pa hp HK2.out.e hTr hr3 hs
   refine X2 (fun w'=>w'.cell? ⟨g,off+k*4,none⟩ = some (.pointer (some ⟨ro3[k].gv,0,none⟩))∧w'.cell? ⟨gp,1,none⟩ = some (.pointer (some ⟨gh,0,none⟩))) 14 (by kernel_rfl) ⟨r0,c1⟩ (fun hS=>?_)
   clear r0 c1 hrow
   have HP7:=Lib.hid (And.intro hp (And.intro l1 (And.intro l2 l3)))
   clear hp l1 l2 l3
   generalize W7.drew = WA at *
   ((try simp only [Act.put,List.setIfInBounds_toArray,List.set_cons_succ,List.set_cons_zero]);refine vT (fuel:=7) hS [0,1,2,3,4,5,6,7] ?_;simp only [Xu,Xj,List.toList_toArray];(repeat (first | go_big_quiet_skip | (go_big_quiet_want;first | (go_big_quiet_op;go_big_quiet_on) | (apply Exists.intro;refine ⟨fun w' hS'=>?_,?_⟩;(· ((obtain ⟨q1,q2⟩:=hS');go_simp;first | done | rfl | exact ⟨rfl,rfl⟩));go_big_quiet_on;simp only [Act.put,List.setIfInBounds_toArray,List.set_cons_succ,List.set_cons_zero]))));refine wpQuiet_nil ?_;(try dsimp only))
   have fS:∀ (X:World) (PX:MPa) (FhX:List Nat) (FtX:Nat→Nat→Prop) (lbX:Nat→Nat),PaB X gp gh PX ⟨some ⟨g,off,none⟩,P.ths.length,c⟩ bv3 ro3 FhX FtX lbX→k < PX.ths.length→X.cell? ⟨g,off+k*4,none⟩ = some (.pointer (some ⟨ro3[k].gv,0,none⟩))∧X.cell? ⟨gp,1,none⟩ = some (.pointer (some ⟨gh,0,none⟩)):=fun X PX FhX FtX lbX hX hkX=>(by
    obtain ⟨_,hrow⟩:=hX.rowg hkX
    have r0:=hrow 0 _ rfl
    have c1:=hX.bk.cell 1
    simp [GRo.l] at r0 c1
    exact ⟨r0,c1⟩)
   have hkr:k < (P.readied k T).ths.length:=lt_of_get hTr
   have hks:k < ((P.readied k T).ths.set k { MPa.ready T with V:=((MPa.ready T).V.step (P.readied k T).heap).1 }).length:=(by rw [List.length_set];exact hkr)
   have est:({ P.readied k T with heap:=((MPa.ready T).V.step (P.readied k T).heap).2.1,ths:=(P.readied k T).ths.set k { MPa.ready T with V:=((MPa.ready T).V.step (P.readied k T).heap).1 } }:MPa) = P.stepped k T:=(by unfold MPa.stepped MPa.readied;simp only [List.set_set])
   have hA:=(Below.refl WA.heap.size WA).alloc (Nat.le_refl _) (.cells #[.bool false,.int .i64 0,.int .i64 0,.int .i64 0] 99)
   have HB1:=Lib.hid (HP7.out.1.cut.below hA)
   have hG2:=step_pa HB1.out (HK2.out.e.below hA) hTr hr3 hs
   have HA1:=Lib.hid hA
   have HX1:=Lib.hid (Bk.at_ (w:=WA) (g:=WA.heap.size) (cs:=#[.bool false,.int .i64 0,.int .i64 0,.int .i64 0]) (t:=99) rfl)
   clear hA
   refine wpT_two (i:=8) (j:=12) rfl rfl (by kernel_rfl) (fun K hK=>?_) (fun K hK=>?_)
   focus (
    go_wp2_with fail
    refine hG.mono ?_
    rintro e W8 ⟨rfl,Fh8,Ft8,lb8,hp8,hc8,hl8⟩
    have HK8:=Lib.hid (HK2.out.upd HP7.out.1 HP7.out.2.1 HP7.out.2.2.1 HP7.out.2.2.2 hp8 hc8 hl8)
    have HP8:=Lib.hid hp8
    clear hp8 hc8 hl8 hG hG2 HK2 HP7 HB1 HA1 HX1
    go_wp2_with fail
    refine hK.out _ _ ⟨fun _=>fS W8 _ _ _ _ HP8.out hks,?_⟩
    clear hK hS
    have hS:=fS W8 _ _ _ _ HP8.out hks
    ((try simp only [Act.put,List.setIfInBounds_toArray,List.set_cons_succ,List.set_cons_zero]);refine vT (fuel:=3) hS [9,10,11] ?_;simp only [Xu,Xj,List.toList_toArray];(repeat (first | go_big_quiet_skip | (go_big_quiet_want;first | (go_big_quiet_op;go_big_quiet_on) | (apply Exists.intro;refine ⟨fun w' hS'=>?_,?_⟩;(· (skip;go_simp;first | done | rfl | exact ⟨rfl,rfl⟩));go_big_quiet_on;simp only [Act.put,List.setIfInBounds_toArray,List.set_cons_succ,List.set_cons_zero]))));refine wpQuiet_nil ?_;(try dsimp only))
    have hA:=(Below.refl W8.heap.size W8).alloc (Nat.le_refl _) (.cells #[.bool false,.int .i64 0,.int .i64 0,.int .i64 0] 99)
    have HX9:=Lib.hid (Bk.at_ (w:=W8) (g:=W8.heap.size) (cs:=#[.bool false,.int .i64 0,.int .i64 0,.int .i64 0]) (t:=99) rfl)
    have hsb:W8.heap.size≠bb:=(by have:=HK8.out.b.lt;omega)
    (refine Xh 12 (by kernel_rfl) (fun K hK=>?_);simp only [Xj,List.toList_toArray])
    go_wp2_with fail
    refine hK.out _ _ (fun _=>fS _ _ _ _ _ (HP8.out.below hA) hks) ?_
    clear hK hS
    have hS:=fS _ _ _ _ _ (HP8.out.below hA) hks
    (refine Xh 13 (by kernel_rfl) (fun K hK=>?_);simp only [Xj,List.toList_toArray])
    go_wp2_with (refine vM HX9.out ?_;intro W9 hst;have hB9:=hst.below hA (Nat.le_refl _);have HS9:=Lib.hid hst.bk;have HK9:=Lib.hid (HK8.out.below hB9);have hS9:=fS _ _ _ _ _ (HP8.out.below hB9) hks;clear hst hB9)
    refine hK.out _ _ (fun _=>hS9) ?_
    clear hK hS hS9 hA HX9 HK8 HP8 fS
    generalize W8.heap.size = sb at *)
   rotate_left 1
   focus (
    go_wp2_with fail
    refine hK.out _ _ ⟨fun _=>fS _ _ _ _ _ HB1.out hkr,?_⟩
    clear hK hS hG
    have hS:=fS _ _ _ _ _ HB1.out hkr
    have HKB:=Lib.hid (HK2.out.below HA1.out)
    (refine Xh 8 (by kernel_rfl) (fun K hK=>?_);simp only [Xj,List.toList_toArray])
    go_wp2_with fail
    refine hG2.mono ?_
    rintro e W8 ⟨rfl,Fh8,Ft8,lb8,hp8,hc8,hl8⟩
    have m1:1000≤(if w.heap.size < WA.heap.size then lb3 w.heap.size else 1000):=(by have h0:=HP7.out.2.1;split <;> omega)
    have m2:1000≤(if bb < WA.heap.size then lb3 bb else 1000):=(by have h0:=HP7.out.2.2.1;split <;> omega)
    have m3:∀ b,(if b < WA.heap.size then lb3 b else 1000) < 1000→lab b < 1000∨w.heap.size≤b:=fun b hb=>(by split at hb;exact HP7.out.2.2.2 b hb;omega)
    have HK8:=Lib.hid (HKB.out.upd HB1.out m1 m2 m3 hp8 hc8 hl8)
    have hx8:Bk W8 WA.heap.size 99 #[.bool false,.int .i64 0,.int .i64 0,.int .i64 0]:=HX1.out.same (hc8.far _ HX1.out.lt (by show ¬ (if _ then _ else _) < 1000;rw [if_neg (by omega)];omega))
    have hlt8:=HX1.out.lt
    have ls:1000≤lb8 WA.heap.size:=(by
     rcases Nat.lt_or_ge (lb8 WA.heap.size) 1000 with h' | h'
     ·rcases hl8 _ h' with h2 | h2
      ·have h2:(if _ then _ else _) < 1000:=h2
       rw [if_neg (by omega)] at h2;omega
      ·omega
     ·exact h')
    have k1:1000≤lb8 w.heap.size:=(by
     rcases Nat.lt_or_ge (lb8 w.heap.size) 1000 with h' | h'
     ·have:=HKB.out.r.lt;rcases hl8 _ h' with h2 | h2;exact absurd h2 (Nat.not_lt.mpr m1);omega
     ·exact h')
    have k2:1000≤lb8 bb:=(by
     rcases Nat.lt_or_ge (lb8 bb) 1000 with h' | h'
     ·have:=HKB.out.b.lt;rcases hl8 _ h' with h2 | h2;exact absurd h2 (Nat.not_lt.mpr m2);omega
     ·exact h')
    have k3:∀ b,lb8 b < 1000→lab b < 1000∨w.heap.size≤b:=fun b hb=>(hl8 b hb).elim (m3 b) fun h'=>Or.inr (by have:=HKB.out.c.size;omega)
    have HP8:=Lib.hid hp8
    have HX8:=Lib.hid hx8
    have hsb:WA.heap.size≠bb:=(by have:=HK2.out.b.lt;omega)
    have hsr:WA.heap.size≠w.heap.size:=(by have:=HK2.out.r.lt;omega)
    have hsw:w.heap.size≤WA.heap.size:=HK2.out.c.size
    have hS9:=fS W8 _ _ _ _ hp8 hks
    clear hp8 hc8 hl8 hx8 hG2 HP7 HB1 HA1 HX1 HKB m1 m2 m3 HK2
    go_wp2_with fail
    refine hK.out _ _ (fun _=>hS9) ?_
    clear hK hS
    have hS:=hS9
    ((try simp only [Act.put,List.setIfInBounds_toArray,List.set_cons_succ,List.set_cons_zero]);refine vT (fuel:=2) hS [9,10,11] ?_;simp only [Xu,Xj,List.toList_toArray];(repeat (first | go_big_quiet_skip | (go_big_quiet_want;first | (go_big_quiet_op;go_big_quiet_on) | (apply Exists.intro;refine ⟨fun w' hS'=>?_,?_⟩;(· (skip;go_simp;first | done | rfl | exact ⟨rfl,rfl⟩));go_big_quiet_on;simp only [Act.put,List.setIfInBounds_toArray,List.set_cons_succ,List.set_cons_zero]))));refine wpQuiet_nil ?_;(try dsimp only))
    (refine Xh 13 (by kernel_rfl) (fun K hK=>?_);simp only [Xj,List.toList_toArray])
    go_wp2_with (refine vM HX8.out ?_;intro W9 hst;have HS9:=Lib.hid hst.bk;have HK9:=Lib.hid (HK8.out.other HP8.out k1 k2 k3 hst.grown ls hsr hsb hsw);have hS9:=fS W9 _ _ _ _ (HP8.out.same fun x hx hl=>hst.grown.block x hl fun e=>by cases e;omega) hks;clear hst)
    refine hK.out _ _ (fun _=>hS9) ?_
    clear hK hS hS9 HX8 HK8 HP8 fS ls k1 k2 k3 hsr hsw hlt8
    generalize WA.heap.size = sb at *)
   rotate_left 1
   all_goals (
    rw [est] at HK9
    ((refine Xh 14 (by kernel_rfl) (fun K hK=>?_);simp only [Xj,List.toList_toArray]);go_wp2_with fail;refine hK.out _ _ (fun h=>absurd h (by omega)) ?_;clear hK)
    refine X9 (by kernel_rfl) ?_ _
    have HSf:Bk W9 sb 99 S.l.toArray:=(by rw [← hSS];exact HS9.out)
    have HKf:=HK9.out
    clear est hks hkr hTr HS9 HK9
    go_wp2_with fail
    go_meet
    case rel=>exact ⟨rfl,sb,rfl,hsb,HSf,HKf⟩)
  case rest =>
   obtain ⟨rfl,sb,rfl,hsb,HSb,HKb⟩:=hcut
   have HS:=Lib.hid HSb
   have HK9:=Lib.hid HKb
   clear HSb HKb HK1
   rename World=>W9
   go_upto_region 18 with (fail)
   have HS2:=Lib.hid (HS.out.belowAll (Below.refl W9.heap.size W9).drew)
   have HK2:=Lib.hid (HK9.out.below (Below.refl W9.heap.size W9).drew)
   clear HS HK9
   have s0:=HS2.out.cell 0;have s1:=HS2.out.cell 1;have s2:=HS2.out.cell 2;have s3:=HS2.out.cell 3
   simp [GStride.l,GAns.l] at s0 s1 s2 s3
   have hF:∀ (X:World),Bk X sb 99 S.l.toArray→X.cell? ⟨sb,0,none⟩ = some (.bool S.over)∧X.cell? ⟨sb,1,none⟩ = some (.int .i64 S.ans.code)∧X.cell? ⟨sb,2,none⟩ = some (.int .i64 S.ans.val)∧X.cell? ⟨sb,3,none⟩ = some (.int .i64 S.real):=fun X hX=>(by
    have s0:=hX.cell 0;have s1:=hX.cell 1;have s2:=hX.cell 2;have s3:=hX.cell 3
    simp [GStride.l,GAns.l] at s0 s1 s2 s3
    exact ⟨s0,s1,s2,s3⟩)
   refine X2 (fun X=>X.cell? ⟨sb,0,none⟩ = some (.bool S.over)∧X.cell? ⟨sb,1,none⟩ = some (.int .i64 S.ans.code)∧X.cell? ⟨sb,2,none⟩ = some (.int .i64 S.ans.val)∧X.cell? ⟨sb,3,none⟩ = some (.int .i64 S.real)) 13 (by kernel_rfl) ⟨s0,s1,s2,s3⟩ (fun hS=>?_)
   clear s0 s1 s2 s3
   generalize W9.drew = W9 at *
   have b6:=HK2.out.b.cell 6;have f6:=HK2.out.b.free 6
   simp [Yh.l,GOp.l,GAns.l] at b6
   ((try simp only [Act.put,List.setIfInBounds_toArray,List.set_cons_succ,List.set_cons_zero]);refine vT (fuel:=5) hS [0,1,2,3,4,5,6,7] ?_;simp only [Xu,Xj,List.toList_toArray];(repeat (first | go_big_quiet_skip | (go_big_quiet_want;first | (go_big_quiet_op;go_big_quiet_on) | (apply Exists.intro;refine ⟨fun w' hS'=>?_,?_⟩;(· ((obtain ⟨q1,q2,q3,q4⟩:=hS');go_simp;first | done | rfl | exact ⟨rfl,rfl⟩));go_big_quiet_on;simp only [Act.put,List.setIfInBounds_toArray,List.set_cons_succ,List.set_cons_zero]))));refine wpQuiet_nil ?_;(try dsimp only))
   (refine Xh 8 (by kernel_rfl) (fun K hK=>?_);simp only [Xj,List.toList_toArray])
   go_wp2_with fail
   have G1:=Xq W9 bb 6 (.bool (S.real==0))
   have HB1:=Lib.hid (Yb (cs':=(Yh.l ⟨k,!T.V.busy,MPa.beatOp T,S.real==0,false,.zero⟩).toArray) (HK2.out.b.set_ 6 (.bool (S.real==0))) (by kernel_rfl))
   have HK3:=Lib.hid (HK2.out.box G1 HB1.out)
   have HS3:=Lib.hid (HS2.out.grown G1 (fun e=>hsb (by cases e;rfl)))
   refine hK.out _ (W9.setCell ⟨bb,6,none⟩ (.bool (S.real==0))) (fun _=>hF _ HS3.out) ?_
   clear hK hS b6 f6 G1 HB1 HK2 HS2
   generalize W9.setCell ⟨bb,6,none⟩ (.bool (S.real==0)) = W10 at *
   have hS:=hF _ HS3.out
   have b7:=HK3.out.b.cell 7;have f7:=HK3.out.b.free 7
   simp [Yh.l,GOp.l,GAns.l] at b7
   ((try simp only [Act.put,List.setIfInBounds_toArray,List.set_cons_succ,List.set_cons_zero]);refine vT (fuel:=3) hS [9] ?_;simp only [Xu,Xj,List.toList_toArray];(repeat (first | go_big_quiet_skip | (go_big_quiet_want;first | (go_big_quiet_op;go_big_quiet_on) | (apply Exists.intro;refine ⟨fun w' hS'=>?_,?_⟩;(· (skip;go_simp;first | done | rfl | exact ⟨rfl,rfl⟩));go_big_quiet_on;simp only [Act.put,List.setIfInBounds_toArray,List.set_cons_succ,List.set_cons_zero]))));refine wpQuiet_nil ?_;(try dsimp only))
   (refine Xh 10 (by kernel_rfl) (fun K hK=>?_);simp only [Xj,List.toList_toArray])
   go_wp2_with fail
   have G1:=Xq W10 bb 7 (.bool S.over)
   have HB1:=Lib.hid (Yb (cs':=(Yh.l ⟨k,!T.V.busy,MPa.beatOp T,S.real==0,S.over,.zero⟩).toArray) (HK3.out.b.set_ 7 (.bool S.over)) (by kernel_rfl))
   have HK4:=Lib.hid (HK3.out.box G1 HB1.out)
   have HS4:=Lib.hid (HS3.out.grown G1 (fun e=>hsb (by cases e;rfl)))
   refine hK.out _ (W10.setCell ⟨bb,7,none⟩ (.bool S.over)) (fun _=>hF _ HS4.out) ?_
   clear hK hS b7 f7 G1 HB1 HK3 HS3
   generalize W10.setCell ⟨bb,7,none⟩ (.bool S.over) = W11 at *
   have hS:=hF _ HS4.out
   ((try simp only [Act.put,List.setIfInBounds_toArray,List.set_cons_succ,List.set_cons_zero]);refine vT (fuel:=1) hS [11] ?_;simp only [Xu,Xj,List.toList_toArray];(repeat (first | go_big_quiet_skip | (go_big_quiet_want;first | (go_big_quiet_op;go_big_quiet_on) | (apply Exists.intro;refine ⟨fun w' hS'=>?_,?_⟩;(· (skip;go_simp;first | done | rfl | exact ⟨rfl,rfl⟩));go_big_quiet_on;simp only [Act.put,List.setIfInBounds_toArray,List.set_cons_succ,List.set_cons_zero]))));refine wpQuiet_nil ?_;(try dsimp only))
   (refine Xh 12 (by kernel_rfl) (fun K hK=>?_);simp only [Xj,List.toList_toArray])
   go_wp2_with (refine Ym (by rfl) _ _ _ (by rfl) bb 8 _ (by rfl) (by rfl) _ _ (Yh.l ⟨k,!T.V.busy,MPa.beatOp T,S.real==0,S.over,S.ans⟩).toArray HK4.out.b (Nat.le_of_ble_eq_true (by kernel_rfl)) (by kernel_rfl) (by rfl) (by kernel_rfl) ?_;intro W12 hst;have HK5:=Lib.hid (HK4.out.box hst.grown hst.bk);have HS5:=Lib.hid (HS4.out.grown hst.grown (fun e=>hsb (by cases e;rfl)));clear hst)
   refine hK.out _ _ (fun _=>hF _ HS5.out) ?_
   clear hK hS HK4 HS4
   refine X9 (by kernel_rfl) ?_ _
   have hT2:(P.stepped k T).ths[k]? = some { MPa.ready T with V:=((MPa.ready T).V.step P.heap).1 }:=by show (P.ths.set k _)[k]? = _;rw [List.getElem?_set_self hk]
   have s3:=(hF _ HS5.out).2.2.2
   obtain ⟨bv4,ro4,Fh4,Ft4,lb4,hp,l1,l2,l3⟩:=HK5.out.p
   obtain ⟨hr4,hrow⟩:=hp.rowg (lt_of_get hT2)
   have t2:ro4[k].last = T.last:=(hp.th k ro4[k] _ (List.getElem?_eq_getElem hr4) hT2).2.1.trans (ready_last T)
   have r3:=hrow 3 _ rfl
   simp [GRo.l,t2] at r3
   have HP:=Lib.hid (And.intro hp (And.intro l1 (And.intro l2 l3)))
   clear hp l1 l2 l3 hrow t2
   obtain ⟨bs,hbs⟩:∃ bs,(bif S.real==1 && decide (0≤T.last) then P.beats.modify T.last.toNat (fun b=>{ b with real:=true }) else P.beats) = bs:=⟨_,rfl⟩
   have hbn:bs.length = P.beats.length:=by rw [← hbs];cases S.real==1 && decide (0≤T.last) <;> simp
   have HBS:=Lib.hid hbs
   have HBN:=Lib.hid hbn
   have HSS:=Lib.hid hSS
   clear hbs hbn hSS
   go_upto_region 19 with (fail)
   go_cut [102] from 11 (fun s wx=>s = .bool (S.real==1 && decide (0≤T.last))∧W12 = wx)
   case first =>
    by_cases hx:S.real = 1
    rw [hx] at s3
    by_cases hy:0≤T.last
    focus (
     go_wp2_with fail
     go_meet
     case rel=>exact ⟨by rw [hx,decide_eq_true hy];rfl,rfl⟩)
    focus (
     go_wp2_with fail
     go_meet
     case rel=>exact ⟨by rw [hx,decide_eq_false (show ¬ 0≤T.last by omega)];rfl,rfl⟩)
    focus (
     go_wp2_with fail
     go_meet
     case rel=>exact ⟨by rw [show (S.real==1) = false from decide_eq_false hx];rfl,rfl⟩)
   case rest =>
    obtain ⟨rfl,rfl⟩:=hcut
    go_upto_if 102 with (fail)
    go_cut [] from 11 (fun wx=>PK w lab gp gh { P.stepped k T with beats:=bs } ⟨some ⟨g,off,none⟩,P.ths.length,c⟩ w.heap.size bb ⟨k,!T.V.busy,MPa.beatOp T,S.real==0,S.over,S.ans⟩ wx)
    case first =>
     by_cases hx:S.real = 1
     rw [hx] at s3
     by_cases hy:0≤T.last
     rotate_left 1
     focus (
      have ht:(S.real==1 && decide (0≤T.last)) = false:=(by rw [hx,decide_eq_false (show ¬ 0≤T.last by omega)];rfl)
      have HK6:Hid (PK w lab gp gh { P.stepped k T with beats:=bs } ⟨some ⟨g,off,none⟩,P.ths.length,c⟩ w.heap.size bb ⟨k,!T.V.busy,MPa.beatOp T,S.real==0,S.over,S.ans⟩ W12):=Lib.hid (by rw [← HBS.out,decide_eq_false (show ¬ 0≤T.last by omega),Bool.and_false];exact HK5.out)
      rw [ht]
      clear HP
      go_wp2_with fail
      go_meet
      case rel=>exact HK6.out)
     focus (
      have ht:(S.real==1 && decide (0≤T.last)) = false:=(by rw [show (S.real==1) = false from decide_eq_false hx];rfl)
      have HK6:Hid (PK w lab gp gh { P.stepped k T with beats:=bs } ⟨some ⟨g,off,none⟩,P.ths.length,c⟩ w.heap.size bb ⟨k,!T.V.busy,MPa.beatOp T,S.real==0,S.over,S.ans⟩ W12):=Lib.hid (by rw [← HBS.out,show (S.real==1) = false from decide_eq_false hx,Bool.false_and];exact HK5.out)
      rw [ht]
      clear HP
      go_wp2_with fail
      go_meet
      case rel=>exact HK6.out)
     have ht:(S.real==1 && decide (0≤T.last)) = true:=(by rw [hx,decide_eq_true hy];rfl)
     rw [ht]
     go_upto_region 20 with (fail)
     clear r3 s3 HP hr4
     have HKd:=Lib.hid (HK5.out.below (Below.refl W12.heap.size W12).drew)
     obtain ⟨bv4,ro4,Fh4,Ft4,lb4,hp,l1,l2,l3⟩:=HKd.out.p
     obtain ⟨hr4,hrow⟩:=hp.rowg (lt_of_get hT2)
     have t2:ro4[k].last = T.last:=(hp.th k ro4[k] _ (List.getElem?_eq_getElem hr4) hT2).2.1.trans (ready_last T)
     obtain ⟨i,hi0⟩:=Int.eq_ofNat_of_zero_le hy
     have hil:i < P.beats.length:=by omega
     have hil2:i < (P.stepped k T).beats.length:=hil
     have r3:=hrow 3 _ rfl
     simp [GRo.l,t2,hi0] at r3
     obtain ⟨g2,off2,c2,hb2,_⟩:=own_form hp.beo (by show 0 < P.beats.length;omega)
     have hb3:bv4 = ⟨some ⟨g2,off2,none⟩,P.beats.length,c2⟩:=by
      obtain ⟨ba,bn,bc⟩:=bv4
      unfold GSl.v at hb2
      injection hb2 with e1 e2 e3
      subst e1;subst e2;subst e3;rfl
     subst hb3
     have c3:=hp.bk.cell 3
     simp [GSl.v] at c3
     have c6:=own_row belen hp.beo i hil2 6 _ rfl
     have f6:=own_free hp.beo (off2+i*10+6)
     have Yw:=hp.beatset HKd.out.e.lt hT2 hr4 rfl i hil2
     have lg2:lb4 g2 = 2:=hp.l2 g2 rfl
     have HPd:=Lib.hid (And.intro hp (And.intro l1 (And.intro l2 l3)))
     clear hp l1 l2 l3 hrow t2 hb2 HK5 HS5 hF
     refine X2 (fun X=>X.cell? ⟨gp,3,none⟩ = some (.slice (some ⟨g2,off2,none⟩) P.beats.length c2)∧X.cell? ⟨g,off+k*4+3,none⟩ = some (.int .i64 i)) 8 (by kernel_rfl) ⟨c3,r3⟩ (fun hS=>?_)
     clear c3 r3
     generalize W12.drew = W12 at *
     ((try simp only [Act.put,List.setIfInBounds_toArray,List.set_cons_succ,List.set_cons_zero]);refine vT (fuel:=3) hS [0,1,2,3,4,5,6,7] ?_;simp only [Xu,Xj,List.toList_toArray];(repeat (first | go_big_quiet_skip | (go_big_quiet_want;first | (go_big_quiet_op;go_big_quiet_on) | (apply Exists.intro;refine ⟨fun w' hS'=>?_,?_⟩;(· ((obtain ⟨q1,q2⟩:=hS');go_simp;first | done | rfl | exact ⟨rfl,rfl⟩));go_big_quiet_on;simp only [Act.put,List.setIfInBounds_toArray,List.set_cons_succ,List.set_cons_zero]))));refine wpQuiet_nil ?_;(try dsimp only))
     clear hS
     ((refine Xh 8 (by kernel_rfl) (fun K hK=>?_);simp only [Xj,List.toList_toArray]);go_wp2_with fail;refine hK.out _ _ (fun h=>absurd h (by omega)) ?_;clear hK)
     ((refine Xh 9 (by kernel_rfl) (fun K hK=>?_);simp only [Xj,List.toList_toArray]);go_wp2_with fail;refine hK.out _ _ (fun h=>absurd h (by omega)) ?_;clear hK)
     (refine Xh 10 (by kernel_rfl) (fun K hK=>?_);simp only [Xj,List.toList_toArray])
     go_wp2_with fail
     refine hK.out _ _ (fun h=>absurd h (by omega)) ?_
     clear hK
     refine X9 (by kernel_rfl) ?_ _
     obtain ⟨Fh7,Ft7,lb7,hp7,hl7⟩:=Yw
     have HK6:Hid (PK w lab gp gh { P.stepped k T with beats:=bs } ⟨some ⟨g,off,none⟩,P.ths.length,c⟩ w.heap.size bb ⟨k,!T.V.busy,MPa.beatOp T,S.real==0,S.over,S.ans⟩ (W12.setCell ⟨g2,off2+i*10+6,none⟩ (.bool true))):=Lib.hid (by
      have q:=HKd.out.upd HPd.out.1 HPd.out.2.1 HPd.out.2.2.1 HPd.out.2.2.2 hp7 (chg_set W12 g2 _ _ (by rw [lg2];decide)) hl7
      have e1:(P.stepped k T).beats.set i { (P.stepped k T).beats[i] with real:=true } = bs:=by
       rw [← HBS.out,hx,decide_eq_true hy,hi0]
       exact (modify_set (fun b:Yh=>{ b with real:=true }) P.beats i hil).symm
      rw [← e1]
      exact q)
     generalize W12.setCell ⟨g2,off2+i*10+6,none⟩ (.bool true) = W12 at *
     clear hp7 hl7 HPd HKd c6 f6
     go_wp2_with fail
     go_meet
     case rel=>exact HK6.out
    case rest =>
     have HK6:=Lib.hid hcut
     clear hcut r3 s3 HP hr4 HK5 HS5 hF
     rename World=>WX
     obtain ⟨W12,rfl⟩:∃ W,W = WX:=⟨_,rfl⟩
     obtain ⟨⟨ba,bn,bc⟩,ro5,Fh5,Ft5,lb5,hp,l1,l2,l3⟩:=HK6.out.p
     have hT3:({ P.stepped k T with beats:=bs }:MPa).ths[k]? = some { MPa.ready T with V:=((MPa.ready T).V.step P.heap).1 }:=hT2
     obtain ⟨hr5,hrow⟩:=hp.rowg (lt_of_get hT3)
     obtain ⟨t1,t2,t3⟩:=hp.th k ro5[k] _ (List.getElem?_eq_getElem hr5) hT3
     have hn5:bn = bs.length:=(by
      obtain ⟨A,c',hv,_⟩:=Yq hp.beo
      unfold GSl.v at hv
      injection hv)
     subst hn5
     have c3:=hp.bk.cell 3
     simp [GSl.v] at c3
     have r3:=hrow 3 _ rfl
     simp [GRo.l,t2,ready_last] at r3
     have f3:=own_fz hp.tho (g:=g) rfl (off+k*4+3)
     have lg:lb5 g = 1:=hp.l1 g rfl
     obtain ⟨Fh6,Ft6,lb6,hp6,hl6⟩:=hp.rowset HK6.out.e.lt hT3 hr5 rfl 3 (.int .i64 bs.length) { ro5[k] with last:=bs.length } { MPa.ready T with V:=((MPa.ready T).V.step P.heap).1,last:=bs.length } rfl (by decide) ⟨t1,rfl,t3⟩
     have HK7:=Lib.hid (HK6.out.upd hp l1 l2 l3 hp6 (chg_set W12 g _ _ (by rw [lg];decide)) hl6)
     clear hp6 hl6 hp l1 l2 l3 t1 t2 t3 hrow HK6
     go_upto_region 22 with (fail)
     generalize W12.setCell ⟨g,off+k*4+3,none⟩ (.int .i64 bs.length) = W13 at *
     obtain ⟨B,hB⟩:∃ B:Yh,(⟨k,!T.V.busy,MPa.beatOp T,S.real==0,S.over,S.ans⟩:Yh) = B:=⟨_,rfl⟩
     rw [hB] at HK7
     have HB0:=Lib.hid hB
     clear hB
     have HK8:=Lib.hid (HK7.out.below (Below.refl W13.heap.size W13).drew)
     clear HK7 c3 r3 f3 lg hr5
     obtain ⟨⟨ba,bn,bc⟩,ro5,Fh5,Ft5,lb5,hp,l1,l2,l3⟩:=HK8.out.p
     have hT4:((P.stepped k T).ths.set k { MPa.ready T with V:=((MPa.ready T).V.step P.heap).1,last:=bs.length })[k]? = some { MPa.ready T with V:=((MPa.ready T).V.step P.heap).1,last:=bs.length }:=List.getElem?_set_self (lt_of_get hT2)
     have hn5:bn = bs.length:=(by
      obtain ⟨A,c',hv,_⟩:=Yq hp.beo
      unfold GSl.v at hv
      injection hv)
     subst hn5
     have c3:=hp.bk.cell 3
     simp [GSl.v] at c3
     have X0:=HK8.out.b
     refine X2 (fun X=>Bk X bb 42 B.l.toArray∧X.cell? ⟨gp,3,none⟩ = some (.slice ba bs.length bc)) 8 (by kernel_rfl) ⟨X0,c3⟩ (fun hS=>?_)
     clear c3 X0
     generalize W13.drew = W14 at *
     ((try simp only [Act.put,List.setIfInBounds_toArray,List.set_cons_succ,List.set_cons_zero]);refine vT (fuel:=5) hS [0,1,2,3,4,5] ?_;simp only [Xu,Xj,List.toList_toArray];(repeat (first | go_big_quiet_skip | (go_big_quiet_want;first | (go_big_quiet_op;go_big_quiet_on) | (apply Exists.intro;refine ⟨fun w' hS'=>?_,?_⟩;(· ((have q1:=hS'.2;have y0:=hS'.1.cell 0;have y1:=hS'.1.cell 1;have y2:=hS'.1.cell 2;have y3:=hS'.1.cell 3;have y4:=hS'.1.cell 4;have y5:=hS'.1.cell 5;have y6:=hS'.1.cell 6;have y7:=hS'.1.cell 7;have y8:=hS'.1.cell 8;have y9:=hS'.1.cell 9;simp [Yh.l,GOp.l,GAns.l] at y0 y1 y2 y3 y4 y5 y6 y7 y8 y9);go_simp;first | done | rfl | exact ⟨rfl,rfl⟩));go_big_quiet_on;simp only [Act.put,List.setIfInBounds_toArray,List.set_cons_succ,List.set_cons_zero]))));refine wpQuiet_nil ?_;(try dsimp only))
     (refine Xh 6 (by kernel_rfl) (fun K hK=>?_);simp only [Xj,List.toList_toArray])
     go_wp2_with fail
     have hA:=(Below.refl W14.heap.size W14).alloc (Nat.le_refl _) (.cells B.l.toArray 42)
     have hp2:=hp.below hA
     have HKa:=Lib.hid (HK8.out.below hA)
     obtain ⟨u,w7,hrun,ho,hg,hfr⟩:=own_beats_append (W14.alloc (.cells B.l.toArray 42)) _ bs hp2.beo (by have:=HBN.out;omega) B W14.heap.size (Bk.at_ rfl) 37
     obtain ⟨ua,uc,rfl,_⟩:=Yq ho
     have S2:Bk (W14.alloc (.cells B.l.toArray 42)) bb 42 B.l.toArray∧(W14.alloc (.cells B.l.toArray 42)).cell? ⟨gp,3,none⟩ = some (.slice ba bs.length bc):=⟨HKa.out.b,(by have c3:=hp2.bk.cell 3;simp [GSl.v] at c3;exact c3)⟩
     refine hK.out _ _ (fun _=>S2) ?_
     clear hK hS
     have hS:=S2
     have hz7:W14.heap.size+1≤w7.heap.size:=(by have:=hg.size;simpa using this)
     have hbb:bb < W14.heap.size:=HK8.out.b.lt
     have hgp:gp < W14.heap.size:=hp.bk.lt
     have nb:∀ x,(Value.slice ba bs.length bc).ownBlock = some x→lb5 x = 2:=fun x hx=>hp.l2 x hx
     have S3:Bk w7 bb 42 B.l.toArray∧w7.cell? ⟨gp,3,none⟩ = some (.slice ba bs.length bc):=⟨S2.1.grown hg (fun e=>by have:=nb bb e.symm;omega),(cell_blk (hg.block gp (by simp;omega) (fun e=>by have:=nb gp e.symm;rw [hp.l0] at this;omega)) 3).trans S2.2⟩
     obtain ⟨Fh7,Ft7,lb7,hp7,hl7⟩:=hp2.beatadd (u:=⟨ua,(bs++[B]).length,uc⟩) HKa.out.e.lt hT4 (by rw [hp2.len];exact lt_of_get hT4) ho hg hfr
     have chg:ChgP (fun b=>lb5 b < 1000) (W14.alloc (.cells B.l.toArray 42)) (w7.setCell ⟨gp,3,none⟩ (.slice ua (bs++[B]).length uc)):=chgP_seq (chg_grown hg fun x hx=>by rw [nb x hx];decide) (chg_set (Q:=fun b=>lb5 b < 1000) w7 gp 3 _ (by rw [hp.l0];decide)) fun b hb=>Or.inl hb
     have HKf:Hid (PK w lab gp gh Q.1 ⟨some ⟨g,off,none⟩,P.ths.length,c⟩ w.heap.size bb B (w7.setCell ⟨gp,3,none⟩ (.slice ua (bs++[B]).length uc))):=Lib.hid (by
      have q:=HKa.out.upd hp2 l1 l2 l3 hp7 chg hl7
      have e1:Q.1 = { P.stepped k T with ths:=(P.stepped k T).ths.set k { MPa.ready T with V:=((MPa.ready T).V.step P.heap).1,last:=bs.length },beats:=bs++[B] }:=by
       rw [← HQ.out,← HB0.out,HBN.out,← HBS.out,← HSS.out]
       unfold MPa.pickT MPa.stepped
       simp only [List.set_set]
      rw [e1]
      exact q)
     have c7:=S3.2
     have f7:=(hp2.bk.grown hg (fun e=>by have:=nb gp e.symm;rw [hp.l0] at this;omega)).free 3
     clear hp hp2 hA HKa l1 l2 l3 hp7 hl7 chg S2 hfr hg ho HK8 hT4 nb
     generalize hfl:(bs++[B]).length = fl at *
     (refine Xh 7 (by kernel_rfl) (fun K hK=>?_);simp only [Xj,List.toList_toArray])
     go_wp2_with (at_builtin;refine Ya (by rfl) _ _ _ _ _ _ _ (by rfl) (by rfl) (by rfl) hrun ?_)
     refine hK.out _ _ (fun _=>S3) ?_
     clear hK hS hrun
     ((refine Xh 8 (by kernel_rfl) (fun K hK=>?_);simp only [Xj,List.toList_toArray]);go_wp2_with fail;refine hK.out _ _ (fun h=>absurd h (by omega)) ?_;clear hK)
     ((refine Xh 9 (by kernel_rfl) (fun K hK=>?_);simp only [Xj,List.toList_toArray]);go_wp2_with fail;refine hK.out _ _ (fun h=>absurd h (by omega)) ?_;clear hK)
     (refine Xh 10 (by kernel_rfl) (fun K hK=>?_);simp only [Xj,List.toList_toArray])
     go_wp2_with fail
     refine hK.out _ _ (fun h=>absurd h (by omega)) ?_
     clear hK S3 c7 f7
     refine X9 (by kernel_rfl) ?_ _
     generalize w7.setCell ⟨gp,3,none⟩ (.slice ua fl uc) = W15 at *
     have y0:=HKf.out.b.cell 0;have y1:=HKf.out.b.cell 1;have y2:=HKf.out.b.cell 2;have y3:=HKf.out.b.cell 3;have y4:=HKf.out.b.cell 4;have y5:=HKf.out.b.cell 5;have y6:=HKf.out.b.cell 6;have y7:=HKf.out.b.cell 7;have y8:=HKf.out.b.cell 8;have y9:=HKf.out.b.cell 9
     simp [Yh.l,GOp.l,GAns.l] at y0 y1 y2 y3 y4 y5 y6 y7 y8 y9
     have HFI:Hid (Q.2 = B):=Lib.hid (by rw [← HQ.out,← HB0.out,← HSS.out];rfl)
     clear hi hs hl0 hl1 hbl hhas hh hid
     try clear hg
     try clear hbb
     go_wp2_with (refine vM HKf.out.r ?_;intro W16 hst;have z0:=hst.bk.cell 0;have z1:=hst.bk.cell 1;have z2:=hst.bk.cell 2;have z3:=hst.bk.cell 3;have z4:=hst.bk.cell 4;have z5:=hst.bk.cell 5;have z6:=hst.bk.cell 6;have z7:=hst.bk.cell 7;have z8:=hst.bk.cell 8;have z9:=hst.bk.cell 9;simp at z0 z1 z2 z3 z4 z5 z6 z7 z8 z9;have HST:=Lib.hid hst;clear hst y0 y1 y2 y3 y4 y5 y6 y7 y8 y9)
     refine bodyPost_ret (v:=.tuple #[.agg #[.int .i64 B.thread,.bool B.begins,.int .i64 B.op.kind,.int .i64 B.op.key,.int .i64 B.op.val,.int .i64 B.op.tall,.bool B.real,.bool B.ends,.int .i64 B.ans.code,.int .i64 B.ans.val],.nilIface]) (by simp [results,Tryz.results17,go_sem,z0,z1,z2,z3,z4,z5,z6,z7,z8,z9]) rfl ?_
     exact ⟨by rw [HFI.out];rfl,HKf.out.done HST.out.grown⟩
end Go.Proofs.YtaipogljokblkaaGreatDoor
