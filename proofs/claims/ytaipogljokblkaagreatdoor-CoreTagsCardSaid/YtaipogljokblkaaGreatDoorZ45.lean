/- Core: LI, LJ. -/
import Derived.Test.YtaipogljokblkaaGreatDoorZ43
import Derived.Test.YtaipogljokblkaaGreatDoorZ15
import Derived.Test.YtaipogljokblkaaGreatDoorZ44
set_option linter.all false
set_option maxRecDepth 100000
set_option maxHeartbeats 8000000
namespace Go.Proofs.YtaipogljokblkaaGreatDoor
open Go Go.RowKit
set_option linter.unusedSimpArgs false
set_option linter.unusedVariables false
set_option linter.unusedSectionVars false
structure HI (st:Int) (n:Nat) (p:Pl):Prop where
 nb:p.nb = 85
 ns:p.ns = n
 fex:∀ x∈p.free,1≤x∧x≤(n:Int)
 fnd:p.free.Nodup
 fus:∀ x∈p.free,(p.slot x).used = false
 rt:∀ r,0≤r→r < 24→CP st n (root r) (p.board r)
 cell:∀ s f,1≤s→s≤(n:Int)→0≤f→f < 10→WOk n ((p.slot s).cell f)
def Tags (p p':Pl):Prop:=∀ r,0≤r→r < 24→p'.board r = p.board r∨(p'.board r).tg = wr ((p.board r).tg+1)
theorem Tags.refl (p:Pl):Tags p p:=fun _ _ _=>Or.inl rfl
theorem nodup_len:∀ (n:Nat) (l:List Int),l.Nodup→(∀ x∈l,1≤x∧x≤(n:Int))→l.length≤n
 | 0,l,_,h=>by
  cases l with
  | nil=>exact Nat.le_refl 0
  | cons x r=>have:=h x (List.mem_cons_self ..);omega
 | n+1,l,hd,h=>by
  by_cases hm:((n+1:Nat):Int)∈l
  ·have h1:=nodup_len n (l.erase ((n+1:Nat):Int)) (hd.erase _) fun x hx=>by
    have hx':=(hd.mem_erase_iff).1 hx
    have:=h x hx'.2
    have:=hx'.1
    omega
   rw [List.length_erase_of_mem hm] at h1
   omega
  ·have h1:=nodup_len n l hd fun x hx=>by
    have:=h x hx
    have:x≠((n+1:Nat):Int):=fun e=>hm (e ▸ hx)
    omega
   omega
section
variable {st:Int} {n:Nat} {p:Pl} {a:GAcc} {w:Xf} {d:Yj}
theorem HI.len (h:HI st n p):p.free.length≤n:=nodup_len n p.free h.fnd h.fex
theorem HI.stp (h:HI st n p) (s:Int):HI st n { p with steps:=s }:=⟨h.nb,h.ns,h.fex,h.fnd,h.fus,h.rt,h.cell⟩
theorem HI.flt (h:HI st n p) (b:Bool):HI st n { p with fault:=b }:=⟨h.nb,h.ns,h.fex,h.fnd,h.fus,h.rt,h.cell⟩
theorem HI.get (h:HI st n p) (ha:AOk n d):WOk n (p.get d):=by
 unfold Pl.get
 rcases ha with ⟨h1,h2,h3,h4⟩ | ⟨h1,h2,h3,h4⟩
 ·rw [show (d.sl==0) = false from by simp;omega]
  exact h.cell _ _ h1 h2 h3 h4
 ·rw [show (d.sl==0) = true from by simp [h1]]
  exact (h.rt _ h3 h4).1
theorem HI.has (h:HI st n p) (ha:AOk n d∨d = root 24∨BrdA d):p.has d = true:=by
 unfold Pl.has Pl.exists_
 rw [h.nb,h.ns]
 rcases ha with (⟨h1,h2,h3,h4⟩ | ⟨h1,h2,h3,h4⟩) | rfl | ⟨h1,h2,h3,h4⟩
 ·rw [show (d.sl==0) = false from by simp;omega]
  simp;omega
 ·rw [show (d.sl==0) = true from by simp [h1]]
  simp;omega
 ·rfl
 ·rw [show (d.sl==0) = true from by simp [h1]]
  simp;omega
theorem HI.put (h:HI st n p) (ha:(AOn n d∧WOk n w)∨(AOk n d∧CP st n d w)∨BrdA d∨d = root 24):HI st n (p.put d w):=by
 unfold Pl.put
 have slot:AOn n d→WOk n w→HI st n { p with slot:=upd p.slot d.sl { p.slot d.sl with cell:=upd (p.slot d.sl).cell d.fd w } }:=fun ⟨h1,h2,h3,h4⟩ hw=>by
  refine ⟨h.nb,h.ns,h.fex,h.fnd,fun x hx=>?_,h.rt,fun s f a b c e=>?_⟩
  ·by_cases hs:x = d.sl
   ·subst hs
    show ((upd p.slot d.sl _) d.sl).used = false
    rw [upd_same];exact h.fus _ hx
   ·show ((upd p.slot d.sl _) x).used = false
    rw [upd_far _ _ hs];exact h.fus _ hx
  ·by_cases hs:s = d.sl
   ·subst hs
    show WOk n (((upd p.slot d.sl _) d.sl).cell f)
    rw [upd_same]
    by_cases hf:f = d.fd
    ·subst hf
     show WOk n (upd _ d.fd w d.fd)
     rw [upd_same];exact hw
    ·show WOk n (upd _ d.fd w f)
     rw [upd_far _ _ hf];exact h.cell _ _ a b c e
   ·show WOk n (((upd p.slot d.sl _) s).cell f)
    rw [upd_far _ _ hs];exact h.cell _ _ a b c e
 have brd:d.sl = 0→(0≤d.fd→d.fd < 24→CP st n (root d.fd) w)→HI st n { p with board:=upd p.board d.fd w }:=fun h0 hw=>by
  refine ⟨h.nb,h.ns,h.fex,h.fnd,h.fus,fun r a b=>?_,h.cell⟩
  by_cases hr:r = d.fd
  ·subst hr
   show CP st n _ (upd p.board d.fd w d.fd)
   rw [upd_same];exact hw a b
  ·show CP st n _ (upd p.board d.fd w r)
   rw [upd_far _ _ hr];exact h.rt r a b
 rcases ha with ⟨ha,hw⟩ | ⟨ha | ha,hw⟩ | hb | rfl
 ·rw [show (d.sl==0) = false from by simp;have:=ha.1;omega]
  exact slot ha hw
 ·rw [show (d.sl==0) = false from by simp;have:=ha.1;omega]
  exact slot ha hw.1
 ·rw [show (d.sl==0) = true from by simp [ha.1]]
  exact brd ha.1 fun _ _=>⟨hw.1,fun e1 _ e3=>hw.2 e1 ha.1 e3⟩
 ·rw [show (d.sl==0) = true from by simp [hb.1]]
  exact brd hb.1 fun _ h24=>by have:=hb.2.2.1;omega
 ·exact brd rfl fun _ h24=>by have h24:(24:Int) < 24:=h24;omega
theorem put_board (p:Pl) (d:Yj) (w:Xf) (r:Int):(p.put d w).board r = if d.sl = 0∧d.fd = r then w else p.board r:=by
 unfold Pl.put
 by_cases h:d.sl = 0
 ·rw [show (d.sl==0) = true from by simp [h]]
  show upd p.board d.fd w r = _
  by_cases hr:d.fd = r
  ·subst hr;rw [upd_same,if_pos ⟨h,rfl⟩]
  ·rw [upd_far _ _ (fun e=>hr e.symm),if_neg (fun e=>hr e.2)]
 ·rw [show (d.sl==0) = false from by simp [h],if_neg (fun e=>h e.1)]
  rfl
theorem HI.alloc (h:HI st n p) (b:Int):HI st n (p.alloc b).1∧WOk n (p.alloc b).2.word∧((p.alloc b).2.ok = true→WOn n (p.alloc b).2.word)∧(p.alloc b).1.board = p.board:=by
 unfold Pl.alloc
 cases hl:p.free.getLast? with
 | none=>exact ⟨h,Yi,fun e=>(by cases e),rfl⟩
 | some x =>
  obtain ⟨l,hl⟩:∃ l,p.free = l++[x]:=⟨p.free.dropLast,by
   have hne:p.free≠[]:=fun e=>by rw [e] at hl;cases hl
   have:=List.dropLast_concat_getLast hne
   rw [List.getLast?_eq_some_getLast hne] at hl
   cases hl
   exact this.symm⟩
  have hx:=h.fex x (by rw [hl];simp)
  have hd:p.free.dropLast = l:=by rw [hl];simp
  have nd:=h.fnd
  rw [hl] at nd
  have nx:∀ y∈l,y≠x:=fun y hy e=>by
   have:=List.nodup_append.1 nd
   exact this.2.2 y hy x (by simp) e
  simp only [hd]
  refine ⟨⟨h.nb,h.ns,fun y hy=>h.fex y (by rw [hl];exact List.mem_append_left _ hy),(List.nodup_append.1 nd).1,fun y hy=>?_,h.rt,fun s f a b c e=>?_⟩,⟨by show 0≤x;omega,hx.2,fun e=>by have e:x = 0:=e;omega⟩,fun _=>hx,trivial⟩
  ·show ((upd p.slot x _) y).used = false
   rw [upd_far _ _ (nx y hy)]
   exact h.fus y (by rw [hl];exact List.mem_append_left _ hy)
  ·by_cases hs:s = x
   ·subst hs
    show WOk n (((upd p.slot s _) s).cell f)
    rw [upd_same]
    by_cases hf:f = 9
    ·subst hf
     simp only [upd_same];exact wok_num
    ·simp only [upd_far _ _ hf];exact Yi
   ·show WOk n (((upd p.slot x _) s).cell f)
    rw [upd_far _ _ hs];exact h.cell _ _ a b c e
theorem HI.free (h:HI st n p) {s:Int} (h1:1≤s) (h2:s≤(n:Int)) (hu:(p.slot s).used = true):HI st n { p with slot:=upd p.slot s { p.slot s with used:=false },free:=p.free++[s] }:=by
 refine ⟨h.nb,h.ns,fun x hx=>?_,?_,fun x hx=>?_,h.rt,fun s' f a b c e=>?_⟩
 ·rcases List.mem_append.1 hx with hx | hx
  ·exact h.fex x hx
  ·rw [List.mem_singleton.1 hx];exact ⟨h1,h2⟩
 ·refine List.nodup_append.2 ⟨h.fnd,by simp,fun x hx y hy e=>?_⟩
  rw [List.mem_singleton.1 hy] at e
  subst e
  rw [h.fus x hx] at hu
  cases hu
 ·by_cases hs:x = s
  ·subst hs
   show ((upd p.slot x _) x).used = false
   rw [upd_same]
  ·show ((upd p.slot s _) x).used = false
   rw [upd_far _ _ hs]
   rcases List.mem_append.1 hx with hx | hx
   ·exact h.fus x hx
   ·exact absurd (List.mem_singleton.1 hx) hs
 ·by_cases hs:s' = s
  ·subst hs
   show WOk n (((upd p.slot s' _) s').cell f)
   rw [upd_same];exact h.cell _ _ a b c e
  ·show WOk n (((upd p.slot s _) s').cell f)
   rw [upd_far _ _ hs];exact h.cell _ _ a b c e
theorem right_of {k:Int} (hk:a.kind = k) (h4:k≠4) (h5:k≠5):p.right a = p.live a.adr.sl a.adr.gn:=by
 unfold Pl.right
 rw [show (a.kind==4) = false from by simp [hk,h4],show (a.kind==5) = false from by simp [hk,h5]]
 rfl
theorem act_ok (h:HI st n p) (ha:AccOk st n a):p.valid a = true∧HI st n (p.act a).1∧ARep st n a (p.act a).2∧Tags p (p.act a).1:=by
 have hS:=h.stp (wr (p.steps+1))
 have hF:=hS.flt true
 have bad:∀ k:Int,a.kind = k→k≠4→(st = 2→k = 1→a.adr.sl≠0)→ARep st n a (Pl.refused a.kind):=fun k hk h4 h1=>by
  have hw:WOk n (Pl.refused a.kind).word:=by
   unfold Pl.refused
   cases (a.kind==1 || a.kind==3)
   ·exact Yi
   ·exact wok_num
  exact ⟨fun _=>hw,fun e=>absurd (hk.symm.trans e) h4,fun s2 e e1=>absurd e1 (h1 s2 (hk.symm.trans e))⟩
 have live0:∀ q:Pl,a.adr.sl = 0→q.live a.adr.sl a.adr.gn = true:=fun q e=>by unfold Pl.live;rw [e];rfl
 unfold Pl.act
 simp only
 rcases ha with ⟨hk,ha⟩ | ⟨hk,ha⟩ | ⟨hk,ha⟩ | hk | ⟨hk,ho⟩
 ·have v:p.valid a = true:=by unfold Pl.valid;rw [hk];exact h.has ha
  refine ⟨v,?_⟩
  rw [right_of hk (by decide) (by decide)]
  cases hr:Pl.live { p with steps:=wr (p.steps+1) } a.adr.sl a.adr.gn with
  | false=>exact ⟨hF,bad 1 hk (by decide) fun _ _ e=>(by rw [live0 _ e] at hr;cases hr),Tags.refl _⟩
  | true =>
   have e:Pl.touch { p with steps:=wr (p.steps+1) } a = ({ p with steps:=wr (p.steps+1) },⟨Pl.get { p with steps:=wr (p.steps+1) } a.adr,true⟩):=by unfold Pl.touch;rw [hk];rfl
   rw [show (a.kind==4) = false from by simp [hk],show (a.kind==5) = false from by simp [hk]]
   simp only [Bool.not_true,cond_false,e]
   refine ⟨hS,⟨fun h'=>hS.get h',fun e'=>by omega,fun s2 _ e1 e2=>?_⟩,Tags.refl _⟩
   show WOn n (Pl.get _ a.adr)
   unfold Pl.get
   rw [show (a.adr.sl==0) = true from by simp [e1],e2]
   exact (h.rt 0 (by decide) (by decide)).2 s2 rfl rfl
 ·have v:p.valid a = true:=by unfold Pl.valid;rw [hk];exact h.has (ha.elim (fun h=>Or.inl (aon_aok h.1)) fun h=>Or.inr (Or.inr h))
  refine ⟨v,?_⟩
  rw [right_of hk (by decide) (by decide)]
  cases hr:Pl.live { p with steps:=wr (p.steps+1) } a.adr.sl a.adr.gn with
  | false=>exact ⟨hF,bad 2 hk (by decide) fun _ e=>(by cases e),Tags.refl _⟩
  | true =>
   have e:Pl.touch { p with steps:=wr (p.steps+1) } a = (Pl.put { p with steps:=wr (p.steps+1) } a.adr a.new,⟨.zero,true⟩):=by unfold Pl.touch;rw [hk];rfl
   rw [show (a.kind==4) = false from by simp [hk],show (a.kind==5) = false from by simp [hk]]
   simp only [Bool.not_true,cond_false,e]
   refine ⟨hS.put (ha.elim Or.inl fun h=>Or.inr (Or.inr (Or.inl h))),⟨fun _=>Yi,fun e'=>by omega,fun _ e'=>by omega⟩,fun r h0 h1=>Or.inl ?_⟩
   rw [put_board,if_neg]
   rintro ⟨e1,e2⟩
   rcases ha with ⟨h',_⟩ | h'
   ·have:=h'.1;omega
   ·have:=h'.2.2.1;omega
 ·have v:p.valid a = true:=by unfold Pl.valid;rw [hk];exact h.has (ha.elim (fun h=>Or.inl h.1) fun h=>Or.inr (Or.inl h))
  refine ⟨v,?_⟩
  rw [right_of hk (by decide) (by decide)]
  cases hr:Pl.live { p with steps:=wr (p.steps+1) } a.adr.sl a.adr.gn with
  | false=>exact ⟨hF,bad 3 hk (by decide) fun _ e=>(by cases e),Tags.refl _⟩
  | true =>
   have e:Pl.touch { p with steps:=wr (p.steps+1) } a = bif wsame (Pl.get { p with steps:=wr (p.steps+1) } a.adr) a.old then (Pl.put { p with steps:=wr (p.steps+1) } a.adr a.new,⟨Pl.get { p with steps:=wr (p.steps+1) } a.adr,true⟩) else ({ p with steps:=wr (p.steps+1) },⟨Pl.get { p with steps:=wr (p.steps+1) } a.adr,false⟩):=by unfold Pl.touch;rw [hk];rfl
   rw [show (a.kind==4) = false from by simp [hk],show (a.kind==5) = false from by simp [hk]]
   simp only [Bool.not_true,cond_false,e]
   have gk:∀ b:Bool,ARep st n a ⟨Pl.get { p with steps:=wr (p.steps+1) } a.adr,b⟩:=fun b=>⟨fun h'=>hS.get h',fun e'=>by omega,fun _ e'=>by omega⟩
   cases hs:wsame (Pl.get { p with steps:=wr (p.steps+1) } a.adr) a.old with
   | false=>exact ⟨hS,gk false,Tags.refl _⟩
   | true =>
    refine ⟨hS.put (ha.elim (fun h=>Or.inr (Or.inl ⟨h.1,h.2.1⟩)) fun h=>Or.inr (Or.inr (Or.inr h))),gk true,fun r h0 h1=>?_⟩
    show (Pl.put _ a.adr a.new).board r = _∨_
    rw [put_board]
    by_cases hc:a.adr.sl = 0∧a.adr.fd = r
    ·right
     simp only [cond_true]
     rw [put_board,if_pos hc]
     rcases ha with ⟨_,_,ht⟩ | ha
     ·rw [ht]
      have hg:(Pl.get { p with steps:=wr (p.steps+1) } a.adr) = p.board r:=by
       unfold Pl.get
       rw [show (a.adr.sl==0) = true from by simp [hc.1],hc.2]
       rfl
      rw [hg] at hs
      unfold wsame at hs
      simp only [Bool.and_eq_true,beq_iff_eq] at hs
      rw [hs.2.1]
     ·rw [ha] at hc
      have:(24:Int) = r:=hc.2
      omega
    ·left
     rw [if_neg hc]
 ·refine ⟨by unfold Pl.valid;rw [hk];rfl,?_⟩
  rw [show Pl.right { p with steps:=wr (p.steps+1) } a = true from by unfold Pl.right;rw [hk];rfl,show (a.kind==4) = true from by simp [hk]]
  simp only [Bool.not_true,cond_false,cond_true]
  obtain ⟨q1,q2,q3,q4⟩:=hS.alloc a.new.nm
  exact ⟨q1,⟨fun _=>q2,fun _=>⟨q2,q3⟩,fun _ e=>by omega⟩,fun r _ _=>Or.inl (by rw [q4])⟩
 ·refine ⟨by unfold Pl.valid Pl.exists_;rw [hk,h.ns];have:=ho.1;have:=ho.2;simp;omega,?_⟩
  have er:Pl.right { p with steps:=wr (p.steps+1) } a = Pl.live { p with steps:=wr (p.steps+1) } a.old.sl a.old.gn:=by unfold Pl.right;rw [hk];rfl
  rw [er]
  cases hr:Pl.live { p with steps:=wr (p.steps+1) } a.old.sl a.old.gn with
  | false=>exact ⟨hF,bad 5 hk (by decide) fun _ e=>(by cases e),Tags.refl _⟩
  | true =>
   rw [show (a.kind==4) = false from by simp [hk],show (a.kind==5) = true from by simp [hk]]
   simp only [Bool.not_true,cond_false,cond_true]
   have hu:(p.slot a.old.sl).used = true:=by
    unfold Pl.live at hr
    have:=ho.1
    rw [show (a.old.sl==0) = false from by simp;omega] at hr
    simp only [Bool.false_or,Bool.and_eq_true] at hr
    exact hr.1
   exact ⟨hS.free ho.1 ho.2 hu,⟨fun _=>Yi,fun e=>by omega,fun _ e=>by omega⟩,Tags.refl _⟩
end
def JI (st:Int) (n:Nat):GJob→Xg→Prop
 | .pile J,c=>st = 1∧PileI n J c
 | .cor J,c=>st = 2∧CorI n J c
 | .lit J,c=>st = 3∧LitI n J c
 | .vau J,c=>st = 4∧VauI n J c
 | .ste J,c=>st = 5∧SteI n J c
def OpF (st:Int) (o:GOp):Prop :=
 (st = 1∧o.key = 0∧o.tall = 0∧((o.kind = 1∧0≤o.val∧o.val≤1073741824)∨((o.kind = 2∨o.kind = 3)∧o.val = 0))) ∨
 (st = 2∧o.key = 0∧o.tall = 0∧((o.kind = 4∧0≤o.val∧o.val≤1073741824)∨(o.kind = 5∧o.val = 0))) ∨
 ((st = 3∨st = 4)∧0≤o.key∧o.key≤255∧o.tall = 0∧((o.kind = 6∧0≤o.val∧o.val≤1073741824)∨((o.kind = 7∨o.kind = 8)∧o.val = 0))) ∨
 (st = 5∧0≤o.key∧o.key≤255∧((o.kind = 6∧0≤o.val∧o.val≤1073741824∧1≤o.tall∧o.tall≤3)∨((o.kind = 7∨o.kind = 8)∧o.val = 0∧o.tall = 0)))
section
variable {st:Int} {n t:Nat} {J:GJob} {c:Xg} {x:Xi}
theorem job_ok (h:JI st n J c) (hc:c.kind≠12) (hx:XOk st n c x):JI st n (J.next x).1 (J.next x).2∧COk st n (J.next x).2∧Calm GJob.next 3 (J.next x).1 (J.next x).2:=by
 cases J with
 | pile J =>
  obtain ⟨rfl,h⟩:=h
  have q:=pile_ok (by decide) h hc hx
  have hp:0≤J.pc∧J.pc≤5:=by
   rcases h.2.1 with e | e
   ·exact absurd (h.2.2.1.1 e) hc
   ·exact e
  exact ⟨⟨rfl,q.1⟩,q.2,calm_map GJob.pile (fun _ _=>rfl) 3 (pile_calm x hp.1 hp.2)⟩
 | cor J =>
  obtain ⟨rfl,h⟩:=h
  have q:=cor_ok h hc hx
  have hp:0≤J.pc∧J.pc≤8:=by
   rcases h.2.2.2.1 with e | e
   ·exact absurd (h.2.2.2.2.1.1 e) hc
   ·exact e
  exact ⟨⟨rfl,q.1⟩,q.2,calm_map GJob.cor (fun _ _=>rfl) 3 (cor_calm x hp.1 hp.2 fun _=>hp.2)⟩
 | lit J =>
  obtain ⟨rfl,h⟩:=h
  have q:=lit_ok (by decide) h hc hx
  exact ⟨⟨rfl,q.1⟩,q.2,calm_map GJob.lit (fun _ _=>rfl) 3 (lit_calm x h hc)⟩
 | vau J =>
  obtain ⟨rfl,h⟩:=h
  have q:=vau_ok (by decide) h hc hx
  exact ⟨⟨rfl,q.1⟩,q.2,calm_map GJob.vau (fun _ _=>rfl) 3 (vau_calm x h hc hx.1)⟩
 | ste J =>
  obtain ⟨rfl,h⟩:=h
  have q:=ste_ok (by decide) h hc hx
  exact ⟨⟨rfl,q.1⟩,q.2,calm_map GJob.ste (fun _ _=>rfl) 3 (ste_calm x h hc)⟩
theorem k_center:center.kind = 1:=rfl
theorem job_new {o:GOp} (h:OpF st o):JI st n (GJob.new st o) center∧∀ x,inst ((GJob.new st o).next x).2 = false∧((GJob.new st o).next x).2.kind≠12:=by
 obtain ⟨k,key,val,tall⟩:=o
 simp only [OpF] at h
 rcases h with ⟨rfl,rfl,rfl,h⟩ | ⟨rfl,rfl,rfl,h⟩ | ⟨rfl | rfl,h3,h4,rfl,h⟩ | ⟨rfl,h3,h4,h⟩
 ·refine ⟨⟨rfl,?_⟩,fun x=>?_⟩
  ·show PileI n (Yg.new _) center
   simp only [PileI,Yg.new,Yg.zero,k_center]
   exact ⟨Yi,Or.inr ⟨by decide,by decide⟩,by simp,fun _=>⟨by simp,by simp⟩,by simp⟩
  ·show inst (Yg.next (Yg.new _) x).2 = false∧(Yg.next (Yg.new _) x).2.kind≠12
   rcases h with ⟨rfl,_⟩ | ⟨rfl | rfl,_⟩ <;> exact ⟨rfl,by first | (show (8:Int)≠12;decide) | (show (6:Int)≠12;decide)⟩
 ·refine ⟨⟨rfl,?_⟩,fun x=>?_⟩
  ·show CorI n (GCorJ.new _) center
   simp only [CorI,GCorJ.new,GCorJ.zero,k_center]
   exact ⟨Yi,Yi,Yi,Or.inr ⟨by decide,by decide⟩,by simp,fun _=>⟨by simp,by simp⟩,fun _=>⟨by simp,by simp,by simp⟩⟩
  ·show inst (GCorJ.next (GCorJ.new _) x).2 = false∧(GCorJ.next (GCorJ.new _) x).2.kind≠12
   rcases h with ⟨rfl,_⟩ | ⟨rfl,_⟩ <;> exact ⟨rfl,by first | (show (8:Int)≠12;decide) | (show (6:Int)≠12;decide)⟩
 ·have hk:k = 6∨k = 7∨k = 8:=by omega
  refine ⟨⟨rfl,?_⟩,fun x=>?_⟩
  ·show LitI n (Xn.from_ (root 0) key _) center
   simp only [LitI,Xn.from_,Xn.zero,k_center]
   exact ⟨aok_root (by decide) (by decide),fun W e=>(by cases e),Or.inr ⟨by decide,by decide⟩,by simp,hk,fun _=>⟨by simp,by simp,by simp⟩,fun _=>⟨by decide,by simp,by simp⟩,fun _=>⟨by decide,by simp,by simp⟩⟩
  ·show inst (Xn.next (Xn.from_ _ _ _) x).2 = false∧(Xn.next (Xn.from_ _ _ _) x).2.kind≠12
   rcases hk with rfl | rfl | rfl <;> exact ⟨rfl,by first | (show (8:Int)≠12;decide) | (show (6:Int)≠12;decide)⟩
 ·have hk:k = 6∨k = 7∨k = 8:=by omega
  refine ⟨⟨rfl,?_⟩,fun x=>?_⟩
  ·show VauI n (Xb.new _) center
   exact ⟨⟨Yi,Yi,Yi,fun W e=>(by cases e),hk,h3,by show key < 256;omega,Int.le_refl 0,by show (0:Int) < 8;decide,Int.le_refl 0,by show (0:Int) < 8;decide,Int.le_refl 0,by show (0:Int) < 8;decide⟩,Or.inr ⟨by decide,Or.inl rfl⟩⟩
  ·exact ⟨rfl,by show (3:Int)≠12;decide⟩
 ·refine ⟨⟨rfl,?_⟩,fun x=>?_⟩
  ·show SteI n (Xc.new _) center
   exact ⟨⟨Yi,fun W e=>(by cases e),by show (k = 6∧1≤tall∧tall≤3)∨k = 7∨k = 8;omega,Int.le_refl 0,by show (0:Int)≤3;decide⟩,Or.inr ⟨by decide,Or.inl rfl⟩⟩
  ·show inst (Xc.next (Xc.new _) x).2 = false∧(Xc.next (Xc.new _) x).2.kind≠12
   have hk:k = 6∨k = 7∨k = 8:=by omega
   rcases hk with rfl | rfl | rfl <;> exact ⟨rfl,by first | (show (8:Int)≠12;decide) | (show (6:Int)≠12;decide)⟩
theorem begin_busy (M:MR) (hc:COk st n c) (hi:inst c = false) (h12:c.kind≠12):(M.begin_ c).R.step≠0:=by
 unfold inst at hi
 simp only [Bool.or_eq_false_iff,beq_eq_false_iff_ne,ne_eq] at hi
 have go:∀ {k:Int},c.kind = k→k≠10→k≠11→M.begin_ c = ⟨M.R.begin1 c,M.ns,[],[]⟩:=fun {k} e a b=>by
  unfold MR.begin_
  rw [show (c.kind==10) = false from by simp [e,a],show (c.kind==11) = false from by simp [e,b]]
  rfl
 rcases hc with ⟨hk,_⟩ | ⟨hk,_⟩ | ⟨hk,_⟩ | ⟨hk,_⟩ | ⟨hk,_⟩ | hk | ⟨hk,_⟩ | ⟨hk,_⟩ | hk
 ·rw [go hk (by decide) (by decide)]
  show (M.R.begin1 c).step≠0
  unfold Xa.begin1;rw [hk];show (1:Int)≠0;decide
 ·rw [go hk (by decide) (by decide)]
  show (M.R.begin1 c).step≠0
  unfold Xa.begin1;rw [hk];show (1:Int)≠0;decide
 ·rw [go hk (by decide) (by decide)]
  show (M.R.begin1 c).step≠0
  unfold Xa.begin1;rw [hk];show (1:Int)≠0;decide
 ·rw [go hk (by decide) (by decide)]
  show (M.R.begin1 c).step≠0
  unfold Xa.begin1;rw [hk];show (5:Int)≠0;decide
 ·exact absurd hk hi.1
 ·rw [go hk (by decide) (by decide)]
  have e:M.R.begin1 c = (M.R.turn c).alloc:=by unfold Xa.begin1;rw [hk];rfl
  show (M.R.begin1 c).step≠0
  rw [e]
  unfold Xa.alloc
  cases (M.R.turn c).dating
  ·show (1:Int)≠0;decide
  ·show (8:Int)≠0;decide
 ·rw [go hk (by decide) (by decide)]
  show (M.R.begin1 c).step≠0
  unfold Xa.begin1;rw [hk];show (2:Int)≠0;decide
 ·exact absurd hk hi.2
 ·exact absurd hk h12
def VJob (st:Int) (n:Nat) (V:MV):Prop :=
 (V.doing = 1∧V.call = center∧∃ J,V.job = some J∧JI st n J V.call)∨(V.doing = 2∧V.call.kind≠12∧COk st n V.call∧∃ J,V.job = some J∧JI st n J V.call)∨(V.doing = 3∧V.call = cleave)∨(V.doing = 4∧V.call = cscan)
structure VL (st:Int) (n t:Nat) (V:MV):Prop where
 vst:V.st = st
 base:RBase n t V.M
 job:VJob st n V
 at_:(V.M.R.step≠0∧RBusy st n V.M V.call)∨(V.M.R.step = 0∧XOk st n V.call V.M.R.reply)
structure VI (st:Int) (n t:Nat) (V:MV):Prop where
 vst:V.st = st
 base:RBase n t V.M
 at_:(V.doing = 0∧V.M.R.step = 0)∨(V.M.R.step≠0∧RBusy st n V.M V.call∧VJob st n V)
theorem VI.up {V:MV} {t':Nat} (h:VI st n t V) (ht:t≤t'):VI st n t' V:=⟨h.vst,h.base.up ht,h.at_⟩
theorem VL.doing {V:MV} (h:VL st n t V):V.doing≠0:=by rcases h.job with h | h | h | h <;> (have:=h.1;omega)
theorem VL.vi {V:MV} (h:VL st n t V) (h0:V.M.R.step≠0):VI st n t V:=⟨h.vst,h.base,Or.inr ⟨h0,(h.at_.resolve_right fun e=>h0 e.1).2,h.job⟩⟩
theorem adv_q {V:MV} (h:V.quiet = true):∀ m,MV.adv m V = V
 | 0=>rfl
 | m+1=>by unfold MV.adv;rw [h];rfl
theorem adv_s {V:MV} (h:V.quiet = false) (m:Nat):MV.adv (m+1) V = MV.adv m V.adv1:=by
 show (bif V.quiet then V else MV.adv m V.adv1) = _
 rw [h];rfl
theorem q_busy {V:MV} (h:V.M.R.step≠0):V.quiet = true:=by
 unfold MV.quiet MV.busyR
 rw [show (V.M.R.step==0) = false from by simp [h]]
 simp
theorem q_idle {V:MV} (h:V.doing = 0):V.quiet = true:=by unfold MV.quiet;rw [h];rfl
theorem q_not {V:MV} (h:V.M.R.step = 0) (h0:V.doing≠0):V.quiet = false:=by
 unfold MV.quiet MV.busyR
 rw [h,show (V.doing==0) = false from by simp [h0]]
 rfl
theorem vl_begin {V:MV} {J:GJob} {d:Int} (hv:V.st = st) (hb:RBase n t V.M) (hc:CAny st n c) (hj:VJob st n { V with doing:=d,call:=c,M:=V.M.begin_ c }):VL st n (t+1) (V.begin_ d c):=by
 obtain ⟨h1,h2⟩:=rbegin hb hc
 exact ⟨hv,h1,hj,h2⟩
theorem adv_end {V:MV} (h:VL st n t V) (h0:V.M.R.step = 0) (hd:V.doing = 3∨V.doing = 4) (m:Nat):VI st n t (MV.adv (m+1) V)∧(MV.adv (m+1) V).doing = 0:=by
 rw [adv_s (q_not h0 h.doing)]
 have e:V.adv1 = { V with doing:=0 }:=by
  unfold MV.adv1
  rw [show (V.doing==1 || V.doing==2) = false from by rcases hd with h | h <;> rw [h] <;> rfl]
  rfl
 rw [e,adv_q (q_idle rfl)]
 exact ⟨⟨h.vst,h.base,Or.inl ⟨rfl,h0⟩⟩,rfl⟩
theorem adv_go:∀ (k m t:Nat) (V:MV) (J:GJob),VL st n t V→V.M.R.step = 0→(V.doing = 1∨V.doing = 2)→V.job = some J→Calm GJob.next k (J.next V.M.R.reply).1 (J.next V.M.R.reply).2→k+3≤m→VI st n (t+k+2) (MV.adv m V)
 | k,m,t,V,J,h,h0,hd,hj,hq,hm=>by
  obtain ⟨m,rfl⟩:∃ m',m = m'+1:=⟨m - 1,by omega⟩
  rw [adv_s (q_not h0 h.doing)]
  have hx:XOk st n V.call V.M.R.reply:=by
   rcases h.at_ with h | h
   ·exact absurd h0 h.1
   ·exact h.2
  have hJ:JI st n J V.call∧V.call.kind≠12:=by
   rcases h.job with ⟨_,e,J',e',q⟩ | ⟨_,e,_,J',e',q⟩ | ⟨e,_⟩ | ⟨e,_⟩
   ·rw [hj] at e';cases e';exact ⟨q,by rw [e];decide⟩
   ·rw [hj] at e';cases e';exact ⟨q,e⟩
   ·omega
   ·omega
  obtain ⟨q1,q2,q3⟩:=job_ok hJ.1 hJ.2 hx
  have ed:(V.doing==1 || V.doing==2) = true:=by rcases hd with h | h <;> rw [h] <;> rfl
  cases hk:((J.next V.M.R.reply).2.kind==12) with
  | true =>
   have hk':(J.next V.M.R.reply).2.kind = 12:=by simpa using hk
   have e:V.adv1 = MV.begin_ { V with job:=some (J.next V.M.R.reply).1,ans:=(J.next V.M.R.reply).2.ans } 3 cleave:=by
    unfold MV.adv1;rw [ed,hj];simp only [cond_true,hk,Bool.not_true,cond_false]
   rw [e]
   have hv:VL st n (t+1) (MV.begin_ { V with job:=some (J.next V.M.R.reply).1,ans:=(J.next V.M.R.reply).2.ans } 3 cleave) :=
    vl_begin (J:=J) (V:={ V with job:=some (J.next V.M.R.reply).1,ans:=(J.next V.M.R.reply).2.ans }) h.vst h.base (Or.inr (Or.inr (Or.inl rfl))) (Or.inr (Or.inr (Or.inl ⟨rfl,rfl⟩)))
   by_cases hb:(MV.begin_ { V with job:=some (J.next V.M.R.reply).1,ans:=(J.next V.M.R.reply).2.ans } 3 cleave).M.R.step = 0
   ·obtain ⟨m,rfl⟩:∃ m',m = m'+1:=⟨m - 1,by omega⟩
    exact (adv_end hv hb (Or.inl rfl) m).1.up (by omega)
   ·rw [adv_q (q_busy hb)]
    exact (hv.vi hb).up (by omega)
  | false =>
   have hk':(J.next V.M.R.reply).2.kind≠12:=by simpa using hk
   have e:V.adv1 = MV.begin_ { V with job:=some (J.next V.M.R.reply).1 } 2 (J.next V.M.R.reply).2:=by
    unfold MV.adv1;rw [ed,hj];simp only [cond_true,hk,Bool.not_false]
   rw [e]
   have hv:VL st n (t+1) (MV.begin_ { V with job:=some (J.next V.M.R.reply).1 } 2 (J.next V.M.R.reply).2) :=
    vl_begin (J:=J) (V:={ V with job:=some (J.next V.M.R.reply).1 }) h.vst h.base (Or.inl ⟨q2,hk'⟩) (Or.inr (Or.inl ⟨rfl,hk',q2,_,rfl,q1⟩))
   by_cases hb:(MV.begin_ { V with job:=some (J.next V.M.R.reply).1 } 2 (J.next V.M.R.reply).2).M.R.step = 0
   ·have hi:inst (J.next V.M.R.reply).2 = true:=by
     cases h:inst (J.next V.M.R.reply).2 with
     | true=>rfl
     | false=>exact absurd hb (begin_busy V.M q2 h hk')
    cases k with
    | zero=>rw [show Calm GJob.next 0 _ _ = (inst (J.next V.M.R.reply).2 = false) from rfl,hi] at hq;cases hq
    | succ k =>
     exact (adv_go k m (t+1) _ _ hv hb (Or.inr rfl) rfl (hq hi _) (by omega)).up (by omega)
   ·rw [adv_q (q_busy hb)]
    exact (hv.vi hb).up (by omega)
theorem advance_ok {V:MV} (h:VL st n t V):VI st n (t+5) V.advance:=by
 unfold MV.advance
 by_cases h0:V.M.R.step = 0
 ·have hx:XOk st n V.call V.M.R.reply:=by
   rcases h.at_ with h | h
   ·exact absurd h0 h.1
   ·exact h.2
  rcases h.job with ⟨hd,e,J,hj,q⟩ | ⟨hd,e,hc,J,hj,q⟩ | ⟨hd,e⟩ | ⟨hd,e⟩
  ·exact adv_go 3 16 t V J h h0 (Or.inl hd) hj (job_ok q (by rw [e];decide) hx).2.2 (by decide)
  ·exact adv_go 3 16 t V J h h0 (Or.inr hd) hj (job_ok q e hx).2.2 (by decide)
  ·exact (adv_end h h0 (Or.inl hd) 15).1.up (by omega)
  ·exact (adv_end h h0 (Or.inr hd) 15).1.up (by omega)
 ·rw [adv_q (q_busy h0)]
  exact (h.vi h0).up (by omega)
theorem took_vl {V:MV} {p:Pl} (h:VI st n t V) (hd:V.doing≠0) (hp:HI st n p):V.M.R.step≠0∧RBusy st n V.M V.call∧VL st n (t+1) { V with M:=V.M.took (p.act V.M.R.acc).2 }:=by
 rcases h.at_ with ⟨e,_⟩ | ⟨h0,hb,hj⟩
 ·exact absurd e hd
 ·obtain ⟨h1,h2⟩:=rtook h.base hb h0 (act_ok hp hb.b.2.1).2.2.1
  exact ⟨h0,hb,h.vst,h1,hj,h2⟩
theorem step_ok {V:MV} {p:Pl} (h:VI st n t V) (hd:V.doing≠0) (hp:HI st n p):VI st n (t+6) (V.step p).1∧HI st n (V.step p).2.1∧Tags p (V.step p).2.1:=by
 obtain ⟨h0,hb,hv⟩:=took_vl h hd hp
 have ha:=act_ok hp hb.b.2.1
 exact ⟨(advance_ok hv).up (by omega),ha.2.1,ha.2.2.2⟩
theorem give_vl {V:MV} {o:GOp} (h:VI st n t V) (h0:V.doing = 0) (ho:OpF st o):VL st n (t+1) (MV.begin_ { V with op:=o,job:=some (GJob.new V.st o),ans:=.zero } 1 center):=by
 have e:=h.vst
 have hs:JI st n (GJob.new V.st o) center:=by rw [e];exact (job_new ho).1
 exact vl_begin (J:=GJob.new V.st o) (V:={ V with op:=o,job:=some (GJob.new V.st o),ans:=.zero }) h.vst h.base (Or.inr (Or.inl rfl)) (Or.inl ⟨rfl,rfl,_,rfl,hs⟩)
theorem give_ok {V:MV} {o:GOp} (h:VI st n t V) (h0:V.doing = 0) (ho:OpF st o):VI st n (t+6) (V.give o)∧(V.give o).doing≠0:=by
 have hv:=give_vl h h0 ho
 refine ⟨(advance_ok hv).up (by omega),?_⟩
 have e:=h.vst
 have hf:=(job_new (n:=n) ho).2
 unfold MV.give MV.advance
 by_cases hb:(MV.begin_ { V with op:=o,job:=some (GJob.new V.st o),ans:=.zero } 1 center).M.R.step = 0
 ·rw [adv_s (q_not hb hv.doing)]
  have hx:XOk st n center (MV.begin_ { V with op:=o,job:=some (GJob.new V.st o),ans:=.zero } 1 center).M.R.reply:=by
   rcases hv.at_ with h | h
   ·exact absurd hb h.1
   ·exact h.2
  obtain ⟨q1,q2,q3⟩:=job_ok (job_new (n:=n) ho).1 (by decide) hx
  obtain ⟨f1,f2⟩:=hf (MV.begin_ { V with op:=o,job:=some (GJob.new V.st o),ans:=.zero } 1 center).M.R.reply
  rw [← e] at f1 f2 q2
  have e1:(MV.begin_ { V with op:=o,job:=some (GJob.new V.st o),ans:=.zero } 1 center).adv1 = MV.begin_ { MV.begin_ { V with op:=o,job:=some (GJob.new V.st o),ans:=.zero } 1 center with job:=some ((GJob.new V.st o).next (MV.begin_ { V with op:=o,job:=some (GJob.new V.st o),ans:=.zero } 1 center).M.R.reply).1 } 2 ((GJob.new V.st o).next (MV.begin_ { V with op:=o,job:=some (GJob.new V.st o),ans:=.zero } 1 center).M.R.reply).2:=by
   have ek:(!(((GJob.new V.st o).next (MV.begin_ { V with op:=o,job:=some (GJob.new V.st o),ans:=.zero } 1 center).M.R.reply).2.kind==12)) = true:=by simp [f2]
   show (bif !(((GJob.new V.st o).next (MV.begin_ { V with op:=o,job:=some (GJob.new V.st o),ans:=.zero } 1 center).M.R.reply).2.kind==12) then _ else _) = _
   rw [ek];rfl
  rw [e1,adv_q (q_busy (begin_busy _ q2 f1 f2))]
  show (2:Int)≠0
  decide
 ·rw [adv_q (q_busy hb)]
  show (1:Int)≠0
  decide
end
end Go.Proofs.YtaipogljokblkaaGreatDoor
