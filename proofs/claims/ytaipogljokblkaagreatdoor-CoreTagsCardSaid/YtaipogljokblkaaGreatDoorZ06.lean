/- Core: SymL. -/
import Derived.Test.YtaipogljokblkaaGreatDoorZ05
import Derived.LoopN
set_option linter.all false
set_option maxRecDepth 100000
set_option maxHeartbeats 8000000
namespace Go.Proofs.YtaipogljokblkaaGreatDoor
open Go Go.RowKit
set_option linter.unusedSimpArgs false
set_option linter.unusedVariables false
set_option linter.unusedSectionVars false
section
variable {e:Env} {β k:Nat→Nat}
theorem hasL_mem {l:Nat}:∀ {ls:List Nat},hasL l ls = true↔l∈ls
 | []=>by simp [hasL]
 | x :: r=>by
  simp only [hasL,Bool.or_eq_true,beq_iff_eq,hasL_mem (ls:=r),List.mem_cons]
  constructor
  ·rintro (h | h)
   ·exact Or.inl h.symm
   ·exact Or.inr h
  ·rintro (h | h)
   ·exact Or.inl h.symm
   ·exact Or.inr h
structure Alike (ls:List Nat) (β k:Nat→Nat):Prop where
 ev1:∀ g,β (2*g) = g
 ev2:∀ g,k (2*g) = g
 on:∀ l∈ls,β l = k l
theorem Alike.at_ {ls:List Nat} (h:Alike ls β k) {l:Nat} (hl:(l % 2==0 || hasL l ls) = true):β l = k l:=by
 simp only [Bool.or_eq_true,beq_iff_eq,hasL_mem] at hl
 rcases hl with hl | hl
 ·obtain ⟨g,rfl⟩:∃ g,l = 2*g:=⟨l / 2,by omega⟩
  rw [h.ev1,h.ev2]
 ·exact h.on l hl
theorem okC_den {ls:List Nat} (h:Alike ls β k) {x:SC} (hx:okC ls x = true):x.den e β = x.den e k:=by
 cases x <;> first | rfl | (simp only [okC] at hx;simp only [SC.den,h.at_ hx])
theorem okCs_den {ls:List Nat} (h:Alike ls β k):∀ {l:List SC},okCs ls l = true→Ye e β l = Ye e k l:=by
 intro l hl
 unfold Ye
 congr 1
 induction l with
 | nil=>rfl
 | cons x r ih =>
  simp only [okCs,Bool.and_eq_true] at hl
  simp only [List.map_cons,okC_den h hl.1,ih hl.2]
theorem okP_den {ls:List Nat} (h:Alike ls β k):∀ {l:List (Bool × List SC)},okP ls l = true→l.map (denP e β) = l.map (denP e k)
 | [],_=>rfl
 | (b,cs) :: r,hl=>by
  simp only [okP,Bool.and_eq_true] at hl
  simp only [List.map_cons,okP_den h hl.2]
  congr 1
  unfold denP
  cases b with
  | true=>simp only [if_true,okCs_den h hl.1]
  | false =>
   simp only [Bool.false_eq_true,if_false]
   cases cs with
   | nil=>rfl
   | cons x s =>
    have:=hl.1
    simp only [okCs,Bool.and_eq_true] at this
    exact okC_den h this.1
theorem okV_den {ls:List Nat} (h:Alike ls β k) {v:SV} (hv:okV ls v = true):v.den e β = v.den e k:=by
 cases v with
 | c x=>exact okC_den h hv
 | agg l=>simp only [SV.den,okCs_den h hv]
 | tup l=>simp only [SV.den,okP_den h hv]
theorem okH_mem {ls:List Nat}:∀ {h:Heap},okH ls h = true→∀ x∈h,okCs ls x.2.2 = true
 | [],_,x,hx=>by cases hx
 | y :: r,h,x,hx=>by
  simp only [okH,Bool.and_eq_true] at h
  rcases List.mem_cons.1 hx with rfl | hx
  ·exact h.1
  ·exact okH_mem h.2 x hx
theorem keepH_mem {ls:List Nat} {x:Nat × TypeId × List SC}:∀ {h:Heap},x∈keepH ls h→x∈h
 | [],hx=>by cases hx
 | y :: r,hx=>by
  unfold keepH at hx
  split at hx
  ·rcases List.mem_cons.1 hx with rfl | hx
   ·simp
   ·exact List.mem_cons_of_mem _ (keepH_mem hx)
  ·exact List.mem_cons_of_mem _ (keepH_mem hx)
theorem allL_mem {ls:List Nat}:∀ {r:List Nat},allL ls r = true→∀ l∈r,l∈ls
 | [],_,l,hl=>by cases hl
 | x :: r,h,l,hl=>by
  simp only [allL,Bool.and_eq_true] at h
  rcases List.mem_cons.1 hl with rfl | hl
  ·exact hasL_mem.1 h.1
  ·exact allL_mem h.2 l hl
theorem gcS_spec {old:Heap} {v:SV} {h h2:Heap} (hg:gcS old v h = some h2):(∀ x∈h2,x∈h)∧(∀ l∈Yf old,l∈Yf h2)∧∃ ls,(∀ l∈ls,l∈Yf h2)∧okV ls v = true∧∀ x∈h2,okCs ls x.2.2 = true:=by
 unfold gcS at hg
 simp only at hg
 split at hg
 ·rename_i hc
  cases hg
  simp only [Bool.and_eq_true] at hc
  exact ⟨fun x hx=>keepH_mem hx,allL_mem hc.2,Yf old,allL_mem hc.2,hc.1.1,okH_mem hc.1.2⟩
 ·split at hg
  ·rename_i hc
   cases hg
   simp only [Bool.and_eq_true] at hc
   exact ⟨fun x hx=>keepH_mem hx,allL_mem hc.2,_,fun l hl=>hl,hc.1.1,okH_mem hc.1.2⟩
  ·cases hg
end
section
variable {P:Program} {e:Env} {B:Base} {k:Nat→Nat} {st:St} {a:Act} {w:World}
theorem HInv.gc {h h2:Heap} {ph:Nat} {old:Heap} {v:SV} (H:HInv e B k ph h w) (hB:B.lab = Yf old) (hg:gcS old v h = some h2) :
  HInv e B k ph h2 w∧∀ β,Agr k h2 β→v.den e β = v.den e k:=by
 obtain ⟨h1,h3,ls,h4,h5,h6⟩:=gcS_spec hg
 have al:∀ β,Agr k h2 β→Alike ls β k:=fun β hβ=>⟨hβ.1,H.good,fun l hl=>by
  obtain ⟨x,hx,rfl⟩:=mem_labsH.1 (h4 l hl)
  exact hβ.2 x hx⟩
 refine ⟨⟨H.good,fun β hβ x hx=>?_,fun x hx y hy=>H.inj x (h1 x hx) y (h1 y hy),H.ext,fun x hx=>H.new x (h1 x hx),fun l hl=>mem_labsH.1 (h3 l (hB ▸ hl)),H.os,H.tape,H.output,H.size,H.frm,opq_same H.opq (Nat.le_refl _) fun F a _=>⟨fun _ _=>rfl,fun x hx=>a x (h1 x hx)⟩⟩,fun β hβ=>okV_den (al β hβ) h5⟩
 have hk:=H.heap k H.agr x (h1 x hx)
 rw [hβ.2 x hx,okCs_den (al β hβ) (h6 x hx)]
 exact hk
def resVal (tmps:Array Value):ResultVar→Sem Value
 | .tmp t=>pure (tmps.getD t undef)
 | .cell x t=>do loadVar t (← asAddr (tmps.getD x undef))
theorem res_one {r:ResultVar} {v:SV} (I:Inv e B k st a w) (h:resOne P st r = some v):(resVal a.tmps r).run P w = .ok (v.den e k) w:=by
 unfold resOne at h
 unfold resVal
 cases r with
 | tmp t =>
  simp only [Option.some.injEq] at h
  subst h
  simp only [Sem.run_pure]
  rw [I.f.tmps k I.agr t]
 | cell x t =>
  simp only at h
  split at h
  ·rename_i l i hx
   split at h
   ·rename_i ty cs hl
    have h1:a.tmps.getD x undef = .pointer (some ⟨k l,i,none⟩):=by rw [I.f.tmps k I.agr x,hx];rfl
    simp only [h1,asAddr,Sem.run_bind,Sem.run_pure,Result.andThen_ok]
    exact loadVar_run (I.h.heap k I.agr _ (mem_lookH hl)) h
   ·cases h
  ·cases h
theorem comp_den {v:SV} {p:Bool × List SC} (h:v.comp = some p):denP e k p = v.den e k:=by
 cases v <;> cases h <;> rfl
theorem res_all (I:Inv e B k st a w):∀ {l:List ResultVar} {ps:List (Bool × List SC)},resAll P st l = some ps →
  (l.mapM (resVal a.tmps)).run P w = .ok (ps.map (denP e k)) w
 | [],ps,h=>by cases h;simp
 | r :: rs,ps,h=>by
  unfold resAll at h
  split at h
  ·rename_i v l hv hl
   split at h
   ·rename_i p hp
    cases h
    rw [List.mapM_cons]
    simp only [Sem.run_bind,res_one I hv,Result.andThen_ok,res_all I hl,Sem.run_pure,List.map_cons,comp_den hp]
   ·cases h
  ·cases h
theorem res_run {fn:Func} {v:SV} (I:Inv e B k st a w) (h:resS P fn st = some v):(results fn a.tmps).run P w = .ok (v.den e k) w:=by
 have h0:results fn a.tmps = (do
   let vs ← fn.results.mapM (resVal a.tmps)
   pure (if h:vs.size = 1 then vs[0] else .tuple vs)):=by
  unfold results
  congr 1
 rw [h0,Array.mapM_eq_mapM_toList]
 unfold resS at h
 split at h
 ·rename_i r hr
  rw [hr]
  have h1:=res_one I h
  simp only [List.mapM_cons,List.mapM_nil]
  simp only [Sem.run_bind,Sem.run_map,h1,Result.andThen_ok,Sem.run_pure]
  rfl
 ·rename_i hr
  split at h
  ·rename_i l hl
   cases h
   have h1:=res_all I hl
   simp only [Sem.run_bind,Sem.run_map,h1,Result.andThen_ok,Sem.run_pure]
   have hlen:∀ {l':List ResultVar} {ps},resAll P st l' = some ps→ps.length = l'.length:=by
    intro l'
    induction l' with
    | nil=>intro ps h;cases h;rfl
    | cons r rs ih =>
     intro ps h
     unfold resAll at h
     split at h
     ·rename_i hl2
      split at h
      ·cases h;simp [ih hl2]
      ·cases h
     ·cases h
   have h2:=hlen hl
   have h3:(l.map (denP e k)).toArray.size≠1:=by
    simp only [List.size_toArray,List.length_map,h2]
    intro h4
    match hq:fn.results.toList with
    | []=>rw [hq] at h4;cases h4
    | [r]=>exact hr r hq
    | _ :: _ :: _=>rw [hq] at h4;simp at h4
   rw [dif_neg h3]
   rfl
  ·cases h
end
def exOf:Ex→Exit
 | .normal=>.normal
 | .exit i=>.exit i
 | .ret=>.ret
def callE (P:Program) (S:List Xs) (n:Nat):Nat→List SV→St→Xy (SV × St):=fun f args s=>(exec P S n (.call f args) s).bind fun r=>.leaf r.2
def half (i:Nat):Nat:=i / 2
def SumOk (P:Program) (e:Env) (s:Xs):Prop :=
 if s.self then ∀ g w,Bk w g s.ty (Ye e half s.cells)→∀ args':Array Value,args' = (Value.pointer (some ⟨g,0,none⟩) :: s.rest.map (SV.den e half)).toArray→(callFunc s.f args').run P w = .ok (.enter s.f args') w ∧
  Calls P s.f args' w fun en w'=>en = .returned (s.out.den e half)∧Bk w' g s.ty (Ye e half s.cells')∧w.grownBy w' (some g)
 else ∀ w,∀ args':Array Value,args' = (s.rest.map (SV.den e half)).toArray→(callFunc s.f args').run P w = .ok (.enter s.f args') w ∧
  Calls P s.f args' w fun en w'=>en = .returned (s.out.den e half)∧Below w.heap.size w w'
def EffOk (P:Program) (e:Env) (Φ:Phi) (s:Xs):Prop :=
 (∀ q,SC.bool q∈s.cells→q.den e = true)→∀ w F,Φ.P ((s.ty - 1) % 100) w F→(∀ b,F b→b < w.heap.size)→∀ args':Array Value,args' = (s.rest.map (SV.den e half)).toArray →
  Enters P s.f args' w fun en w'=>en = .returned (s.out.den e half)∧Opq Φ ((s.ty - 1) / 100) F none w w'
def EffGOk (P:Program) (e:Env) (Φ:Phi) (s:Xs) (n:Nat):Prop :=
 ∀ g w F,Bk w g s.ty (Ye e half s.cells)→Φ.P ((n - 1) % 100) w F→¬ F g→(∀ b,F b→b < w.heap.size)→∀ args':Array Value,args' = (Value.pointer (some ⟨g,n / 10000,none⟩) :: s.rest.map (SV.den e half)).toArray →
  (callFunc s.f args').run P w = .ok (.enter s.f args') w ∧
  Calls P s.f args' w fun en w'=>en = .returned (s.out.den e half)∧Bk w' g s.ty (Ye e half s.cells'.dropLast)∧Opq Φ ((n - 1) % 10000 / 100) F (some g) w w'
def SumOkE (P:Program) (e:Env) (Φ:Phi) (s:Xs):Prop :=
 match tailN s with
 | some n=>EffGOk P e Φ s n
 | none=>if !s.self && !(s.ty==0) then EffOk P e Φ s else SumOk P e s
def SumsOkE (P:Program) (e:Env) (Φ:Phi) (S:List Xs):Prop:=∀ s∈S,SumOkE P e Φ s
def plainS (S:List Xs):Bool:=S.all fun s=>(tailN s).isNone && (s.self || s.ty==0)
def SumsOk (P:Program) (e:Env) (S:List Xs):Prop:=∀ s∈S,SumOk P e s
theorem SumsOk.effects {P:Program} {e:Env} {Φ:Phi} {S:List Xs} (h:SumsOk P e S) (hp:plainS S = true):SumsOkE P e Φ S:=fun s hs=>by
 have h1:=List.all_eq_true.1 hp s hs
 simp only [Bool.and_eq_true,Option.isNone_iff_eq_none,Bool.or_eq_true] at h1
 unfold SumOkE
 rw [h1.1]
 simp only
 rw [if_neg (by rcases h1.2 with h2 | h2 <;> simp [h2])]
 exact h s hs
def CodeOk (P:Program) (e:Env) (Φ:Phi) (S:List Xs) (n:Nat):Prop :=
 ∀ c st x v st',(exec P S n (.code c) st).sel e = some (x,v,st')→∀ B k a w,B.Φ = Φ→Inv e B k st a w→c.wp P (fun y a' w'=>y = exOf x∧∃ k',Inv e B k' st' a' w') a w
def LoopOk (P:Program) (e:Env) (Φ:Phi) (S:List Xs) (n:Nat):Prop :=
 ∀ c st x v st',(exec P S n (.code (.loop c)) st).sel e = some (x,v,st')→∀ B k a w,B.Φ = Φ→Inv e B k st a w→Code.rounds P c (fun y a' w'=>y = exOf x∧∃ k',Inv e B k' st' a' w') n a w
section
variable {P:Program} {e:Env} {Φ:Phi} {S:List Xs}
theorem findS_spec {f:Nat} {ty:TypeId} {cs:List SC} {rest:List SV} {s:Xs}:∀ {S:List Xs},findS f ty cs rest S = some s →
  s∈S∧s.self = true∧¬ f = invF∧tailN s = none∧s.f = f∧s.ty = ty∧cs = s.cells∧rest = s.rest∧okV [] s.out = true∧okCs [] s.cells = true∧okCs [] s.cells' = true∧∀ v∈s.rest,okV [] v = true
 | [],h=>by cases h
 | x :: r,h=>by
  unfold findS at h
  split at h
  ·rename_i hc
   cases h
   simp only [Bool.and_eq_true,beq_iff_eq,List.all_eq_true,Option.isNone_iff_eq_none,Bool.not_eq_true',beq_eq_false_iff_ne,ne_eq] at hc
   obtain ⟨⟨⟨⟨⟨⟨⟨⟨⟨⟨h0,hnf⟩,h9⟩,h1⟩,h2⟩,h3⟩,h4⟩,h5⟩,h6⟩,h7⟩,h8⟩:=hc
   exact ⟨by simp,h0,hnf,h9,h1,h2,sameL_eq (fun _ _=>SC.same_eq) h3,sameL_eq (fun _ _=>SV.same_eq) h4,h5,h6,h7,h8⟩
  ·obtain ⟨h1,h2⟩:=findS_spec h
   exact ⟨List.mem_cons_of_mem _ h1,h2⟩
theorem findP_spec {f:Nat} {args:List SV} {v:SV}:∀ {S:List Xs},findP f args S = some v →
  ∃ s∈S,s.self = false∧¬ f = invF∧s.ty = 0∧s.f = f∧args = s.rest∧v = s.out∧okV [] s.out = true∧∀ u∈s.rest,okV [] u = true
 | [],h=>by cases h
 | x :: r,h=>by
  unfold findP at h
  split at h
  ·rename_i hc
   cases h
   simp only [Bool.and_eq_true,beq_iff_eq,List.all_eq_true,Bool.not_eq_true',beq_eq_false_iff_ne,ne_eq] at hc
   obtain ⟨⟨⟨⟨⟨⟨h0,hnf⟩,h5⟩,h1⟩,h2⟩,h3⟩,h4⟩:=hc
   exact ⟨x,by simp,h0,hnf,h5,h1,sameL_eq (fun _ _=>SV.same_eq) h2,rfl,h3,h4⟩
  ·obtain ⟨s,h1,h2⟩:=findP_spec h
   exact ⟨s,List.mem_cons_of_mem _ h1,h2⟩
theorem tailN_pure {s:Xs} (h:s.self = false):tailN s = none:=by
 unfold tailN
 split
 ·rw [if_neg (by simp [h])]
 ·rfl
theorem holds_den {e:Env} {a:Asm} (hs:AsmOk e a) {q:BT} (h:holds a (.bool q) = true):q.den e = true:=by
 simp only [holds,decide_eq_true_eq] at h
 rw [← known_den hs,h]
 rfl
theorem findE_spec {a:Asm} {f ph:Nat} {args:List SV} {v:SV} {j:Nat}:∀ {S:List Xs},findE a f ph args S = some (v,j) →
  ∃ s∈S,(∀ c∈s.cells,holds a c = true)∧s.self = false∧(s.ty==0) = false∧s.f = f∧(s.ty - 1) % 100 = ph∧j = (s.ty - 1) / 100∧args = s.rest∧v = s.out∧okV [] s.out = true∧∀ u∈s.rest,okV [] u = true
 | [],h=>by cases h
 | x :: r,h=>by
  unfold findE at h
  split at h
  ·rename_i hc
   cases h
   simp only [Bool.and_eq_true,beq_iff_eq,List.all_eq_true,Bool.not_eq_true'] at hc
   obtain ⟨⟨⟨⟨⟨⟨⟨hq,h0⟩,h1⟩,h2⟩,h3⟩,h4⟩,h5⟩,h6⟩:=hc
   exact ⟨x,by simp,hq,h0,h1,h2,h3,rfl,sameL_eq (fun _ _=>SV.same_eq) h4,rfl,h5,h6⟩
  ·obtain ⟨s,h1,h2⟩:=findE_spec h
   exact ⟨s,List.mem_cons_of_mem _ h1,h2⟩
theorem findG_spec {f ph off:Nat} {ty:TypeId} {cs:List SC} {rest:List SV} {s:Xs} {j:Nat}:∀ {S:List Xs},findG f ph off ty cs rest S = some (s,j) →
  ∃ n,s∈S∧tailN s = some n∧s.self = true∧¬ f = invF∧s.f = f∧s.ty = ty∧cs = s.cells∧rest = s.rest∧okV [] s.out = true∧okCs [] s.cells = true∧okCs [] s.cells'.dropLast = true∧(∀ v∈s.rest,okV [] v = true)∧(n - 1) % 100 = ph∧n / 10000 = off∧j = (n - 1) % 10000 / 100
 | [],h=>by cases h
 | x :: r,h=>by
  unfold findG at h
  split at h
  ·rename_i n hn
   split at h
   ·rename_i hc
    cases h
    simp only [Bool.and_eq_true,beq_iff_eq,List.all_eq_true,Bool.not_eq_true',beq_eq_false_iff_ne,ne_eq] at hc
    obtain ⟨⟨⟨⟨⟨⟨⟨⟨⟨⟨⟨h0,hnf⟩,h1⟩,h2⟩,h3⟩,h4⟩,h5⟩,h6⟩,h7⟩,h8⟩,h9⟩,h10⟩:=hc
    exact ⟨n,by simp,hn,h0,hnf,h1,h2,sameL_eq (fun _ _=>SC.same_eq) h3,sameL_eq (fun _ _=>SV.same_eq) h4,h5,h6,h7,h8,h9,h10,rfl⟩
   ·obtain ⟨n,h1,h2⟩:=findG_spec h
    exact ⟨n,List.mem_cons_of_mem _ h1,h2⟩
  ·obtain ⟨n,h1,h2⟩:=findG_spec h
   exact ⟨n,List.mem_cons_of_mem _ h1,h2⟩
theorem sumB_ok (hS:SumsOkE P e Φ S) {f:Nat} {args:List SV} {s:St} {r:SV × St} (h:sumB S f args s = some r) {k:Nat→Nat} {w:World} {F:Nat→Prop} (H:HInv e ⟨Yf s.hp,k,w,F,Φ⟩ k s.ph s.hp w) (hs:AsmOk e s.asm)
  {args':Array Value} (hargs:∀ β,Agr k s.hp β→args' = (args.map (SV.den e β)).toArray) :
  Enters P f args' w (CallPost e Φ F k s w r.1 r.2):=by
 have al:∀ β,Agr k s.hp β→Alike [] β half:=fun β hβ=>⟨hβ.1,fun g=>by simp [half],fun _ h=>by cases h⟩
 unfold sumB at h
 split at h
 ·rename_i l rest
  split at h
  ·rename_i ty cs hl
   split at h
   ·rename_i u hu
    cases h
    obtain ⟨h1,h0,hnf,ht0,rfl,rfl,rfl,rfl,h6,h7,h8,h9⟩:=findS_spec hu
    have hb:=H.heap k H.agr _ (mem_lookH hl)
    simp only at hb
    rw [okCs_den (al k H.agr) h7] at hb
    have ha:=hargs k H.agr
    have hu0:=hS u h1
    unfold SumOkE at hu0
    rw [ht0] at hu0
    simp only at hu0
    rw [if_neg (by simp [h0])] at hu0
    unfold SumOk at hu0
    rw [if_pos h0] at hu0
    obtain ⟨hcf,hcalls⟩:=hu0 (k l) w hb args' (by
     rw [ha]
     simp only [List.map_cons]
     congr 1
     congr 1
     exact List.map_congr_left fun v hv=>okV_den (al k H.agr) (h9 v hv))
    refine Enters.fn hnf ⟨hcf,hcalls.mono fun en w' hpost=>?_⟩
    obtain ⟨rfl,hb',hg⟩:=hpost
    obtain ⟨H',hag⟩:=H.upd hl (row:=Ye e half u.cells') (fun β hβ=>okCs_den (al β hβ) h8) hb' hg
    exact ⟨k,H',hs,fun β hβ=>by rw [okV_den (al β (hag β hβ)) h6]⟩
   ·cases h
  ·cases h
 ·cases h
theorem sumG_ok (hS:SumsOkE P e Φ S) {f:Nat} {args:List SV} {s:St} {r:SV × St} (h:sumG S f args s = some r) {k:Nat→Nat} {w:World} {F:Nat→Prop} (H:HInv e ⟨Yf s.hp,k,w,F,Φ⟩ k s.ph s.hp w) (hs:AsmOk e s.asm)
  {args':Array Value} (hargs:∀ β,Agr k s.hp β→args' = (args.map (SV.den e β)).toArray) :
  Enters P f args' w (CallPost e Φ F k s w r.1 r.2):=by
 have al:∀ β,Agr k s.hp β→Alike [] β half:=fun β hβ=>⟨hβ.1,fun g=>by simp [half],fun _ h=>by cases h⟩
 unfold sumG at h
 split at h
 ·rename_i l off rest
  split at h
  ·rename_i ty cs hl
   split at h
   ·rename_i u j hu
    cases h
    obtain ⟨n,h1,hn,h0,hnf,rfl,rfl,rfl,rfl,h6,h7,h8,h9,h10,h11,rfl⟩:=findG_spec hu
    have hb:=H.heap k H.agr _ (mem_lookH hl)
    simp only at hb
    rw [okCs_den (al k H.agr) h7] at hb
    have ha:=hargs k H.agr
    have hu0:=hS u h1
    unfold SumOkE at hu0
    rw [hn] at hu0
    simp only at hu0
    obtain ⟨F1,f1,f2,f3,f4⟩:=H.opq
    rw [← h10] at f1
    obtain ⟨hcf,hcalls⟩:=hu0 (k l) w F1 hb f1 (f2 _ (mem_lookH hl)) f3 args' (by
     rw [ha,h11]
     simp only [List.map_cons]
     congr 1
     congr 1
     exact List.map_congr_left fun v hv=>okV_den (al k H.agr) (h9 v hv))
    refine Enters.fn hnf ⟨hcf,hcalls.mono fun en w' hpost=>?_⟩
    obtain ⟨rfl,hb',O⟩:=hpost
    obtain ⟨H',hag⟩:=H.effG f2 f4 hl (row:=Ye e half u.cells'.dropLast) (fun β hβ=>okCs_den (al β hβ) h8) hb' O
    refine ⟨k,?_,hs,fun β hβ=>by rw [okV_den (al β (hag β hβ)) h6]⟩
    have e1:St.ph { s with hp:=setH l u.cells'.dropLast s.hp,nx:=inPh ((n - 1) % 10000 / 100) s.nx } = (n - 1) % 10000 / 100:=inPh_ph _ _
    rw [e1]
    exact H'
   ·cases h
  ·cases h
 ·cases h
theorem sum_ok (hS:SumsOkE P e Φ S) {f:Nat} {args:List SV} {s:St} {r:SV × St} (h:sumS S f args s = some r) {k:Nat→Nat} {w:World} {F:Nat→Prop} (H:HInv e ⟨Yf s.hp,k,w,F,Φ⟩ k s.ph s.hp w) (hs:AsmOk e s.asm)
  {args':Array Value} (hargs:∀ β,Agr k s.hp β→args' = (args.map (SV.den e β)).toArray) :
  Enters P f args' w (CallPost e Φ F k s w r.1 r.2):=by
 have al:∀ β,Agr k s.hp β→Alike [] β half:=fun β hβ=>⟨hβ.1,fun g=>by simp [half],fun _ h=>by cases h⟩
 unfold sumS at h
 split at h
 ·rename_i v hv
  cases h
  obtain ⟨u,h1,h2,hnf,h20,rfl,rfl,rfl,h6,h9⟩:=findP_spec hv
  have hu:=hS u h1
  unfold SumOkE at hu
  have hn:tailN u = none:=tailN_pure h2
  ·rw [hn] at hu
   simp only at hu
   rw [if_neg (by simp [h20])] at hu
   unfold SumOk at hu
   rw [if_neg (by rw [h2];simp)] at hu
   obtain ⟨hcf,hcalls⟩:=hu w args' (by
    rw [hargs k H.agr]
    congr 1
    exact List.map_congr_left fun v hv=>okV_den (al k H.agr) (h9 v hv))
   refine Enters.fn hnf ⟨hcf,hcalls.mono fun en w' hpost=>?_⟩
   obtain ⟨rfl,hb⟩:=hpost
   refine ⟨k,⟨H.good,fun β hβ x hx=>(H.heap β hβ x hx).belowAll hb,H.inj,H.ext,H.new,H.old,hb.os,hb.tape,hb.output,hb.size,fun b hb' _ _=>hb.block b hb',opq_same H.opq hb.size fun F a b=>⟨fun c hc=>hb.block c (b c hc),a⟩⟩,hs,fun β hβ=>by rw [okV_den (al β hβ) h6]⟩
 ·split at h
  ·rename_i v j hv
   cases h
   obtain ⟨u,h1,hq,h2,h20,rfl,h3,rfl,rfl,rfl,h6,h9⟩:=findE_spec hv
   have hu:=hS u h1
   unfold SumOkE at hu
   have hn:tailN u = none:=tailN_pure h2
   ·rw [hn] at hu
    simp only at hu
    rw [if_pos (by simp [h2,h20])] at hu
    obtain ⟨F1,f1,f2,f3,f4⟩:=H.opq
    rw [← h3] at f1
    have hen:=hu (fun q hm=>holds_den hs (hq _ hm)) w F1 f1 f3 args' (by
     rw [hargs k H.agr]
     congr 1
     exact List.map_congr_left fun v hv=>okV_den (al k H.agr) (h9 v hv))
    refine hen.mono fun en w' hpost=>?_
    obtain ⟨rfl,O⟩:=hpost
    refine ⟨k,?_,hs,fun β hβ=>by rw [okV_den (al β hβ) h6]⟩
    have e1:St.ph { s with nx:=inPh ((u.ty - 1) / 100) s.nx } = (u.ty - 1) / 100:=inPh_ph _ _
    rw [e1]
    exact H.eff f2 f4 O
  ·split at h
   ·rename_i hv
    cases h
    exact sumG_ok hS hv H hs hargs
   ·exact sumB_ok hS h H hs hargs
theorem callE_ok (hm:P.follows .mixedOrders = true) (hS:SumsOkE P e Φ S) {n:Nat} (ih:CodeOk P e Φ S n):CallOk P e Φ (callE P S (n+1)):=by
 intro f args s v s' h k w F H hs args' hargs
 unfold callE at h
 rw [sel_bind] at h
 obtain ⟨⟨x,v1,s1⟩,h1,h2⟩:=Option.bind_eq_some_iff.1 h
 simp only [Xy.sel,Option.some.injEq,Prod.mk.injEq] at h2
 obtain ⟨rfl,rfl⟩:=h2
 unfold exec at h1
 split at h1
 ·
  rename_i r hr
  simp only [Xy.sel,Option.some.injEq,Prod.mk.injEq] at h1
  obtain ⟨rfl,rfl,rfl⟩:=h1
  exact sum_ok hS hr H hs hargs
 split at h1
 ·simp [Xy.sel] at h1
 rename_i hnf
 split at h1
 ·simp [Xy.sel] at h1
 ·rename_i fn hf
  split at h1
  ·simp [Xy.sel] at h1
  ·rename_i hname
   split at h1
   ·simp [Xy.sel] at h1
   ·rename_i c hb
    rw [sel_bind] at h1
    obtain ⟨⟨y,v2,s2⟩,h3,h4⟩:=Option.bind_eq_some_iff.1 h1
    have hcf:(callFunc f args').run P w = .ok (.enter f args') w:=by
     unfold callFunc
     simp only [Sem.run_bind,run_program,Result.andThen_ok,hf]
     rw [if_neg hname,if_neg (by simp [hb])]
     rfl
    refine Enters.fn hnf ⟨hcf,calls_of_wp hf hb ?_⟩
    have I0:Inv e ⟨Yf s.hp,k,w,F,Φ⟩ k { s with fr:=argsF 0 args [],nx:=inPh s.ph (s.nx+100),sz:=fn.ntmps } { tmps:=args'++Array.replicate (fn.ntmps - args'.size) undef,defers:=[] } w:=by
     have e1:St.ph { s with fr:=argsF 0 args [],nx:=inPh s.ph (s.nx+100),sz:=fn.ntmps } = s.ph:=inPh_ph _ _
     refine ⟨by rw [e1];exact H,⟨rfl,by simp;omega,fun β hβ t=>?_⟩,hs⟩
     rw [getF_argsF args 0 [] t (fun _ _=>rfl),if_pos (Nat.zero_le _),Nat.sub_zero]
     have ha:=hargs β hβ
     rw [Array.getD_eq_getD_getElem?,Array.getElem?_append]
     have hsz:args'.size = args.length:=by rw [ha];simp
     split
     ·rename_i hlt
      rw [ha]
      simp only [List.getElem?_toArray,List.getElem?_map]
      rw [hsz] at hlt
      rw [List.getElem?_eq_getElem hlt]
      simp [hlt]
     ·rename_i hlt
      rw [hsz] at hlt
      rw [List.getD_eq_getElem?_getD,List.getElem?_eq_none (by omega)]
      rw [Array.getElem?_replicate]
      split <;> rfl
    refine wp_mono (ih c _ y v2 s2 h3 _ _ _ _ rfl I0) fun z a' w' hz=>?_
    obtain ⟨rfl,k',I'⟩:=hz
    have fin:∀ (hx:(match resS P fn s2 with
      | none=>(Xy.fail "results":Xy (Ex × SV × St))
      | some v=>match gcS s.hp v s2.hp with
       | none=>.fail "what is left"
       | some h=>.leaf (.normal,v,{ fr:=s.fr,hp:=h,asm:=s2.asm,nx:=inPh s2.ph s.nx,sz:=s.sz })).sel e = some (x,v1,s1)),
      a'.defers = []∧∃ v,(results fn a'.tmps).run P w' = .ok v w'∧CallPost e Φ F k s w v1 s1 (.returned v) w':=by
     intro hx
     split at hx
     ·simp [Xy.sel] at hx
     ·rename_i vr hres
      split at hx
      ·simp [Xy.sel] at hx
      ·rename_i h2 hgc
       simp only [Xy.sel,Option.some.injEq,Prod.mk.injEq] at hx
       obtain ⟨rfl,rfl,rfl⟩:=hx
       obtain ⟨G1,G2⟩:=I'.h.gc rfl hgc
       have e1:St.ph { fr:=s.fr,hp:=h2,asm:=s2.asm,nx:=inPh s2.ph s.nx,sz:=s.sz } = s2.ph:=inPh_ph _ _
       exact ⟨I'.f.defers,_,res_run I' hres,k',by rw [e1];exact G1,I'.asm,fun β hβ=>by rw [G2 β hβ]⟩
    cases y with
    | normal=>exact fin h4
    | ret=>exact fin h4
    | exit i=>simp [Xy.sel] at h4
theorem exec_sound (hm:P.follows .mixedOrders = true) (hS:SumsOkE P e Φ S):∀ n,CodeOk P e Φ S n∧LoopOk P e Φ S n∧CallOk P e Φ (callE P S n)
 | 0=>by
  refine ⟨fun c st x v st' h=>?_,fun c st x v st' h=>?_,fun f args s v s' h=>?_⟩
  ·simp [exec,Xy.sel] at h
  ·simp [exec,Xy.sel] at h
  ·unfold callE at h
   simp [exec,Xy.sel,Xy.bind] at h
 | n+1=>by
  obtain ⟨ihc,ihl,ihf⟩:=exec_sound hm hS n
  have hloop:LoopOk P e Φ S (n+1):=by
   intro c st x v st' h B k a w hΦ I
   unfold exec at h
   simp only at h
   rw [sel_bind] at h
   obtain ⟨⟨y,v1,s1⟩,h1,h2⟩:=Option.bind_eq_some_iff.1 h
   rw [rounds_succ]
   refine wp_mono (ihc c st y v1 s1 h1 B k a w hΦ I) fun z a' w' hz=>?_
   obtain ⟨rfl,k',I'⟩:=hz
   cases y with
   | normal=>exact ihl c s1 x v st' h2 B k' a' w' hΦ I'
   | exit i =>
    simp only [Xy.sel,Option.some.injEq,Prod.mk.injEq] at h2
    obtain ⟨rfl,rfl,rfl⟩:=h2
    exact ⟨rfl,k',I'⟩
   | ret =>
    simp only [Xy.sel,Option.some.injEq,Prod.mk.injEq] at h2
    obtain ⟨rfl,rfl,rfl⟩:=h2
    exact ⟨rfl,k',I'⟩
  refine ⟨?_,hloop,callE_ok hm hS ihc⟩
  intro c st x v st' h B k a w hΦ I
  cases c with
  | skip =>
   simp only [exec,Xy.sel,Option.some.injEq,Prod.mk.injEq] at h
   obtain ⟨rfl,rfl,rfl⟩:=h
   exact wp_skip ⟨rfl,k,I⟩
  | label l =>
   simp only [exec,Xy.sel,Option.some.injEq,Prod.mk.injEq] at h
   obtain ⟨rfl,rfl,rfl⟩:=h
   exact wp_label ⟨rfl,k,I⟩
  | ret =>
   simp only [exec,Xy.sel,Option.some.injEq,Prod.mk.injEq] at h
   obtain ⟨rfl,rfl,rfl⟩:=h
   exact wp_ret ⟨rfl,k,I⟩
  | exit i =>
   simp only [exec,Xy.sel,Option.some.injEq,Prod.mk.injEq] at h
   obtain ⟨rfl,rfl,rfl⟩:=h
   exact wp_exit ⟨rfl,k,I⟩
  | seq c1 c2 =>
   unfold exec at h
   simp only at h
   rw [sel_bind] at h
   obtain ⟨⟨y,v1,s1⟩,h1,h2⟩:=Option.bind_eq_some_iff.1 h
   refine wp_seq (wp_mono (ihc c1 st y v1 s1 h1 B k a w hΦ I) fun z a' w' hz=>?_)
   obtain ⟨rfl,k',I'⟩:=hz
   cases y with
   | normal=>exact ihc c2 s1 x v st' h2 B k' a' w' hΦ I'
   | exit i =>
    simp only [Xy.sel,Option.some.injEq,Prod.mk.injEq] at h2
    obtain ⟨rfl,rfl,rfl⟩:=h2
    exact ⟨rfl,k',I'⟩
   | ret =>
    simp only [Xy.sel,Option.some.injEq,Prod.mk.injEq] at h2
    obtain ⟨rfl,rfl,rfl⟩:=h2
    exact ⟨rfl,k',I'⟩
  | cond q c1 c2 =>
   unfold exec at h
   simp only at h
   split at h
   ·rename_i b hb
    have hev:a.eval q = .bool (b.den e):=by rw [I.evs I.agr,hb];rfl
    have hk:=known_den I.asm b
    refine wp_cond hev ?_
    rw [← hk]
    split at h
    ·rename_i hq;rw [hq];exact ihc c1 st x v st' h B k a w hΦ I
    ·rename_i hq;rw [hq];exact ihc c2 st x v st' h B k a w hΦ I
    ·rename_i q' _ _ hq
     simp only [Xy.sel] at h
     cases hb2:(known st.asm b).den e with
     | true=>rw [hb2] at h;exact ihc c1 _ x v st' h B k a w hΦ (I.asm_add hb2)
     | false=>rw [hb2] at h;exact ihc c2 _ x v st' h B k a w hΦ (I.asm_add hb2)
   ·simp [Xy.sel] at h
  | block i c1 =>
   unfold exec at h
   simp only at h
   rw [sel_bind] at h
   obtain ⟨⟨y,v1,s1⟩,h1,h2⟩:=Option.bind_eq_some_iff.1 h
   refine wp_block (wp_mono (ihc c1 st y v1 s1 h1 B k a w hΦ I) fun z a' w' hz=>?_)
   obtain ⟨rfl,k',I'⟩:=hz
   cases y with
   | normal =>
    simp only [Xy.sel,Option.some.injEq,Prod.mk.injEq] at h2
    obtain ⟨rfl,rfl,rfl⟩:=h2
    exact ⟨rfl,k',I'⟩
   | exit j =>
    simp only at h2
    simp only [exOf,Exit.inBlock]
    split at h2
    ·rename_i hj
     simp only [Xy.sel,Option.some.injEq,Prod.mk.injEq] at h2
     obtain ⟨rfl,rfl,rfl⟩:=h2
     rw [if_pos hj]
     exact ⟨rfl,k',I'⟩
    ·rename_i hj
     simp only [Xy.sel,Option.some.injEq,Prod.mk.injEq] at h2
     obtain ⟨rfl,rfl,rfl⟩:=h2
     rw [if_neg hj]
     exact ⟨rfl,k',I'⟩
   | ret =>
    simp only [Xy.sel,Option.some.injEq,Prod.mk.injEq] at h2
    obtain ⟨rfl,rfl,rfl⟩:=h2
    exact ⟨rfl,k',I'⟩
  | loop c1=>exact wp_loop_rounds (n+1) (hloop c1 st x v st' h B k a w hΦ I)
  | region id ops draw =>
   unfold exec at h
   simp only at h
   cases draw with
   | true =>
    simp only at h
    rw [sel_bind] at h
    obtain ⟨s1,h1,h2⟩:=Option.bind_eq_some_iff.1 h
    simp only [Xy.sel,Option.some.injEq,Prod.mk.injEq] at h2
    obtain ⟨rfl,rfl,rfl⟩:=h2
    exact wp_mono (regS_sound hm (hΦ ▸ ihf) h1 I id) fun z a' w' hz=>hz
   | false =>
    simp only at h
    rw [sel_bind] at h
    obtain ⟨s1,h1,h2⟩:=Option.bind_eq_some_iff.1 h
    simp only [Xy.sel,Option.some.injEq,Prod.mk.injEq] at h2
    obtain ⟨rfl,rfl,rfl⟩:=h2
    exact wp_region_list (seqS_sound (hΦ ▸ ihf) (fun k' a' w' I'=>⟨rfl,k',I'.bump⟩) ops.toList 0 st k a w h1 I)
  | rangeFunc f params assign body=>simp [exec,Xy.sel] at h
  | scope c1=>simp [exec,Xy.sel] at h
  | goto l=>simp [exec,Xy.sel] at h
  | refuse why=>simp [exec,Xy.sel] at h
end
end Go.Proofs.YtaipogljokblkaaGreatDoor
