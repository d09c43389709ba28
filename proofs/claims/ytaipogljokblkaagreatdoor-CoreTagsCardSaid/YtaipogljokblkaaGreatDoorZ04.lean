/- Core: SymG, SymH. -/
import Derived.Test.YtaipogljokblkaaGreatDoorZ03
set_option linter.all false
set_option maxRecDepth 100000
set_option maxHeartbeats 8000000
namespace Go.Proofs.YtaipogljokblkaaGreatDoor
open Go Go.RowKit
set_option linter.unusedSimpArgs false
set_option linter.unusedVariables false
set_option linter.unusedSectionVars false
structure FInv (e:Env) (k:Nat→Nat) (st:St) (a:Act):Prop where
 defers:a.defers = []
 sz:st.sz≤a.tmps.size
 tmps:∀ β,Agr k st.hp β→∀ t,a.tmps.getD t undef = (getF t st.fr).den e β
structure Inv (e:Env) (B:Base) (k:Nat→Nat) (st:St) (a:Act) (w:World):Prop where
 h:HInv e B k st.ph st.hp w
 f:FInv e k st a
 asm:AsmOk e st.asm
def CallPost (e:Env) (Φ:Phi) (F:Nat→Prop) (k:Nat→Nat) (s:St) (w:World) (v:SV) (s':St) (en:Ending) (w':World):Prop :=
 ∃ k',HInv e ⟨Yf s.hp,k,w,F,Φ⟩ k' s'.ph s'.hp w'∧AsmOk e s'.asm∧∀ β,Agr k' s'.hp β→en = .returned (v.den e β)
def Enters (P:Program) (f:Nat) (args:Array Value) (w:World) (Q:Ending→World→Prop):Prop :=
 if f = invF then ∃ recv f' a',args[0]? = some recv∧(callMethod recv "Next" (args.extract 1 args.size)).run P w = .ok (.enter f' a') w∧Calls P f' a' w Q
 else (callFunc f args).run P w = .ok (.enter f args) w∧Calls P f args w Q
theorem Enters.fn {P:Program} {f:Nat} {args:Array Value} {w:World} {Q:Ending→World→Prop} (hf:¬ f = invF) (h:(callFunc f args).run P w = .ok (.enter f args) w∧Calls P f args w Q):Enters P f args w Q:=by
 unfold Enters
 rw [if_neg hf]
 exact h
theorem Enters.mono {P:Program} {f:Nat} {args:Array Value} {w:World} {Q R:Ending→World→Prop} (h:Enters P f args w Q) (hq:∀ en w',Q en w'→R en w'):Enters P f args w R:=by
 unfold Enters at h ⊢
 split at h
 ·rename_i hf
  obtain ⟨recv,f',a',h1,h2,h3⟩:=h
  rw [if_pos hf]
  exact ⟨recv,f',a',h1,h2,h3.mono hq⟩
 ·rename_i hf
  rw [if_neg hf]
  exact ⟨h.1,h.2.mono hq⟩
def CallOk (P:Program) (e:Env) (Φ:Phi) (callf:Nat→List SV→St→Xy (SV × St)):Prop :=
 ∀ f args s v s',(callf f args s).sel e = some (v,s')→∀ k w F,HInv e ⟨Yf s.hp,k,w,F,Φ⟩ k s.ph s.hp w→AsmOk e s.asm →
  ∀ args',(∀ β,Agr k s.hp β→args' = (args.map (SV.den e β)).toArray) →
   Enters P f args' w (CallPost e Φ F k s w v s')
theorem sel_bind {α β:Type} {e:Env}:∀ (t:Xy α) (f:α→Xy β),(t.bind f).sel e = (t.sel e).bind fun a=>(f a).sel e
 | .leaf a,f=>rfl
 | .br b t u,f=>by
  simp only [Xy.bind,Xy.sel]
  cases b.den e
  ·exact sel_bind u f
  ·exact sel_bind t f
 | .fail _,f=>rfl
section
variable {P:Program} {e:Env} {B:Base} {k:Nat→Nat} {st:St} {a:Act} {w:World}
theorem Inv.evs (I:Inv e B k st a w) {β:Nat→Nat} (hβ:Agr k st.hp β):Evs e β a st.fr:=evs_of hβ.1 (I.f.tmps β hβ)
theorem Inv.agr (I:Inv e B k st a w):Agr k st.hp k:=I.h.agr
theorem put_getD (a:Act) (d:Nat) (u:Value) (t:Nat) (h:d < a.tmps.size):(a.put (some d) u).tmps.getD t undef = if t = d then u else a.tmps.getD t undef:=by
 simp only [Act.put,Array.getD_eq_getD_getElem?,Array.getElem?_setIfInBounds]
 by_cases ht:d = t
 ·subst ht;simp [h]
 ·simp [ht,Ne.symm ht]
theorem Inv.put {k':Nat→Nat} {hp':Heap} {w':World} {asm':Asm} {nx':Nat} (I:Inv e B k st a w) (H:HInv e B k' (nx' / phM) hp' w') (hs:AsmOk e asm') (hag:∀ β,Agr k' hp' β→Agr k st.hp β)
  {dst:Option Nat} (hd:∀ d,dst = some d→d < st.sz) {v:SV} {u:Value} (hu:∀ β,Agr k' hp' β→u = v.den e β) :
  Inv e B k' (putS dst v { st with hp:=hp',asm:=asm',nx:=nx' }) (a.put dst u) w':=by
 cases dst with
 | none =>
  exact ⟨H,⟨I.f.defers,I.f.sz,fun β hβ t=>I.f.tmps β (hag β hβ) t⟩,hs⟩
 | some d =>
  have hd':=hd d rfl
  refine ⟨H,⟨I.f.defers,?_,fun β hβ t=>?_⟩,hs⟩
  ·simp only [putS,Act.put];rw [Array.size_setIfInBounds];exact I.f.sz
  ·rw [put_getD a d u t (Nat.lt_of_lt_of_le hd' I.f.sz)]
   simp only [putS]
   rw [getF_insF]
   split
   ·exact hu β hβ
   ·exact I.f.tmps β (hag β hβ) t
theorem okD_spec {o:Oper} (h:okD o st = true):∀ d,o.dst = some d→d < st.sz:=by
 intro d hd
 simp only [okD,hd] at h
 simpa using h
theorem guard_den {ops:Array Oper} {o:Oper} {g:BT} (I:Inv e B k st a w) (h:guardS ops o st = some g):Region.wanted o (yielded ops a.tmps) = g.den e:=by
 unfold guardS at h
 unfold Region.wanted
 split at h
 ·rename_i hg;cases h;simp [hg,BT.den]
 ·rename_i j want hg
  simp only [hg]
  split at h
  ·rename_i d hd
   split at h
   ·rename_i b hb
    have h1:a.tmps.getD d undef = .bool (b.den e):=by rw [I.f.tmps k I.agr d,hb];rfl
    have h2:a.tmps[d]? = some (.bool (b.den e)):=by
     rw [Array.getD_eq_getD_getElem?] at h1
     cases hx:a.tmps[d]? with
     | none=>rw [hx] at h1;simp [undef] at h1
     | some x=>rw [hx] at h1;simp at h1;rw [h1]
    have h3:yielded ops a.tmps j = some (b.den e):=by
     unfold yielded
     rw [hd]
     simp [h2]
    rw [h3]
    cases h
    cases want
    ·simp only [Bool.false_eq_true,if_false]
     rw [BT.den_mkNot,known_den I.asm]
     cases b.den e <;> rfl
    ·simp only [if_true]
     rw [known_den I.asm]
     cases b.den e <;> rfl
   ·cases h
  ·cases h
theorem loadVar_run {t:TypeId} {g i:Nat} {ty:TypeId} {cs:List SC} {v:SV} {β:Nat→Nat} (hb:Bk w g ty (Ye e β cs)) (h:partS P t cs i = some v):(loadVar t ⟨g,i,none⟩).run P w = .ok (v.den e β) w:=by
 unfold partS at h
 split at h
 ·rename_i inf ha hi
  split at h
  ·rename_i hle
   cases h
   have h1:=run_loadCells_list (P:=P) w ⟨g,i,none⟩ (((cs.drop i).take inf.size).map (SC.den e β)) (fun j u hu=>by
    rw [Addr.add_lit,hb.cell,denL_get]
    simp only [List.getElem?_map,List.getElem?_take,List.getElem?_drop] at hu
    split at hu
    ·exact hu
    ·cases hu)
   rw [show (List.map (SC.den e β) (List.take inf.size (List.drop i cs))).length = inf.size by simp;omega] at h1
   simp only [loadVar,Sem.run_bind,run_isAgg ha,Result.andThen_ok,if_true,run_size hi,h1]
   rfl
  ·cases h
 ·rename_i inf ha hi
  split at h
  ·rename_i x hx
   split at h
   ·cases h
    simp only [loadVar,Sem.run_bind,run_isAgg ha,Result.andThen_ok,Bool.false_eq_true,if_false]
    have h1:w.cell? ⟨g,i,none⟩ = some (x.den e β):=by rw [hb.cell,denL_get,hx];rfl
    simp [load,Sem.run,h1,SV.den]
   ·cases h
  ·cases h
 ·cases h
end
section
variable {P:Program} {e:Env} {B:Base} {k:Nat→Nat} {st st':St} {a:Act} {w:World} {callf:Nat→List SV→St→Xy (SV × St)} {K:Act→World→Prop} {Q:Exit→Act→World→Prop}
theorem ok_inj {x y:Value} {w:World} (h:(Result.ok (Next.value x) w:Result Next) = .ok (.value y) w):x = y:=by
 injection h with h1;injection h1
theorem ret_inj {x y:Value} (h:Ending.returned x = .returned y):x = y:=by injection h
theorem bk_inj {w:World} {g:Nat} {t u:TypeId} {x y:Array Value} (h:Bk w g t x) (h':Bk w g u y):x = y:=by
 unfold Bk at h h'
 rw [h] at h'
 injection h' with h1;injection h1
theorem wp_value {o:Oper} {v:Value} {w':World} (hr:(execOp a.eval o).run P w = .ok (.value v) w') (h:K (a.put o.dst v) w'):o.wp P a w K Q:=by
 unfold Oper.wp;rw [hr];exact h
theorem wp_skip_ {o:Oper} {w':World} (hr:(execOp a.eval o).run P w = .ok .skip w') (h:K (a.put o.dst undef) w'):o.wp P a w K Q:=by
 unfold Oper.wp;rw [hr];exact h
theorem idxT_spec {dst:Option Nat} {i:Tm} {l o size:Nat}:∀ {js:List Nat} {st st':St},(idxT dst i l o size js st).sel e = some st'→AsmOk e st.asm →
  ∃ j∈js,i.den e = (j:Int)∧∃ asm',AsmOk e asm'∧st' = putS dst (.c (.ptr l (o+j*size))) { st with asm:=asm' }
 | [],st,st',h,_=>by simp [idxT,Xy.sel] at h
 | j :: r,st,st',h,hs=>by
  have hk:=known_den hs (BT.mkEq i (.lit (j:Int)))
  rw [BT.den_mkEq] at hk
  unfold idxT at h
  split at h
  ·rename_i hq
   rw [hq] at hk
   simp only [Xy.sel,Option.some.injEq] at h
   subst h
   simp only [BT.den,Tm.den] at hk
   exact ⟨j,by simp,by simpa using hk.symm,st.asm,hs,rfl⟩
  ·obtain ⟨j',h1,h2⟩:=idxT_spec h hs
   exact ⟨j',List.mem_cons_of_mem _ h1,h2⟩
  ·simp only [Xy.sel] at h
   cases hb:(known st.asm (BT.mkEq i (.lit (j:Int)))).den e with
   | true =>
    rw [hb] at h
    simp only [Option.some.injEq] at h
    subst h
    rw [hb] at hk
    simp only [Tm.den] at hk
    exact ⟨j,by simp,by simpa using hk.symm,_,addA_ok hs hb,rfl⟩
   | false =>
    rw [hb] at h
    obtain ⟨j',h1,h2,asm',h3,h4⟩:=idxT_spec h (addA_ok hs hb)
    exact ⟨j',List.mem_cons_of_mem _ h1,h2,asm',h3,h4⟩
theorem runS_sound (hc:CallOk P e B.Φ callf) {lab:Nat} {o:Oper} (h:(runS P callf lab o st).sel e = some st') (hlab:lab % 2 = 1) (hd:okD o st = true) (I:Inv e B k st a w)
  (hK:∀ k' a' w',Inv e B k' st' a' w'→K a' w'):o.wp P a w K Q:=by
 have hd:=okD_spec hd
 unfold runS at h
 split at h
 ·rename_i v hv
  simp only [Xy.sel,Option.some.injEq] at h
  subst h
  refine wp_value (pure_run hv I.asm (I.evs I.agr) rfl) (hK k _ _ (I.put I.h I.asm (fun β h=>h) hd (fun β hβ=>?_)))
  have h1:=pure_run (P:=P) (w:=w) hv I.asm (I.evs I.agr) rfl
  have h2:=pure_run (P:=P) (w:=w) hv I.asm (I.evs hβ) rfl
  exact ok_inj (h1.symm.trans h2)
 ·skip
  split at h
  ·
   rename_i t x ix ho
   split at h
   ·rename_i len el l of i hu hx hix
    split at h
    ·rename_i inf hinf
     obtain ⟨j,hj,hij,asm',hs',rfl⟩:=idxT_spec h I.asm
     have hlt:j < len:=List.mem_range.1 hj
     have hrun:∀ β,Agr k st.hp β→(execOp a.eval o).run P w = .ok (.value (.pointer (some ⟨β l,of+j*inf.size,none⟩))) w:=fun β hβ=>by
      have h1:=evs_at (I.evs hβ) hx;simp only [SV.den,SC.den] at h1
      have h2:=evs_at (I.evs hβ) hix;simp only [SV.den,SC.den,hij] at h2
      unfold execOp
      rw [ho]
      simp only [h1,h2,Instr.indexAt,asIntOf,Sem.run_bind,Sem.run_pure,Result.andThen_ok,run_underlying hu,Instr.sureAddr]
      rw [if_pos ⟨by omega,by omega⟩]
      simp only [Sem.run_bind,run_size hinf,Result.andThen_ok,Sem.run_pure,Addr.add,Int.toNat_natCast]
      split
      ·rename_i h0;simp [h0]
      ·rfl
     refine wp_value (hrun k I.agr) (hK k _ _ (I.put I.h hs' (fun β h=>h) hd (fun β hβ=>?_)))
     exact ok_inj ((hrun k I.agr).symm.trans (hrun β hβ))
    ·simp [Xy.sel] at h
   ·simp [Xy.sel] at h
  ·
   rename_i t x ho
   split at h
   ·rename_i l i hx
    split at h
    ·rename_i ty cs hl
     split at h
     ·rename_i v hv
      simp only [Xy.sel,Option.some.injEq] at h
      subst h
      have hrun:∀ β,Agr k st.hp β→(execOp a.eval o).run P w = .ok (.value (v.den e β)) w:=fun β hβ=>by
       have h1:=evs_at (I.evs hβ) hx
       simp only [SV.den,SC.den] at h1
       have hb:=I.h.heap β hβ _ (mem_lookH hl)
       unfold execOp
       rw [ho]
       simp only [Sem.run_bind,h1,Instr.loadAt,Instr.sureAddr,Sem.run_pure,Result.andThen_ok,loadVar_run hb hv]
      refine wp_value (hrun k I.agr) (hK k _ _ (I.put I.h I.asm (fun β h=>h) hd (fun β hβ=>?_)))
      exact ok_inj ((hrun k I.agr).symm.trans (hrun β hβ))
     ·simp [Xy.sel] at h
    ·simp [Xy.sel] at h
   ·simp [Xy.sel] at h
  ·
   rename_i t ho
   split at h
   ·rename_i z hz hl
    split at h
    ·rename_i cs hcs
     simp only [Xy.sel,Option.some.injEq] at h
     subst h
     obtain ⟨inf,hi,hz⟩:=Option.bind_eq_some_iff.1 hz
     have hcells:∀ β,z.cells = Ye e β cs:=fun β=>by rw [← den_cells e β hcs,den_ofValue]
     obtain ⟨H',hag⟩:=I.h.alloc hlab hl (t:=t) (cs:=cs) (row:=z.cells) (fun β _=>(hcells β).symm)
     have hr:(execOp a.eval o).run P w = .ok (.value (.pointer (some ⟨w.heap.size,0,none⟩))) (w.alloc (.cells z.cells t)):=by
      unfold execOp
      rw [ho]
      simp [Instr.alloc,zeroValue,typeInfo,hi,hz,newVar,newRow,newObj,Sem.run]
     exact wp_value hr (hK _ _ _ (I.put H' I.asm (fun β h=>(hag β h).1) hd (fun β hβ=>by simp [SV.den,SC.den,(hag β hβ).2])))
    ·simp [Xy.sel] at h
   ·simp [Xy.sel] at h
  ·
   rename_i t x ho
   split at h
   ·rename_i cs hcs hl
    simp only [Xy.sel,Option.some.injEq] at h
    subst h
    have hcells:∀ β,Agr k st.hp β→(a.eval x).cells = Ye e β cs:=fun β hβ=>by rw [I.evs hβ];exact den_cells e β hcs
    obtain ⟨H',hag⟩:=I.h.alloc hlab hl (t:=t) (cs:=cs) (row:=(a.eval x).cells) (fun β hβ=>(hcells β hβ).symm)
    have hr:(execOp a.eval o).run P w = .ok (.value (.pointer (some ⟨w.heap.size,0,none⟩))) (w.alloc (.cells (a.eval x).cells t)):=by
     unfold execOp
     rw [ho]
     simp [Instr.box,newVar,newRow,newObj,Sem.run]
    exact wp_value hr (hK _ _ _ (I.put H' I.asm (fun β h=>(hag β h).1) hd (fun β hβ=>by simp [SV.den,SC.den,(hag β hβ).2])))
   ·simp [Xy.sel] at h
  ·
   rename_i t x y ho
   split at h
   ·rename_i l i vs inf hx hvs hi
    split at h
    ·rename_i ty cs hl
     split at h
     ·rename_i hcond
      obtain ⟨hsz,hfit,hone⟩:=hcond
      simp only [Xy.sel,Option.some.injEq] at h
      subst h
      have hcells:∀ β,Agr k st.hp β→(a.eval y).cells = Ye e β vs:=fun β hβ=>by rw [I.evs hβ];exact den_cells e β hvs
      have hb:=I.h.heap k I.agr _ (mem_lookH hl)
      have hp:=evs_at (I.evs I.agr) hx
      simp only [SV.den,SC.den] at hp
      have hrow:∀ β,Agr k st.hp β→Ye e β (splice cs i vs) = Ye e k (splice cs i vs):=fun β hβ=>by
       have h1:=I.h.heap β hβ _ (mem_lookH hl)
       rw [hβ.2 _ (mem_lookH hl)] at h1
       have h2:Ye e β cs = Ye e k cs:=bk_inj h1 hb
       have h3:Ye e β vs = Ye e k vs:=by rw [← hcells β hβ,← hcells k I.agr]
       rw [denL_splice,denL_splice,h2,h3]
      obtain ⟨H',hag⟩:=I.h.store hl hrow
      have hr:(execOp a.eval o).run P w = .ok .skip (w.setRow (k l) (Ye e k (splice cs i vs))):=by
       unfold execOp
       rw [ho]
       have hst:=run_storeCells_at (P:=P) (k l) i ty ((Ye e k vs).toList) 0 (Ye e k cs) w hb (by simp [denL_size,denL_toList];omega) (denL_one e k hone)
       simp only [Nat.add_zero] at hst
       rw [denL_splice]
       have hlen:(Ye e k vs).toList.length = vs.length:=by simp [denL_toList]
       rw [hlen] at hst
       simp only [Sem.run_bind,hp,Instr.storeAt,Instr.sureAddr,Sem.run_pure,Result.andThen_ok,storeVar,run_size hi,hcells k I.agr,denL_size]
       rw [if_neg (by simp [hsz])]
       rw [hst]
       rfl
      exact wp_skip_ hr (hK _ _ _ (I.put H' I.asm hag hd (fun β hβ=>rfl)))
     ·simp [Xy.sel] at h
    ·simp [Xy.sel] at h
   ·simp [Xy.sel] at h
  ·
   rename_i c ho
   split at h
   ·rename_i f hcal
    split at h
    ·simp [Xy.sel] at h
    rename_i hnf
    rw [sel_bind] at h
    obtain ⟨⟨v,s'⟩,hsel,h⟩:=Option.bind_eq_some_iff.1 h
    simp only [Xy.sel,Option.some.injEq] at h
    subst h
    obtain ⟨F,hst,hF⟩:=I.h.start
    have hen0:=hc f _ st v s' hsel k w F hst I.asm (c.args.map a.eval) (fun β hβ=>by
     apply Array.toList_inj.1
     simp only [Array.toList_map,List.map_map]
     exact List.map_congr_left fun x _=>I.evs hβ x)
    unfold Enters at hen0
    rw [if_neg hnf] at hen0
    obtain ⟨hcf,hcalls⟩:=hen0
    have hr:(execOp a.eval o).run P w = .ok (.enter f (c.args.map a.eval)) w:=by
     unfold execOp
     rw [ho]
     simp only [Sem.run_bind,resolve,hcal,Act.eval,Deferred.ofValue,Sem.run_pure,Result.andThen_ok,invoke]
     rw [show (#[]:Array Value)++Array.map (fun x=>a.eval x) c.args++#[] = c.args.map a.eval by simp]
     exact hcf
    unfold Oper.wp
    rw [hr]
    simp only [Oper.upon]
    refine hcalls.mono fun en w' hpost=>?_
    obtain ⟨k',H',hs',hen⟩:=hpost
    have H2:=I.h.trans hF H'
    have hag:∀ β,Agr k' s'.hp β→Agr k st.hp β:=fun β hβ=>⟨hβ.1,fun x hx=>by
     obtain ⟨y,hy,hyx⟩:=H'.old x.1 (mem_labsH.2 ⟨x,hx,rfl⟩)
     rw [← hyx,hβ.2 y hy,hyx]
     exact H'.ext x.1 (mem_labsH.2 ⟨x,hx,rfl⟩)⟩
    have h0:=hen k' H'.agr
    subst h0
    refine hK k' _ _ (I.put H2 hs' hag hd (fun β hβ=>?_))
    exact ret_inj (hen β hβ)
   ·
    rename_i t name hcal
    split at h
    ·rename_i hname
     subst hname
     rw [sel_bind] at h
     obtain ⟨⟨v,s'⟩,hsel,h⟩:=Option.bind_eq_some_iff.1 h
     simp only [Xy.sel,Option.some.injEq] at h
     subst h
     obtain ⟨F,hst,hF⟩:=I.h.start
     have hen0:=hc invF _ st v s' hsel k w F hst I.asm (#[a.eval t]++c.args.map a.eval) (fun β hβ=>by
      apply Array.toList_inj.1
      simp only [Array.toList_map,Array.toList_append,List.map_map,List.map_cons,List.cons_append,List.nil_append]
      rw [I.evs hβ t]
      congr 1
      exact List.map_congr_left fun x _=>I.evs hβ x)
     unfold Enters at hen0
     rw [if_pos rfl] at hen0
     obtain ⟨recv,f',a',hrecv,hcm,hcalls⟩:=hen0
     have hr:(execOp a.eval o).run P w = .ok (.enter f' a') w:=by
      unfold execOp
      rw [ho]
      simp only [Sem.run_bind,resolve,hcal,Sem.run_pure,Result.andThen_ok,invoke,hrecv]
      simpa only [Array.append_empty] using hcm
     unfold Oper.wp
     rw [hr]
     simp only [Oper.upon]
     refine hcalls.mono fun en w' hpost=>?_
     obtain ⟨k',H',hs',hen⟩:=hpost
     have H2:=I.h.trans hF H'
     have hag:∀ β,Agr k' s'.hp β→Agr k st.hp β:=fun β hβ=>⟨hβ.1,fun x hx=>by
      obtain ⟨y,hy,hyx⟩:=H'.old x.1 (mem_labsH.2 ⟨x,hx,rfl⟩)
      rw [← hyx,hβ.2 y hy,hyx]
      exact H'.ext x.1 (mem_labsH.2 ⟨x,hx,rfl⟩)⟩
     have h0:=hen k' H'.agr
     subst h0
     refine hK k' _ _ (I.put H2 hs' hag hd (fun β hβ=>?_))
     exact ret_inj (hen β hβ)
    ·simp [Xy.sel] at h
   ·
    rename_i hcal
    split at h
    ·rename_i i n el hargs hty
     split at h
     ·rename_i hk
      simp only [Xy.sel,Option.some.injEq] at h
      subst h
      have hge:0≤n.den e:=by
       have h1:=known_den I.asm (.le (.lit 0) n)
       rw [hk] at h1
       exact of_decide_eq_true h1.symm
      obtain ⟨t,ht,hu⟩:=Option.bind_eq_some_iff.1 hty
      have hrun:(execOp a.eval o).run P w = .ok (.value (.int .i64 (n.den e))) w:=by
       have hx:(c.args.map a.eval).toList = [Value.slice (hdr (e.val i)).1 (n.den e).toNat (hdr (e.val i)).2]:=by
        rw [Array.toList_map]
        have h2:=congrArg (List.map (SV.den e k)) hargs
        simp only [List.map_map,List.map_cons,List.map_nil,SV.den,SC.den] at h2
        rw [← h2]
        exact List.map_congr_left fun y _=>I.evs I.agr y
       have hx2:c.args.map a.eval = #[Value.slice (hdr (e.val i)).1 (n.den e).toNat (hdr (e.val i)).2]:=Array.toList_inj.1 hx
       have hgo:goInt (n.den e).toNat = .int .i64 (n.den e):=by
        show Value.int .i64 (((n.den e).toNat:Nat):Int) = _
        rw [Int.toNat_of_nonneg hge]
       unfold execOp
       rw [ho]
       simp only [Sem.run_bind,resolve,hcal,Act.eval,Sem.run_pure,Result.andThen_ok,invoke]
       simp [hx2,builtin,Builtin.len_,ht,run_underlying hu,show max (n.den e) 0 = n.den e from by omega,goInt]
      exact wp_value hrun (hK k _ _ (I.put I.h I.asm (fun β h=>h) hd (fun β hβ=>rfl)))
     ·simp [Xy.sel] at h
    ·simp [Xy.sel] at h
   ·simp [Xy.sel] at h
  ·simp [Xy.sel] at h
end
end Go.Proofs.YtaipogljokblkaaGreatDoor
