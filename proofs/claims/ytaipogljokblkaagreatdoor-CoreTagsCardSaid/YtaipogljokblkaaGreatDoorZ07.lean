/- Core: SymM, Rfl, SymQ, Rfm, SymR. -/
import Derived.Test.YtaipogljokblkaaGreatDoorZ06
set_option linter.all false
set_option maxRecDepth 100000
set_option maxHeartbeats 8000000
namespace Go.Proofs.YtaipogljokblkaaGreatDoor
open Go Go.RowKit
set_option linter.unusedSimpArgs false
set_option linter.unusedVariables false
set_option linter.unusedSectionVars false
structure Chg (F:List Nat) (w w':World):Prop where
 os:w'.os = w.os
 tape:w'.tape = w.tape
 output:w'.output = w.output
 size:w.heap.size≤w'.heap.size
 far:∀ b,b < w.heap.size→b ∉ F→w'.heap[b]? = w.heap[b]?
section
variable {F G:List Nat} {w w1 w2:World}
theorem Chg.refl (F:List Nat) (w:World):Chg F w w:=⟨rfl,rfl,rfl,Nat.le_refl _,fun _ _ _=>rfl⟩
theorem Chg.trans (h:Chg F w w1) (h':Chg F w1 w2):Chg F w w2 :=
 ⟨h'.os.trans h.os,h'.tape.trans h.tape,h'.output.trans h.output,Nat.le_trans h.size h'.size,fun b hb hf=>(h'.far b (Nat.lt_of_lt_of_le hb h.size) hf).trans (h.far b hb hf)⟩
theorem Chg.mono (h:Chg F w w1) (hs:∀ x∈F,x∈G∨w.heap.size≤x):Chg G w w1 :=
 ⟨h.os,h.tape,h.output,h.size,fun b hb hg=>h.far b hb fun hf=>by rcases hs b hf with h1 | h1;exact hg h1;omega⟩
theorem Chg.below (h:Chg [] w w1):Below w.heap.size w w1:=⟨h.os,h.tape,h.output,h.size,fun b hb=>h.far b hb (by simp)⟩
theorem Chg.of_below (h:Below w.heap.size w w1):Chg F w w1:=⟨h.os,h.tape,h.output,h.size,fun b hb _=>h.block b hb⟩
theorem Chg.grown {g:Nat} (h:Chg [g] w w1):w.grownBy w1 (some g):=⟨h.os,h.tape,h.output,h.size,fun b hb hne=>h.far b hb (by simp only [List.mem_singleton];intro e;exact hne (by rw [e]))⟩
theorem Bk.chg {g:Nat} {t:TypeId} {cs:Array Value} (h:Bk w g t cs) (hc:Chg F w w1) (hg:g ∉ F):Bk w1 g t cs:=h.same (hc.far g h.lt hg)
end
def kof (gs:List Nat) (l:Nat):Nat:=if l % 2 = 0 then l / 2 else gs.getD (l / 2) 0
theorem kof_even (gs:List Nat) (g:Nat):kof gs (2*g) = g:=by
 unfold kof;rw [if_pos (by omega)];omega
def chgL (h':Heap):Heap→List Nat
 | []=>[]
 | x :: r=>match lookH x.1 h' with
  | some (t,cs)=>if t==x.2.1 && sameL SC.same x.2.2 cs then chgL h' r else x.1 :: chgL h' r
  | none=>x.1 :: chgL h' r
theorem chgL_spec {h':Heap} {x:Nat × TypeId × List SC}:∀ {h:Heap},x∈h→x.1∈chgL h' h∨(x.1,x.2.1,x.2.2)∈h'
 | [],hx=>by cases hx
 | y :: r,hx=>by
  unfold chgL
  rcases List.mem_cons.1 hx with rfl | hx
  ·split
   ·rename_i t cs hl
    split
    ·rename_i hc
     simp only [Bool.and_eq_true,beq_iff_eq] at hc
     right
     have:=mem_lookH hl
     rw [hc.1,← sameL_eq (fun _ _=>SC.same_eq) hc.2] at this
     exact this
    ·left;simp
   ·left;simp
  ·have ih:=chgL_spec (h':=h') hx
   split
   ·split
    ·exact ih
    ·exact ih.imp (fun h=>List.mem_cons_of_mem _ h) id
   ·exact ih.imp (fun h=>List.mem_cons_of_mem _ h) id
section
variable {P:Program} {e:Env} {S:List Xs}
structure SymPost (e:Env) (k:Nat→Nat) (hp:Heap) (w:World) (v:SV) (hp':Heap) (en:Ending) (w':World) (k':Nat→Nat):Prop where
 ret:en = .returned (v.den e k')
 blk:∀ x∈hp',Bk w' (k' x.1) x.2.1 (Ye e k' x.2.2)
 ext:∀ l∈Yf hp,k' l = k l
 even:∀ g,k' (2*g) = g
 new:∀ x∈hp',x.1∈Yf hp∨w.heap.size≤k' x.1
 inj:∀ x∈hp',∀ y∈hp',k' x.1 = k' y.1→x.1 = y.1
 chg:Chg ((chgL hp' hp).map k) w w'
structure ChgP (F:Nat→Prop) (w w':World):Prop where
 os:w'.os = w.os
 tape:w'.tape = w.tape
 output:w'.output = w.output
 size:w.heap.size≤w'.heap.size
 far:∀ b,b < w.heap.size→¬ F b→w'.heap[b]? = w.heap[b]?
structure SymPostE (e:Env) (Φ:Phi) (F:Nat→Prop) (k:Nat→Nat) (hp:Heap) (w:World) (v:SV) (ph:Nat) (hp':Heap) (en:Ending) (w':World) (k':Nat→Nat):Prop where
 ret:en = .returned (v.den e k')
 blk:∀ x∈hp',Bk w' (k' x.1) x.2.1 (Ye e k' x.2.2)
 ext:∀ l∈Yf hp,k' l = k l
 even:∀ g,k' (2*g) = g
 new:∀ x∈hp',x.1∈Yf hp∨w.heap.size≤k' x.1
 inj:∀ x∈hp',∀ y∈hp',k' x.1 = k' y.1→x.1 = y.1
 chg:ChgP (fun b=>b∈(chgL hp' hp).map k∨F b) w w'
 fin:∃ F':Nat→Prop,Φ.P ph w' F'∧(∀ x∈hp',¬ F' (k' x.1))∧(∀ b,F' b→b < w'.heap.size)∧∀ b,F' b→F b∨w.heap.size≤b
theorem sym_callsE {Φ:Phi} (hm:P.follows .mixedOrders = true) (hS:SumsOkE P e Φ S) {n f:Nat} {args:List SV} {st st':St} {x:Ex} {v:SV} (h:(exec P S n (.call f args) st).sel e = some (x,v,st')) (hasm:AsmOk e st.asm)
  {k:Nat→Nat} {w:World} (good:∀ g,k (2*g) = g) (blocks:∀ x∈st.hp,Bk w (k x.1) x.2.1 (Ye e k x.2.2)) (closed:okH (Yf st.hp) st.hp = true) (cargs:args.all (okV (Yf st.hp)) = true)
  (inj:∀ x∈st.hp,∀ y∈st.hp,k x.1 = k y.1→x.1 = y.1) {args':Array Value} (ha:args' = (args.map (SV.den e k)).toArray)
  {F:Nat→Prop} (f1:Φ.P st.ph w F) (f2:∀ x∈st.hp,¬ F (k x.1)) (f3:∀ b,F b→b < w.heap.size) (hnf:¬ f = invF:=by decide) :
  Calls P f args' w fun en w'=>∃ k',SymPostE e Φ F k st.hp w v st'.ph st'.hp en w' k':=by
 have al:∀ β,Agr k st.hp β→Alike (Yf st.hp) β k:=fun β hβ=>⟨hβ.1,good,fun l hl=>by
  obtain ⟨x,hx,rfl⟩:=mem_labsH.1 hl
  exact hβ.2 x hx⟩
 have H:HInv e ⟨Yf st.hp,k,w,F,Φ⟩ k st.ph st.hp w:=by
  refine ⟨good,fun β hβ x hx=>?_,inj,fun _ _=>rfl,fun x hx=>Or.inl (mem_labsH.2 ⟨x,hx,rfl⟩),fun l hl=>mem_labsH.1 hl,rfl,rfl,rfl,Nat.le_refl _,fun _ _ _ _=>rfl,F,f1,f2,f3,fun _ hb=>Or.inl hb⟩
  rw [hβ.2 x hx,okCs_den (al β hβ) (okH_mem closed x hx)]
  exact blocks x hx
 have hsel:(callE P S n f args st).sel e = some (v,st'):=by
  unfold callE
  rw [sel_bind,h]
  rfl
 have hen:=(exec_sound hm hS n).2.2 f args st v st' hsel k w F H hasm args' (fun β hβ=>by
  rw [ha]
  congr 1
  exact List.map_congr_left fun u hu=>(okV_den (al β hβ) (List.all_eq_true.1 cargs u hu)).symm)
 unfold Enters at hen
 rw [if_neg hnf] at hen
 obtain ⟨_,hcalls⟩:=hen
 refine hcalls.mono fun en w' hpost=>?_
 obtain ⟨k',H',_,hen⟩:=hpost
 obtain ⟨F',g1,g2,g3,g4⟩:=H'.opq
 refine ⟨k',hen k' H'.agr,fun x hx=>H'.heap k' H'.agr x hx,H'.ext,H'.good,H'.new,H'.inj,⟨H'.os,H'.tape,H'.output,H'.size,fun b hb hf=>?_⟩,F',g1,g2,g3,g4⟩
 by_cases hbl:∃ l∈Yf st.hp,k l = b
 ·obtain ⟨l,hl,rfl⟩:=hbl
  obtain ⟨x,hx,rfl⟩:=mem_labsH.1 hl
  rcases chgL_spec (h':=st'.hp) hx with h1 | h1
  ·exact absurd (Or.inl (List.mem_map.2 ⟨_,h1,rfl⟩)) hf
  ·have h2:=H'.heap k' H'.agr _ h1
   have h3:=blocks x hx
   have e1:k' x.1 = k x.1:=H'.ext x.1 hl
   simp only at h2
   have al':Alike (Yf st.hp) k' k:=⟨H'.good,good,fun l hl=>H'.ext l hl⟩
   rw [e1,okCs_den al' (okH_mem closed x hx)] at h2
   unfold Bk at h2 h3
   rw [h2,h3]
 ·exact H'.frm b hb (fun l hl he=>hbl ⟨l,hl,he⟩) fun hf'=>hf (Or.inr hf')
theorem sym_callsA (hm:P.follows .mixedOrders = true) (hS:SumsOk P e S) {n f:Nat} {args:List SV} {st st':St} {x:Ex} {v:SV} (h:(exec P S n (.call f args) st).sel e = some (x,v,st')) (hasm:AsmOk e st.asm)
  {k:Nat→Nat} {w:World} (good:∀ g,k (2*g) = g) (blocks:∀ x∈st.hp,Bk w (k x.1) x.2.1 (Ye e k x.2.2)) (closed:okH (Yf st.hp) st.hp = true) (cargs:args.all (okV (Yf st.hp)) = true)
  (inj:∀ x∈st.hp,∀ y∈st.hp,k x.1 = k y.1→x.1 = y.1) {args':Array Value} (ha:args' = (args.map (SV.den e k)).toArray) (hp:plainS S = true:=by kernel_rfl) (hnf:¬ f = invF:=by decide) :
  Calls P f args' w fun en w'=>∃ k',SymPost e k st.hp w v st'.hp en w' k':=by
 refine (sym_callsE (Φ:=Phi.no) hm (hS.effects hp) h hasm good blocks closed cargs inj ha (F:=fun _=>False) (fun _ h=>h) (fun _ _ h=>h) (fun _ h=>h.elim) hnf).mono fun en w' hx=>?_
 obtain ⟨k',q⟩:=hx
 exact ⟨k',q.ret,q.blk,q.ext,q.even,q.new,q.inj,⟨q.chg.os,q.chg.tape,q.chg.output,q.chg.size,fun b hb hf=>q.chg.far b hb fun h=>by rcases h with h | h;exact hf h;exact h⟩⟩
theorem asm_nil {e:Env} {s:Asm} (h:s = []):AsmOk e s:=by subst h;intro p hp;cases hp
end
theorem blk_at {e:Env} {k:Nat→Nat} {hp:Heap} {w:World} {v:SV} {hp':Heap} {en:Ending} {w':World} {k':Nat→Nat} (h:SymPost e k hp w v hp' en w' k') {l:Nat} {t:TypeId} {cs:List SC} (hm:(l,t,cs)∈hp') {g:Nat} (e1:k' l = g) {row:Array Value} (hc:Ye e k' cs = row):Bk w' g t row:=by
 have:=h.blk _ hm
 simp only at this
 rw [e1,hc] at this
 exact this
def vs (k n:Nat):List SC:=(List.range n).map fun i=>.int (.var (k+i))
def zs (n:Nat):List SC:=List.replicate n (.int (.lit 0))
def pt (b:List SC):List (Nat × List SC)→List SC
 | []=>b
 | p :: r=>pt (splice b p.1 p.2) r
def packT (t:Xy (Ex × SV × St)):Xy (SV × Heap):=t.bind fun r=>.leaf (r.2.1,r.2.2.hp)
theorem packT_sel {e:Env} {t:Xy (Ex × SV × St)} {v:SV} {h:Heap} (hs:(packT t).sel e = some (v,h)):∃ x s,t.sel e = some (x,v,s)∧s.hp = h:=by
 unfold packT at hs
 rw [sel_bind] at hs
 obtain ⟨⟨x,u,s⟩,h1,h2⟩:=Option.bind_eq_some_iff.1 hs
 simp only [Xy.sel,Option.some.injEq,Prod.mk.injEq] at h2
 obtain ⟨rfl,rfl⟩:=h2
 exact ⟨x,s,h1,rfl⟩
def packE (t:Xy (Ex × SV × St)):Xy (SV × Nat × Heap):=t.bind fun r=>.leaf (r.2.1,r.2.2.ph,r.2.2.hp)
theorem packE_sel {e:Env} {t:Xy (Ex × SV × St)} {v:SV} {ph:Nat} {h:Heap} (hs:(packE t).sel e = some (v,ph,h)):∃ x s,t.sel e = some (x,v,s)∧s.ph = ph∧s.hp = h:=by
 unfold packE at hs
 rw [sel_bind] at hs
 obtain ⟨⟨x,u,s⟩,h1,h2⟩:=Option.bind_eq_some_iff.1 hs
 simp only [Xy.sel,Option.some.injEq,Prod.mk.injEq] at h2
 obtain ⟨rfl,rfl,rfl⟩:=h2
 exact ⟨x,s,h1,rfl,rfl⟩
theorem sym_packE {P:Program} {e:Env} {Φ:Phi} {S:List Xs} (hm:P.follows .mixedOrders = true) (hS:SumsOkE P e Φ S) {n f:Nat} {args:List SV} {st:St} {v:SV} {ph:Nat} {hp':Heap} (h:(packE (exec P S n (.call f args) st)).sel e = some (v,ph,hp')) (hasm:AsmOk e st.asm)
  {k:Nat→Nat} {w:World} (good:∀ g,k (2*g) = g) (blocks:∀ x∈st.hp,Bk w (k x.1) x.2.1 (Ye e k x.2.2)) (closed:okH (Yf st.hp) st.hp = true) (cargs:args.all (okV (Yf st.hp)) = true)
  (inj:∀ x∈st.hp,∀ y∈st.hp,k x.1 = k y.1→x.1 = y.1) {args':Array Value} (ha:args' = (args.map (SV.den e k)).toArray)
  {F:Nat→Prop} (f1:Φ.P st.ph w F) (f2:∀ x∈st.hp,¬ F (k x.1)) (f3:∀ b,F b→b < w.heap.size) (hnf:¬ f = invF:=by decide) :
  Calls P f args' w fun en w'=>∃ k',SymPostE e Φ F k st.hp w v ph hp' en w' k':=by
 obtain ⟨x,s,h1,rfl,rfl⟩:=packE_sel h
 exact sym_callsE hm hS h1 hasm good blocks closed cargs inj ha f1 f2 f3 hnf
theorem sym_packA {P:Program} {e:Env} {S:List Xs} (hm:P.follows .mixedOrders = true) (hS:SumsOk P e S) {n f:Nat} {args:List SV} {st:St} {v:SV} {hp':Heap} (h:(packT (exec P S n (.call f args) st)).sel e = some (v,hp')) (hasm:AsmOk e st.asm)
  {k:Nat→Nat} {w:World} (good:∀ g,k (2*g) = g) (blocks:∀ x∈st.hp,Bk w (k x.1) x.2.1 (Ye e k x.2.2)) (closed:okH (Yf st.hp) st.hp = true) (cargs:args.all (okV (Yf st.hp)) = true)
  (inj:∀ x∈st.hp,∀ y∈st.hp,k x.1 = k y.1→x.1 = y.1) {args':Array Value} (ha:args' = (args.map (SV.den e k)).toArray) (hpl:plainS S = true:=by kernel_rfl) (hnf:¬ f = invF:=by decide) :
  Calls P f args' w fun en w'=>∃ k',SymPost e k st.hp w v hp' en w' k':=by
 obtain ⟨x,s,h1,rfl⟩:=packT_sel h
 exact sym_callsA hm hS h1 hasm good blocks closed cargs inj ha hpl hnf
theorem Xd {P:Program} {e:Env}:SumsOk P e []:=fun _ h=>by cases h
theorem callf_enter {P:Program} {f:Nat} {fn:Func} (hf:P.funcs[f]? = some fn) (hn:(fn.name== "runtime.NumGoroutine") = false) (hb:fn.body.isNone = false) (args:Array Value) (w:World):(callFunc f args).run P w = .ok (.enter f args) w:=by
 unfold callFunc
 simp only [Sem.run_bind,run_program,Result.andThen_ok,hf]
 rw [if_neg (by simp [hn]),if_neg (by simp [hb])]
 rfl
theorem asm_cons {e:Env} {b:BT} {v:Bool} {s:Asm} (h:b.den e = v) (hs:AsmOk e s):AsmOk e ((b,v) :: s):=by
 intro p hp
 rcases List.mem_cons.1 hp with rfl | hp
 ·exact h
 ·exact hs p hp
theorem Yb {w:World} {g:Nat} {t:TypeId} {cs cs':Array Value} (h:Bk w g t cs) (e:cs = cs'):Bk w g t cs':=e ▸ h
theorem chg_to {gs F ls ls':List Nat} {w w':World} (h:Chg (ls'.map (kof gs)) w w') (e:ls' = ls) (hs:∀ l∈ls,kof gs l∈F):Chg F w w':=by
 subst e
 exact h.mono fun x hx=>by obtain ⟨l,hl,rfl⟩:=List.mem_map.1 hx;exact Or.inl (hs l hl)
theorem inj_of {h:Heap} (gs:List Nat) (hn:(h.map fun x=>kof gs x.1).Nodup) (x y:Nat × TypeId × List SC) (hx:x∈h) (hy:y∈h) (hxy:kof gs x.1 = kof gs y.1):x.1 = y.1:=by
 induction h with
 | nil=>cases hx
 | cons z r ih =>
  simp only [List.map_cons,List.nodup_cons,List.mem_map,not_exists,not_and] at hn
  rcases List.mem_cons.1 hx with h1 | h1 <;> rcases List.mem_cons.1 hy with h2 | h2
  ·rw [h1,h2]
  ·rw [h1] at hxy;exact absurd hxy.symm (hn.1 y h2)
  ·rw [h2] at hxy;exact absurd hxy (hn.1 x h1)
  ·exact ih hn.2 h1 h2
def Rep2 (Sub:World→Value→List Nat→Prop) (T:TypeId) (JL:Value→List Value) (w:World) (g:Nat) (F:List Nat):Prop :=
 (∃ q F1,F = g :: F1∧Bk w g T (JL q).toArray∧Sub w q F1)∧F.Nodup
def Post2 (Sub:World→Value→List Nat→Prop) (T:TypeId) (JL:Value→List Value) (V:Value) (g:Nat) (F:List Nat) (w:World) (en:Ending) (w':World):Prop :=
 ∃ F',en = .returned V∧Rep2 Sub T JL w' g F'∧(∀ b∈F',b∈F∨w.heap.size≤b)∧Chg F w w'
section
variable {e:Env} {gs F:List Nat} {hp hp':Heap} {w w':World} {v:SV} {en:Ending} {k':Nat→Nat} {Sub:World→Value→List Nat→Prop} {T T2:TypeId} {JL:Value→List Value} {V:Value} {g:Nat} {c1 c2:List SC} {ls:List Nat}
theorem fin_nil (h:SymPost e (kof gs) hp w v hp' en w' k') (l1:hasL 1 (Yf hp) = true) (hg:kof gs 1 = g) (m1:(1,T,c1)∈hp') (ec:Ye e k' c1 = (JL (.pointer none)).toArray) (hv:v.den e k' = V)
  (hch:chgL hp' hp = ls) (hF:∀ l∈ls,kof gs l∈F) (gF:g∈F) (hsub:Sub w' (.pointer none) []):Post2 Sub T JL V g F w en w' :=
 ⟨[g],h.ret.trans (by rw [hv]),⟨⟨_,[],rfl,blk_at h m1 ((h.ext 1 (hasL_mem.1 l1)).trans hg) ec,hsub⟩,by simp⟩,fun b hb=>by rw [List.mem_singleton.1 hb];exact Or.inl gF,chg_to h.chg hch hF⟩
theorem fin_one (h:SymPost e (kof gs) hp w v hp' en w' k') (l1:hasL 1 (Yf hp) = true) (hg:kof gs 1 = g) (m1:(1,T,c1)∈hp') (l2:Nat) (m2:(l2,T2,c2)∈hp') (hne:(l2==1) = false) (ec:Ye e k' c1 = (JL (.pointer (some ⟨k' l2,0,none⟩))).toArray) (hv:v.den e k' = V)
  (hch:chgL hp' hp = ls) (hF:∀ l∈ls,kof gs l∈F) (gF:g∈F) (hl2:hasL l2 (Yf hp) = true→kof gs l2∈F) (hsub:Bk w' (k' l2) T2 (Ye e k' c2)→Sub w' (.pointer (some ⟨k' l2,0,none⟩)) [k' l2]):Post2 Sub T JL V g F w en w':=by
 have e1:=(h.ext 1 (hasL_mem.1 l1)).trans hg
 have hn:¬ (g = k' l2):=fun he=>by
  have:=h.inj _ m1 _ m2 (e1.trans he)
  simp only at this
  rw [← this] at hne
  simp at hne
 refine ⟨[g,k' l2],h.ret.trans (by rw [hv]),⟨⟨_,_,rfl,blk_at h m1 e1 ec,hsub (blk_at h m2 rfl rfl)⟩,by simp [hn]⟩,fun b hb=>?_,chg_to h.chg hch hF⟩
 rcases List.mem_cons.1 hb with rfl | hb
 ·exact Or.inl gF
 ·rw [List.mem_singleton.1 hb]
  rcases h.new _ m2 with h1 | h1
  ·left
   rw [h.ext _ h1]
   exact hl2 (hasL_mem.2 h1)
  ·exact Or.inr h1
end
def ct (l:List (List SC)):List SC:=l.flatten
def knB (s:Asm):BT→Option Bool
 | .lit b=>some b
 | .not a=>match lookA (.not a) s with
  | some v=>some v
  | none=>(knB s a).map (!·)
 | .and a b=>match lookA (.and a b) s with
  | some v=>some v
  | none=>match knB s a,knB s b with
   | some false,_=>some false
   | _,some false=>some false
   | some true,some true=>some true
   | _,_=>none
 | .or a b=>match lookA (.or a b) s with
  | some v=>some v
  | none=>match knB s a,knB s b with
   | some true,_=>some true
   | _,some true=>some true
   | some false,some false=>some false
   | _,_=>none
 | b=>lookA b s
theorem knB_ok {e:Env} {s:Asm} (hs:AsmOk e s):∀ (b:BT) (v:Bool),knB s b = some v→b.den e = v
 | .lit b,v,h=>by cases h;rfl
 | .not a,v,h=>by
  unfold knB at h
  split at h
  ·rename_i u hu
   cases h
   exact Ys hs hu
  ·obtain ⟨u,h1,h2⟩:=Option.map_eq_some_iff.1 h
   show (!a.den e) = v
   rw [knB_ok hs a u h1]
   exact h2
 | .and a b,v,h=>by
  unfold knB at h
  split at h
  ·rename_i u hu
   cases h
   exact Ys hs hu
  ·show (a.den e && b.den e) = v
   split at h
   ·rename_i h1;cases h;rw [knB_ok hs a _ h1];rfl
   ·rename_i h1 _;cases h;rw [knB_ok hs b _ h1];cases a.den e <;> rfl
   ·rename_i h1 h2;cases h;rw [knB_ok hs a _ h1,knB_ok hs b _ h2];rfl
   ·cases h
 | .or a b,v,h=>by
  unfold knB at h
  split at h
  ·rename_i u hu
   cases h
   exact Ys hs hu
  ·show (a.den e || b.den e) = v
   split at h
   ·rename_i h1;cases h;rw [knB_ok hs a _ h1];rfl
   ·rename_i h1 _;cases h;rw [knB_ok hs b _ h1];cases a.den e <;> rfl
   ·rename_i h1 h2;cases h;rw [knB_ok hs a _ h1,knB_ok hs b _ h2];rfl
   ·cases h
 | .var i,v,h=>Ys hs h
 | .eq a b,v,h=>Ys hs h
 | .lt a b,v,h=>Ys hs h
 | .le a b,v,h=>Ys hs h
 | .beq a b,v,h=>Ys hs h
 | .nil i,v,h=>Ys hs h
 | .nilI i,v,h=>Ys hs h
section
variable {α R:Type} {e:Env}
def Xy.lv (s:Asm):Xy α→List (Option α)
 | .leaf a=>[some a]
 | .fail _=>[none]
 | .br b t f=>match knB s b with
  | some true=>t.lv s
  | some false=>f.lv s
  | none=>t.lv (addA b true s)++f.lv (addA b false s)
theorem lv_sel:∀ (t:Xy α) (s:Asm),AsmOk e s→t.sel e∈t.lv s
 | .leaf a,_,_=>by unfold Xy.lv Xy.sel;exact List.mem_cons_self ..
 | .fail _,_,_=>by unfold Xy.lv Xy.sel;exact List.mem_cons_self ..
 | .br b t f,s,hs=>by
  unfold Xy.lv Xy.sel
  split
  ·rename_i hk
   rw [knB_ok hs b _ hk]
   exact lv_sel t s hs
  ·rename_i hk
   rw [knB_ok hs b _ hk]
   exact lv_sel f s hs
  ·cases hb:b.den e with
   | true=>exact List.mem_append_left _ (lv_sel t _ (addA_ok hs hb))
   | false=>exact List.mem_append_right _ (lv_sel f _ (addA_ok hs hb))
def BT.bare:BT→BT
 | .not a=>a.bare
 | b=>b
def Xy.nx (s:Asm):Xy α→BT
 | .leaf _=>.lit true
 | .fail _=>.lit true
 | .br b t f=>match knB s b with
  | some true=>t.nx s
  | some false=>f.nx s
  | none=>b.bare
def PO (t:Xy α) (e:Env) (Q:α→R→Prop) (s:Asm) (r:R):Prop:=AsmOk e s→∃ a,t.sel e = some a∧Q a r
variable {t:Xy α} {Q:α→R→Prop} {s:Asm} {a b p q:R} {c d:Bool}
theorem po_br (hc:(t.nx s).den e = c) (h1:PO t e Q (addA (t.nx s) true s) a) (h2:PO t e Q (addA (t.nx s) false s) b):PO t e Q s (bif c then a else b):=fun hs=>by
 cases c with
 | true=>exact h1 (addA_ok hs hc)
 | false=>exact h2 (addA_ok hs hc)
theorem po_id (h:PO t e Q s (bif c then a else b)):PO t e Q s (bif c then a else b):=h
theorem po_if (h:PO t e Q s (bif c then a else b)):PO t e Q s (if c = true then a else b):=by cases c <;> exact h
theorem po_not (h:PO t e Q s (bif c then b else a)):PO t e Q s (bif !c then a else b):=by cases c <;> exact h
theorem po_and (h:PO t e Q s (bif c then (bif d then a else b) else b)):PO t e Q s (bif c && d then a else b):=by cases c <;> cases d <;> exact h
theorem po_or (h:PO t e Q s (bif c then a else (bif d then a else b))):PO t e Q s (bif c || d then a else b):=by cases c <;> cases d <;> exact h
theorem po_tt (hc:c = true) (h:PO t e Q s a):PO t e Q s (bif c then a else b):=by subst hc;exact h
theorem po_ff (hc:c = false) (h:PO t e Q s b):PO t e Q s (bif c then a else b):=by subst hc;exact h
def okO {α:Type} (ok:α→Bool):Option α→Bool
 | some a=>ok a
 | none=>false
theorem po_leaf {β:Type} (f:(Nat→Nat)→α→β) (g:R→β) (ok:α→Bool) (h1:(t.lv s).all (okO ok) = true) (h2:∀ k,(t.lv s).map (fun o=>o.map (f k)) = (t.lv s).map fun _=>some (g a))
  (hQ:∀ x,ok x = true→(∀ k,f k x = g a)→Q x a):PO t e Q s a:=fun hs=>by
 have hm:=lv_sel t s hs
 have h3:=List.all_eq_true.1 h1 _ hm
 cases hx:t.sel e with
 | none=>rw [hx] at h3;cases h3
 | some x =>
  rw [hx] at h3 hm
  refine ⟨x,rfl,hQ x h3 fun k=>?_⟩
  obtain ⟨i,hi,he⟩:=List.getElem_of_mem hm
  have h4:=congrArg (fun l=>l[i]?) (h2 k)
  simp only [List.getElem?_map,List.getElem?_eq_getElem hi,Option.map_some,he,Option.map_some,Option.some.injEq] at h4
  exact h4
end
def cellAt (l:Nat) (h:Heap):List SC:=match lookH l h with | some x=>x.2 | none=>[]
def out1 (e:Env) (k:Nat→Nat) (a:SV × Heap):Value × Array Value:=(a.1.den e k,Ye e k (cellAt 1 a.2))
def ok1 (T:TypeId) (hp:Heap) (a:SV × Heap):Bool:=(match lookH 1 a.2 with | some x=>x.1==T | none=>false) && (chgL a.2 hp).all (·==1)
def Q1 (e:Env) (T:TypeId) (hp:Heap) (a:SV × Heap) (r:Value × Array Value):Prop:=ok1 T hp a = true∧∀ k,out1 e k a = r
theorem po1_leaf {t:Xy (SV × Heap)} {e:Env} {T:TypeId} {hp:Heap} {s:Asm} {R:Type} {a:R} {g:R→Value × Array Value} (h1:(t.lv s).all (okO (ok1 T hp)) = true) (h2:∀ k,(t.lv s).map (fun o=>o.map (out1 e k)) = (t.lv s).map fun _=>some (g a)):PO t e (fun x r=>Q1 e T hp x (g r)) s a :=
 po_leaf (out1 e) g (ok1 T hp) h1 h2 fun _ h h'=>⟨h,h'⟩
theorem po1 {P:Program} {e:Env} {S:List Xs} {n f:Nat} {args:List SV} {st:St} {T:TypeId} {g:Nat} {cs:List SC} {w:World} {args':Array Value} {R:Type} {r:R} {G:R→Value × Array Value} (hm:P.follows .mixedOrders = true) (hS:SumsOk P e S) (hp:st.hp = [(1,T,cs)]) (hasm:AsmOk e st.asm)
  (hb:Bk w g T (Ye e (kof [g]) cs)) (closed:okH (Yf st.hp) st.hp = true) (cargs:args.all (okV (Yf st.hp)) = true) (ha:args' = (args.map (SV.den e (kof [g]))).toArray)
  (h:PO (packT (exec P S n (.call f args) st)) e (fun x r=>Q1 e T st.hp x (G r)) st.asm r) (hpl:plainS S = true:=by kernel_rfl) (hnf:¬ f = invF:=by decide) :
  Calls P f args' w fun en w'=>en = .returned (G r).1∧Bk w' g T (G r).2∧Chg [g] w w':=by
 obtain ⟨⟨v,h'⟩,hsel,hok,hout⟩:=h hasm
 refine (sym_packA hm hS hsel hasm (kof_even [g]) (fun z hz=>?_) closed cargs (fun z hz y hy _=>?_) ha hpl hnf).mono fun en w' hx=>?_
 ·rw [hp] at hz
  rw [List.mem_singleton.1 hz]
  exact Yb (show Bk w (kof [g] 1) T _ from hb) rfl
 ·rw [hp] at hz hy
  rw [List.mem_singleton.1 hz,List.mem_singleton.1 hy]
 ·obtain ⟨k',q⟩:=hx
  have e1:=hout k'
  unfold ok1 at hok
  rw [Bool.and_eq_true] at hok
  obtain ⟨o1,o2⟩:=hok
  cases hl:lookH 1 h' with
  | none=>rw [hl] at o1;cases o1
  | some x =>
   obtain ⟨T',c1⟩:=x
   rw [hl] at o1
   obtain rfl:T' = T:=by simpa using o1
   unfold out1 cellAt at e1
   rw [hl] at e1
   have hk:k' 1 = g:=(q.ext 1 (by rw [hp];exact List.mem_singleton.2 rfl)).trans rfl
   refine ⟨q.ret.trans ?_,blk_at q (mem_lookH hl) hk ?_,chg_to q.chg rfl fun l hl=>?_⟩
   ·rw [← e1]
   ·rw [← e1]
   ·have:=List.all_eq_true.1 o2 l hl
    obtain rfl:l = 1:=by simpa using this
    exact List.mem_singleton.2 rfl
def EPost (Φ:Phi) (ph:Nat) (F:Nat→Prop) (g:Nat) (T:TypeId) (row:Array Value) (V:Value) (w:World) (en:Ending) (w':World):Prop :=
 en = .returned V∧Bk w' g T row∧ChgP (fun b=>b = g∨F b) w w'∧∃ F':Nat→Prop,Φ.P ph w' F'∧¬ F' g∧(∀ b,F' b→b < w'.heap.size)∧∀ b,F' b→F b∨w.heap.size≤b
theorem fin_E {e:Env} {Φ:Phi} {F:Nat→Prop} {gs:List Nat} {hp hp':Heap} {w w':World} {v:SV} {ph:Nat} {en:Ending} {k':Nat→Nat} {T:TypeId} {V:Value} {g:Nat} {c1:List SC} {ls:List Nat} {row:Array Value}
  (h:SymPostE e Φ F (kof gs) hp w v ph hp' en w' k') (l1:hasL 1 (Yf hp) = true) (hg:kof gs 1 = g) (m1:(1,T,c1)∈hp') (ec:Ye e k' c1 = row) (hv:v.den e k' = V)
  (hch:chgL hp' hp = ls) (hF:∀ l∈ls,kof gs l = g):EPost Φ ph F g T row V w en w':=by
 have e1:k' 1 = g:=(h.ext 1 (hasL_mem.1 l1)).trans hg
 obtain ⟨F',p1,p2,p3,p4⟩:=h.fin
 refine ⟨h.ret.trans (by rw [hv]),?_,⟨h.chg.os,h.chg.tape,h.chg.output,h.chg.size,fun b hb hf=>h.chg.far b hb fun hx=>hf ?_⟩,F',p1,?_,p3,p4⟩
 ·have:=h.blk _ m1
  simp only at this
  rw [e1,ec] at this
  exact this
 ·rcases hx with hx | hx
  ·obtain ⟨l,hl,rfl⟩:=List.mem_map.1 hx
   rw [hch] at hl
   exact Or.inl (hF l hl)
  ·exact Or.inr hx
 ·have:=p2 _ m1
  simp only at this
  rwa [e1] at this
theorem Xm {b:Bool} (h:(!b) = true):b = false:=by cases b <;> simp_all
theorem noF {g:Nat} {F:Nat→Prop} (hf:¬ F g) {l:Nat} {t:TypeId} {cs:List SC} (hl:kof [g] l = g):∀ x∈([(l,t,cs)]:Heap),¬ F (kof [g] x.1):=fun x hx=>by
 rw [List.mem_singleton.1 hx]
 show ¬ F (kof [g] l)
 rw [hl]
 exact hf
def nilP:SC→Bool
 | .lit (.pointer none)=>true
 | _=>false
def subP:SC→Option Nat
 | .ptr l 0=>some l
 | _=>none
def subL (i:Nat) (h:Heap):Option Nat:=(cellAt 1 h)[i]?.bind subP
def out2 (i:Nat) (e:Env) (k:Nat→Nat) (a:SV × Heap):Value × Array Value × Option (Array Value) :=
 (a.1.den e k,Ye e k ((cellAt 1 a.2).set i (.lit (.pointer none))),(subL i a.2).map fun l=>Ye e k (cellAt l a.2))
def isT (T:TypeId) (l:Nat) (h:Heap):Bool:=match lookH l h with | some x=>x.1==T | none=>false
def ok2 (i:Nat) (T T2:TypeId) (hp:Heap) (a:SV × Heap):Bool :=
 isT T 1 a.2 && (match (cellAt 1 a.2)[i]? with
  | some c=>nilP c || (match subP c with | some l=>!(l==1) && isT T2 l a.2 | none=>false)
  | none=>false) && (chgL a.2 hp).all fun l=>hasL l (Yf hp)
theorem isT_mem {T:TypeId} {l:Nat} {h:Heap} (ht:isT T l h = true):(l,T,cellAt l h)∈h:=by
 unfold isT at ht
 unfold cellAt
 cases hl:lookH l h with
 | none=>rw [hl] at ht;cases ht
 | some x =>
  obtain ⟨T',c⟩:=x
  rw [hl] at ht
  obtain rfl:T' = T:=by simpa using ht
  exact mem_lookH hl
theorem nilP_eq {c:SC} (h:nilP c = true):c = .lit (.pointer none):=by
 unfold nilP at h
 split at h
 ·rfl
 ·cases h
theorem subP_eq {c:SC} {l:Nat} (h:subP c = some l):c = .ptr l 0:=by
 unfold subP at h
 split at h
 ·cases h;rfl
 ·cases h
def Q2 (i:Nat) (e:Env) (T T2:TypeId) (hp:Heap) (a:SV × Heap) (r:Value × Array Value × Option (Array Value)):Prop:=ok2 i T T2 hp a = true∧∀ k,out2 i e k a = r
theorem po2_leaf {i:Nat} {t:Xy (SV × Heap)} {e:Env} {T T2:TypeId} {hp:Heap} {s:Asm} {R:Type} {a:R} {g:R→Value × Array Value × Option (Array Value)} (h1:(t.lv s).all (okO (ok2 i T T2 hp)) = true) (h2:∀ k,(t.lv s).map (fun o=>o.map (out2 i e k)) = (t.lv s).map fun _=>some (g a)):PO t e (fun x r=>Q2 i e T T2 hp x (g r)) s a :=
 po_leaf (out2 i e) g (ok2 i T T2 hp) h1 h2 fun _ h h'=>⟨h,h'⟩
theorem po2 {P:Program} {e:Env} {S:List Xs} {n f:Nat} {args:List SV} {st:St} {gs:List Nat} {w:World} {args':Array Value} {R:Type} {r:R} (i:Nat) (T T2:TypeId) (g:Nat) (V:R→Value) (JL:R→Value→List Value) (sub:R→Option (Array Value)) (Sub:R→World→Value→List Nat→Prop)
  (hm:P.follows .mixedOrders = true) (hS:SumsOk P e S) (hasm:AsmOk e st.asm)
  (blocks:∀ x∈st.hp,Bk w (kof gs x.1) x.2.1 (Ye e (kof gs) x.2.2)) (closed:okH (Yf st.hp) st.hp = true) (cargs:args.all (okV (Yf st.hp)) = true)
  (inj:(st.hp.map fun x=>kof gs x.1).Nodup) (ha:args' = (args.map (SV.den e (kof gs))).toArray) (hF:∀ l∈Yf st.hp,kof gs l∈gs) (l1:hasL 1 (Yf st.hp) = true) (hg:kof gs 1 = g)
  (hJL:∀ q,JL r q = (JL r (.pointer none)).set i q) (hs0:∀ w,sub r = none→Sub r w (.pointer none) []) (hs1:∀ w g cs,sub r = some cs→Bk w g T2 cs→Sub r w (.pointer (some ⟨g,0,none⟩)) [g])
  (h:PO (packT (exec P S n (.call f args) st)) e (fun x r=>Q2 i e T T2 st.hp x (V r,(JL r (.pointer none)).toArray,sub r)) st.asm r) (hpl:plainS S = true:=by kernel_rfl) (hnf:¬ f = invF:=by decide) :
  Calls P f args' w fun en w'=>Post2 (Sub r) T (JL r) (V r) g gs w en w':=by
 obtain ⟨⟨v,h'⟩,hsel,hok,hout⟩:=h hasm
 refine (sym_packA hm hS hsel hasm (kof_even gs) blocks closed cargs (fun x hx y hy hxy=>inj_of gs inj x y hx hy hxy) ha hpl hnf).mono fun en w' hx=>?_
 obtain ⟨k',q⟩:=hx
 have e1:=hout k'
 unfold ok2 at hok
 simp only [Bool.and_eq_true] at hok
 obtain ⟨⟨o1,o2⟩,o3⟩:=hok
 have m1:=isT_mem o1
 unfold out2 at e1
 injection e1 with e2 e3
 injection e3 with e3 e4
 simp only at e2 e3 e4 m1 o2 o3
 have hls:∀ l∈chgL h' st.hp,kof gs l∈gs:=fun l hl=>hF l (hasL_mem.1 (List.all_eq_true.1 o3 l hl))
 have gF:g∈gs:=by rw [← hg];exact hF 1 (hasL_mem.1 l1)
 cases hc:(cellAt 1 h')[i]? with
 | none=>rw [hc] at o2;cases o2
 | some c =>
  rw [hc] at o2
  simp only [Bool.or_eq_true] at o2
  have e5:(cellAt 1 h').set i c = cellAt 1 h':=by
   apply List.ext_getElem?
   intro j
   rw [List.getElem?_set]
   split
   ·rename_i hij
    subst hij
    split
    ·exact hc.symm
    ·rename_i hlt
     rw [List.getElem?_eq_none (by omega)] at hc
     cases hc
   ·rfl
  have e6:∀ q,Ye e k' ((cellAt 1 h').set i q) = (JL r (q.den e k')).toArray:=fun q=>by
   rw [hJL (q.den e k')]
   have e3:=congrArg Array.toList e3
   unfold Ye at e3 ⊢
   simp only [List.map_set] at e3 ⊢
   rw [← e3,List.set_set]
  cases hn:nilP c with
  | true =>
   have hc0:=nilP_eq hn
   subst hc0
   have e7:sub r = none:=by
    rw [← e4]
    unfold subL
    rw [hc]
    rfl
   have e8:=e6 (.lit (.pointer none))
   rw [e5] at e8
   exact fin_nil q l1 hg m1 e8 e2 rfl hls gF (hs0 w' e7)
  | false =>
   rw [hn] at o2
   simp only [Bool.false_eq_true,false_or] at o2
   cases hl:subP c with
   | none=>rw [hl] at o2;cases o2
   | some l =>
    rw [hl] at o2
    simp only [Bool.and_eq_true,Bool.not_eq_true'] at o2
    have hc0:=subP_eq hl
    subst hc0
    have e7:sub r = some (Ye e k' (cellAt l h')):=by
     rw [← e4]
     unfold subL
     rw [hc]
     rfl
    have e8:=e6 (.ptr l 0)
    rw [e5] at e8
    exact fin_one q l1 hg m1 l (isT_mem o2.2) o2.1 e8 e2 rfl hls gF (fun hh=>hF l (hasL_mem.1 hh)) fun hb=>hs1 w' _ _ e7 hb
theorem Xr {P:Program} {e:Env} {s:Xs} {S:List Xs} (h:SumOk P e s) (hS:SumsOk P e S):SumsOk P e (s :: S):=fun z hz=>by
 rcases List.mem_cons.1 hz with rfl | hz
 ·exact h
 ·exact hS z hz
theorem so_self {P:Program} {e:Env} {s:Xs} {fn:Func} {az:List Value} {row row':Array Value} {V:Value} (hf:P.funcs[s.f]? = some fn)
  (h:∀ g w,Bk w g s.ty row→Calls P s.f (Value.pointer (some ⟨g,0,none⟩) :: az).toArray w fun en w'=>en = .returned V∧Bk w' g s.ty row'∧Chg [g] w w')
  (hs:s.self = true:=by kernel_rfl) (hn:(fn.name== "runtime.NumGoroutine") = false:=by kernel_rfl) (hb:fn.body.isNone = false:=by kernel_rfl) (e1:Ye e half s.cells = row:=by kernel_rfl) (e2:s.rest.map (SV.den e half) = az:=by kernel_rfl) (e3:s.out.den e half = V:=by kernel_rfl) (e4:Ye e half s.cells' = row':=by kernel_rfl):SumOk P e s:=by
 unfold SumOk
 rw [if_pos hs]
 intro g w hB args' ha
 rw [e2] at ha
 subst ha
 rw [e1] at hB
 rw [e3,e4]
 exact ⟨callf_enter hf hn hb _ _,(h g w hB).mono fun en w' h=>⟨h.1,h.2.1,h.2.2.grown⟩⟩
theorem Yd {P:Program} {e:Env} {s:Xs} {fn:Func} {az:List Value} {V:Value} (hf:P.funcs[s.f]? = some fn)
  (h:∀ w,Calls P s.f az.toArray w fun en w'=>en = .returned V∧Below w.heap.size w w')
  (hs:s.self = false:=by kernel_rfl) (hn:(fn.name== "runtime.NumGoroutine") = false:=by kernel_rfl) (hb:fn.body.isNone = false:=by kernel_rfl) (e2:s.rest.map (SV.den e half) = az:=by kernel_rfl) (e3:s.out.den e half = V:=by kernel_rfl):SumOk P e s:=by
 unfold SumOk
 rw [if_neg (by rw [hs];decide)]
 intro w args' ha
 rw [e2] at ha
 subst ha
 rw [e3]
 exact ⟨callf_enter hf hn hb _ _,h w⟩
theorem X6 {P:Program} {e:Env} {Φ:Phi} {s:Xs} {S:List Xs} (h:SumOkE P e Φ s) (hS:SumsOkE P e Φ S):SumsOkE P e Φ (s :: S):=fun z hz=>by
 rcases List.mem_cons.1 hz with rfl | hz
 ·exact h
 ·exact hS z hz
theorem sumsE_nil {P:Program} {e:Env} {Φ:Phi}:SumsOkE P e Φ []:=fun _ h=>by cases h
theorem so_eff {P:Program} {e:Env} {Φ:Phi} {s:Xs} {az:List Value} {V:Value} (i j:Nat)
  (h:(∀ q,SC.bool q∈s.cells→q.den e = true)→∀ w F,Φ.P i w F→(∀ b,F b→b < w.heap.size)→Enters P s.f az.toArray w fun en w'=>en = .returned V∧Opq Φ j F none w w')
  (ht:tailN s = none:=by kernel_rfl) (h0:(!s.self && !(s.ty==0)) = true:=by kernel_rfl) (e2:s.rest.map (SV.den e half) = az:=by kernel_rfl) (e3:s.out.den e half = V:=by kernel_rfl) (hi:(s.ty - 1) % 100 = i:=by kernel_rfl) (hj:(s.ty - 1) / 100 = j:=by kernel_rfl):SumOkE P e Φ s:=by
 unfold SumOkE
 rw [ht]
 simp only
 rw [if_pos h0]
 intro hq w F hP hb args' ha
 rw [e2] at ha
 subst ha
 rw [e3,hj]
 rw [hi] at hP
 exact h hq w F hP hb
theorem Yr {P:Program} {f:Nat} {fn:Func} {az:Array Value} {w:World} {R:Ending→World→Prop} (hf:P.funcs[f]? = some fn) (h:Calls P f az w R) (hi:¬ f = invF:=by decide) (hn:(fn.name== "runtime.NumGoroutine") = false:=by kernel_rfl) (hb:fn.body.isNone = false:=by kernel_rfl):Enters P f az w R :=
 Enters.fn hi ⟨callf_enter hf hn hb _ _,h⟩
theorem so_effg {P:Program} {e:Env} {Φ:Phi} {s:Xs} {fn:Func} {az:List Value} {row row':Array Value} {V:Value} (n:Nat) (i j o:Nat) (hf:P.funcs[s.f]? = some fn)
  (h:∀ g w F,Bk w g s.ty row→Φ.P i w F→¬ F g→(∀ b,F b→b < w.heap.size)→Calls P s.f (Value.pointer (some ⟨g,o,none⟩) :: az).toArray w fun en w'=>en = .returned V∧Bk w' g s.ty row'∧Opq Φ j F (some g) w w')
  (ht:tailN s = some n:=by kernel_rfl) (hn:(fn.name== "runtime.NumGoroutine") = false:=by kernel_rfl) (hb:fn.body.isNone = false:=by kernel_rfl) (e1:Ye e half s.cells = row:=by kernel_rfl) (e2:s.rest.map (SV.den e half) = az:=by kernel_rfl) (e3:s.out.den e half = V:=by kernel_rfl) (e4:Ye e half s.cells'.dropLast = row':=by kernel_rfl)
  (hi:(n - 1) % 100 = i:=by kernel_rfl) (hj:(n - 1) % 10000 / 100 = j:=by kernel_rfl) (ho:n / 10000 = o:=by kernel_rfl):SumOkE P e Φ s:=by
 unfold SumOkE
 rw [ht]
 simp only
 intro g w F hB hP hg hbb args' ha
 rw [e2,ho] at ha
 subst ha
 rw [e1] at hB
 rw [hi] at hP
 rw [e3,e4,hj]
 exact ⟨callf_enter hf hn hb _ _,h g w F hB hP hg hbb⟩
def outE (e:Env) (k:Nat→Nat) (a:SV × Nat × Heap):Value × Nat × Array Value:=(a.1.den e k,a.2.1,Ye e k (cellAt 1 a.2.2))
def okE (T:TypeId) (hp:Heap) (a:SV × Nat × Heap):Bool:=isT T 1 a.2.2 && (chgL a.2.2 hp).all (·==1)
def QE (e:Env) (T:TypeId) (hp:Heap) (a:SV × Nat × Heap) (r:Value × Nat × Array Value):Prop:=okE T hp a = true∧∀ k,outE e k a = r
theorem poE_leaf {t:Xy (SV × Nat × Heap)} {e:Env} {T:TypeId} {hp:Heap} {s:Asm} {R:Type} {a:R} {g:R→Value × Nat × Array Value} (h1:(t.lv s).all (okO (okE T hp)) = true) (h2:∀ k,(t.lv s).map (fun o=>o.map (outE e k)) = (t.lv s).map fun _=>some (g a)):PO t e (fun x r=>QE e T hp x (g r)) s a :=
 po_leaf (outE e) g (okE T hp) h1 h2 fun _ h h'=>⟨h,h'⟩
theorem poE {P:Program} {e:Env} {Φ:Phi} {S:List Xs} {n f:Nat} {args:List SV} {st:St} {T:TypeId} {g:Nat} {cs:List SC} {w:World} {args':Array Value} {R:Type} {r:R} {G:R→Value × Nat × Array Value} {F:Nat→Prop} (hm:P.follows .mixedOrders = true) (hS:SumsOkE P e Φ S) (hp:st.hp = [(1,T,cs)]) (hasm:AsmOk e st.asm)
  (hb:Bk w g T (Ye e (kof [g]) cs)) (f1:Φ.P st.ph w F) (f2:¬ F g) (f3:∀ b,F b→b < w.heap.size)
  (h:PO (packE (exec P S n (.call f args) st)) e (fun x r=>QE e T st.hp x (G r)) st.asm r) (closed:okH (Yf st.hp) st.hp = true:=by kernel_rfl) (cargs:args.all (okV (Yf st.hp)) = true:=by kernel_rfl) (ha:args' = (args.map (SV.den e (kof [g]))).toArray:=by kernel_rfl) (hnf:¬ f = invF:=by decide) :
  Calls P f args' w fun en w'=>EPost Φ (G r).2.1 F g T (G r).2.2 (G r).1 w en w':=by
 obtain ⟨⟨v,p,h'⟩,hsel,hok,hout⟩:=h hasm
 refine (sym_packE hm hS hsel hasm (kof_even [g]) (fun z hz=>?_) closed cargs (fun z hz y hy _=>?_) ha f1 (by rw [hp];exact noF f2 rfl) f3 hnf).mono fun en w' hx=>?_
 ·rw [hp] at hz
  rw [List.mem_singleton.1 hz]
  exact Yb (show Bk w (kof [g] 1) T _ from hb) rfl
 ·rw [hp] at hz hy
  rw [List.mem_singleton.1 hz,List.mem_singleton.1 hy]
 ·obtain ⟨k',q⟩:=hx
  have e1:=hout k'
  unfold okE at hok
  rw [Bool.and_eq_true] at hok
  obtain ⟨o1,o2⟩:=hok
  unfold outE at e1
  rw [← e1]
  refine fin_E q (hasL_mem.2 (by rw [hp];exact List.mem_singleton.2 rfl)) rfl (isT_mem o1) rfl rfl rfl fun l hl=>?_
  have:=List.all_eq_true.1 o2 l hl
  obtain rfl:l = 1:=by simpa using this
  rfl
def out0 (e:Env) (k:Nat→Nat) (a:SV × Heap):Value:=a.1.den e k
def Q0 (e:Env) (a:SV × Heap) (r:Value):Prop:=∀ k,out0 e k a = r
theorem po0_leaf {t:Xy (SV × Heap)} {e:Env} {s:Asm} {R:Type} {a:R} {g:R→Value} (h1:(t.lv s).all (okO fun _=>true) = true) (h2:∀ k,(t.lv s).map (fun o=>o.map (out0 e k)) = (t.lv s).map fun _=>some (g a)):PO t e (fun x r=>Q0 e x (g r)) s a :=
 po_leaf (out0 e) g (fun _=>true) h1 h2 fun _ _ h'=>h'
theorem po0 {P:Program} {e:Env} {S:List Xs} {n f:Nat} {args:List SV} {st:St} {w:World} {args':Array Value} {R:Type} {r:R} {G:R→Value} (hm:P.follows .mixedOrders = true) (hS:SumsOk P e S) (hp:st.hp = []) (hasm:AsmOk e st.asm)
  (h:PO (packT (exec P S n (.call f args) st)) e (fun x r=>Q0 e x (G r)) st.asm r) (cargs:args.all (okV []) = true:=by kernel_rfl) (ha:args' = (args.map (SV.den e (kof []))).toArray:=by kernel_rfl) (hpl:plainS S = true:=by kernel_rfl) (hnf:¬ f = invF:=by decide) :
  Calls P f args' w fun en w'=>en = .returned (G r)∧Chg [] w w':=by
 obtain ⟨⟨v,h'⟩,hsel,hout⟩:=h hasm
 refine (sym_packA hm hS hsel hasm (kof_even []) (fun z hz=>by rw [hp] at hz;cases hz) (by rw [hp];rfl) (by rw [hp];exact cargs) (fun z hz=>by rw [hp] at hz;cases hz) ha hpl hnf).mono fun en w' hx=>?_
 obtain ⟨k',q⟩:=hx
 have e1:v.den e k' = G r:=hout k'
 have hc:=q.chg
 rw [hp] at hc
 exact ⟨q.ret.trans (by rw [e1]),hc⟩
theorem po_un {α R:Type} {t:Xy α} {e:Env} {Q:α→R→Prop} {s:Asm} {a b:R} {c d:Bool} (hc:c = d) (h:PO t e Q s (bif d then a else b)):PO t e Q s (bif c then a else b):=by subst hc;exact h
theorem fst_bif {α β:Type} (c:Bool) (a b:α × β):(bif c then a else b).1 = bif c then a.1 else b.1:=by cases c <;> rfl
theorem bif_app {α β:Type} (c:Bool) (f:α→β) {a b:α}:f (bif c then a else b) = bif c then f a else f b:=by cases c <;> rfl
theorem po_bb {α R:Type} {t:Xy α} {e:Env} {Q:α→R→Prop} {s:Asm} {x y:R} {a b c:Bool} (h:PO t e Q s (bif a then (bif b then x else y) else (bif c then x else y))):PO t e Q s (bif (bif a then b else c) then x else y):=by cases a <;> exact h
theorem po_eq {α R:Type} {t:Xy α} {e:Env} {Q:α→R→Prop} {s:Asm} {r r':R} (h:r = r') (H:PO t e Q s r'):PO t e Q s r:=by subst h;exact H
theorem po_abs {α R:Type} {t:Xy α} {e:Env} {Q:α→R→Prop} {s:Asm} {r:R} (h:False):PO t e Q s r:=h.elim
theorem po_brk {α R:Type} {t:Xy α} {e:Env} {Q:α→R→Prop} {s:Asm} {a b:R} {c:Bool} (hc:(t.nx s).den e = c) (h1:c = true→PO t e Q (addA (t.nx s) true s) a) (h2:c = false→PO t e Q (addA (t.nx s) false s) b):PO t e Q s (bif c then a else b):=fun hs=>by
 cases c with
 | true=>exact h1 rfl (addA_ok hs hc)
 | false=>exact h2 rfl (addA_ok hs hc)
def EPost0 (Φ:Phi) (ph:Nat) (F:Nat→Prop) (V:Value) (w:World) (en:Ending) (w':World):Prop :=
 en = .returned V∧ChgP F w w'∧∃ F':Nat→Prop,Φ.P ph w' F'∧(∀ b,F' b→b < w'.heap.size)∧∀ b,F' b→F b∨w.heap.size≤b
theorem fin_E0 {e:Env} {Φ:Phi} {F:Nat→Prop} {gs:List Nat} {hp':Heap} {w w':World} {v:SV} {ph:Nat} {en:Ending} {k':Nat→Nat} {V:Value}
  (h:SymPostE e Φ F (kof gs) [] w v ph hp' en w' k') (hv:v.den e k' = V) (hch:chgL hp' [] = []):EPost0 Φ ph F V w en w':=by
 obtain ⟨F',p1,p2,p3,p4⟩:=h.fin
 refine ⟨h.ret.trans (by rw [hv]),⟨h.chg.os,h.chg.tape,h.chg.output,h.chg.size,fun b hb hf=>h.chg.far b hb fun hx=>hf ?_⟩,F',p1,p3,p4⟩
 rcases hx with hx | hx
 ·obtain ⟨l,hl,rfl⟩:=List.mem_map.1 hx
  rw [hch] at hl
  cases hl
 ·exact hx
end Go.Proofs.YtaipogljokblkaaGreatDoor
