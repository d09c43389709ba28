/- Core: QE, LK, QF. -/
import Derived.Test.YtaipogljokblkaaGreatDoorZ40
import Derived.Test.YtaipogljokblkaaGreatDoorZ45
import Derived.Test.YtaipogljokblkaaGreatDoorZ35
import Derived.Test.YtaipogljokblkaaGreatDoorZ36
set_option linter.all false
set_option maxRecDepth 100000
set_option maxHeartbeats 8000000
namespace Go.Proofs.YtaipogljokblkaaGreatDoor
open Go Go.RowKit
set_option linter.unusedSimpArgs false
set_option linter.unusedVariables false
set_option linter.unusedSectionVars false
theorem cell_blk {w w':World} {b:Nat} (h:w'.heap[b]? = w.heap[b]?) (o:Nat):w'.cell? ⟨b,o,none⟩ = w.cell? ⟨b,o,none⟩:=by
 unfold World.cell?
 rw [h]
theorem own_free {w:World} {E:TypeId} {sz n g off cap:Nat} {xs:List Value} (h:Own w E sz (.slice (some ⟨g,off,none⟩) n cap) n xs) (i:Nat):w.frozen? ⟨g,i,none⟩ = false:=by
 rcases h.2 with ⟨h0,_⟩ | ⟨g',off',cap',A,R,hv,hb,_⟩
 ·cases h0
 ·cases hv;exact hb.free i
def PaR (w:World) (gp gh:Nat) (P:MPa) (lab:Nat→Nat) (w':World):Prop :=
 ∃ tv bv ro Fh Ft lab',PaB w' gp gh P tv bv ro Fh Ft lab'∧ChgP (fun b=>lab b < 1000) w w'∧∀ b,lab' b < 1000→lab b < 1000∨w.heap.size≤b
def MPa.queue (P:MPa) (k:Nat) (T:MT) (o:GOp):MPa:={ P with ths:=P.ths.set k { T with queue:=T.queue++[o],given:=T.given+1 } }
theorem queue_any {w:World} {gp gh:Nat} {P:MPa} {tv bv:GSl} {ro:List GRo} {Fh:List Nat} {Ft:Nat→Nat→Prop} {lab:Nat→Nat} (h:PaB w gp gh P tv bv ro Fh Ft lab) (he:ErrOk w) {k:Nat} {T:MT} (hT:P.ths[k]? = some T) (o:GOp) (hf:OpFit P.st o) (g0:0≤T.given) (g64:T.given < 64) (hql:T.queue.length≤100000) :
  Calls Tryz.prog 9 #[.pointer (some ⟨gp,0,none⟩),.int .i64 (k:Int),.agg o.l.toArray] w fun en w'=>en = .returned .nilIface∧PaR w gp gh (P.queue k T o) lab w':=by
 have hk:k < P.ths.length:=by
  rcases Nat.lt_or_ge k P.ths.length with h | h
  ·exact h
  ·rw [List.getElem?_eq_none h] at hT;cases hT
 have hhas:P.has (k:Int) = true:=by unfold MPa.has;simp;omega
 obtain ⟨kk,key,val,tall⟩:=o
 show Calls Tryz.prog _ #[.pointer (some ⟨gp,0,none⟩),.int .i64 (k:Int),.agg #[.int .i64 kk,.int .i64 key,.int .i64 val,.int .i64 tall]] w _
 obtain ⟨g,off,c,rfl,hr,_⟩:=h.rowk hk
 have hal:Below w.heap.size w (w.alloc (.cells #[.int .i64 kk,.int .i64 key,.int .i64 val,.int .i64 tall] 35)):=(Below.refl _ _).alloc (Nat.le_refl _) _
 have HP:=Lib.hid (h.cut.below hal)
 have HE:=Lib.hid (he.below hal)
 have HX:=Lib.hid (Bk.at_ (w:=w) (g:=w.heap.size) (cs:=#[.int .i64 kk,.int .i64 key,.int .i64 val,.int .i64 tall]) (t:=35) rfl)
 have HC:=Lib.hid hal
 have HF:=Lib.hid hf
 have h40:=he.lt
 clear h he hal hf
 go_enter Tryz.func9,Tryz.ntmps9
 go_wp2
 generalize w.alloc (.cells #[.int .i64 kk,.int .i64 key,.int .i64 val,.int .i64 tall] 35) = W at *
 have hh:∀ w',Below W.heap.size W w'→Calls Tryz.prog 24 #[.pointer (some ⟨gp,0,none⟩),.int .i64 (k:Int)] w' (fun en w''=>en = .returned (.bool true)∧w' = w''):=fun w' hC=>by have:=has_any (HP.out.below hC) (k:Int);rwa [hhas] at this
 (refine wp_region_class ((fun w':World=>Below W.heap.size W w')) (by kernel_rfl) (by kernel_rfl) ((Below.refl _ _).drew) ?_;(repeat (first | go_big_quiet_skip | (go_big_quiet_want;first | (go_big_quiet_op;go_big_quiet_on) | (apply Exists.intro;refine ⟨fun w' hC=>?_,?_⟩;(· ((have q0:=(HP.out.below hC).bk.cell 0;simp at q0;have y0:=(HX.out.belowAll hC).cell 0;have y1:=(HX.out.belowAll hC).cell 1;have y2:=(HX.out.belowAll hC).cell 2;have y3:=(HX.out.belowAll hC).cell 3;simp at y0 y1 y2 y3);go_simp;first | done | rfl | exact ⟨rfl,rfl⟩ | ((first | (go_at_call 24;(refine (hh w' hC).mono ?_);rintro e w'' ⟨rfl,rfl⟩;exact ⟨rfl,hC⟩) | (go_at_call 25;(with_reducible refine (fits_c HF.out (HE.out.below hC)).mono ?_);rintro e w'' ⟨rfl,hb⟩;exact ⟨rfl,hC.trans (hb.mono hC.size)⟩)))));go_big_quiet_on;simp only [Act.put,List.setIfInBounds_toArray,List.set_cons_succ,List.set_cons_zero]))));refine wpQuiet_nil ?_;intro w' hC)
 have HP1:=Lib.hid (HP.out.below hC)
 have HX1:=Lib.hid (HX.out.belowAll hC)
 have HC1:=Lib.hid (HC.out.trans (hC.mono HC.out.size))
 have hgx1:w.heap.size < w'.heap.size:=HX1.out.lt
 clear HP HE HX HC hC hh HF
 generalize w' = W1 at *
 clear W w'
 obtain ⟨g',off',c',he',hr',hrow⟩:=HP1.out.rowk hk
 cases he'
 have hth:=HP1.out.th k ro[k] T (List.getElem?_eq_getElem hr) hT
 obtain ⟨t1,t2,Fv,hv,hq,hqF⟩:=hth
 have c2:=HP1.out.bk.cell 2
 simp [GSl.v] at c2
 have r1:=hrow 1 _ rfl;have r2:=hrow 2 _ rfl
 simp [GRo.l,t1] at r1 r2
 have HT:=Lib.hid (And.intro t1 (And.intro t2 (And.intro hv (And.intro hq hqF))))
 clear t1 t2 hv hq hqF hrow
 go_wp2
 have hqo:=HT.out.2.2.2.1
 obtain ⟨u,w7,hrun,ho,hg,hfr⟩:=own_ops_append (W1.drew.alloc (.cells #[.int .i64 kk,.int .i64 key,.int .i64 val,.int .i64 tall] 35)) ro[k].q.v T.queue (hqo.drew.alloc _) hql ⟨kk,key,val,tall⟩ W1.heap.size (Bk.at_ rfl) 22
 obtain ⟨ua,uc,rfl,_⟩:=Yq ho
 have e1:=HP1.out.l0
 have few:=HP1.out.few
 have lq:∀ b,ro[k].q.v.ownBlock = some b→(if b < w.heap.size then lab b else 1000) = 4+k:=fun b hb=>HP1.out.l4 k b hk ((HT.out.2.2.2.2.2 b).2 (Or.inr hb))
 have lg:(if g < w.heap.size then lab g else 1000) = 1:=HP1.out.l1 g rfl
 have ngq:ro[k].q.v.ownBlock≠some g:=fun e=>by have:=lq g e;omega
 have ngx:ro[k].q.v.ownBlock≠some w.heap.size:=fun e=>by have:=lq _ e;rw [if_neg (by omega)] at this;omega
 have hgl:g < W1.heap.size:=HP1.out.tho.lt rfl
 have X7:Bk w7 w.heap.size 35 #[.int .i64 kk,.int .i64 key,.int .i64 val,.int .i64 tall]:=(HX1.out.drew.alloc _).grown hg (fun e=>ngx e.symm)
 have cg:∀ i,w7.cell? ⟨g,i,none⟩ = W1.cell? ⟨g,i,none⟩:=fun i=>(cell_blk (hg.block g (by simp;omega) (fun e=>ngq e.symm)) i).trans (World.cell?_alloc_lt W1.drew _ ⟨g,i,none⟩ (by simpa using hgl))
 have r1':=(cg (off+k*4+1)).trans r1
 have r2':=(cg (off+k*4+2)).trans r2
 have T7:=HP1.out.tho.drew.alloc (.cells #[.int .i64 kk,.int .i64 key,.int .i64 val,.int .i64 tall] 35)
 replace T7:=T7.grown hg (Or.inr fun e=>ngq (by rw [← e];rfl))
 have ef:ro.length = P.ths.length:=HP1.out.len
 rw [ef] at T7
 have f1:=own_free T7 (off+k*4+1)
 have HO:=Lib.hid (And.intro ho (And.intro hg hfr))
 clear ho hg hfr hqo
 generalize hfl:(T.queue++[(⟨kk,key,val,tall⟩:GOp)]).length = fl at *
 refine X2 (fun w'=>Bk w' w.heap.size 35 #[.int .i64 kk,.int .i64 key,.int .i64 val,.int .i64 tall]∧w'.cell? ⟨g,off+k*4+1,none⟩ = some ro[k].q.v) 8 (by kernel_rfl) ⟨HX1.out.drew,r1⟩ (fun hS=>?_)
 ((try simp only [Act.put,List.setIfInBounds_toArray,List.set_cons_succ,List.set_cons_zero]);refine vT (fuel:=5) hS [0,1,2,3,4,5] ?_;simp only [Xu,Xj,List.toList_toArray];(repeat (first | go_big_quiet_skip | (go_big_quiet_want;first | (go_big_quiet_op;go_big_quiet_on) | (apply Exists.intro;refine ⟨fun w' hS'=>?_,?_⟩;(· ((have q0:=hS'.2;have y0:=hS'.1.cell 0;have y1:=hS'.1.cell 1;have y2:=hS'.1.cell 2;have y3:=hS'.1.cell 3;simp at y0 y1 y2 y3);go_simp;first | done | rfl | exact ⟨rfl,rfl⟩));go_big_quiet_on;simp only [Act.put,List.setIfInBounds_toArray,List.set_cons_succ,List.set_cons_zero]))));refine wpQuiet_nil ?_;(try dsimp only))
 (refine Xh 6 (by kernel_rfl) (fun K hK=>?_);simp only [Xj,List.toList_toArray])
 go_wp2_with fail
 refine hK.out _ _ (fun _=>⟨HX1.out.drew.alloc _,(World.cell?_alloc_lt W1.drew _ ⟨g,off+k*4+1,none⟩ (by simpa using hgl)).trans r1⟩) ?_
 clear hK hS
 have hS:=And.intro (HX1.out.drew.alloc (.cells #[.int .i64 kk,.int .i64 key,.int .i64 val,.int .i64 tall] 35)) ((World.cell?_alloc_lt W1.drew (.cells #[.int .i64 kk,.int .i64 key,.int .i64 val,.int .i64 tall] 35) ⟨g,off+k*4+1,none⟩ (by simpa using hgl)).trans r1)
 (refine Xh 7 (by kernel_rfl) (fun K hK=>?_);simp only [Xj,List.toList_toArray])
 go_wp2_with (at_builtin;refine Ya (by rfl) _ _ _ _ _ _ _ (by rfl) (by rfl) (by rfl) hrun ?_)
 refine hK.out _ _ (fun _=>⟨X7,r1'⟩) ?_
 clear hK hS
 have hS:=And.intro X7 r1'
 ((refine Xh 8 (by kernel_rfl) (fun K hK=>?_);simp only [Xj,List.toList_toArray]);go_wp2_with fail;refine hK.out _ _ (fun h=>absurd h (by omega)) ?_;clear hK)
 ((refine Xh 9 (by kernel_rfl) (fun K hK=>?_);simp only [Xj,List.toList_toArray]);go_wp2_with fail;refine hK.out _ _ (fun h=>absurd h (by omega)) ?_;clear hK)
 (refine Xh 10 (by kernel_rfl) (fun K hK=>?_);simp only [Xj,List.toList_toArray])
 go_wp2
 refine hK.out _ _ (fun h=>absurd h (by omega)) ?_
 clear hK hS
 refine X9 (by kernel_rfl) ?_ _
 rw [← ef] at T7
 have T8:=own_set rolen T7 k hr 1 (.slice ua fl uc) { ro[k] with q:=⟨ua,fl,uc⟩ } rfl (by decide)
 have T9:=own_set rolen T8 k (by rw [List.length_set];exact hr) 2 (.int .i64 (T.given+1)) { ro[k] with q:=⟨ua,fl,uc⟩,given:=T.given+1 } (by rw [List.getElem_set_self];rfl) (by decide)
 have f2:=own_free T8 (off+k*4+2)
 have r2'':(w7.setCell ⟨g,off+k*4+1,none⟩ (.slice ua fl uc)).cell? ⟨g,off+k*4+2,none⟩ = some (.int .i64 T.given):=(World.cell?_setCell_other (w:=w7) (a:=⟨g,off+k*4+1,none⟩) (b:=⟨g,off+k*4+2,none⟩) (v:=.slice ua fl uc) (fun h=>by injection h with h1 h2 h3;omega)).trans r2'
 have HT9:=Lib.hid T9
 clear T7 T8 T9 f1 r1' r2' cg X7
 generalize hW8:w7.setCell ⟨g,off+k*4+1,none⟩ (.slice ua fl uc) = W8 at *
 go_wp2
 go_ret
 generalize hW9:W8.setCell ⟨g,off+k*4+2,none⟩ (.int .i64 (T.given+1)) = W9 at *
 have hz7:W1.heap.size+1≤w7.heap.size:=by have:=HO.out.2.1.size;simpa using this
 have hz9:W9.heap.size = w7.heap.size:=by rw [← hW9,← hW8];simp [World.setCell]
 have g78:=Xq w7 g (off+k*4+1) (.slice ua fl uc)
 rw [hW8] at g78
 have g89:=Xq W8 g (off+k*4+2) (.int .i64 (T.given+1))
 rw [hW9] at g89
 have hz8:w7.heap.size≤W8.heap.size:=g78.size
 have far:∀ b,b < W1.heap.size→b≠g→ro[k].q.v.ownBlock≠some b→W9.heap[b]? = W1.heap[b]?:=fun b hb h1 h2 =>
  (g89.block b (by omega) (fun e=>h1 (by cases e;rfl))).trans ((g78.block b (by omega) (fun e=>h1 (by cases e;rfl))).trans ((HO.out.2.1.block b (by simp;omega) (fun e=>h2 e.symm)).trans (Below.heap_alloc W1.drew _ b hb)))
 have ub:∀ b,(Value.slice ua fl uc).ownBlock = some b→ro[k].q.v.ownBlock = some b∨W1.heap.size≤b:=fun b hb=>(HO.out.2.2 b hb).imp id fun h=>by simp at h;omega
 have lbl:∀ b c,(if b < w.heap.size then lab b else 1000) = c→c≠1→c≠4+k→b < W1.heap.size→W9.heap[b]? = W1.heap[b]?:=fun b c e c1 c4 hb=>far b hb (fun e'=>c1 (by rw [← e,e',lg])) fun e'=>c4 (by rw [← e,lq b e'])
 have hu:∀ b,(Value.slice ua fl uc).ownBlock = some b→(if b < w.heap.size then lab b else 1000) = 4+k∨W1.heap.size≤b:=fun b hb=>(ub b hb).imp (lq b) id
 have hung:(Value.slice ua fl uc).ownBlock≠some g:=fun e=>(ub g e).elim ngq fun h=>by omega
 have hFv:∀ b,Fv b→(if b < w.heap.size then lab b else 1000) = 4+k:=fun b hb=>HP1.out.l4 k b hk ((HT.out.2.2.2.2.2 b).2 (Or.inl hb))
 have hFlt:∀ b,Fv b→b < W1.heap.size:=HT.out.2.2.1.lt
 have tho:=HT9.out
 rw [List.set_set,List.length_set,ef] at tho
 obtain ⟨Ft',lab',p1,p2⟩:=HP1.out.upd (w2:=W9) (P':=P.queue k T ⟨kk,key,val,tall⟩) (bv':=bv) (Fh':=Fh) (ro':=ro.set k { ro[k] with q:=⟨ua,fl,uc⟩,given:=T.given+1 }) (F':=fun b=>Fv b∨(Value.slice ua fl uc).ownBlock = some b) (T':={ T with queue:=T.queue++[⟨kk,key,val,tall⟩],given:=T.given+1 }) (r':={ ro[k] with q:=⟨ua,fl,uc⟩,given:=T.given+1 }) hk rfl rfl rfl
  (HP1.out.bk.same (lbl gp 0 HP1.out.l0 (by decide) (by omega) HP1.out.bk.lt)) (by rw [List.length_set,ef];exact tho) (HP1.out.beo.kept fun b hb=>lbl b 2 (HP1.out.l2 b hb) (by decide) (by omega) (HP1.out.beo.lt hb))
  (HP1.out.hp.same fun b hb=>lbl b 3 (HP1.out.l3 b hb) (by decide) (by omega) (HP1.out.hp.lt b hb))
  ⟨rfl,HT.out.2.1,Fv,HT.out.2.2.1.keep fun b hb=>far b (hFlt b hb) (fun e=>by have:=hFv b hb;rw [e,lg] at this;omega) (HT.out.2.2.2.2.1 b hb),by show Own W9 _ 4 _ (T.queue++[_]).length _;rw [hfl];exact (HO.out.1.grown g78 (Or.inr hung)).grown g89 (Or.inr hung),
   fun b hb e=>(ub b e).elim (HT.out.2.2.2.2.1 b hb) fun h=>by have:=hFlt b hb;omega,fun _=>Iff.rfl⟩
  (fun i b hi hl hb=>lbl b (4+i) (HP1.out.l4 i b hl hb) (by omega) (by omega) (HP1.out.ltF hl b hb)) (by omega) (by omega)
  (fun b hb=>Or.inl (HP1.out.l2 b hb)) (fun b hb=>Or.inl (HP1.out.l3 b hb)) (fun b hb=>Or.inr (hb.elim (fun h=>Or.inl (hFv b h)) (hu b)))
  (fun b h2 h3=>by have:=HP1.out.l2 b h2;have:=HP1.out.l3 b h3;omega)
  (fun b h2 h4=>by have h2':=HP1.out.l2 b h2;exact h4.elim (fun h4=>by have:=hFv b h4;omega) fun h4=>(hu b h4).elim (fun h=>by omega) fun h=>by have:=HP1.out.beo.lt h2;omega)
  (fun b h3 h4=>by have h3':=HP1.out.l3 b h3;exact h4.elim (fun h4=>by have:=hFv b h4;omega) fun h4=>(hu b h4).elim (fun h=>by omega) fun h=>by have:=HP1.out.hp.lt b h3;omega)
 have hzw:w.heap.size≤W1.heap.size:=HC1.out.size
 refine ⟨rfl,_,_,_,_,_,_,p1,⟨g89.os.trans (g78.os.trans (HO.out.2.1.os.trans HC1.out.os)),g89.tape.trans (g78.tape.trans (HO.out.2.1.tape.trans HC1.out.tape)),g89.output.trans (g78.output.trans (HO.out.2.1.output.trans HC1.out.output)),by omega,fun b hb hf=>?_⟩,fun b hb=>?_⟩
 ·refine (far b (by omega) (fun e=>hf ?_) fun e=>hf ?_).trans (HC1.out.block b hb)
  ·have:=lg;rw [← e,if_pos hb] at this;omega
  ·have:=lq b e;rw [if_pos hb] at this;omega
 ·rcases p2 b hb with h | h
  ·by_cases hx:b < w.heap.size
   ·rw [if_pos hx] at h;exact Or.inl h
   ·exact Or.inr (by omega)
  ·exact Or.inr (by omega)
section
variable {st:Int} {n t:Nat} {J:GJob} {c:Xg} {x:Xi} {M:MR}
theorem rok_of (h:RBase n t M) (ht:t≤90000):ROk M :=
 ⟨h.me0,h.me1,⟨h.th1,h.th6⟩,h.eng,Nat.le_trans h.nl (by omega),Nat.le_trans h.dsub.length_le (Nat.le_trans h.nl ht),Nat.le_trans h.sl (by decide)⟩
theorem stepOk_of (h:RBase n t M) (hb:RBusy st n M c):StepOk M:=by
 obtain ⟨hc,ha,hp⟩:=hb.b
 have he:=h.eng
 have hl:=lim_in h.th1 h.th6
 unfold StepOk
 rcases hp with ⟨hs,hp⟩ | ⟨hs,k3,k6,k8⟩ | ⟨hs,hk⟩ | ⟨hs,hk,he,i0,i9⟩ | ⟨hs,hk,i0,i9,a1,a2,ao⟩ | ⟨hs,hk,i0,i9,he,ao,wo,wn⟩ | ⟨hs,hk,i0,i9,ao⟩ | ⟨hs,hk⟩ | ⟨hs,hk,ho⟩ | ⟨hs,hk,ho⟩ | ⟨hs,hk⟩ | ⟨hs,hk,he⟩ | ⟨hs,hk,he,i0,il⟩ | ⟨hs,hk,he⟩ | ⟨hs,hk,he⟩ | ⟨hs,hk⟩
 ·exact Or.inl hs
 ·exact Or.inr (Or.inl hs)
 ·exact Or.inr (Or.inr (Or.inl hs))
 ·exact Or.inr (Or.inr (Or.inr (Or.inl ⟨hs,he,i0,i9⟩)))
 ·exact Or.inr (Or.inr (Or.inr (Or.inr (Or.inl ⟨hs,by rw [hc];exact i0,by rw [hc];exact i9⟩))))
 ·exact Or.inr (Or.inr (Or.inr (Or.inr (Or.inr (Or.inl ⟨hs,he,by rw [hc];exact i0,by rw [hc];exact i9⟩)))))
 ·exact Or.inr (Or.inr (Or.inr (Or.inr (Or.inr (Or.inr (Or.inl hs))))))
 ·exact Or.inr (Or.inr (Or.inr (Or.inr (Or.inr (Or.inr (Or.inr (Or.inl hs)))))))
 ·exact Or.inr (Or.inr (Or.inr (Or.inr (Or.inr (Or.inr (Or.inr (Or.inr (Or.inl hs))))))))
 ·exact Or.inr (Or.inr (Or.inr (Or.inr (Or.inr (Or.inr (Or.inr (Or.inr (Or.inr (Or.inl hs)))))))))
 ·exact Or.inr (Or.inr (Or.inr (Or.inr (Or.inr (Or.inr (Or.inr (Or.inr (Or.inr (Or.inr (Or.inl hs))))))))))
 ·exact Or.inr (Or.inr (Or.inr (Or.inr (Or.inr (Or.inr (Or.inr (Or.inr (Or.inr (Or.inr (Or.inr (Or.inl hs)))))))))))
 ·exact Or.inr (Or.inr (Or.inr (Or.inr (Or.inr (Or.inr (Or.inr (Or.inr (Or.inr (Or.inr (Or.inr (Or.inr (Or.inl ⟨hs,by unfold scans;omega,i0,by omega⟩))))))))))))
 ·exact Or.inr (Or.inr (Or.inr (Or.inr (Or.inr (Or.inr (Or.inr (Or.inr (Or.inr (Or.inr (Or.inr (Or.inr (Or.inr (Or.inl hs)))))))))))))
 ·exact Or.inr (Or.inr (Or.inr (Or.inr (Or.inr (Or.inr (Or.inr (Or.inr (Or.inr (Or.inr (Or.inr (Or.inr (Or.inr (Or.inr (Or.inl ⟨hs,Or.inr (Or.inr (Or.inl he))⟩))))))))))))))
 ·obtain ⟨d,r,hd,_⟩:=hb.s16 hs
  exact Or.inr (Or.inr (Or.inr (Or.inr (Or.inr (Or.inr (Or.inr (Or.inr (Or.inr (Or.inr (Or.inr (Or.inr (Or.inr (Or.inr (Or.inr ⟨hs,d,r,hd,h.dsub.subset (by rw [hd];exact List.mem_cons_self ..)⟩))))))))))))))
theorem gcOk_of (h:COk st n c) (h12:c.kind≠12):GcOk c:=by
 unfold GcOk
 rcases h with ⟨hk,_⟩ | ⟨hk,_⟩ | ⟨hk,_⟩ | ⟨hk,_,h0,h9,hj⟩ | ⟨hk,ho⟩ | hk | ⟨hk,_⟩ | ⟨hk,_⟩ | hk
 ·exact Or.inr (Or.inr (Or.inl hk))
 ·exact Or.inr (Or.inr (Or.inr (Or.inl hk)))
 ·exact Or.inr (Or.inr (Or.inr (Or.inr (Or.inl hk))))
 ·exact Or.inr (Or.inr (Or.inr (Or.inr (Or.inr (Or.inl ⟨hk,h0,h9,hj⟩)))))
 ·exact Or.inr (Or.inr (Or.inr (Or.inr (Or.inr (Or.inr (Or.inl ⟨hk,ho⟩))))))
 ·exact Or.inr (Or.inr (Or.inr (Or.inr (Or.inr (Or.inr (Or.inr (Or.inl hk)))))))
 ·exact Or.inr (Or.inr (Or.inr (Or.inr (Or.inr (Or.inr (Or.inr (Or.inr (Or.inl hk))))))))
 ·exact Or.inr (Or.inr (Or.inr (Or.inr (Or.inr (Or.inr (Or.inr (Or.inr (Or.inr (Or.inl hk)))))))))
 ·exact absurd hk h12
theorem jobOk_of (h:JI st n J c) (hc:c.kind≠12):J.Ok:=by
 cases J with
 | pile J=>trivial
 | cor J=>trivial
 | lit J=>trivial
 | vau J =>
  obtain ⟨_,h⟩:=h
  have hb:=h.b
  rcases h.pc with ⟨_,h⟩ | ⟨_,h⟩
  ·exact absurd h hc
  refine ⟨?_,hb.kind,hb.k0,hb.k1,hb.w0,hb.w1,fun e=>?_,hb.b0,hb.b1,fun e=>?_,hb.c0,hb.c1,fun e=>?_,fun e=>?_⟩
  ·unfold VauPcs at h;omega
  ·rcases h with hp | hp | ⟨hp,ho⟩ | ⟨hp,h8,ho⟩ | ⟨hp | hp,hn,ho⟩ | ⟨hp,hn,ho,hwk⟩ | ⟨hp,hn,ho,hwk⟩ | ⟨hp | hp | hp,ho⟩ | ⟨hp,I,hi,hI⟩ | hp | hp | hp | hp <;> first | (exfalso;omega) | exact ho
  ·rcases h with hp | hp | ⟨hp,ho⟩ | ⟨hp,h8,ho⟩ | ⟨hp | hp,hn,ho⟩ | ⟨hp,hn,ho,hwk⟩ | ⟨hp,hn,ho,hwk⟩ | ⟨hp | hp | hp,ho⟩ | ⟨hp,I,hi,hI⟩ | hp | hp | hp | hp <;> first | (exfalso;omega) | exact ho
  ·rcases h with hp | hp | ⟨hp,ho⟩ | ⟨hp,h8,ho⟩ | ⟨hp | hp,hn,ho⟩ | ⟨hp,hn,ho,hwk⟩ | ⟨hp,hn,ho,hwk⟩ | ⟨hp | hp | hp,ho⟩ | ⟨hp,I,hi,hI⟩ | hp | hp | hp | hp <;> first | (exfalso;omega) | (obtain ⟨W,h1,_⟩:=hwk;exact ⟨W,h1⟩) | (obtain ⟨W,h1⟩:=hwk;exact ⟨W,h1⟩)
  ·rcases h with hp | hp | ⟨hp,ho⟩ | ⟨hp,h8,ho⟩ | ⟨hp | hp,hn,ho⟩ | ⟨hp,hn,ho,hwk⟩ | ⟨hp,hn,ho,hwk⟩ | ⟨hp | hp | hp,ho⟩ | ⟨hp,I,hi,hI⟩ | hp | hp | hp | hp <;> first | (exfalso;omega) | exact ⟨I,hi⟩
 | ste J =>
  obtain ⟨_,h⟩:=h
  have hb:=h.b
  refine ⟨fun C e=>(hb.climb C e).b.lv,fun e=>?_⟩
  have no:∀ {P:Prop},CSo J.climb→P:=fun h=>by obtain ⟨C,h⟩:=h;rw [e] at h;cases h
  rcases h.pc with ⟨_,h⟩ | ⟨_,h⟩
  ·exact absurd h hc
  rcases h with hp | ⟨hk,hp,hc8⟩ | ⟨hk,hp,hn⟩ | ⟨hk,hp,hn,ho⟩ | ⟨hk,hp,hn,ho⟩ | ⟨hk,hp,hl,hn,ho⟩ | ⟨hk,hp,hl,hn,ho⟩ | ⟨hk,hp,hl,hn,ho⟩ | ⟨hk,hp,ho⟩ | ⟨hk,hp,hn,ho⟩ | ⟨hk,hp,hl,hn,ho⟩ | ⟨hk,hp,hn,ho⟩ | ⟨hk,hp,hn,ho⟩ | ⟨hk,hp,hn,ho⟩
  ·have:=hb.op
   exact Or.inl ⟨hp,by omega⟩
  ·exact Or.inr ⟨hk,Or.inl hp⟩
  ·exact Or.inr ⟨hk,Or.inr hp⟩
  all_goals first | exact no ho | exact no ho.so
structure RS (st:Int) (n t:Nat) (s:JM) (c:Xg):Prop where
 job:JI st n s.1 c
 k12:c.kind≠12
 rp:XOk st n c (rep s)
 base:RBase n t s.2
theorem RS.next {s:JM} (h:RS st n t s c) (h12:((ask s).kind==12) = false) (hb:bsy (stp s) = false):RS st n (t+1) (stp s) (ask s)∧inst (ask s) = true:=by
 have h12':(ask s).kind≠12:=by simpa using h12
 obtain ⟨q1,q2,q3⟩:=job_ok h.job h.k12 h.rp
 have e:stp s = ((s.1.next (rep s)).1,s.2.begin_ (ask s)):=by unfold stp;rw [h12];rfl
 obtain ⟨r1,r2⟩:=rbegin h.base (Or.inl ⟨q2,h12'⟩)
 have h0:(s.2.begin_ (ask s)).R.step = 0:=by rw [e] at hb;unfold bsy at hb;simpa using hb
 refine ⟨?_,?_⟩
 ·rw [e]
  refine ⟨q1,h12',?_,r1⟩
  rcases r2 with r | r
  ·exact absurd h0 r.1
  ·exact r.2
 ·cases hi:inst (ask s) with
  | true=>rfl
  | false=>exact absurd h0 (begin_busy s.2 q2 hi h12')
theorem rs_stops:∀ (k m t:Nat) (s:JM) (c:Xg),RS st n t s c→Calm GJob.next k (s.1.next (rep s)).1 (ask s)→StopsIn (m+k+1) s
 | k,m,t,s,c,h,hq=>by
  intro h12 hb
  obtain ⟨q,hi⟩:=h.next h12 hb
  cases k with
  | zero=>rw [show Calm GJob.next 0 (s.1.next (rep s)).1 (ask s) = (inst (ask s) = false) from rfl,hi] at hq;cases hq
  | succ k =>
   have e:(stp s).1 = (s.1.next (rep s)).1:=rfl
   have:=rs_stops k m (t+1) (stp s) (ask s) q (by have:=hq hi (rep (stp s));rw [← e] at this;exact this)
   exact this
theorem rs_rounds {s:JM} (h:RS st n t s c):∀ k,(∀ i≤k,bsy (itr i s) = false)→(∀ i < k,((ask (itr i s)).kind==12) = false) →
  k≤3∧∃ c,RS st n (t+k) (itr k s) c∧(k = 0∨(inst c = true∧Calm GJob.next (4 - k) (itr k s).1 c)):=by
 intro k
 induction k with
 | zero=>exact fun _ _=>⟨by decide,c,h,Or.inl rfl⟩
 | succ k ih =>
  intro hb h12
  obtain ⟨hk,c',q,hc⟩:=ih (fun i hi=>hb i (by omega)) fun i hi=>h12 i (by omega)
  have b1:bsy (stp (itr k s)) = false:=hb (k+1) (Nat.le_refl _)
  obtain ⟨q',hi⟩:=q.next (h12 k (by omega)) b1
  have hq:Calm GJob.next (4 - (k+1)) (itr (k+1) s).1 (ask (itr k s)):=by
   have e:(itr (k+1) s).1 = ((itr k s).1.next (rep (itr k s))).1:=rfl
   rw [e]
   rcases hc with hc | ⟨hci,hc⟩
   ·subst hc;exact (job_ok q.job q.k12 q.rp).2.2
   ·obtain ⟨j,hj⟩:∃ j,4 - k = j+1:=⟨3 - k,by omega⟩
    rw [hj] at hc
    have:=hc hci (rep (itr k s))
    rw [show 4 - (k+1) = j from by omega]
    exact this
  have h3:k+1≤3:=by
   rcases Nat.lt_or_ge k 3 with h | h
   ·omega
   ·have:k = 3:=by omega
    subst this
    have hq:inst (ask (itr 3 s)) = false:=hq
    rw [hi] at hq;cases hq
  exact ⟨h3,_,by have:=q';rwa [Nat.add_assoc] at this,Or.inr ⟨hi,hq⟩⟩
theorem go_ok {V:MV} (h:VL st n t V) (ht:t≤80000):GoOk V:=by
 have main:∀ J,V.job = some J→JI st n J V.call→V.call.kind≠12→(V.doing = 1∨V.doing = 2)→GoOk V:=fun J hj q h12 hd=>by
  have hs:V.busyR = false→RS st n t (J,V.M) V.call:=fun hb=>by
   have h0:V.M.R.step = 0:=by unfold MV.busyR at hb;simpa using hb
   refine ⟨q,h12,?_,h.base⟩
   rcases h.at_ with h | h
   ·exact absurd h0 h.1
   ·exact h.2
  refine Or.inl ⟨hd,J,hj,fun k hb hk=>?_,fun hb=>rs_stops 3 1 t _ _ (hs hb) (job_ok q h12 (hs hb).rp).2.2⟩
  obtain ⟨h3,c,r,_⟩:=rs_rounds (hs (hb 0 (by omega))) k hb hk
  refine ⟨jobOk_of r.job r.k12,rok_of r.base (by omega),fun e=>?_⟩
  exact gcOk_of (job_ok r.job r.k12 r.rp).2.1 (by simpa using e)
 rcases h.job with ⟨hd,e,J,hj,q⟩ | ⟨hd,e,hc,J,hj,q⟩ | ⟨hd,e⟩ | ⟨hd,e⟩
 ·exact main J hj q (by rw [e];decide) (Or.inl hd)
 ·exact main J hj q e (Or.inr hd)
 ·exact Or.inr ⟨by omega,by omega⟩
 ·exact Or.inr ⟨by omega,by omega⟩
theorem stOk_of {V:MV} {p:Pl} (h:VI st n t V) (hd:V.doing≠0) (hp:HI st n p) (ht:t≤70000) (hn:n≤1024):StOk V p:=by
 obtain ⟨h0,hb,hv⟩:=took_vl h hd hp
 refine ⟨hd,h0,rok_of h.base (by omega),stepOk_of h.base hb,(act_ok hp hb.b.2.1).1,fun x hx=>?_,?_,go_ok hv (by omega)⟩
 ·have:=hp.fex x hx
  unfold Pl.exists_
  rw [hp.ns]
  simp;omega
 ·have:=hp.len;omega
theorem giveOk_of {V:MV} {o:GOp} (h:VI st n t V) (h0:V.doing = 0) (ho:OpF st o) (ht:t≤70000):ROk V.M∧V.M.R.step = 0∧GoOk (MV.begin_ { V with op:=o,job:=some (GJob.new V.st o),ans:=.zero } 1 center):=by
 refine ⟨rok_of h.base (by omega),?_,go_ok (give_vl h h0 ho) (by omega)⟩
 rcases h.at_ with h | h
 ·exact h.2
 ·rcases h.2.2 with h | h | h | h <;> (have:=h.1;omega)
end
def PaS (w:World) (gp gh:Nat) (P:MPa) (tv bv:GSl) (ro:List GRo) (lab:Nat→Nat) (w':World):Prop :=
 ∃ Fh Ft lab',PaB w' gp gh P tv bv ro Fh Ft lab'∧ChgP (fun b=>lab b < 1000) w w'∧∀ b,lab' b < 1000→lab b < 1000∨w.heap.size≤b
def MPa.setV (P:MPa) (k:Nat) (T:MT) (V:MV):MPa:={ P with ths:=P.ths.set k { T with V:=V } }
section
variable {w w':World} {gp gh:Nat} {P:MPa} {tv bv:GSl} {ro:List GRo} {Fh:List Nat} {Ft:Nat→Nat→Prop} {lab:Nat→Nat} {k:Nat} {T:MT}
theorem lt_of_get {α:Type} {l:List α} {k:Nat} {x:α} (h:l[k]? = some x):k < l.length:=by
 rcases Nat.lt_or_ge k l.length with h' | h'
 ·exact h'
 ·rw [List.getElem?_eq_none h'] at h;cases h
theorem PaB.upV (h:PaB w gp gh P tv bv ro Fh Ft lab) (h40:7≤w.heap.size) (hT:P.ths[k]? = some T) (hr:k < ro.length) {V':MV} {p':Pl} {Fv Fv':Nat→Prop} {Fh':List Nat}
  (hF:∀ b,Ft k b↔Fv b∨ro[k].q.v.ownBlock = some b) (hFv:∀ b,Fv b→ro[k].q.v.ownBlock≠some b) (hV:VB w' ro[k].gv V' Fv') (hp:PBx w' gh p' Fh') (nV:∀ b,Fv' b→Fv b∨b∈Fh∨w.heap.size≤b) (nh:∀ b∈Fh',Fv b∨b∈Fh∨w.heap.size≤b) (dj:∀ b∈Fh',¬ Fv' b)
  (hc:ChgP (fun b=>Fv b∨b∈Fh) w w'):PaS w gp gh { P with heap:=p',ths:=P.ths.set k { T with V:=V' } } tv bv ro lab w':=by
 have hk:=lt_of_get hT
 have few:=h.few
 obtain ⟨t1,t2,Fv0,hv0,hq,hq1,hq2⟩:=h.th k ro[k] T (List.getElem?_eq_getElem hr) hT
 have l4:∀ b,Fv b→lab b = 4+k:=fun b hb=>h.l4 k b hk ((hF b).2 (Or.inl hb))
 have lq:∀ b,ro[k].q.v.ownBlock = some b→lab b = 4+k:=fun b hb=>h.l4 k b hk ((hF b).2 (Or.inr hb))
 have far:∀ b c,lab b = c→c≠3→c≠4+k→b < w.heap.size→w'.heap[b]? = w.heap[b]?:=fun b c e c3 c4 hb=>hc.far b hb fun hx=>by
  rcases hx with hx | hx
  ·exact c4 (by rw [← e,l4 b hx])
  ·exact c3 (by rw [← e,h.l3 b hx])
 have qfar:∀ b,ro[k].q.v.ownBlock = some b→w'.heap[b]? = w.heap[b]?:=fun b hb=>hc.far b (hq.lt hb) fun hx=>by
  rcases hx with hx | hx
  ·exact hFv b hx hb
  ·have:=h.l3 b hx;have:=lq b hb;omega
 have nV':∀ b,Fv' b→lab b = 3∨lab b = 4+k∨w.heap.size≤b:=fun b hb=>(nV b hb).elim (fun h'=>Or.inr (Or.inl (l4 b h'))) fun h'=>h'.imp (h.l3 b) Or.inr
 have n3:∀ b∈Fh',lab b = 3∨lab b = 4+k∨w.heap.size≤b:=fun b hb=>(nh b hb).elim (fun h'=>Or.inr (Or.inl (l4 b h'))) fun h'=>h'.imp (h.l3 b) Or.inr
 obtain ⟨Ft',lab',p1,p2⟩:=h.upd (w2:=w') (P':={ P with heap:=p',ths:=P.ths.set k { T with V:=V' } }) (bv':=bv) (Fh':=Fh') (ro':=ro) (r':=ro[k]) (T':={ T with V:=V' }) (F':=fun b=>Fv' b∨ro[k].q.v.ownBlock = some b) hk rfl (by simp) rfl
  (h.bk.same (far gp 0 h.l0 (by decide) (by omega) h.bk.lt)) (h.tho.kept fun b hb=>far b 1 (h.l1 b hb) (by decide) (by omega) (h.tho.lt hb)) (h.beo.kept fun b hb=>far b 2 (h.l2 b hb) (by decide) (by omega) (h.beo.lt hb)) hp
  ⟨t1,t2,Fv',hV,hq.kept qfar,fun b hb e=>(nV b hb).elim (fun h'=>hFv b h' e) fun h'=>h'.elim (fun h'=>by have:=h.l3 b h';have:=lq b e;omega) fun h'=>by have:=hq.lt e;omega,fun _=>Iff.rfl⟩
  (fun i b hi hl hb=>far b (4+i) (h.l4 i b hl hb) (by omega) (by omega) (h.ltF hl b hb)) hc.size h40
  (fun b hb=>Or.inl (h.l2 b hb)) n3 (fun b hb=>hb.elim (nV' b) fun h'=>Or.inr (Or.inl (lq b h')))
  (fun b h2 h3=>by have e2:=h.l2 b h2;have:=h.beo.lt h2;have:=n3 b h3;omega)
  (fun b h2 h4=>by have e2:=h.l2 b h2;have:=h.beo.lt h2;exact h4.elim (fun h4=>by have:=nV' b h4;omega) fun h4=>by have:=lq b h4;omega)
  (fun b h3 h4=>h4.elim (fun h4=>dj b h3 h4) fun h4=>by
   have e4:=lq b h4
   have hlt:=hq.lt h4
   rcases nh b h3 with h' | h' | h'
   ·exact hFv b h' h4
   ·have:=h.l3 b h';omega
   ·omega)
 refine ⟨Fh',Ft',lab',p1,⟨hc.os,hc.tape,hc.output,hc.size,fun b hb hf=>hc.far b hb fun hx=>hf ?_⟩,p2⟩
 rcases hx with hx | hx
 ·have:=l4 b hx;omega
 ·have:=h.l3 b hx;omega
theorem give_pa (h:PaB w gp gh P tv bv ro Fh Ft lab) (he:ErrOk w) (hT:P.ths[k]? = some T) (hr:k < ro.length) (o:GOp) (hf:OpFit T.V.st o) (hd:T.V.doing = 0) (ok:ROk T.V.M) (hs:T.V.M.R.step = 0)
  (hgo:GoOk (MV.begin_ { T.V with op:=o,job:=some (GJob.new T.V.st o),ans:=.zero } 1 center)) :
  Calls Tryz.prog 36 #[.pointer (some ⟨ro[k].gv,0,none⟩),.agg o.l.toArray] w fun en w'=>en = .returned .nilIface∧PaS w gp gh (P.setV k T (T.V.give o)) tv bv ro lab w':=by
 have hk:=lt_of_get hT
 obtain ⟨t1,t2,Fv,hv,hq,hq1,hq2⟩:=h.th k ro[k] T (List.getElem?_eq_getElem hr) hT
 obtain ⟨gr,jv,F1,b1,b2,b3,b4⟩:=id hv
 refine (give_mem T.V o ro[k].gv gr jv w F1 he hf hd b1 b2 b3 ok hs hgo).mono fun en w' hp=>?_
 obtain ⟨jw,p1,p2,p3,F',p4,p5,p6,p7⟩:=hp
 have hFlt:∀ b,Fv b→b < w.heap.size:=hv.lt
 have hl4:∀ b,Fv b→lab b = 4+k:=fun b hb=>h.l4 k b hk ((hq2 b).2 (Or.inl hb))
 have hcc:ChgP Fv w w':=⟨p3.os,p3.tape,p3.output,p3.size,fun b hb hf=>p3.far b hb fun hx=>hf ((b4 b).2 hx)⟩
 have hpb:PBx w' gh P.heap Fh:=h.hp.same fun b hb=>hcc.far b (h.hp.lt b hb) fun hx=>by have:=hl4 b hx;have:=h.l3 b hb;omega
 have hgv:Fv ro[k].gv:=(b4 _).2 (Or.inl rfl)
 refine ⟨p1,h.upV he.lt hT hr hq2 hq1 (V':=T.V.give o) (Fv':=fun b=>b = ro[k].gv∨F' b) ⟨gr,jw,F',p2,p4,p5,fun _=>Iff.rfl⟩ hpb (fun b hb=>?_) (fun b hb=>Or.inr (Or.inl hb)) (fun b hb hx=>?_) ⟨hcc.os,hcc.tape,hcc.output,hcc.size,fun b hb hf=>hcc.far b hb fun hx=>hf (Or.inl hx)⟩⟩
 ·rcases hb with rfl | hb
  ·exact Or.inl hgv
  ·exact (p7 b hb).elim (fun h'=>Or.inl ((b4 b).2 (Or.inr h'))) fun h'=>Or.inr (Or.inr h')
 ·have h3:=h.l3 b hb
  have hlt:=h.hp.lt b hb
  rcases hx with rfl | hx
  ·have:=hl4 _ hgv;omega
  ·rcases p7 b hx with h' | h'
   ·have:=hl4 b ((b4 b).2 (Or.inr h'));omega
   ·omega
theorem step_pa (h:PaB w gp gh P tv bv ro Fh Ft lab) (he:ErrOk w) (hT:P.ths[k]? = some T) (hr:k < ro.length) (ok:StOk T.V P.heap) :
  Calls Tryz.prog 37 #[.pointer (some ⟨ro[k].gv,0,none⟩),.pointer (some ⟨gh,0,none⟩)] w fun en w'=>en = .returned (.tuple #[.agg (T.V.step P.heap).2.2.l.toArray,.nilIface]) ∧
   PaS w gp gh { P with heap:=(T.V.step P.heap).2.1,ths:=P.ths.set k { T with V:=(T.V.step P.heap).1 } } tv bv ro lab w':=by
 have hk:=lt_of_get hT
 obtain ⟨t1,t2,Fv,hv,hq,hq1,hq2⟩:=h.th k ro[k] T (List.getElem?_eq_getElem hr) hT
 obtain ⟨gr,jv,F1,b1,b2,b3,b4⟩:=id hv
 have hl4:∀ b,Fv b→lab b = 4+k:=fun b hb=>h.l4 k b hk ((hq2 b).2 (Or.inl hb))
 have hF1:∀ b,F1 b→lab b = 4+k:=fun b hb=>hl4 b ((b4 b).2 (Or.inr hb))
 have hgv:Fv ro[k].gv:=(b4 _).2 (Or.inl rfl)
 have few:=h.few
 have low:∀ b,lab b < 1000→7≤b:=fun b hb=>by
  rcases Nat.lt_or_ge b 7 with h' | h'
  ·have:=h.low b h';omega
  ·exact h'
 have hRP:RP w gr jv gh T.V.M T.V.job P.heap w (fun b=>F1 b∨b∈Fh∨b < 7):=⟨fun _ _=>rfl,F1,Fh,b2,h.hp,fun b hb hx=>by have:=hF1 b hb;have:=h.l3 b hx;omega,fun b hb=>low b (by have:=hF1 b hb;omega),fun b hb=>low b (by have:=h.l3 b hb;omega),fun _=>Iff.rfl⟩
 refine (step_mem T.V P.heap ro[k].gv gr gh jv w w _ he b1 hRP (fun hx=>?_) ok).mono fun en w' hp=>?_
 ·rcases hx with hx | hx | hx
  ·exact b3 hx
  ·have:=hl4 _ hgv;have:=h.l3 _ hx;omega
  ·have:=low _ (by have:=hl4 _ hgv;omega:lab ro[k].gv < 1000);omega
 ·obtain ⟨p1,p2,p3,F',⟨q0,F2,Fh',q1,q2,q3,q4,q5,q6⟩,p5,p6⟩:=hp
  have n2:∀ b,7≤b→F' b→Fv b∨b∈Fh∨w.heap.size≤b:=fun b h40 hb=>by
   rcases p6 b hb with (h' | h' | h') | h'
   ·exact Or.inl ((b4 b).2 (Or.inr h'))
   ·exact Or.inr (Or.inl h')
   ·omega
   ·exact Or.inr (Or.inr h')
  refine ⟨p1,h.upV he.lt hT hr hq2 hq1 (V':=(T.V.step P.heap).1) (Fv':=fun b=>b = ro[k].gv∨F2 b) ⟨gr,jv,F2,p2,q1,fun hx=>p5 ((q6 _).2 (Or.inl hx)),fun _=>Iff.rfl⟩ q2 (fun b hb=>?_) (fun b hb=>n2 b (q5 b hb) ((q6 b).2 (Or.inr (Or.inl hb)))) (fun b hb hx=>?_) ⟨p3.os,p3.tape,p3.output,p3.size,fun b hb hf=>?_⟩⟩
  ·rcases hb with rfl | hb
   ·exact Or.inl hgv
   ·exact n2 b (q4 b hb) ((q6 b).2 (Or.inl hb))
  ·rcases hx with rfl | hx
   ·exact p5 ((q6 _).2 (Or.inr (Or.inl hb)))
   ·exact q3 b hx hb
  ·by_cases h40:b < 7
   ·exact q0 b h40
   ·refine p3.far b hb fun hx=>hf ?_
    rcases hx with rfl | hx | hx | hx
    ·exact Or.inl hgv
    ·exact Or.inl ((b4 b).2 (Or.inr hx))
    ·exact Or.inr hx
    ·exact absurd hx h40
end
end Go.Proofs.YtaipogljokblkaaGreatDoor
