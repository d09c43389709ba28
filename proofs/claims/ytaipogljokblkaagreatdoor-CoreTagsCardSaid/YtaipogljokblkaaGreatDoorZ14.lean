/- Core: VB0, CWalk, VB1, VB2, JA, Rfn, CLitN, CVa, Rfx, CVd. -/
import Derived.Test.YtaipogljokblkaaGreatDoorZ09
import Derived.Test.YtaipogljokblkaaGreatDoorZ08
import Derived.Test.YtaipogljokblkaaGreatDoorZ07
set_option linter.all false
set_option maxRecDepth 100000
set_option maxHeartbeats 8000000
namespace Go.Proofs.YtaipogljokblkaaGreatDoor
open Go Go.RowKit
set_option linter.unusedSimpArgs false
set_option linter.unusedVariables false
set_option linter.unusedSectionVars false
theorem vb_root {b:Int} (h:0≤b∧b < 8):wr (8+b) = 8+b:=i64_id _ (by omega) (by omega)
theorem vb_a {b:Int} (h:0≤b∧b < 8):decide (wr (8+b) < 0) = false:=decide_eq_false (by rw [vb_root h];omega)
theorem vb_b {b:Int} (h:0≤b∧b < 8):decide (24≤wr (8+b)) = false:=decide_eq_false (by rw [vb_root h];omega)
theorem vb_c {b:Int} (h:0≤b∧b < 8):decide (0≤wr (8+b)) = true:=decide_eq_true (by rw [vb_root h];omega)
theorem vb_d {b:Int} (h:0≤b∧b < 8):decide (wr (8+b) < 24) = true:=decide_eq_true (by rw [vb_root h];omega)
theorem vb_rem {k:Int} {z:Int} (h0:0≤k) (h1:1≤z) (h2:z≤8):0≤Int.tmod k z∧Int.tmod k z < 8:=by
 have a:=Int.tmod_nonneg z h0
 have b:=Int.tmod_lt_of_pos k (show 0 < z by omega)
 omega
theorem Xz {b:Int} (h0:0≤b) (h1:b < 8):0≤par b∧par b < 8:=by
 have h:b = 0∨b = 1∨b = 2∨b = 3∨b = 4∨b = 5∨b = 6∨b = 7:=by omega
 rcases h with rfl | rfl | rfl | rfl | rfl | rfl | rfl | rfl <;> decide
def walk_env (W:Xt) (x:Xi):Env:=mkE [W.ii,x.ii] [W.bb,x.bb]
def walk_st:St:=⟨[],[(1,261,(ct [vs 0 9,[.bool (.var 0)],vs 9 4,[.bool (.var 1)],vs 13 15,[.bool (.var 2)],vs 28 4,[.bool (.var 3),.int (.var 32),.bool (.var 4)]]))],[],10,0⟩
def walk_args:List SV:=[.c (.ptr 1 0),.agg ((ct [vs 33 4,[.bool (.var 5),.bool (.var 6)]]))]
theorem walk_any (W:Xt) (x:Xi) (g1:Nat) (w:World) (h1:Bk w g1 261 W.l.toArray):Calls Tryz.prog 162 #[.pointer (some ⟨g1,0,none⟩),.agg x.l.toArray] w fun en w'=>en = .returned (vcall2 (W.step x).2)∧Bk w' g1 261 ((W.step x).1.l).toArray∧Chg [g1] w w':=by
 refine p1 (walk_env W x) [] 60 walk_st walk_args (W.step x) (fun r=>(vcall2 r.2,(r.1.l).toArray)) Xd asN h1 ?_
 exact vS2
end Go.Proofs.YtaipogljokblkaaGreatDoor
namespace Go.Proofs.YtaipogljokblkaaGreatDoor
open Go Go.RowKit
def VPost (pw pi:Option Go.Addr) (J':Xb) (V:Value) (I0:Option Xn) (g1:Nat) (w:World) (en:Ending) (w':World):Prop :=
 en = .returned V∧Chg [g1] w w'∧((J'.inner = I0∧Bk w' g1 186 (J'.l (.pointer pw) (.pointer pi)).toArray) ∨
  ∃ gi F1 I,J'.inner = some I∧Bk w' g1 186 (J'.l (.pointer pw) (.pointer (some ⟨gi,0,none⟩))).toArray∧LitP w' gi I (gi :: F1)∧∀ b∈gi :: F1,w.heap.size≤b)
section
variable {e:Env} {gs:List Nat} {hp hp':Heap} {w w':World} {v:SV} {en:Ending} {k':Nat→Nat} {V:Value} {g:Nat} {c1 c2 c3:List SC} {ls:List Nat} {pw pi:Option Go.Addr} {J':Xb} {I0:Option Xn}
theorem vp_old (h:SymPost e (kof gs) hp w v hp' en w' k') (l1:hasL 1 (Yf hp) = true) (hg:kof gs 1 = g) (m1:(1,186,c1)∈hp') (ec:Ye e k' c1 = (J'.l (.pointer pw) (.pointer pi)).toArray) (hv:v.den e k' = V)
  (hch:chgL hp' hp = ls) (hF:∀ l∈ls,kof gs l∈[g]) (hi:J'.inner = I0):VPost pw pi J' V I0 g w en w' :=
 ⟨h.ret.trans (by rw [hv]),chg_to h.chg hch hF,Or.inl ⟨hi,blk_at h m1 ((h.ext 1 (hasL_mem.1 l1)).trans hg) ec⟩⟩
theorem vp_new (h:SymPost e (kof gs) hp w v hp' en w' k') (l1:hasL 1 (Yf hp) = true) (hg:kof gs 1 = g) (m1:(1,186,c1)∈hp') {l2:Nat} (m2:(l2,206,c2)∈hp') (n2:hasL l2 (Yf hp) = false) {I:Xn}
  (ec:Ye e k' c1 = (J'.l (.pointer pw) (.pointer (some ⟨k' l2,0,none⟩))).toArray) (hv:v.den e k' = V) (hch:chgL hp' hp = ls) (hF:∀ l∈ls,kof gs l∈[g]) (hi:J'.inner = some I)
  (e2:Ye e k' c2 = (I.l (.pointer none)).toArray) (hw:I.walk = none):VPost pw pi J' V I0 g w en w':=by
 have s2:w.heap.size≤k' l2:=(h.new _ m2).resolve_left fun hx=>absurd (hasL_mem.2 hx) (by rw [n2];simp)
 refine ⟨h.ret.trans (by rw [hv]),chg_to h.chg hch hF,Or.inr ⟨k' l2,[],I,hi,blk_at h m1 ((h.ext 1 (hasL_mem.1 l1)).trans hg) ec,⟨⟨.pointer none,[],rfl,blk_at h m2 rfl e2,?_⟩,by simp⟩,fun b hb=>?_⟩⟩
 ·rw [hw];exact ⟨rfl,rfl⟩
 ·rw [List.mem_singleton.1 hb];exact s2
theorem vp_new2 (h:SymPost e (kof gs) hp w v hp' en w' k') (l1:hasL 1 (Yf hp) = true) (hg:kof gs 1 = g) (m1:(1,186,c1)∈hp') {l2:Nat} (m2:(l2,206,c2)∈hp') (n2:hasL l2 (Yf hp) = false) {I:Xn}
  {l3:Nat} (m3:(l3,261,c3)∈hp') (n3:hasL l3 (Yf hp) = false) (hne:(l2==l3) = false) {W:Xt}
  (ec:Ye e k' c1 = (J'.l (.pointer pw) (.pointer (some ⟨k' l2,0,none⟩))).toArray) (hv:v.den e k' = V) (hch:chgL hp' hp = ls) (hF:∀ l∈ls,kof gs l∈[g]) (hi:J'.inner = some I)
  (e2:Ye e k' c2 = (I.l (.pointer (some ⟨k' l3,0,none⟩))).toArray) (hw:I.walk = some W) (e3:Ye e k' c3 = W.l.toArray):VPost pw pi J' V I0 g w en w':=by
 have s2:w.heap.size≤k' l2:=(h.new _ m2).resolve_left fun hx=>absurd (hasL_mem.2 hx) (by rw [n2];simp)
 have s3:w.heap.size≤k' l3:=(h.new _ m3).resolve_left fun hx=>absurd (hasL_mem.2 hx) (by rw [n3];simp)
 have hn:¬ (k' l2 = k' l3):=fun he=>by
  have:=h.inj _ m2 _ m3 he
  simp only at this
  rw [this] at hne
  simp at hne
 refine ⟨h.ret.trans (by rw [hv]),chg_to h.chg hch hF,Or.inr ⟨k' l2,[k' l3],I,hi,blk_at h m1 ((h.ext 1 (hasL_mem.1 l1)).trans hg) ec,⟨⟨.pointer (some ⟨k' l3,0,none⟩),[k' l3],rfl,blk_at h m2 rfl e2,?_⟩,by simp [hn]⟩,fun b hb=>?_⟩⟩
 ·rw [hw];exact ⟨k' l3,rfl,rfl,blk_at h m3 rfl e3⟩
 ·rcases List.mem_cons.1 hb with rfl | hb
  ·exact s2
  ·rw [List.mem_singleton.1 hb];exact s3
end
def OnWay (wanted bucket:Int):Prop:=bucket = wanted∨bucket = par wanted∨bucket = par (par wanted)∨bucket = par (par (par wanted))
theorem way_fail {a b:Int} (h:OnWay a b) (c0:(b==a) = false) (c1:(par a==b) = false) (c2:(par (par a)==b) = false) (c3:(par (par (par a))==b) = false):False:=by
 simp only [beq_eq_false_iff_ne,ne_eq] at c0 c1 c2 c3
 rcases h with h | h | h | h
 ·exact c0 h
 ·exact c1 h.symm
 ·exact c2 h.symm
 ·exact c3 h.symm
def JRet (Rep:World→List Nat→Prop) (V:Value) (F:List Nat) (w:World) (en:Ending) (w':World):Prop :=
 ∃ F',en = .returned V∧Rep w' F'∧(∀ b∈F',b∈F∨w.heap.size≤b)∧Chg F w w'
section
variable {w w':World} {g:Nat} {F F1:List Nat} {q:Value}
theorem WalkP.same {o:Option Xt} (h:WalkP w q o F) (hs:∀ b∈F,w'.heap[b]? = w.heap[b]?):WalkP w' q o F:=by
 cases o with
 | none=>exact h
 | some W=>obtain ⟨g,rfl,rfl,hb⟩:=h;exact ⟨g,rfl,rfl,hb.same (hs g (by simp))⟩
theorem WalkP.lt {o:Option Xt} (h:WalkP w q o F):∀ b∈F,b < w.heap.size:=by
 cases o with
 | none=>obtain ⟨rfl,rfl⟩:=h;simp
 | some W=>obtain ⟨g,rfl,rfl,hb⟩:=h;intro b hm;rw [List.mem_singleton.1 hm];exact hb.lt
theorem LitP.same {J:Xn} (h:LitP w g J F) (hs:∀ b∈F,w'.heap[b]? = w.heap[b]?):LitP w' g J F:=by
 obtain ⟨⟨q,F1,rfl,hb,hw⟩,hn⟩:=h
 exact ⟨⟨q,F1,rfl,hb.same (hs g (by simp)),hw.same fun b hm=>hs b (by simp [hm])⟩,hn⟩
theorem LitP.lt {J:Xn} (h:LitP w g J F):∀ b∈F,b < w.heap.size:=by
 obtain ⟨⟨q,F1,rfl,hb,hw⟩,hn⟩:=h
 intro b hm
 rcases List.mem_cons.1 hm with rfl | hm
 ·exact hb.lt
 ·exact hw.lt b hm
theorem ClimbP.same {o:Option Xe} (h:ClimbP w q o F) (hs:∀ b∈F,w'.heap[b]? = w.heap[b]?):ClimbP w' q o F:=by
 cases o with
 | none=>exact h
 | some W=>obtain ⟨g,rfl,rfl,hb⟩:=h;exact ⟨g,rfl,rfl,hb.same (hs g (by simp))⟩
theorem ClimbP.lt {o:Option Xe} (h:ClimbP w q o F):∀ b∈F,b < w.heap.size:=by
 cases o with
 | none=>obtain ⟨rfl,rfl⟩:=h;simp
 | some W=>obtain ⟨g,rfl,rfl,hb⟩:=h;intro b hm;rw [List.mem_singleton.1 hm];exact hb.lt
theorem SteP.same {J:Xc} (h:SteP w g J F) (hs:∀ b∈F,w'.heap[b]? = w.heap[b]?):SteP w' g J F:=by
 obtain ⟨⟨q,F1,rfl,hb,hw⟩,hn⟩:=h
 exact ⟨⟨q,F1,rfl,hb.same (hs g (by simp)),hw.same fun b hm=>hs b (by simp [hm])⟩,hn⟩
theorem SteP.lt {J:Xc} (h:SteP w g J F):∀ b∈F,b < w.heap.size:=by
 obtain ⟨⟨q,F1,rfl,hb,hw⟩,hn⟩:=h
 intro b hm
 rcases List.mem_cons.1 hm with rfl | hm
 ·exact hb.lt
 ·exact hw.lt b hm
def InnerP (w:World) (q:Value) (o:Option Xn) (F:List Nat):Prop :=
 match o with
 | none=>q = .pointer none∧F = []
 | some I=>∃ gi F1,q = .pointer (some ⟨gi,0,none⟩)∧F = gi :: F1∧LitP w gi I F
theorem InnerP.same {o:Option Xn} (h:InnerP w q o F) (hs:∀ b∈F,w'.heap[b]? = w.heap[b]?):InnerP w' q o F:=by
 cases o with
 | none=>exact h
 | some I=>obtain ⟨gi,F1,rfl,rfl,hl⟩:=h;exact ⟨gi,F1,rfl,rfl,hl.same hs⟩
theorem InnerP.lt {o:Option Xn} (h:InnerP w q o F):∀ b∈F,b < w.heap.size:=by
 cases o with
 | none=>obtain ⟨rfl,rfl⟩:=h;simp
 | some I=>obtain ⟨gi,F1,rfl,rfl,hl⟩:=h;exact hl.lt
theorem InnerP.nodup {o:Option Xn} (h:InnerP w q o F):F.Nodup:=by
 cases o with
 | none=>obtain ⟨rfl,rfl⟩:=h;simp
 | some I=>obtain ⟨gi,F1,rfl,rfl,hl⟩:=h;exact hl.2
def VauP (w:World) (g:Nat) (J:Xb) (F:List Nat):Prop :=
 ∃ pw pi Fw Fi,F = g :: (Fw++Fi)∧Bk w g 186 (J.l (.pointer pw) (.pointer pi)).toArray∧WalkP w (.pointer pw) J.walk Fw∧InnerP w (.pointer pi) J.inner Fi∧F.Nodup
theorem VauP.same {J:Xb} (h:VauP w g J F) (hs:∀ b∈F,w'.heap[b]? = w.heap[b]?):VauP w' g J F:=by
 obtain ⟨pw,pi,Fw,Fi,rfl,hb,hw,hi,hn⟩:=h
 exact ⟨pw,pi,Fw,Fi,rfl,hb.same (hs g (by simp)),hw.same fun b hm=>hs b (by simp [hm]),hi.same fun b hm=>hs b (by simp [hm]),hn⟩
theorem VauP.lt {J:Xb} (h:VauP w g J F):∀ b∈F,b < w.heap.size:=by
 obtain ⟨pw,pi,Fw,Fi,rfl,hb,hw,hi,hn⟩:=h
 intro b hm
 simp only [List.mem_cons,List.mem_append] at hm
 rcases hm with rfl | hm | hm
 ·exact hb.lt
 ·exact hw.lt b hm
 ·exact hi.lt b hm
end
section
variable {w w':World} {g:Nat} {Fw Fi:List Nat} {pw pi:Option Go.Addr} {J J':Xb} {V:Value} {en:Ending}
theorem vau_same (hw:WalkP w (.pointer pw) J.walk Fw) (hi:InnerP w (.pointer pi) J.inner Fi) (hn:(g :: (Fw++Fi)).Nodup) (e1:J'.walk = J.walk) (e2:J'.inner = J.inner)
  (hr:en = .returned V) (hb:Bk w' g 186 (J'.l (.pointer pw) (.pointer pi)).toArray) (hc:Chg [g] w w'):JRet (fun w F=>VauP w g J' F) V (g :: (Fw++Fi)) w en w':=by
 have hg:∀ b∈Fw++Fi,b ∉ [g]:=fun b hm he=>(List.nodup_cons.1 hn).1 (by rw [← List.mem_singleton.1 he];exact hm)
 refine ⟨g :: (Fw++Fi),hr,⟨pw,pi,Fw,Fi,rfl,hb,?_,?_,hn⟩,fun b hb=>Or.inl hb,hc.mono fun x hx=>Or.inl (by rw [List.mem_singleton.1 hx];simp)⟩
 ·rw [e1];exact hw.same fun b hm=>hc.far b (hw.lt b hm) (hg b (by simp [hm]))
 ·rw [e2];exact hi.same fun b hm=>hc.far b (hi.lt b hm) (hg b (by simp [hm]))
theorem vau_walk {Fp:List Nat} (hw:WalkP w (.pointer pw) J.walk Fw) (hi:InnerP w (.pointer pi) J.inner Fi) (hn:(g :: (Fw++Fi)).Nodup) (e2:J'.inner = J.inner) (hgp:g∈Fp) (hFp:∀ b∈Fp,b∈g :: Fw)
  (hp:Post2 (fun w q F1=>WalkP w q J'.walk F1) 186 (fun q=>J'.l q (.pointer pi)) V g Fp w en w'):JRet (fun w F=>VauP w g J' F) V (g :: (Fw++Fi)) w en w':=by
 obtain ⟨F',hr,⟨⟨q,F1,rfl,hb,hs⟩,hnd⟩,hnew,hc⟩:=hp
 have hgi:∀ b∈Fi,b ∉ Fp:=fun b hm he=>by
  have h1:=hFp b he
  have h2:=(List.nodup_cons.1 hn)
  have h3:=List.nodup_append.1 h2.2
  rcases List.mem_cons.1 h1 with rfl | h1
  ·exact h2.1 (by simp [hm])
  ·exact h3.2.2 b h1 b hm rfl
 have hold:∀ b∈F1,b∈g :: Fw∨w.heap.size≤b:=fun b hm=>(hnew b (by simp [hm])).imp (hFp b) id
 obtain ⟨pw',rfl⟩:∃ pw',q = .pointer pw':=by
  cases hW:J'.walk with
  | none=>rw [hW] at hs;exact ⟨none,hs.1⟩
  | some W=>rw [hW] at hs;obtain ⟨g2,rfl,_⟩:=hs;exact ⟨_,rfl⟩
 refine ⟨g :: (F1++Fi),hr,⟨pw',pi,F1,Fi,rfl,hb,hs,?_,?_⟩,fun b hm=>?_,hc.mono fun x hx=>Or.inl (by have:=hFp x hx;simp only [List.mem_cons,List.mem_append] at this ⊢;rcases this with h | h <;> simp [h])⟩
 ·rw [e2];exact hi.same fun b hm=>hc.far b (hi.lt b hm) (hgi b hm)
 ·rw [List.nodup_cons] at hn hnd ⊢
  refine ⟨fun hm=>?_,List.nodup_append.2 ⟨hnd.2,hi.nodup,fun a ha b hb hab=>?_⟩⟩
  ·rcases List.mem_append.1 hm with h | h
   ·exact hnd.1 h
   ·exact hn.1 (by simp [h])
  ·subst hab
   rcases hold a ha with h | h
   ·rcases List.mem_cons.1 h with rfl | h
    ·exact hnd.1 ha
    ·exact (List.nodup_append.1 hn.2).2.2 a h a hb rfl
   ·have:=hi.lt a hb;omega
 ·simp only [List.mem_cons,List.mem_append] at hm ⊢
  rcases hm with rfl | hm | hm
  ·exact Or.inl (Or.inl rfl)
  ·rcases hold b hm with h | h
   ·rcases List.mem_cons.1 h with rfl | h
    ·exact Or.inl (Or.inl rfl)
    ·exact Or.inl (Or.inr (Or.inl h))
   ·exact Or.inr h
  ·exact Or.inl (Or.inr (Or.inr hm))
theorem vau_v (hw:WalkP w (.pointer pw) J.walk Fw) (hi:InnerP w (.pointer pi) J.inner Fi) (hgl:g < w.heap.size) (hn:(g :: (Fw++Fi)).Nodup) (e1:J'.walk = J.walk)
  (hp:VPost pw pi J' V J.inner g w en w'):JRet (fun w F=>VauP w g J' F) V (g :: (Fw++Fi)) w en w':=by
 obtain ⟨hr,hc,h | h⟩:=hp
 ·exact vau_same hw hi hn e1 h.1 hr h.2 hc
 ·obtain ⟨gi,F1,I,e2,hb,hl,hnew⟩:=h
  have hg:∀ b∈Fw,b ∉ [g]:=fun b hm he=>(List.nodup_cons.1 hn).1 (by rw [← List.mem_singleton.1 he];simp [hm])
  refine ⟨g :: (Fw++gi :: F1),hr,⟨pw,some ⟨gi,0,none⟩,Fw,gi :: F1,rfl,hb,?_,?_,?_⟩,fun b hm=>?_,hc.mono fun x hx=>Or.inl (by rw [List.mem_singleton.1 hx];simp)⟩
  ·rw [e1];exact hw.same fun b hm=>hc.far b (hw.lt b hm) (hg b hm)
  ·rw [e2];exact ⟨gi,F1,rfl,rfl,hl⟩
  ·rw [List.nodup_cons] at hn ⊢
   refine ⟨fun hm=>?_,List.nodup_append.2 ⟨(List.nodup_append.1 hn.2).1,hl.2,fun a ha b hb hab=>?_⟩⟩
   ·rcases List.mem_append.1 hm with h | h
    ·exact hn.1 (by simp [h])
    ·have:=hnew g h;omega
   ·subst hab
    have h1:=hw.lt a ha;have h2:=hnew a hb;omega
  ·simp only [List.mem_cons,List.mem_append] at hm ⊢
   rcases hm with rfl | hm | hm
   ·exact Or.inl (Or.inl rfl)
   ·exact Or.inl (Or.inr (Or.inl hm))
   ·exact Or.inr (hnew b (by simp only [List.mem_cons];exact hm))
end
theorem bl1 {w:World} {k:Nat→Nat} {e:Env} {l:Nat} {T:TypeId} {cs:List SC} (h:Bk w (k l) T (Ye e k cs)):∀ x∈([(l,T,cs)]:Heap),Bk w (k x.1) x.2.1 (Ye e k x.2.2):=fun x hx=>by
 rw [List.mem_singleton.1 hx];exact h
theorem bl2 {w:World} {k:Nat→Nat} {e:Env} {l l':Nat} {T T':TypeId} {cs cs':List SC} (h:Bk w (k l) T (Ye e k cs)) (h':Bk w (k l') T' (Ye e k cs')):∀ x∈([(l,T,cs),(l',T',cs')]:Heap),Bk w (k x.1) x.2.1 (Ye e k x.2.2):=fun x hx=>by
 rcases List.mem_cons.1 hx with rfl | hx
 ·exact h
 ·rw [List.mem_singleton.1 hx];exact h'
theorem walkS_nn (x:Xi):(walkS none x).2.2 = false:=rfl
theorem walkF_nn:walkF none = false:=rfl
theorem climbS_nn (x:Xi):(climbS none x).2.2 = false:=rfl
theorem walkF_n2 (x:Xi):walkF (walkS none x).1 = false:=rfl
theorem climbF_n2 (x:Xi):((climbF (climbS none x).1).sl==0) = true:=rfl
theorem walkP_n {w:World} {o:Option Xt} (h:(o.map fun W=>W.l.toArray) = none):WalkP w (.pointer none) o []:=by
 cases o with
 | none=>exact ⟨rfl,rfl⟩
 | some W=>cases h
theorem walkP_s {w:World} {g:Nat} {o:Option Xt} {cs:Array Value} (h:(o.map fun W=>W.l.toArray) = some cs) (hb:Bk w g 261 cs):WalkP w (.pointer (some ⟨g,0,none⟩)) o [g]:=by
 cases o with
 | none=>cases h
 | some W=>cases h;exact ⟨g,rfl,rfl,hb⟩
theorem climbP_n {w:World} {o:Option Xe} (h:(o.map fun W=>W.l.toArray) = none):ClimbP w (.pointer none) o []:=by
 cases o with
 | none=>exact ⟨rfl,rfl⟩
 | some W=>cases h
theorem climbP_s {w:World} {g:Nat} {o:Option Xe} {cs:Array Value} (h:(o.map fun W=>W.l.toArray) = some cs) (hb:Bk w g 284 cs):ClimbP w (.pointer (some ⟨g,0,none⟩)) o [g]:=by
 cases o with
 | none=>cases h
 | some W=>cases h;exact ⟨g,rfl,rfl,hb⟩
def litN_env (J:Xn) (x:Xi):Env:=mkE [J.ii,x.ii,(Xt.step (Xt.new J.start J.key) x).1.ii,(Xt.step (Xt.new J.start J.key) x).2.1.ii] [J.bb,x.bb,(Xt.step (Xt.new J.start J.key) x).1.bb,(Xt.step (Xt.new J.start J.key) x).2.1.bb,[(Xt.step (Xt.new J.start J.key) x).2.2]]
def litN_st:St:=⟨[],[(1,206,(ct [vs 0 9,[.bool (.var 0)],vs 9 4,[.bool (.var 1)],vs 13 12,[.lit (.pointer none)],vs 25 4,[.bool (.var 2),.int (.var 29)]]))],[],10,0⟩
def litN_args:List SV:=[.c (.ptr 1 0),.agg ((ct [vs 30 4,[.bool (.var 3),.bool (.var 4)]]))]
def litN_S:List Xs:=[⟨true,162,261,(ct [zs 9,[.bool (.lit false)],zs 4,[.bool (.lit false)],zs 4,vs 17 4,vs 17 3,zs 4,[.bool (.lit false)],zs 4,[.bool (.lit false),.int (.lit 0),.bool (.lit false)]]),[.agg ((ct [vs 30 4,[.bool (.var 3),.bool (.var 4)]]))],.tup [(true,(ct [vs 67 8,[.bool (.var 10)],vs 75 4,[.bool (.var 11)],vs 79 4])),(false,[.bool (.var 12)])],(ct [vs 34 9,[.bool (.var 5)],vs 43 4,[.bool (.var 6)],vs 47 15,[.bool (.var 7)],vs 62 4,[.bool (.var 8),.int (.var 66),.bool (.var 9)]])⟩]
theorem litN_any (J:Xn) (x:Xi) (g1:Nat) (w:World) (h1:Bk w g1 206 (({ J with walk:=none }:Xn).l (.pointer none)).toArray) (hnd:[g1].Nodup) :Calls Tryz.prog 154 #[.pointer (some ⟨g1,0,none⟩),.agg x.l.toArray] w fun en w'=>∃ F',en = .returned (X8 (Xn.next { J with walk:=none } x).2)∧LitP w' g1 (Xn.next { J with walk:=none } x).1 F'∧(∀ b∈F',b∈[g1]∨w.heap.size≤b)∧Chg [g1] w w':=by
 refine p2 (litN_env J x) litN_S 60 litN_st litN_args 27 206 261 (Xn.next { J with walk:=none } x) (fun r=>X8 r.2) (fun r q=>r.1.l q) (fun r=>r.1.walk.map fun W=>W.l.toArray) (fun r w q F1=>WalkP w q r.1.walk F1) (Xr (so_self Tryz.func162 fun g w hB=>walk_any (Xt.new J.start J.key) x g w hB) Xd) asN (bl1 (Yb h1 (by kernel_rfl))) hnd (fun _ _ h=>walkP_n h) (fun _ _ _ _ h hb=>walkP_s h hb) ?_
 exact vS10
def vau0_env (J:Xb) (pw:Option Go.Addr) (pi:Option Go.Addr) (x:Xi):Env:=mkV [J.last.ii,J.op.ii,[J.size,J.wanted,J.bucket,J.child],J.base.ii,J.node.ii,J.sentinel.ii,J.answer.ii,J.count.ii,x.ii] [J.bb,x.bb] [.pointer pw,.pointer pi] (Yk rfl)
def vau0_st:St:=⟨[],[(1,186,(ct [[.int (.lit 0)],vs 0 8,[.bool (.var 0)],vs 8 4,[.bool (.var 1)],vs 12 16,[.bool (.var 2)],vs 28 4,[.bool (.var 3)],vs 32 4,[.bool (.var 4),.raw 0,.raw 1],vs 36 6,[.bool (.var 5)]]))],[],10,0⟩
def vau0_args:List SV:=[.c (.ptr 1 0),.agg ((ct [vs 42 4,[.bool (.var 6),.bool (.var 7)]]))]
theorem vau0_any (J:Xb) (pw:Option Go.Addr) (pi:Option Go.Addr) (x:Xi) (g1:Nat) (w:World) (h1:Bk w g1 186 (({ J with pc:=0 }:Xb).l (.pointer pw) (.pointer pi)).toArray):Calls Tryz.prog 176 #[.pointer (some ⟨g1,0,none⟩),.agg x.l.toArray] w fun en w'=>en = .returned (X8 (Xb.next ({ J with pc:=0 }:Xb) x).2)∧Bk w' g1 186 ((Xb.next ({ J with pc:=0 }:Xb) x).1.l (.pointer pw) (.pointer pi)).toArray∧Chg [g1] w w':=by
 refine p1 (vau0_env J pw pi x) [] 80 vau0_st vau0_args (Xb.next ({ J with pc:=0 }:Xb) x) (fun r=>(X8 r.2,(r.1.l (.pointer pw) (.pointer pi)).toArray)) Xd asN h1 ?_
 exact vS2
def vau1_2_env (J:Xb) (pw:Option Go.Addr) (pi:Option Go.Addr) (x:Xi):Env:=mkV [J.last.ii,J.op.ii,[J.size,J.wanted,J.bucket,J.child],J.base.ii,J.node.ii,J.sentinel.ii,J.answer.ii,J.count.ii,[x.word.sl,x.word.gn,x.word.tg]] [J.bb,x.bb] [.pointer pw,.pointer pi] (Yk rfl)
def vau1_2_st:St:=⟨[],[(1,186,(ct [[.int (.lit 1)],vs 0 8,[.bool (.var 0)],vs 8 4,[.bool (.var 1)],vs 12 16,[.bool (.var 2)],vs 28 4,[.bool (.var 3)],vs 32 4,[.bool (.var 4),.raw 0,.raw 1],vs 36 6,[.bool (.var 5)]]))],[(.lt (.add (.lit 8) (.rem (.var 17) 2)) (.lit 0),false),(.le (.lit 24) (.add (.lit 8) (.rem (.var 17) 2)),false),(.le (.lit 0) (.add (.lit 8) (.rem (.var 17) 2)),true),(.lt (.add (.lit 8) (.rem (.var 17) 2)) (.lit 24),true)],10,0⟩
def vau1_2_args:List SV:=[.c (.ptr 1 0),.agg ((ct [vs 42 3,[.int (.lit 2),.bool (.var 6),.bool (.var 7)]]))]
theorem vau1_2_any (J:Xb) (pw:Option Go.Addr) (pi:Option Go.Addr) (x:Xi) (g1:Nat) (w:World) (h1:Bk w g1 186 (({ J with pc:=1 }:Xb).l (.pointer pw) (.pointer pi)).toArray) (hk0:0≤J.op.key) (hk1:J.op.key < 256):Calls Tryz.prog 176 #[.pointer (some ⟨g1,0,none⟩),.agg ({ x with word:={ x.word with nm:=2 } }:Xi).l.toArray] w fun en w'=>en = .returned (X8 (Xb.sizedZ ({ J with pc:=1 }:Xb) 2).2)∧Bk w' g1 186 ((Xb.sizedZ ({ J with pc:=1 }:Xb) 2).1.l (.pointer pw) (.pointer pi)).toArray∧Chg [g1] w w':=by
 refine p1 (vau1_2_env J pw pi x) [] 80 vau1_2_st vau1_2_args (Xb.sizedZ ({ J with pc:=1 }:Xb) 2) (fun r=>(X8 r.2,(r.1.l (.pointer pw) (.pointer pi)).toArray)) Xd (asC (vb_a (b:=(Int.tmod J.op.key 2)) (vb_rem hk0 (by decide) (by decide))) (asC (vb_b (b:=(Int.tmod J.op.key 2)) (vb_rem hk0 (by decide) (by decide))) (asC (vb_c (b:=(Int.tmod J.op.key 2)) (vb_rem hk0 (by decide) (by decide))) (asC (vb_d (b:=(Int.tmod J.op.key 2)) (vb_rem hk0 (by decide) (by decide))) asN)))) h1 ?_
 exact vS2
def vau1_4_env (J:Xb) (pw:Option Go.Addr) (pi:Option Go.Addr) (x:Xi):Env:=mkV [J.last.ii,J.op.ii,[J.size,J.wanted,J.bucket,J.child],J.base.ii,J.node.ii,J.sentinel.ii,J.answer.ii,J.count.ii,[x.word.sl,x.word.gn,x.word.tg]] [J.bb,x.bb] [.pointer pw,.pointer pi] (Yk rfl)
def vau1_4_st:St:=⟨[],[(1,186,(ct [[.int (.lit 1)],vs 0 8,[.bool (.var 0)],vs 8 4,[.bool (.var 1)],vs 12 16,[.bool (.var 2)],vs 28 4,[.bool (.var 3)],vs 32 4,[.bool (.var 4),.raw 0,.raw 1],vs 36 6,[.bool (.var 5)]]))],[(.lt (.add (.lit 8) (.rem (.var 17) 4)) (.lit 0),false),(.le (.lit 24) (.add (.lit 8) (.rem (.var 17) 4)),false),(.le (.lit 0) (.add (.lit 8) (.rem (.var 17) 4)),true),(.lt (.add (.lit 8) (.rem (.var 17) 4)) (.lit 24),true)],10,0⟩
def vau1_4_args:List SV:=[.c (.ptr 1 0),.agg ((ct [vs 42 3,[.int (.lit 4),.bool (.var 6),.bool (.var 7)]]))]
theorem vau1_4_any (J:Xb) (pw:Option Go.Addr) (pi:Option Go.Addr) (x:Xi) (g1:Nat) (w:World) (h1:Bk w g1 186 (({ J with pc:=1 }:Xb).l (.pointer pw) (.pointer pi)).toArray) (hk0:0≤J.op.key) (hk1:J.op.key < 256):Calls Tryz.prog 176 #[.pointer (some ⟨g1,0,none⟩),.agg ({ x with word:={ x.word with nm:=4 } }:Xi).l.toArray] w fun en w'=>en = .returned (X8 (Xb.sizedZ ({ J with pc:=1 }:Xb) 4).2)∧Bk w' g1 186 ((Xb.sizedZ ({ J with pc:=1 }:Xb) 4).1.l (.pointer pw) (.pointer pi)).toArray∧Chg [g1] w w':=by
 refine p1 (vau1_4_env J pw pi x) [] 80 vau1_4_st vau1_4_args (Xb.sizedZ ({ J with pc:=1 }:Xb) 4) (fun r=>(X8 r.2,(r.1.l (.pointer pw) (.pointer pi)).toArray)) Xd (asC (vb_a (b:=(Int.tmod J.op.key 4)) (vb_rem hk0 (by decide) (by decide))) (asC (vb_b (b:=(Int.tmod J.op.key 4)) (vb_rem hk0 (by decide) (by decide))) (asC (vb_c (b:=(Int.tmod J.op.key 4)) (vb_rem hk0 (by decide) (by decide))) (asC (vb_d (b:=(Int.tmod J.op.key 4)) (vb_rem hk0 (by decide) (by decide))) asN)))) h1 ?_
 exact vS2
def vau1_8_env (J:Xb) (pw:Option Go.Addr) (pi:Option Go.Addr) (x:Xi):Env:=mkV [J.last.ii,J.op.ii,[J.size,J.wanted,J.bucket,J.child],J.base.ii,J.node.ii,J.sentinel.ii,J.answer.ii,J.count.ii,[x.word.sl,x.word.gn,x.word.tg]] [J.bb,x.bb] [.pointer pw,.pointer pi] (Yk rfl)
def vau1_8_st:St:=⟨[],[(1,186,(ct [[.int (.lit 1)],vs 0 8,[.bool (.var 0)],vs 8 4,[.bool (.var 1)],vs 12 16,[.bool (.var 2)],vs 28 4,[.bool (.var 3)],vs 32 4,[.bool (.var 4),.raw 0,.raw 1],vs 36 6,[.bool (.var 5)]]))],[(.lt (.add (.lit 8) (.rem (.var 17) 8)) (.lit 0),false),(.le (.lit 24) (.add (.lit 8) (.rem (.var 17) 8)),false),(.le (.lit 0) (.add (.lit 8) (.rem (.var 17) 8)),true),(.lt (.add (.lit 8) (.rem (.var 17) 8)) (.lit 24),true)],10,0⟩
def vau1_8_args:List SV:=[.c (.ptr 1 0),.agg ((ct [vs 42 3,[.int (.lit 8),.bool (.var 6),.bool (.var 7)]]))]
theorem vau1_8_any (J:Xb) (pw:Option Go.Addr) (pi:Option Go.Addr) (x:Xi) (g1:Nat) (w:World) (h1:Bk w g1 186 (({ J with pc:=1 }:Xb).l (.pointer pw) (.pointer pi)).toArray) (hk0:0≤J.op.key) (hk1:J.op.key < 256):Calls Tryz.prog 176 #[.pointer (some ⟨g1,0,none⟩),.agg ({ x with word:={ x.word with nm:=8 } }:Xi).l.toArray] w fun en w'=>en = .returned (X8 (Xb.sizedZ ({ J with pc:=1 }:Xb) 8).2)∧Bk w' g1 186 ((Xb.sizedZ ({ J with pc:=1 }:Xb) 8).1.l (.pointer pw) (.pointer pi)).toArray∧Chg [g1] w w':=by
 refine p1 (vau1_8_env J pw pi x) [] 80 vau1_8_st vau1_8_args (Xb.sizedZ ({ J with pc:=1 }:Xb) 8) (fun r=>(X8 r.2,(r.1.l (.pointer pw) (.pointer pi)).toArray)) Xd (asC (vb_a (b:=(Int.tmod J.op.key 8)) (vb_rem hk0 (by decide) (by decide))) (asC (vb_b (b:=(Int.tmod J.op.key 8)) (vb_rem hk0 (by decide) (by decide))) (asC (vb_c (b:=(Int.tmod J.op.key 8)) (vb_rem hk0 (by decide) (by decide))) (asC (vb_d (b:=(Int.tmod J.op.key 8)) (vb_rem hk0 (by decide) (by decide))) asN)))) h1 ?_
 exact vS2
def vau1_1_env (J:Xb) (pw:Option Go.Addr) (pi:Option Go.Addr) (x:Xi):Env:=mkV [J.last.ii,J.op.ii,[J.size,J.wanted,J.bucket,J.child],J.base.ii,J.node.ii,J.sentinel.ii,J.answer.ii,J.count.ii,x.ii] [J.bb,x.bb] [.pointer pw,.pointer pi] (Yk rfl)
def vau1_1_st:St:=⟨[],[(1,186,(ct [[.int (.lit 1)],vs 0 8,[.bool (.var 0)],vs 8 4,[.bool (.var 1)],vs 12 16,[.bool (.var 2)],vs 28 4,[.bool (.var 3)],vs 32 4,[.bool (.var 4),.raw 0,.raw 1],vs 36 6,[.bool (.var 5)]]))],[(.lt (.add (.lit 8) (.rem (.var 17) 1)) (.lit 0),false),(.le (.lit 24) (.add (.lit 8) (.rem (.var 17) 1)),false),(.le (.lit 0) (.add (.lit 8) (.rem (.var 17) 1)),true),(.lt (.add (.lit 8) (.rem (.var 17) 1)) (.lit 24),true),(.eq (.var 45) (.lit 2),false),(.eq (.var 45) (.lit 4),false),(.eq (.var 45) (.lit 8),false)],10,0⟩
def vau1_1_args:List SV:=[.c (.ptr 1 0),.agg ((ct [vs 42 4,[.bool (.var 6),.bool (.var 7)]]))]
theorem vau1_1_any (J:Xb) (pw:Option Go.Addr) (pi:Option Go.Addr) (x:Xi) (g1:Nat) (w:World) (h1:Bk w g1 186 (({ J with pc:=1 }:Xb).l (.pointer pw) (.pointer pi)).toArray) (hk0:0≤J.op.key) (hk1:J.op.key < 256) (hz2:(x.word.nm==2) = false) (hz4:(x.word.nm==4) = false) (hz8:(x.word.nm==8) = false):Calls Tryz.prog 176 #[.pointer (some ⟨g1,0,none⟩),.agg x.l.toArray] w fun en w'=>en = .returned (X8 (Xb.sizedZ ({ J with pc:=1 }:Xb) 1).2)∧Bk w' g1 186 ((Xb.sizedZ ({ J with pc:=1 }:Xb) 1).1.l (.pointer pw) (.pointer pi)).toArray∧Chg [g1] w w':=by
 refine p1 (vau1_1_env J pw pi x) [] 80 vau1_1_st vau1_1_args (Xb.sizedZ ({ J with pc:=1 }:Xb) 1) (fun r=>(X8 r.2,(r.1.l (.pointer pw) (.pointer pi)).toArray)) Xd (asC (vb_a (b:=(Int.tmod J.op.key 1)) (vb_rem hk0 (by decide) (by decide))) (asC (vb_b (b:=(Int.tmod J.op.key 1)) (vb_rem hk0 (by decide) (by decide))) (asC (vb_c (b:=(Int.tmod J.op.key 1)) (vb_rem hk0 (by decide) (by decide))) (asC (vb_d (b:=(Int.tmod J.op.key 1)) (vb_rem hk0 (by decide) (by decide))) (asC hz2 (asC hz4 (asC hz8 asN))))))) h1 ?_
 exact vS2
end Go.Proofs.YtaipogljokblkaaGreatDoor
namespace Go.Proofs.YtaipogljokblkaaGreatDoor
open Go Go.RowKit
def vau4_env (J:Xb) (pw:Option Go.Addr) (pi:Option Go.Addr) (x:Xi):Env:=mkV [J.last.ii,J.op.ii,[J.size,J.wanted,J.bucket,J.child],J.base.ii,J.node.ii,J.sentinel.ii,J.answer.ii,J.count.ii,x.ii,[bordr J.child],(Xt.step (Xt.new (Xx J.base 2) (bordr J.child)) x).1.ii,(Xt.step (Xt.new (Xx J.base 2) (bordr J.child)) x).2.1.ii] [J.bb,x.bb,(Xt.step (Xt.new (Xx J.base 2) (bordr J.child)) x).1.bb,(Xt.step (Xt.new (Xx J.base 2) (bordr J.child)) x).2.1.bb,[(Xt.step (Xt.new (Xx J.base 2) (bordr J.child)) x).2.2]] [.pointer pw,.pointer pi] (Yk rfl)
def vau4_st:St:=⟨[],[(1,186,(ct [[.int (.lit 4)],vs 0 8,[.bool (.var 0)],vs 8 4,[.bool (.var 1)],vs 12 16,[.bool (.var 2)],vs 28 4,[.bool (.var 3)],vs 32 4,[.bool (.var 4),.raw 0,.raw 1],vs 36 6,[.bool (.var 5)]]))],[],10,0⟩
def vau4_args:List SV:=[.c (.ptr 1 0),.agg ((ct [vs 42 4,[.bool (.var 6),.bool (.var 7)]]))]
def vau4_S:List Xs:=[⟨false,189,0,[],[.c (.int (.var 23))],.c (.int (.var 46)),[]⟩,⟨true,162,261,(ct [zs 9,[.bool (.lit false)],zs 4,[.bool (.lit false)],zs 4,[.int (.var 24),.int (.var 25),.int (.lit 2),.int (.var 46),.int (.var 24),.int (.var 25),.int (.lit 2)],zs 4,[.bool (.lit false)],zs 4,[.bool (.lit false),.int (.lit 0),.bool (.lit false)]]),[.agg ((ct [vs 42 4,[.bool (.var 6),.bool (.var 7)]]))],.tup [(true,(ct [vs 80 8,[.bool (.var 13)],vs 88 4,[.bool (.var 14)],vs 92 4])),(false,[.bool (.var 15)])],(ct [vs 47 9,[.bool (.var 8)],vs 56 4,[.bool (.var 9)],vs 60 15,[.bool (.var 10)],vs 75 4,[.bool (.var 11),.int (.var 79),.bool (.var 12)]])⟩]
theorem vau4_any (J:Xb) (pw:Option Go.Addr) (pi:Option Go.Addr) (x:Xi) (g1:Nat) (w:World) (h1:Bk w g1 186 (({ J with pc:=4 }:Xb).l (.pointer pw) (.pointer pi)).toArray) (hnd:[g1].Nodup) (hc0:0≤J.child) (hc1:J.child < 8) :Calls Tryz.prog 176 #[.pointer (some ⟨g1,0,none⟩),.agg x.l.toArray] w fun en w'=>Post2 (fun w q F1=>WalkP w q (Xb.create ({ J with pc:=4 }:Xb) x).1.walk F1) 186 (fun q=>(Xb.create ({ J with pc:=4 }:Xb) x).1.l q (.pointer pi)) (X8 (Xb.create ({ J with pc:=4 }:Xb) x).2) g1 [g1] w en w':=by
 refine p2 (hJL:=fun r q=>by kernel_rfl) (vau4_env J pw pi x) vau4_S 80 vau4_st vau4_args 42 186 261 (Xb.create ({ J with pc:=4 }:Xb) x) (fun r=>X8 r.2) (fun r q=>r.1.l q (.pointer pi)) (fun r=>r.1.walk.map fun W=>W.l.toArray) (fun r w q F1=>WalkP w q r.1.walk F1) (Xr (Yd Tryz.func189 fun w=>border_any _ w hc0 hc1) (Xr (so_self Tryz.func162 fun g w hB=>walk_any (Xt.new (Xx J.base 2) (bordr J.child)) x g w hB) Xd)) asN (bl1 (Yb h1 (by kernel_rfl))) hnd (fun _ _ h=>walkP_n h) (fun _ _ _ _ h hb=>walkP_s h hb) ?_
 exact vS7
def vau8n_env (J:Xb) (pw:Option Go.Addr) (pi:Option Go.Addr) (x:Xi):Env:=mkV [J.last.ii,J.op.ii,[J.size,J.wanted,J.bucket,J.child],J.base.ii,J.node.ii,J.sentinel.ii,J.answer.ii,J.count.ii,x.ii,[bordr J.child],(Xt.step (Xt.new (Xx J.base 2) (bordr J.child)) x).1.ii,(Xt.step (Xt.new (Xx J.base 2) (bordr J.child)) x).2.1.ii] [J.bb,x.bb,(Xt.step (Xt.new (Xx J.base 2) (bordr J.child)) x).1.bb,(Xt.step (Xt.new (Xx J.base 2) (bordr J.child)) x).2.1.bb,[(Xt.step (Xt.new (Xx J.base 2) (bordr J.child)) x).2.2]] [.pointer pw,.pointer pi] (Yk rfl)
def vau8n_st:St:=⟨[],[(1,186,(ct [[.int (.lit 8)],vs 0 8,[.bool (.var 0)],vs 8 4,[.bool (.var 1)],vs 12 16,[.bool (.var 2)],vs 28 4,[.bool (.var 3)],vs 32 4,[.bool (.var 4),.raw 0,.raw 1],vs 36 6,[.bool (.var 5)]]))],[(.var 7,false)],10,0⟩
def vau8n_args:List SV:=[.c (.ptr 1 0),.agg ((ct [vs 42 4,[.bool (.var 6),.bool (.var 7)]]))]
def vau8n_S:List Xs:=[⟨false,189,0,[],[.c (.int (.var 23))],.c (.int (.var 46)),[]⟩,⟨true,162,261,(ct [zs 9,[.bool (.lit false)],zs 4,[.bool (.lit false)],zs 4,[.int (.var 24),.int (.var 25),.int (.lit 2),.int (.var 46),.int (.var 24),.int (.var 25),.int (.lit 2)],zs 4,[.bool (.lit false)],zs 4,[.bool (.lit false),.int (.lit 0),.bool (.lit false)]]),[.agg ((ct [vs 42 4,[.bool (.var 6),.bool (.var 7)]]))],.tup [(true,(ct [vs 80 8,[.bool (.var 13)],vs 88 4,[.bool (.var 14)],vs 92 4])),(false,[.bool (.var 15)])],(ct [vs 47 9,[.bool (.var 8)],vs 56 4,[.bool (.var 9)],vs 60 15,[.bool (.var 10)],vs 75 4,[.bool (.var 11),.int (.var 79),.bool (.var 12)]])⟩]
theorem vau8n_any (J:Xb) (pw:Option Go.Addr) (pi:Option Go.Addr) (x:Xi) (g1:Nat) (w:World) (h1:Bk w g1 186 (({ J with pc:=8 }:Xb).l (.pointer pw) (.pointer pi)).toArray) (hnd:[g1].Nodup) (hc0:0≤J.child) (hc1:J.child < 8) (hok:x.ok = false) :Calls Tryz.prog 176 #[.pointer (some ⟨g1,0,none⟩),.agg x.l.toArray] w fun en w'=>Post2 (fun w q F1=>WalkP w q (Xb.create ({ J with pc:=8 }:Xb) x).1.walk F1) 186 (fun q=>(Xb.create ({ J with pc:=8 }:Xb) x).1.l q (.pointer pi)) (X8 (Xb.create ({ J with pc:=8 }:Xb) x).2) g1 [g1] w en w':=by
 refine p2 (hJL:=fun r q=>by kernel_rfl) (vau8n_env J pw pi x) vau8n_S 80 vau8n_st vau8n_args 42 186 261 (Xb.create ({ J with pc:=8 }:Xb) x) (fun r=>X8 r.2) (fun r q=>r.1.l q (.pointer pi)) (fun r=>r.1.walk.map fun W=>W.l.toArray) (fun r w q F1=>WalkP w q r.1.walk F1) (Xr (Yd Tryz.func189 fun w=>border_any _ w hc0 hc1) (Xr (so_self Tryz.func162 fun g w hB=>walk_any (Xt.new (Xx J.base 2) (bordr J.child)) x g w hB) Xd)) (asC hok asN) (bl1 (Yb h1 (by kernel_rfl))) hnd (fun _ _ h=>walkP_n h) (fun _ _ _ _ h hb=>walkP_s h hb) ?_
 exact vS7
def vau5_env (J:Xb) (W:Xt) (pi:Option Go.Addr) (x:Xi):Env:=mkV [J.last.ii,J.op.ii,[J.size,J.wanted,J.bucket,J.child],J.base.ii,J.node.ii,J.sentinel.ii,J.answer.ii,J.count.ii,W.ii,x.ii,(Xt.step W x).1.ii,(Xt.step W x).2.1.ii] [J.bb,W.bb,x.bb,(Xt.step W x).1.bb,(Xt.step W x).2.1.bb,[(Xt.step W x).2.2]] [.pointer pi] (Yk rfl)
def vau5_st:St:=⟨[],[(1,186,(ct [[.int (.lit 5)],vs 0 8,[.bool (.var 0)],vs 8 4,[.bool (.var 1)],vs 12 16,[.bool (.var 2)],vs 28 4,[.bool (.var 3)],vs 32 4,[.bool (.var 4),.ptr 3 0,.raw 0],vs 36 6,[.bool (.var 5)]])),(3,261,(ct [vs 42 9,[.bool (.var 6)],vs 51 4,[.bool (.var 7)],vs 55 15,[.bool (.var 8)],vs 70 4,[.bool (.var 9),.int (.var 74),.bool (.var 10)]]))],[],10,0⟩
def vau5_args:List SV:=[.c (.ptr 1 0),.agg ((ct [vs 75 4,[.bool (.var 11),.bool (.var 12)]]))]
def vau5_S:List Xs:=[⟨true,162,261,(ct [vs 42 9,[.bool (.var 6)],vs 51 4,[.bool (.var 7)],vs 55 15,[.bool (.var 8)],vs 70 4,[.bool (.var 9),.int (.var 74),.bool (.var 10)]]),[.agg ((ct [vs 75 4,[.bool (.var 11),.bool (.var 12)]]))],.tup [(true,(ct [vs 112 8,[.bool (.var 18)],vs 120 4,[.bool (.var 19)],vs 124 4])),(false,[.bool (.var 20)])],(ct [vs 79 9,[.bool (.var 13)],vs 88 4,[.bool (.var 14)],vs 92 15,[.bool (.var 15)],vs 107 4,[.bool (.var 16),.int (.var 111),.bool (.var 17)]])⟩]
theorem vau5_any (J:Xb) (W:Xt) (pi:Option Go.Addr) (x:Xi) (g1 g2:Nat) (w:World) (h1:Bk w g1 186 (({ J with pc:=5,walk:=some W }:Xb).l (.pointer (some ⟨g2,0,none⟩)) (.pointer pi)).toArray) (h2:Bk w g2 261 (W.l).toArray) (hnd:[g1,g2].Nodup) :Calls Tryz.prog 176 #[.pointer (some ⟨g1,0,none⟩),.agg x.l.toArray] w fun en w'=>Post2 (fun w q F1=>WalkP w q (Xb.create ({ J with pc:=5,walk:=some W }:Xb) x).1.walk F1) 186 (fun q=>(Xb.create ({ J with pc:=5,walk:=some W }:Xb) x).1.l q (.pointer pi)) (X8 (Xb.create ({ J with pc:=5,walk:=some W }:Xb) x).2) g1 [g1,g2] w en w':=by
 refine p2 (hJL:=fun r q=>by kernel_rfl) (vau5_env J W pi x) vau5_S 80 vau5_st vau5_args 42 186 261 (Xb.create ({ J with pc:=5,walk:=some W }:Xb) x) (fun r=>X8 r.2) (fun r q=>r.1.l q (.pointer pi)) (fun r=>r.1.walk.map fun W=>W.l.toArray) (fun r w q F1=>WalkP w q r.1.walk F1) (Xr (so_self Tryz.func162 fun g w hB=>walk_any W x g w hB) Xd) asN (bl2 (Yb h1 (by kernel_rfl)) (Yb h2 (by kernel_rfl))) hnd (fun _ _ h=>walkP_n h) (fun _ _ _ _ h hb=>walkP_s h hb) ?_
 exact vS7
def vau7_env (J:Xb) (W:Xt) (pi:Option Go.Addr) (x:Xi):Env:=mkV [J.last.ii,J.op.ii,[J.size,J.wanted,J.bucket,J.child],J.base.ii,J.node.ii,J.sentinel.ii,J.answer.ii,J.count.ii,W.ii,x.ii] [J.bb,W.bb,x.bb] [.pointer pi] (Yk rfl)
def vau7_st:St:=⟨[],[(1,186,(ct [[.int (.lit 7)],vs 0 8,[.bool (.var 0)],vs 8 4,[.bool (.var 1)],vs 12 16,[.bool (.var 2)],vs 28 4,[.bool (.var 3)],vs 32 4,[.bool (.var 4),.ptr 3 0,.raw 0],vs 36 6,[.bool (.var 5)]])),(3,261,(ct [vs 42 9,[.bool (.var 6)],vs 51 4,[.bool (.var 7)],vs 55 15,[.bool (.var 8)],vs 70 4,[.bool (.var 9),.int (.var 74),.bool (.var 10)]]))],[],10,0⟩
def vau7_args:List SV:=[.c (.ptr 1 0),.agg ((ct [vs 75 4,[.bool (.var 11),.bool (.var 12)]]))]
def vau7_S:List Xs:=[]
theorem vau7_any (J:Xb) (W:Xt) (pi:Option Go.Addr) (x:Xi) (g1 g2:Nat) (w:World) (h1:Bk w g1 186 (({ J with pc:=7,walk:=some W }:Xb).l (.pointer (some ⟨g2,0,none⟩)) (.pointer pi)).toArray) (h2:Bk w g2 261 (W.l).toArray) (hnd:[g1,g2].Nodup) :Calls Tryz.prog 176 #[.pointer (some ⟨g1,0,none⟩),.agg x.l.toArray] w fun en w'=>Post2 (fun w q F1=>WalkP w q (Xb.create ({ J with pc:=7,walk:=some W }:Xb) x).1.walk F1) 186 (fun q=>(Xb.create ({ J with pc:=7,walk:=some W }:Xb) x).1.l q (.pointer pi)) (X8 (Xb.create ({ J with pc:=7,walk:=some W }:Xb) x).2) g1 [g1,g2] w en w':=by
 refine p2 (hJL:=fun r q=>by kernel_rfl) (vau7_env J W pi x) vau7_S 80 vau7_st vau7_args 42 186 261 (Xb.create ({ J with pc:=7,walk:=some W }:Xb) x) (fun r=>X8 r.2) (fun r q=>r.1.l q (.pointer pi)) (fun r=>r.1.walk.map fun W=>W.l.toArray) (fun r w q F1=>WalkP w q r.1.walk F1) Xd asN (bl2 (Yb h1 (by kernel_rfl)) (Yb h2 (by kernel_rfl))) hnd (fun _ _ h=>walkP_n h) (fun _ _ _ _ h hb=>walkP_s h hb) ?_
 exact vS7
end Go.Proofs.YtaipogljokblkaaGreatDoor
