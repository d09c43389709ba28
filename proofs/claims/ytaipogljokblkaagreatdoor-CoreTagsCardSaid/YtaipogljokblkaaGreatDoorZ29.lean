/- Core: JC, CSteS, JS, JD. -/
import Derived.Test.YtaipogljokblkaaGreatDoorZ27
import Derived.Test.YtaipogljokblkaaGreatDoorZ09
import Derived.Test.YtaipogljokblkaaGreatDoorZ14
import Derived.Test.YtaipogljokblkaaGreatDoorZ08
import Derived.Test.YtaipogljokblkaaGreatDoorZ28
import Derived.Test.YtaipogljokblkaaGreatDoorZ15
set_option linter.all false
set_option maxRecDepth 100000
set_option maxHeartbeats 8000000
namespace Go.Proofs.YtaipogljokblkaaGreatDoor
open Go Go.RowKit
set_option linter.unusedSimpArgs false
set_option linter.unusedVariables false
set_option linter.unusedSectionVars false
section
variable {J:Xb} {x:Xi} {c:Xg}
theorem finC_keep (J:Xb) (c:Xg):(J.finC c).1.walk = J.walk∧(J.finC c).1.inner = J.inner:=by
 unfold Xb.finC
 cases h1:(!(c.kind==12)) with
 | true=>exact ⟨rfl,rfl⟩
 | false =>
  cases h2:(!(c.ans.code==1) || J.op.kind==8) with
  | true=>simp only [h2,cond_true,cond_false];exact ⟨rfl,rfl⟩
  | false=>simp only [h2,cond_true,cond_false];exact ⟨trivial,trivial⟩
theorem finC_inner (J:Xb) (c:Xg) (o:Option Xn) (a b:Value):(Xb.finC { J with inner:=o } c).1.l a b = (J.finC c).1.l a b∧(Xb.finC { J with inner:=o } c).2 = (J.finC c).2:=by
 unfold Xb.finC
 cases h1:(!(c.kind==12)) with
 | true=>exact ⟨rfl,rfl⟩
 | false =>
  cases h2:(!(c.ans.code==1) || J.op.kind==8) with
  | true=>simp only [h2,cond_true,cond_false];exact ⟨rfl,rfl⟩
  | false=>simp only [h2,cond_true,cond_false];exact ⟨rfl,trivial⟩
theorem fin11_walk (J:Xb) (x:Xi):(J.fin11 x).1.walk = J.walk:=by
 unfold Xb.fin11
 cases h:J.inner with
 | none=>rfl
 | some I=>exact (finC_keep _ _).1
theorem perform_walk (J:Xb):J.perform.1.walk = J.walk:=by
 unfold Xb.perform
 exact fin11_walk _ _
theorem descend_walk (J:Xb):J.descend.1.walk = J.walk:=by
 unfold Xb.descend
 cases (J.bucket==J.wanted)
 ·rfl
 ·exact perform_walk J
theorem pub_walk (J:Xb):J.pub.1.walk = J.walk:=by unfold Xb.pub;exact descend_walk _
theorem based_keep (hs:x.word.sl = 0):(J.based x).1.walk = J.walk∧(J.based x).1.inner = J.inner:=by
 unfold Xb.based
 rw [show (!(x.word.sl==0)) = false from by simp [hs]]
 cases (J.bucket==0) <;> exact ⟨rfl,rfl⟩
theorem added_keep:(J.added x).1.walk = J.walk∧(J.added x).1.inner = J.inner:=by
 unfold Xb.added
 cases (!x.ok)
 ·cases (J.op.kind==7)
  ·cases (J.size==8)
   ·cases (decide (J.count.nm < wr (2*J.size))) <;> exact ⟨rfl,rfl⟩
   ·exact ⟨rfl,rfl⟩
  ·exact ⟨rfl,rfl⟩
 ·exact ⟨rfl,rfl⟩
theorem resized_keep:(J.resized x).1.walk = J.walk∧(J.resized x).1.inner = J.inner:=by
 unfold Xb.resized
 cases (x.word.nm==J.size) <;> exact ⟨rfl,rfl⟩
theorem walk5_inner (J:Xb) (x:Xi):(J.walk5 x).1.inner = J.inner:=by
 unfold Xb.walk5
 simp only
 cases (walkS J.walk x).2.2
 ·cases (walkF (walkS J.walk x).1) <;> rfl
 ·rfl
theorem create_inner (h:J.pc = 4∨J.pc = 5∨J.pc = 7∨J.pc = 8):(J.create x).1.inner = J.inner:=by
 unfold Xb.create
 rcases h with h | h | h | h <;> rw [h]
 ·exact walk5_inner J.seek x
 ·exact walk5_inner J x
 ·rfl
 ·cases hx:x.ok
  ·exact walk5_inner J.seek x
  ·rfl
theorem based_walk:(J.based x).1.walk = J.walk:=by
 unfold Xb.based
 cases (!(x.word.sl==0))
 ·cases (J.bucket==0) <;> rfl
 ·exact descend_walk _
end
section
variable {w:World} {g:Nat} {Fw Fi:List Nat} {pw pi:Option Go.Addr} {J:Xb}
theorem vau11_ok (x:Xi) (hb:Bk w g 186 (J.l (.pointer pw) (.pointer pi)).toArray) (hw:WalkP w (.pointer pw) J.walk Fw) (hi:InnerP w (.pointer pi) J.inner Fi) (hn:(g :: (Fw++Fi)).Nodup) (h:J.pc = 11) (hI:∃ I,J.inner = some I) :
  Calls Tryz.prog 176 #[.pointer (some ⟨g,0,none⟩),.agg x.l.toArray] w (JRet (fun w F=>VauP w g (J.next x).1 F) (X8 (J.next x).2) (g :: (Fw++Fi)) w):=by
 obtain ⟨I,hI⟩:=hI
 rw [hI] at hi
 obtain ⟨gi,F1,hq,rfl,hl⟩:=hi
 obtain rfl:pi = some ⟨gi,0,none⟩:=by injection hq
 have e1:J.next x = Xb.finC { J with inner:=some (I.next x).1 } (I.next x).2:=by rw [n11 h];unfold Xb.fin11;rw [hI]
 rw [e1]
 obtain ⟨hg1,hn1⟩:=List.nodup_cons.1 hn
 have hq:=vau11_any (Φ:=litPhi gi I (I.next x).1) (F:=fun b=>b∈gi :: F1) J pw ⟨gi,0,none⟩ x (I.next x).2 g w (by rw [v_pc h];exact hb) (fun w F hP hbd=>by
  obtain ⟨Fl,h1,h2⟩:=(show ∃ Fl,LitP w gi I Fl∧∀ b,F b↔b∈Fl from hP)
  refine (lit_any I x gi Fl w h1).mono fun en w' hp=>?_
  obtain ⟨F',p1,p2,p3,p4⟩:=hp
  have p5:=p2.lt
  obtain ⟨⟨q,F2,rfl,_⟩,_⟩:=id p2
  exact ⟨p1,opq_of p4 (fun b hb=>(h2 b).2 hb) ⟨fun b=>b∈gi :: F2,⟨F2,p2,fun b=>Iff.rfl⟩,fun b hb=>(p3 b hb).imp (h2 b).2 id,p5⟩⟩) ⟨gi :: F1,hl,fun b=>Iff.rfl⟩ (fun hm=>hg1 (List.mem_append.2 (Or.inr hm))) hl.lt
 rw [v_pc h] at hq
 refine hq.mono fun en w' hp=>?_
 obtain ⟨p1,p2,p3,F',p4,p5,p6,p7⟩:=hp
 obtain ⟨F2,p8,p9⟩:=(show ∃ F2,LitP w' gi (I.next x).1 (gi :: F2)∧∀ b,F' b↔b∈gi :: F2 from p4)
 obtain ⟨i1,i2⟩:=finC_inner J (I.next x).2 (some (I.next x).1) (.pointer pw) (.pointer (some ⟨gi,0,none⟩))
 have far:∀ b∈Fw,w'.heap[b]? = w.heap[b]?:=fun b hm=>p3.far b (hw.lt b hm) fun hx=>by
  rcases hx with rfl | hx
  ·exact hg1 (List.mem_append.2 (Or.inl hm))
  ·exact (List.nodup_append.1 hn1).2.2 b hm b hx rfl
 refine ⟨g :: (Fw++gi :: F2),by rw [i2];exact p1,⟨pw,some ⟨gi,0,none⟩,Fw,gi :: F2,rfl,by rw [i1];exact p2,?_,?_,?_⟩,fun b hm=>?_,⟨p3.os,p3.tape,p3.output,p3.size,fun b hb hf=>p3.far b hb fun hx=>hf (hx.elim (fun e=>by rw [e];simp) fun e=>by simp only [List.mem_cons,List.mem_append] at e ⊢;exact Or.inr (Or.inr e))⟩⟩
 ·rw [(finC_keep _ _).1];exact hw.same far
 ·rw [(finC_keep _ _).2];exact ⟨gi,F2,rfl,rfl,p8⟩
 ·refine List.nodup_cons.2 ⟨fun hm=>?_,List.nodup_append.2 ⟨(List.nodup_append.1 hn1).1,p8.2,fun a ha b hb hab=>?_⟩⟩
  ·rcases List.mem_append.1 hm with hm | hm
   ·exact hg1 (List.mem_append.2 (Or.inl hm))
   ·exact p5 ((p9 g).2 hm)
  ·subst hab
   rcases p7 a ((p9 a).2 hb) with h1 | h1
   ·exact (List.nodup_append.1 hn1).2.2 a ha a h1 rfl
   ·have:=hw.lt a ha;omega
 ·simp only [List.mem_cons,List.mem_append] at hm ⊢
  rcases hm with rfl | hm | hm
  ·exact Or.inl (Or.inl rfl)
  ·exact Or.inl (Or.inr (Or.inl hm))
  ·rcases p7 b ((p9 b).2 (by simp only [List.mem_cons];exact hm)) with h1 | h1
   ·exact Or.inl (Or.inr (Or.inr (by simpa only [List.mem_cons] using h1)))
   ·exact Or.inr h1
theorem vau_any (J:Xb) (x:Xi) (g:Nat) (F:List Nat) (w:World) (h:VauP w g J F) (ok:VauOk J) :
  Calls Tryz.prog 176 #[.pointer (some ⟨g,0,none⟩),.agg x.l.toArray] w (JRet (fun w F=>VauP w g (J.next x).1 F) (X8 (J.next x).2) F w):=by
 obtain ⟨pw,pi,Fw,Fi,rfl,hb,hw,hi,hn⟩:=h
 have hgl:=hb.lt
 have hg0:[g].Nodup:=by simp
 rcases ok.pc with h | h | h | h | h | h | h | h | h | h | h | h | h | h | h | h
 ·rw [n0 h]
  exact (vau0_any J pw pi x g w (by rw [v_pc h];exact hb)).mono fun en w' hp=>vau_same hw hi hn rfl rfl hp.1 hp.2.1 hp.2.2
 ·rw [n1 h]
  by_cases h2:x.word.nm = 2
  ·have e:J.sized x = Xb.sizedZ ({ J with pc:=1 }:Xb) 2:=by rw [v_pc h];unfold Xb.sized;rw [h2];rfl
   rw [e]
   have hq:=vau1_2_any J pw pi x g w (by rw [v_pc h];exact hb) ok.k0 ok.k1
   rw [x_nm h2] at hq
   exact hq.mono fun en w' hp=>vau_same hw hi hn rfl rfl hp.1 hp.2.1 hp.2.2
  by_cases h4:x.word.nm = 4
  ·have e:J.sized x = Xb.sizedZ ({ J with pc:=1 }:Xb) 4:=by rw [v_pc h];unfold Xb.sized;rw [h4];rfl
   rw [e]
   have hq:=vau1_4_any J pw pi x g w (by rw [v_pc h];exact hb) ok.k0 ok.k1
   rw [x_nm h4] at hq
   exact hq.mono fun en w' hp=>vau_same hw hi hn rfl rfl hp.1 hp.2.1 hp.2.2
  by_cases h8:x.word.nm = 8
  ·have e:J.sized x = Xb.sizedZ ({ J with pc:=1 }:Xb) 8:=by rw [v_pc h];unfold Xb.sized;rw [h8];rfl
   rw [e]
   have hq:=vau1_8_any J pw pi x g w (by rw [v_pc h];exact hb) ok.k0 ok.k1
   rw [x_nm h8] at hq
   exact hq.mono fun en w' hp=>vau_same hw hi hn rfl rfl hp.1 hp.2.1 hp.2.2
  ·have z2:(x.word.nm==2) = false:=by simp [h2]
   have z4:(x.word.nm==4) = false:=by simp [h4]
   have z8:(x.word.nm==8) = false:=by simp [h8]
   have e:J.sized x = Xb.sizedZ ({ J with pc:=1 }:Xb) 1:=by rw [v_pc h];unfold Xb.sized sizeW;rw [z2,z4,z8];rfl
   rw [e]
   exact (vau1_1_any J pw pi x g w (by rw [v_pc h];exact hb) ok.k0 ok.k1 z2 z4 z8).mono fun en w' hp=>vau_same hw hi hn rfl rfl hp.1 hp.2.1 hp.2.2
 ·rw [n2 h]
  by_cases hs:x.word.sl = 0
  ·have hq:=vau2_any J pw pi x g w (by rw [v_pc h];exact hb) ok.b0 ok.b1
   rw [v_pc h,x_sl hs] at hq
   exact hq.mono fun en w' hp=>vau_same hw hi hn (based_keep hs).1 (based_keep hs).2 hp.1 hp.2.1 hp.2.2
  ·have hs':(x.word.sl==0) = false:=by simp [hs]
   rcases ok.kind with hk | hk | hk
   ·have hq:=vd2_6_any J pw pi x g w (by rw [v_pck h hk];exact hb) ok.w0 ok.w1 ok.k0 ok.k1 (ok.way h) hs'
    rw [v_pck h hk] at hq
    exact hq.mono fun en w' hp=>vau_v hw hi hgl hn based_walk hp
   ·have hq:=vd2_7_any J pw pi x g w (by rw [v_pck h hk];exact hb) ok.w0 ok.w1 ok.k0 ok.k1 (ok.way h) hs'
    rw [v_pck h hk] at hq
    exact hq.mono fun en w' hp=>vau_v hw hi hgl hn based_walk hp
   ·have hq:=vd2_8_any J pw pi x g w (by rw [v_pck h hk];exact hb) ok.w0 ok.w1 ok.k0 ok.k1 (ok.way h) hs'
    rw [v_pck h hk] at hq
    exact hq.mono fun en w' hp=>vau_v hw hi hgl hn based_walk hp
 ·rw [nC (Or.inl h)]
  cases ho:x.ok with
  | true =>
   have hq:=vau3_any J pw pi x g w (by rw [v_pc h];exact hb) ok.c0 ok.c1
   rw [v_pc h,x_ok ho] at hq
   exact hq.mono fun en w' hp=>vau_same hw hi hn (by unfold Xb.create;rw [h,ho];rfl) (by unfold Xb.create;rw [h,ho];rfl) hp.1 hp.2.1 hp.2.2
  | false =>
   have e:(J.create x).1.walk = J.walk:=by unfold Xb.create;rw [h,ho];exact perform_walk J
   rcases ok.kind with hk | hk | hk
   ·have hq:=vd3_6_any J pw pi x g w (by rw [v_pck h hk];exact hb) ok.w0 ok.w1 ok.k0 ok.k1
    rw [v_pck h hk,x_ok ho] at hq
    exact hq.mono fun en w' hp=>vau_v hw hi hgl hn e hp
   ·have hq:=vd3_7_any J pw pi x g w (by rw [v_pck h hk];exact hb) ok.w0 ok.w1 ok.k0 ok.k1
    rw [v_pck h hk,x_ok ho] at hq
    exact hq.mono fun en w' hp=>vau_v hw hi hgl hn e hp
   ·have hq:=vd3_8_any J pw pi x g w (by rw [v_pck h hk];exact hb) ok.w0 ok.w1 ok.k0 ok.k1
    rw [v_pck h hk,x_ok ho] at hq
    exact hq.mono fun en w' hp=>vau_v hw hi hgl hn e hp
 ·rw [nC (Or.inr (Or.inl h))]
  have hq:=vau4_any J pw pi x g w (by rw [v_pc h];exact hb) hg0 ok.c0 ok.c1
  rw [v_pc h] at hq
  exact hq.mono fun en w' hp=>vau_walk hw hi hn (create_inner (Or.inl h)) (by simp) (by simp) hp
 ·rw [nC (Or.inr (Or.inr (Or.inl h)))]
  obtain ⟨W,hW⟩:=ok.walk (Or.inl h)
  rw [hW] at hw
  obtain ⟨g2,hpw,rfl,hb2⟩:=hw
  obtain rfl:pw = some ⟨g2,0,none⟩:=by injection hpw
  have hq:=vau5_any J W pi x g g2 w (by rw [v_pcw h hW];exact hb) hb2 (by have:=hn;simp only [List.cons_append,List.nil_append,List.nodup_cons,List.mem_cons] at this ⊢;simp;exact fun e=>this.1 (Or.inl e))
  rw [v_pcw h hW] at hq
  exact hq.mono fun en w' hp=>vau_walk (pw:=some ⟨g2,0,none⟩) (Fw:=[g2]) (by rw [hW];exact ⟨g2,rfl,rfl,hb2⟩) hi hn (create_inner (Or.inr (Or.inl h))) (by simp) (by simp) hp
 ·rw [nC (Or.inr (Or.inr (Or.inr (Or.inl h))))]
  have hq:=vau6_any J pw pi x g w (by rw [v_pc h];exact hb) ok.c0 ok.c1
  rw [v_pc h] at hq
  exact hq.mono fun en w' hp=>vau_same hw hi hn (by unfold Xb.create;rw [h];rfl) (by unfold Xb.create;rw [h];rfl) hp.1 hp.2.1 hp.2.2
 ·rw [nC (Or.inr (Or.inr (Or.inr (Or.inr (Or.inl h)))))]
  obtain ⟨W,hW⟩:=ok.walk (Or.inr h)
  rw [hW] at hw
  obtain ⟨g2,hpw,rfl,hb2⟩:=hw
  obtain rfl:pw = some ⟨g2,0,none⟩:=by injection hpw
  have hq:=vau7_any J W pi x g g2 w (by rw [v_pcw h hW];exact hb) hb2 (by have:=hn;simp only [List.cons_append,List.nil_append,List.nodup_cons,List.mem_cons] at this ⊢;simp;exact fun e=>this.1 (Or.inl e))
  rw [v_pcw h hW] at hq
  exact hq.mono fun en w' hp=>vau_walk (pw:=some ⟨g2,0,none⟩) (Fw:=[g2]) (by rw [hW];exact ⟨g2,rfl,rfl,hb2⟩) hi hn (create_inner (Or.inr (Or.inr (Or.inl h)))) (by simp) (by simp) hp
 ·rw [nC (Or.inr (Or.inr (Or.inr (Or.inr (Or.inr (Or.inl h))))))]
  cases ho:x.ok with
  | true =>
   have hq:=vau8_any J pw pi x g w (by rw [v_pc h];exact hb) ok.c0 ok.c1
   rw [v_pc h,x_ok ho] at hq
   exact hq.mono fun en w' hp=>vau_same hw hi hn (by unfold Xb.create;rw [h,ho];rfl) (by unfold Xb.create;rw [h,ho];rfl) hp.1 hp.2.1 hp.2.2
  | false =>
   have hq:=vau8n_any J pw pi x g w (by rw [v_pc h];exact hb) hg0 ok.c0 ok.c1 ho
   rw [v_pc h] at hq
   exact hq.mono fun en w' hp=>vau_walk hw hi hn (create_inner (Or.inr (Or.inr (Or.inr h)))) (by simp) (by simp) hp
 ·rw [nC (Or.inr (Or.inr (Or.inr (Or.inr (Or.inr (Or.inr (Or.inl h)))))))]
  by_cases hs:x.word.sl = 0
  ·have hq:=vau9_any J pw pi x g w (by rw [v_pc h];exact hb) ok.c0 ok.c1
   rw [v_pc h,x_sl hs] at hq
   exact hq.mono fun en w' hp=>vau_same hw hi hn (by unfold Xb.create;rw [h,hs];rfl) (by unfold Xb.create;rw [h,hs];rfl) hp.1 hp.2.1 hp.2.2
  ·have hs':(x.word.sl==0) = false:=by simp [hs]
   have e:(J.create x).1.walk = J.walk:=by unfold Xb.create;rw [h,hs'];exact pub_walk J
   rcases ok.kind with hk | hk | hk
   ·have hq:=vd9_6_any J pw pi x g w (by rw [v_pck h hk];exact hb) ok.w0 ok.w1 ok.k0 ok.k1 (ok.wayc (Or.inl h)) hs'
    rw [v_pck h hk] at hq
    exact hq.mono fun en w' hp=>vau_v hw hi hgl hn e hp
   ·have hq:=vd9_7_any J pw pi x g w (by rw [v_pck h hk];exact hb) ok.w0 ok.w1 ok.k0 ok.k1 (ok.wayc (Or.inl h)) hs'
    rw [v_pck h hk] at hq
    exact hq.mono fun en w' hp=>vau_v hw hi hgl hn e hp
   ·have hq:=vd9_8_any J pw pi x g w (by rw [v_pck h hk];exact hb) ok.w0 ok.w1 ok.k0 ok.k1 (ok.wayc (Or.inl h)) hs'
    rw [v_pck h hk] at hq
    exact hq.mono fun en w' hp=>vau_v hw hi hgl hn e hp
 ·rw [nC (Or.inr (Or.inr (Or.inr (Or.inr (Or.inr (Or.inr (Or.inr h)))))))]
  have e:(J.create x).1.walk = J.walk:=by unfold Xb.create;rw [h];exact pub_walk J
  rcases ok.kind with hk | hk | hk
  ·have hq:=vd10_6_any J pw pi x g w (by rw [v_pck h hk];exact hb) ok.w0 ok.w1 ok.k0 ok.k1 (ok.wayc (Or.inr h))
   rw [v_pck h hk] at hq
   exact hq.mono fun en w' hp=>vau_v hw hi hgl hn e hp
  ·have hq:=vd10_7_any J pw pi x g w (by rw [v_pck h hk];exact hb) ok.w0 ok.w1 ok.k0 ok.k1 (ok.wayc (Or.inr h))
   rw [v_pck h hk] at hq
   exact hq.mono fun en w' hp=>vau_v hw hi hgl hn e hp
  ·have hq:=vd10_8_any J pw pi x g w (by rw [v_pck h hk];exact hb) ok.w0 ok.w1 ok.k0 ok.k1 (ok.wayc (Or.inr h))
   rw [v_pck h hk] at hq
   exact hq.mono fun en w' hp=>vau_v hw hi hgl hn e hp
 ·exact vau11_ok x hb hw hi hn h (ok.inner h)
 ·rw [n12 h]
  have hq:=vau12_any J pw pi x g w (by rw [v_pc h];exact hb)
  rw [v_pc h] at hq
  exact hq.mono fun en w' hp=>vau_same hw hi hn rfl rfl hp.1 hp.2.1 hp.2.2
 ·rw [n13 h]
  have hq:=vau13_any J pw pi x g w (by rw [v_pc h];exact hb)
  rw [v_pc h] at hq
  exact hq.mono fun en w' hp=>vau_same hw hi hn added_keep.1 added_keep.2 hp.1 hp.2.1 hp.2.2
 ·rw [n14 h]
  have hq:=vau14_any J pw pi x g w (by rw [v_pc h];exact hb)
  rw [v_pc h] at hq
  exact hq.mono fun en w' hp=>vau_same hw hi hn resized_keep.1 resized_keep.2 hp.1 hp.2.1 hp.2.2
 ·rw [n15 h]
  have hq:=vau15_any J pw pi x g w (by rw [v_pc h];exact hb)
  rw [v_pc h] at hq
  exact hq.mono fun en w' hp=>vau_same hw hi hn rfl rfl hp.1 hp.2.1 hp.2.2
end
def steS_env (J:Xc) (C:Xe) (x:Xi):Env:=mkE [J.ii,C.ii,x.ii,(Xe.step C x).1.ii,(Xe.step C x).2.1.ii,(Xe.step (Xe.new J.op.key) x).1.ii,(Xe.step (Xe.new J.op.key) x).2.1.ii,(Xe.step (Xe.new (wr (J.op.key+1))) x).1.ii,(Xe.step (Xe.new (wr (J.op.key+1))) x).2.1.ii,(placeA C J.level).ii,(placeA C (wr (J.level+1))).ii] [J.bb,C.bb,x.bb,(Xe.step C x).1.bb,(Xe.step C x).2.1.bb,[(Xe.step C x).2.2],(Xe.step (Xe.new J.op.key) x).1.bb,(Xe.step (Xe.new J.op.key) x).2.1.bb,[(Xe.step (Xe.new J.op.key) x).2.2],(Xe.step (Xe.new (wr (J.op.key+1))) x).1.bb,(Xe.step (Xe.new (wr (J.op.key+1))) x).2.1.bb,[(Xe.step (Xe.new (wr (J.op.key+1))) x).2.2,(placeA C J.level).cur.mark,(placeA C (wr (J.level+1))).cur.mark]]
def steS_st:St:=⟨[],[(1,191,(ct [vs 0 9,[.bool (.var 0)],vs 9 4,[.bool (.var 1)],vs 13 8,[.ptr 3 0],vs 21 4,[.bool (.var 2)],vs 25 3])),(3,284,(ct [vs 28 9,[.bool (.var 3)],vs 37 4,[.bool (.var 4)],vs 41 11,[.bool (.var 5)],vs 52 6,[.bool (.var 6)],vs 58 8,[.bool (.var 7)],vs 66 7,[.bool (.var 8)],vs 73 7,[.bool (.var 9)],vs 80 4,[.bool (.var 10)]]))],[],10,0⟩
def steS_args:List SV:=[.c (.ptr 1 0),.agg ((ct [vs 84 4,[.bool (.var 11),.bool (.var 12)]]))]
def steS_S:List Xs:=[⟨true,206,284,(ct [vs 28 9,[.bool (.var 3)],vs 37 4,[.bool (.var 4)],vs 41 11,[.bool (.var 5)],vs 52 6,[.bool (.var 6)],vs 58 8,[.bool (.var 7)],vs 66 7,[.bool (.var 8)],vs 73 7,[.bool (.var 9)],vs 80 4,[.bool (.var 10)]]),[.agg ((ct [vs 84 4,[.bool (.var 11),.bool (.var 12)]]))],.tup [(true,(ct [vs 144 8,[.bool (.var 21)],vs 152 4,[.bool (.var 22)],vs 156 4])),(false,[.bool (.var 23)])],(ct [vs 88 9,[.bool (.var 13)],vs 97 4,[.bool (.var 14)],vs 101 11,[.bool (.var 15)],vs 112 6,[.bool (.var 16)],vs 118 8,[.bool (.var 17)],vs 126 7,[.bool (.var 18)],vs 133 7,[.bool (.var 19)],vs 140 4,[.bool (.var 20)]])⟩,⟨true,206,284,(ct [zs 9,[.bool (.lit false)],zs 4,[.bool (.lit false)],zs 11,[.bool (.lit false),.int (.var 18)],zs 5,[.bool (.lit false)],zs 8,[.bool (.lit false)],zs 7,[.bool (.lit false)],zs 7,[.bool (.lit false)],zs 4,[.bool (.lit false)]]),[.agg ((ct [vs 84 4,[.bool (.var 11),.bool (.var 12)]]))],.tup [(true,(ct [vs 216 8,[.bool (.var 32)],vs 224 4,[.bool (.var 33)],vs 228 4])),(false,[.bool (.var 34)])],(ct [vs 160 9,[.bool (.var 24)],vs 169 4,[.bool (.var 25)],vs 173 11,[.bool (.var 26)],vs 184 6,[.bool (.var 27)],vs 190 8,[.bool (.var 28)],vs 198 7,[.bool (.var 29)],vs 205 7,[.bool (.var 30)],vs 212 4,[.bool (.var 31)]])⟩,⟨true,206,284,(ct [zs 9,[.bool (.lit false)],zs 4,[.bool (.lit false)],zs 11,[.bool (.lit false),.int (.add (.var 18) (.lit 1))],zs 5,[.bool (.lit false)],zs 8,[.bool (.lit false)],zs 7,[.bool (.lit false)],zs 7,[.bool (.lit false)],zs 4,[.bool (.lit false)]]),[.agg ((ct [vs 84 4,[.bool (.var 11),.bool (.var 12)]]))],.tup [(true,(ct [vs 288 8,[.bool (.var 43)],vs 296 4,[.bool (.var 44)],vs 300 4])),(false,[.bool (.var 45)])],(ct [vs 232 9,[.bool (.var 35)],vs 241 4,[.bool (.var 36)],vs 245 11,[.bool (.var 37)],vs 256 6,[.bool (.var 38)],vs 262 8,[.bool (.var 39)],vs 270 7,[.bool (.var 40)],vs 277 7,[.bool (.var 41)],vs 284 4,[.bool (.var 42)]])⟩,⟨true,208,284,(ct [vs 28 9,[.bool (.var 3)],vs 37 4,[.bool (.var 4)],vs 41 11,[.bool (.var 5)],vs 52 6,[.bool (.var 6)],vs 58 8,[.bool (.var 7)],vs 66 7,[.bool (.var 8)],vs 73 7,[.bool (.var 9)],vs 80 4,[.bool (.var 10)]]),[.c (.int (.var 25))],.tup [(true,vs 304 3),(true,(ct [vs 307 4,[.bool (.var 46)]]))],(ct [vs 28 9,[.bool (.var 3)],vs 37 4,[.bool (.var 4)],vs 41 11,[.bool (.var 5)],vs 52 6,[.bool (.var 6)],vs 58 8,[.bool (.var 7)],vs 66 7,[.bool (.var 8)],vs 73 7,[.bool (.var 9)],vs 80 4,[.bool (.var 10)]])⟩,⟨true,208,284,(ct [vs 28 9,[.bool (.var 3)],vs 37 4,[.bool (.var 4)],vs 41 11,[.bool (.var 5)],vs 52 6,[.bool (.var 6)],vs 58 8,[.bool (.var 7)],vs 66 7,[.bool (.var 8)],vs 73 7,[.bool (.var 9)],vs 80 4,[.bool (.var 10)]]),[.c (.int (.add (.var 25) (.lit 1)))],.tup [(true,vs 311 3),(true,(ct [vs 314 4,[.bool (.var 47)]]))],(ct [vs 28 9,[.bool (.var 3)],vs 37 4,[.bool (.var 4)],vs 41 11,[.bool (.var 5)],vs 52 6,[.bool (.var 6)],vs 58 8,[.bool (.var 7)],vs 66 7,[.bool (.var 8)],vs 73 7,[.bool (.var 9)],vs 80 4,[.bool (.var 10)]])⟩]
theorem steS_any (J:Xc) (C:Xe) (x:Xi) (g1 g2:Nat) (w:World) (h1:Bk w g1 191 (({ J with climb:=some C }:Xc).l (.pointer (some ⟨g2,0,none⟩))).toArray) (h2:Bk w g2 284 (C.l).toArray) (hnd:[g1,g2].Nodup) (hC:LvOk C):Calls Tryz.prog 195 #[.pointer (some ⟨g1,0,none⟩),.agg x.l.toArray] w fun en w'=>Post2 (fun w q F1=>ClimbP w q (Xc.next { J with climb:=some C } x).1.climb F1) 191 (fun q=>(Xc.next { J with climb:=some C } x).1.l q) (X8 (Xc.next { J with climb:=some C } x).2) g1 [g1,g2] w en w':=by
 refine p2 (steS_env J C x) steS_S 60 steS_st steS_args 23 191 284 (Xc.next { J with climb:=some C } x) (fun r=>X8 r.2) (fun r q=>r.1.l q) (fun r=>r.1.climb.map fun W=>W.l.toArray) (fun r w q F1=>ClimbP w q r.1.climb F1) (Xr (so_self Tryz.func206 fun g w hB=>climb_any C x g w (hC) hB) (Xr (so_self Tryz.func206 fun g w hB=>climb_any (Xe.new J.op.key) x g w (Or.inl rfl) hB) (Xr (so_self Tryz.func206 fun g w hB=>climb_any (Xe.new (wr (J.op.key+1))) x g w (Or.inl rfl) hB) (Xr (so_self Tryz.func208 fun g w hB=>place_any C J.level g w hB) (Xr (so_self Tryz.func208 fun g w hB=>place_any C (wr (J.level+1)) g w hB) Xd))))) asN (bl2 (Yb h1 (by kernel_rfl)) (Yb h2 (by kernel_rfl))) hnd (fun _ _ h=>climbP_n h) (fun _ _ _ _ h hb=>climbP_s h hb) ?_
 refine po_eq (ste_next _ _) ?_
 exact vS4
structure SteOk (J:Xc):Prop where
 climb:∀ C,J.climb = some C→LvOk C
 none_:J.climb = none→(J.pc = 0∧(J.op.kind = 6∨J.op.kind = 7∨J.op.kind = 8))∨(J.op.kind = 6∧(J.pc = 1∨J.pc = 2∨J.pc = 3∨J.pc = 4))
theorem ste_any (J:Xc) (x:Xi) (g:Nat) (F:List Nat) (w:World) (h:SteP w g J F) (ok:SteOk J) :
  Calls Tryz.prog 195 #[.pointer (some ⟨g,0,none⟩),.agg x.l.toArray] w (JRet (fun w F=>SteP w g (J.next x).1 F) (X8 (J.next x).2) F w):=by
 obtain ⟨⟨q,F1,rfl,hb,hw⟩,hn⟩:=h
 cases hW:J.climb with
 | none =>
  rw [hW] at hw
  obtain ⟨rfl,rfl⟩:=hw
  have e:∀ {k n:Int},J.pc = n→J.op.kind = k→({ J with pc:=n,op:={ J.op with kind:=k },climb:=none }:Xc) = J:=fun h1 h2=>by
   cases J;rename_i op _ _ _ _ _;cases op;simp only at hW h1 h2;subst hW;subst h1;subst h2;rfl
  rcases ok.none_ hW with ⟨h0,hk | hk | hk⟩ | ⟨hk,h0 | h0 | h0 | h0⟩
  ·have hq:=steN0_6_any J x g w (by rw [e h0 hk];exact hb) (by simp)
   rw [e h0 hk] at hq
   exact hq
  ·have hq:=steN0_7_any J x g w (by rw [e h0 hk];exact hb) (by simp)
   rw [e h0 hk] at hq
   exact hq
  ·have hq:=steN0_8_any J x g w (by rw [e h0 hk];exact hb) (by simp)
   rw [e h0 hk] at hq
   exact hq
  ·have hq:=steN1_6_any J x g w (by rw [e h0 hk];exact hb) (by simp)
   rw [e h0 hk] at hq
   exact hq
  ·have hq:=steN2_6_any J x g w (by rw [e h0 hk];exact hb) (by simp)
   rw [e h0 hk] at hq
   exact hq
  ·have hq:=steN3_6_any J x g w (by rw [e h0 hk];exact hb) (by simp)
   rw [e h0 hk] at hq
   exact hq
  ·have hq:=steN4_6_any J x g w (by rw [e h0 hk];exact hb) (by simp)
   rw [e h0 hk] at hq
   exact hq
 | some C =>
  rw [hW] at hw
  obtain ⟨g2,rfl,rfl,hb2⟩:=hw
  have e:({ J with climb:=some C }:Xc) = J:=by cases J;simp only at hW;subst hW;rfl
  have hq:=steS_any J C x g g2 w (by rw [e];exact hb) hb2 hn (ok.climb C hW)
  rw [e] at hq
  exact hq
def JobP (w:World) (v:Value) (J:GJob) (F:List Nat):Prop :=
 match J with
 | .pile J=>∃ g,v = .iface 127 (.pointer (some ⟨g,0,none⟩))∧F = [g]∧Bk w g 175 J.l.toArray
 | .cor J=>∃ g,v = .iface 130 (.pointer (some ⟨g,0,none⟩))∧F = [g]∧Bk w g 179 J.l.toArray
 | .lit J=>∃ g,v = .iface 133 (.pointer (some ⟨g,0,none⟩))∧LitP w g J F
 | .vau J=>∃ g,v = .iface 136 (.pointer (some ⟨g,0,none⟩))∧VauP w g J F
 | .ste J=>∃ g,v = .iface 139 (.pointer (some ⟨g,0,none⟩))∧SteP w g J F
def GJob.Ok:GJob→Prop
 | .vau J=>VauOk J
 | .ste J=>SteOk J
 | _=>True
section
variable {w w':World} {v:Value} {J:GJob} {F:List Nat}
theorem JobP.same (h:JobP w v J F) (hs:∀ b∈F,w'.heap[b]? = w.heap[b]?):JobP w' v J F:=by
 cases J with
 | pile J=>obtain ⟨g,rfl,rfl,hb⟩:=h;exact ⟨g,rfl,rfl,hb.same (hs g (by simp))⟩
 | cor J=>obtain ⟨g,rfl,rfl,hb⟩:=h;exact ⟨g,rfl,rfl,hb.same (hs g (by simp))⟩
 | lit J=>obtain ⟨g,rfl,hb⟩:=h;exact ⟨g,rfl,hb.same hs⟩
 | vau J=>obtain ⟨g,rfl,hb⟩:=h;exact ⟨g,rfl,hb.same hs⟩
 | ste J=>obtain ⟨g,rfl,hb⟩:=h;exact ⟨g,rfl,hb.same hs⟩
theorem JobP.lt (h:JobP w v J F):∀ b∈F,b < w.heap.size:=by
 cases J with
 | pile J=>obtain ⟨g,rfl,rfl,hb⟩:=h;intro b hm;rw [List.mem_singleton.1 hm];exact hb.lt
 | cor J=>obtain ⟨g,rfl,rfl,hb⟩:=h;intro b hm;rw [List.mem_singleton.1 hm];exact hb.lt
 | lit J=>obtain ⟨g,rfl,hb⟩:=h;exact hb.lt
 | vau J=>obtain ⟨g,rfl,hb⟩:=h;exact hb.lt
 | ste J=>obtain ⟨g,rfl,hb⟩:=h;exact hb.lt
theorem JobP.val (h:JobP w v J F):v.oneCell' = true∧noIf v = false:=by
 cases J with
 | pile J=>obtain ⟨g,rfl,_⟩:=h;exact ⟨rfl,rfl⟩
 | cor J=>obtain ⟨g,rfl,_⟩:=h;exact ⟨rfl,rfl⟩
 | lit J=>obtain ⟨g,rfl,_⟩:=h;exact ⟨rfl,rfl⟩
 | vau J=>obtain ⟨g,rfl,_⟩:=h;exact ⟨rfl,rfl⟩
 | ste J=>obtain ⟨g,rfl,_⟩:=h;exact ⟨rfl,rfl⟩
end
section
variable (a:Addr) (x:Value) (w:World)
theorem meth_pile:(callMethod (.iface 127 (.pointer (some a))) "Next" #[x]).run Tryz.prog w = .ok (.enter 135 #[.pointer (some a),x]) w:=by kernel_rfl
theorem meth_cor:(callMethod (.iface 130 (.pointer (some a))) "Next" #[x]).run Tryz.prog w = .ok (.enter 145 #[.pointer (some a),x]) w:=by kernel_rfl
theorem meth_lit:(callMethod (.iface 133 (.pointer (some a))) "Next" #[x]).run Tryz.prog w = .ok (.enter 154 #[.pointer (some a),x]) w:=by kernel_rfl
theorem meth_vau:(callMethod (.iface 136 (.pointer (some a))) "Next" #[x]).run Tryz.prog w = .ok (.enter 176 #[.pointer (some a),x]) w:=by kernel_rfl
theorem meth_ste:(callMethod (.iface 139 (.pointer (some a))) "Next" #[x]).run Tryz.prog w = .ok (.enter 195 #[.pointer (some a),x]) w:=by kernel_rfl
end
theorem enters_of {v:Value} {x:Value} {f':Nat} {a':Array Value} {w:World} {Q:Ending→World→Prop} (h1:(callMethod v "Next" #[x]).run Tryz.prog w = .ok (.enter f' a') w) (h2:Calls Tryz.prog f' a' w Q):Enters Tryz.prog invF #[v,x] w Q:=by
 unfold Enters
 rw [if_pos rfl]
 exact ⟨v,f',a',rfl,h1,h2⟩
theorem job_next (J:GJob) (x:Xi) (v:Value) (F:List Nat) (w:World) (h:JobP w v J F) (ok:J.Ok) :
  Enters Tryz.prog invF #[v,.agg x.l.toArray] w (JRet (fun w F=>JobP w v (J.next x).1 F) (X8 (J.next x).2) F w):=by
 cases J with
 | pile J =>
  obtain ⟨g,rfl,rfl,hb⟩:=h
  exact enters_of (meth_pile _ _ _) ((pile_any J x g w hb).mono fun en w' hp=>⟨[g],hp.1,⟨g,rfl,rfl,hp.2.1⟩,fun b hb=>Or.inl hb,hp.2.2⟩)
 | cor J =>
  obtain ⟨g,rfl,rfl,hb⟩:=h
  exact enters_of (meth_cor _ _ _) ((cor_any J x g w hb).mono fun en w' hp=>⟨[g],hp.1,⟨g,rfl,rfl,hp.2.1⟩,fun b hb=>Or.inl hb,hp.2.2⟩)
 | lit J =>
  obtain ⟨g,rfl,hb⟩:=h
  exact enters_of (meth_lit _ _ _) ((lit_any J x g F w hb).mono fun en w' hp=>by obtain ⟨F',p1,p2,p3,p4⟩:=hp;exact ⟨F',p1,⟨g,rfl,p2⟩,p3,p4⟩)
 | vau J =>
  obtain ⟨g,rfl,hb⟩:=h
  exact enters_of (meth_vau _ _ _) ((vau_any J x g F w hb ok).mono fun en w' hp=>by obtain ⟨F',p1,p2,p3,p4⟩:=hp;exact ⟨F',p1,⟨g,rfl,p2⟩,p3,p4⟩)
 | ste J =>
  obtain ⟨g,rfl,hb⟩:=h
  exact enters_of (meth_ste _ _ _) ((ste_any J x g F w hb ok).mono fun en w' hp=>by obtain ⟨F',p1,p2,p3,p4⟩:=hp;exact ⟨F',p1,⟨g,rfl,p2⟩,p3,p4⟩)
end Go.Proofs.YtaipogljokblkaaGreatDoor
