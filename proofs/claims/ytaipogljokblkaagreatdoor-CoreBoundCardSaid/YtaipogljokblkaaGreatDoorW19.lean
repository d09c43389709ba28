/- Core: JA, CLitS, CVb, CVe, JB. -/
import Derived.Test.YtaipogljokblkaaGreatDoorW17
import Derived.Test.YtaipogljokblkaaGreatDoorW07
import Derived.Test.YtaipogljokblkaaGreatDoorW09
import Derived.Test.YtaipogljokblkaaGreatDoorW01
import Derived.Test.YtaipogljokblkaaGreatDoorW06
import Derived.Test.YtaipogljokblkaaGreatDoorW18
import Derived.Test.YtaipogljokblkaaGreatDoorW10
set_option linter.all false
set_option maxRecDepth 100000
set_option maxHeartbeats 8000000
namespace Go.Proofs.YtaipogljokblkaaGreatDoor
open Go Go.RowKit
set_option linter.unusedSimpArgs false
set_option linter.unusedVariables false
set_option linter.unusedSectionVars false
def IR(Rep:World->List Nat->Prop)(V:Value)(F:List Nat)(w:World)(en:Ending)(w':World):Prop:=
 ∃F',en=.returned V/\Rep w' F'/\(∀b∈F',b∈F\/w.heap.size<=b)/\Al F w w'
section
variable{w w':World}{g:Nat}{F F1:List Nat}{q:Value}
theorem Dt.same{o:Option Xq}(h:Dt w q o F)(hs:∀b∈F,w'.heap[b]?=w.heap[b]?):Dt w' q o F:=by
 cases o with
 |none=>exact h
 |some W=>obtain⟨g,rfl,rfl,hb⟩:=h;exact⟨g,rfl,rfl,hb.same (hs g Zs)⟩
theorem Dt.lt{o:Option Xq}(h:Dt w q o F):∀b∈F,b<w.heap.size:=by
 cases o with
 |none=>obtain⟨rfl,rfl⟩:=h;simp
 |some W=>obtain⟨g,rfl,rfl,hb⟩:=h;intro b hm;rw[List.mem_singleton.1 hm];exact hb.lt
theorem Km.same{J:Xi}(h:Km w g J F)(hs:∀b∈F,w'.heap[b]?=w.heap[b]?):Km w' g J F:=by
 obtain⟨⟨q,F1,rfl,hb,hw⟩,hn⟩:=h;exact⟨⟨q,F1,rfl,hb.same (hs g Zs),hw.same λb hm=>hs b (by simp[hm])⟩,hn⟩
theorem Km.lt{J:Xi}(h:Km w g J F):∀b∈F,b<w.heap.size:=by
 obtain⟨⟨q,F1,rfl,hb,hw⟩,hn⟩:=h;intro b hm;rcases List.mem_cons.1 hm with rfl|hm
 ·exact hb.lt
 ·exact hw.lt b hm
theorem BU.same{o:Option Xe}(h:BU w q o F)(hs:∀b∈F,w'.heap[b]?=w.heap[b]?):BU w' q o F:=by
 cases o with
 |none=>exact h
 |some W=>obtain⟨g,rfl,rfl,hb⟩:=h;exact⟨g,rfl,rfl,hb.same (hs g Zs)⟩
theorem BU.lt{o:Option Xe}(h:BU w q o F):∀b∈F,b<w.heap.size:=by
 cases o with
 |none=>obtain⟨rfl,rfl⟩:=h;simp
 |some W=>obtain⟨g,rfl,rfl,hb⟩:=h;intro b hm;rw[List.mem_singleton.1 hm];exact hb.lt
theorem VD.same{J:Xc}(h:VD w g J F)(hs:∀b∈F,w'.heap[b]?=w.heap[b]?):VD w' g J F:=by
 obtain⟨⟨q,F1,rfl,hb,hw⟩,hn⟩:=h;exact⟨⟨q,F1,rfl,hb.same (hs g Zs),hw.same λb hm=>hs b (by simp[hm])⟩,hn⟩
theorem VD.lt{J:Xc}(h:VD w g J F):∀b∈F,b<w.heap.size:=by
 obtain⟨⟨q,F1,rfl,hb,hw⟩,hn⟩:=h;intro b hm;rcases List.mem_cons.1 hm with rfl|hm
 ·exact hb.lt
 ·exact hw.lt b hm
def Gf(w:World)(q:Value)(o:Option Xi)(F:List Nat):Prop:=
 match o with
 |none=>q=.pointer none/\F=[]
 |some I=>∃gi F1,q=.pointer (some ⟨gi,0,none⟩)/\F=gi::F1/\Km w gi I F
theorem Gf.same{o:Option Xi}(h:Gf w q o F)(hs:∀b∈F,w'.heap[b]?=w.heap[b]?):Gf w' q o F:=by
 cases o with
 |none=>exact h
 |some I=>obtain⟨gi,F1,rfl,rfl,hl⟩:=h;exact⟨gi,F1,rfl,rfl,hl.same hs⟩
theorem Gf.lt{o:Option Xi}(h:Gf w q o F):∀b∈F,b<w.heap.size:=by
 cases o with
 |none=>obtain⟨rfl,rfl⟩:=h;simp
 |some I=>obtain⟨gi,F1,rfl,rfl,hl⟩:=h;exact hl.lt
theorem Gf.nodup{o:Option Xi}(h:Gf w q o F):F.Nodup:=by
 cases o with
 |none=>obtain⟨rfl,rfl⟩:=h;simp
 |some I=>obtain⟨gi,F1,rfl,rfl,hl⟩:=h;exact hl.2
def Nx(w:World)(g:Nat)(J:Xa)(F:List Nat):Prop:=
 ∃pw pi Fw Fi,F=g::(Fw++Fi)/\Bk w g 186 (J.l (.pointer pw) (.pointer pi)).toArray/\Dt w (.pointer pw) J.walk Fw/\Gf w (.pointer pi) J.inner Fi/\F.Nodup
theorem Nx.same{J:Xa}(h:Nx w g J F)(hs:∀b∈F,w'.heap[b]?=w.heap[b]?):Nx w' g J F:=by
 obtain⟨pw,pi,Fw,Fi,rfl,hb,hw,hi,hn⟩:=h;exact⟨pw,pi,Fw,Fi,rfl,hb.same (hs g Zs),hw.same λb hm=>hs b (by simp[hm]),hi.same λb hm=>hs b (by simp[hm]),hn⟩
theorem Nx.lt{J:Xa}(h:Nx w g J F):∀b∈F,b<w.heap.size:=by
 obtain⟨pw,pi,Fw,Fi,rfl,hb,hw,hi,hn⟩:=h;intro b hm;simp only[List.mem_cons,List.mem_append] at hm;rcases hm with rfl|hm|hm
 ·exact hb.lt
 ·exact hw.lt b hm
 ·exact hi.lt b hm
end
section
variable{w w':World}{g:Nat}{Fw Fi:List Nat}{pw pi:Option Go.Addr}{J J':Xa}{V:Value}{en:Ending}
theorem Cb(hw:Dt w (.pointer pw) J.walk Fw)(hi:Gf w (.pointer pi) J.inner Fi)(hn:(g::(Fw++Fi)).Nodup)(e1:J'.walk=J.walk)(e2:J'.inner=J.inner)
  (hr:en=.returned V)(hb:Bk w' g 186 (J'.l (.pointer pw) (.pointer pi)).toArray)(hc:Al [g] w w'):IR (λw F=>Nx w g J' F) V (g::(Fw++Fi)) w en w':=by
 have hg:∀b∈Fw++Fi,b∉[g]:=λb hm he=>(List.nodup_cons.1 hn).1 (by rw[←List.mem_singleton.1 he];exact hm)
 refine⟨g::(Fw++Fi),hr,⟨pw,pi,Fw,Fi,rfl,hb,?_,?_,hn⟩,λb hb=>Or.inl hb,hc.mono λx hx=>Or.inl (by rw[List.mem_singleton.1 hx];simp)⟩
 ·rw[e1];exact hw.same λb hm=>hc.Av b (hw.lt b hm) (hg b (by simp[hm]))
 ·rw[e2];exact hi.same λb hm=>hc.Av b (hi.lt b hm) (hg b (by simp[hm]))
theorem KX{Fp:List Nat}(hw:Dt w (.pointer pw) J.walk Fw)(hi:Gf w (.pointer pi) J.inner Fi)(hn:(g::(Fw++Fi)).Nodup)(e2:J'.inner=J.inner)(hgp:g∈Fp)(hFp:∀b∈Fp,b∈g::Fw)
  (hp:FU (λw q F1=>Dt w q J'.walk F1) 186 (λq=>J'.l q (.pointer pi)) V g Fp w en w'):IR (λw F=>Nx w g J' F) V (g::(Fw++Fi)) w en w':=by
 obtain⟨F',hr,⟨⟨q,F1,rfl,hb,hs⟩,hnd⟩,hnew,hc⟩:=hp
 have hgi:∀b∈Fi,b∉Fp:=λb hm he=>by
  have h1:=hFp b he;have h2:=(List.nodup_cons.1 hn);have h3:=List.nodup_append.1 h2.2;rcases List.mem_cons.1 h1 with rfl|h1
  ·exact h2.1 (by simp[hm])
  ·exact h3.2.2 b h1 b hm rfl
 have hold:∀b∈F1,b∈g::Fw\/w.heap.size<=b:=λb hm=>(hnew b (by simp[hm])).imp (hFp b) id
 obtain⟨pw',rfl⟩:∃pw',q=.pointer pw':=by
  cases hW:J'.walk with
  |none=>rw[hW] at hs;exact⟨none,hs.1⟩
  |some W=>rw[hW] at hs;obtain⟨g2,rfl,_⟩:=hs;exact⟨_,rfl⟩
 refine⟨g::(F1++Fi),hr,⟨pw',pi,F1,Fi,rfl,hb,hs,?_,?_⟩,λb hm=>?_,hc.mono λx hx=>Or.inl (by have:=hFp x hx;simp only[List.mem_cons,List.mem_append] at this ⊢;rcases this with h|h<;>simp[h])⟩
 ·rw[e2];exact hi.same λb hm=>hc.Av b (hi.lt b hm) (hgi b hm)
 ·rw[List.nodup_cons] at hn hnd ⊢;refine⟨λhm=>?_,List.nodup_append.2 ⟨hnd.2,hi.nodup,λa ha b hb hab=>?_⟩⟩
  ·rcases List.mem_append.1 hm with h|h
   ·exact hnd.1 h
   ·exact hn.1 (by simp[h])
  ·subst hab;rcases hold a ha with h|h
   ·rcases List.mem_cons.1 h with rfl|h
    ·exact hnd.1 ha
    ·exact(List.nodup_append.1 hn.2).2.2 a h a hb rfl
   ·have:=hi.lt a hb;omega
 ·simp only[List.mem_cons,List.mem_append] at hm ⊢;rcases hm with rfl|hm|hm
  ·exact Or.inl (Or.inl rfl)
  ·rcases hold b hm with h|h
   ·rcases List.mem_cons.1 h with rfl|h
    ·exact Or.inl (Or.inl rfl)
    ·exact Or.inl (Or.inr (Or.inl h))
   ·exact Or.inr h
  ·exact Or.inl (Or.inr (Or.inr hm))
theorem ZF(hw:Dt w (.pointer pw) J.walk Fw)(hi:Gf w (.pointer pi) J.inner Fi)(hgl:g<w.heap.size)(hn:(g::(Fw++Fi)).Nodup)(e1:J'.walk=J.walk)
  (hp:R6 pw pi J' V J.inner g w en w'):IR (λw F=>Nx w g J' F) V (g::(Fw++Fi)) w en w':=by
 obtain⟨hr,hc,h|h⟩:=hp
 ·exact Cb hw hi hn e1 h.1 hr h.2 hc
 ·obtain⟨gi,F1,I,e2,hb,hl,hnew⟩:=h;have hg:∀b∈Fw,b∉[g]:=λb hm he=>(List.nodup_cons.1 hn).1 (by rw[←List.mem_singleton.1 he];simp[hm]);refine⟨g::(Fw++gi::F1),hr,⟨pw,some ⟨gi,0,none⟩,Fw,gi::F1,rfl,hb,?_,?_,?_⟩,λb hm=>?_,hc.mono λx hx=>Or.inl (by rw[List.mem_singleton.1 hx];simp)⟩
  ·rw[e1];exact hw.same λb hm=>hc.Av b (hw.lt b hm) (hg b hm)
  ·rw[e2];exact⟨gi,F1,rfl,rfl,hl⟩
  ·rw[List.nodup_cons] at hn ⊢;refine⟨λhm=>?_,List.nodup_append.2 ⟨(List.nodup_append.1 hn.2).1,hl.2,λa ha b hb hab=>?_⟩⟩
   ·rcases List.mem_append.1 hm with h|h
    ·exact hn.1 (by simp[h])
    ·have:=hnew g h;omega
   ·subst hab;have h1:=hw.lt a ha;have h2:=hnew a hb;omega
  ·simp only[List.mem_cons,List.mem_append] at hm ⊢;rcases hm with rfl|hm|hm
   ·exact Or.inl (Or.inl rfl)
   ·exact Or.inl (Or.inr (Or.inl hm))
   ·exact Or.inr (hnew b (by simp only[List.mem_cons];exact hm))
end
def oQ(J:Xi)(W:Xq)(x:Xj):Env:=Ix [J.ii,W.ii,x.ii,(Xq.step W x).1.ii,(Xq.step W x).2.1.ii,(Xq.step (Xq.new J.start J.key) x).1.ii,(Xq.step (Xq.new J.start J.key) x).2.1.ii] [J.bb,W.bb,x.bb,(Xq.step W x).1.bb,(Xq.step W x).2.1.bb,[(Xq.step W x).2.2],(Xq.step (Xq.new J.start J.key) x).1.bb,(Xq.step (Xq.new J.start J.key) x).2.1.bb,[(Xq.step (Xq.new J.start J.key) x).2.2]]
def uW:St:=⟨[],[(1,206,(ct [vs 0 9,[.bool (.var 0)],vs 9 4,[.bool (.var 1)],vs 13 12,[.ptr 3 0],vs 25 4,[.bool (.var 2),.int (.var 29)]])),(3,261,(ct [vs 30 9,[.bool (.var 3)],vs 39 4,[.bool (.var 4)],vs 43 15,[.bool (.var 5)],vs 58 4,[.bool (.var 6),.int (.var 62),.bool (.var 7)]]))],[],10,0⟩
def gL:List SV:=[.c (.ptr 1 0),.agg ((ct [vs 63 4,[.bool (.var 8),.bool (.var 9)]]))]
def zS:List Xu:=[⟨true,162,261,(ct [vs 30 9,[.bool (.var 3)],vs 39 4,[.bool (.var 4)],vs 43 15,[.bool (.var 5)],vs 58 4,[.bool (.var 6),.int (.var 62),.bool (.var 7)]]),[.agg ((ct [vs 63 4,[.bool (.var 8),.bool (.var 9)]]))],.Jj [(true,(ct [vs 100 8,[.bool (.var 15)],vs 108 4,[.bool (.var 16)],vs 112 4])),(false,[.bool (.var 17)])],(ct [vs 67 9,[.bool (.var 10)],vs 76 4,[.bool (.var 11)],vs 80 15,[.bool (.var 12)],vs 95 4,[.bool (.var 13),.int (.var 99),.bool (.var 14)]])⟩,⟨true,162,261,(ct [zs 9,[.bool (.lit false)],zs 4,[.bool (.lit false)],zs 4,vs 17 4,vs 17 3,zs 4,[.bool (.lit false)],zs 4,[.bool (.lit false),.int (.lit 0),.bool (.lit false)]]),[.agg ((ct [vs 63 4,[.bool (.var 8),.bool (.var 9)]]))],.Jj [(true,(ct [vs 149 8,[.bool (.var 23)],vs 157 4,[.bool (.var 24)],vs 161 4])),(false,[.bool (.var 25)])],(ct [vs 116 9,[.bool (.var 18)],vs 125 4,[.bool (.var 19)],vs 129 15,[.bool (.var 20)],vs 144 4,[.bool (.var 21),.int (.var 148),.bool (.var 22)]])⟩]
theorem oR(J:Xi)(W:Xq)(x:Xj)(g1 g2:Nat)(w:World)(h1:Bk w g1 206 (({J with walk:=some W}:Xi).l (.pointer (some ⟨g2,0,none⟩))).toArray)(h2:Bk w g2 261 (W.l).toArray)(hnd:[g1,g2].Nodup):Calls Tryz.prog 154 #[.pointer (some ⟨g1,0,none⟩),.agg x.l.toArray] w λen w'=>∃F',en=.returned (Yn (Xi.next {J with walk:=some W} x).2)/\Km w' g1 (Xi.next {J with walk:=some W} x).1 F'/\(∀b∈F',b∈[g1,g2]\/w.heap.size<=b)/\Al [g1,g2] w w':=by
 refine p2 (oQ J W x) zS 60 uW gL 27 206 261 (Xi.next {J with walk:=some W} x) (λr=>Yn r.2) (λr q=>r.1.l q) (λr=>r.1.walk.map λW=>W.l.toArray) (λr w q F1=>Dt w q r.1.walk F1) (Yr (Ch Tryz.func162 λg w hB=>Hv W x g w hB) (Yr (Ch Tryz.func162 λg w hB=>Hv (Xq.new J.start J.key) x g w hB) Xt)) Ci (bl2 (Yu h1 Zk) (Yu h2 Zk)) hnd (λ_ _ h=>JQ h) (λ_ _ _ _ h hb=>JP h hb) ?_;exact vS10
def kT(J:Xa)(pw:Option Go.Addr)(pi:Option Go.Addr)(x:Xj):Env:=Iw [J.last.ii,J.op.ii,[J.size,J.wanted,J.Ai,J.child],J.base.ii,J.node.ii,J.sentinel.ii,J.answer.ii,J.count.ii,[x.word.gn,x.word.tg,x.word.nm,E4 J.Ai]] [J.bb,x.bb] [.pointer pw,.pointer pi] (AI rfl)
def sR:St:=⟨[],[(1,186,(ct [[.int (.lit 2)],vs 0 8,[.bool (.var 0)],vs 8 4,[.bool (.var 1)],vs 12 16,[.bool (.var 2)],vs 28 4,[.bool (.var 3)],vs 32 4,[.bool (.var 4),.AQ 0,.AQ 1],vs 36 6,[.bool (.var 5)]]))],[(.lt (.add (.lit 8) (.var 45)) (.lit 0),false),(.le (.lit 24) (.add (.lit 8) (.var 45)),false),(.le (.lit 0) (.add (.lit 8) (.var 45)),true),(.lt (.add (.lit 8) (.var 45)) (.lit 24),true)],10,0⟩
def cO:List SV:=[.c (.ptr 1 0),.agg ((ct [[.int (.lit 0)],vs 42 3,[.bool (.var 6),.bool (.var 7)]]))]
def yH:List Xu:=[⟨false,182,0,[],[.c (.int (.var 22))],.c (.int (.var 45)),[]⟩]
theorem kU(J:Xa)(pw:Option Go.Addr)(pi:Option Go.Addr)(x:Xj)(g1:Nat)(w:World)(h1:Bk w g1 186 (({J with pc:=2}:Xa).l (.pointer pw) (.pointer pi)).toArray)(hb0:0<=J.Ai)(hb1:J.Ai<8):Calls Tryz.prog 176 #[.pointer (some ⟨g1,0,none⟩),.agg ({x with word:={x.word with sl:=0}}:Xj).l.toArray] w λen w'=>en=.returned (Yn (Xa.EO ({J with pc:=2}:Xa) ({x with word:={x.word with sl:=0}}:Xj)).2)/\Bk w' g1 186 ((Xa.EO ({J with pc:=2}:Xa) ({x with word:={x.word with sl:=0}}:Xj)).1.l (.pointer pw) (.pointer pi)).toArray/\Al [g1] w w':=by
 refine p1 (kT J pw pi x) yH 80 sR cO (Xa.EO ({J with pc:=2}:Xa) ({x with word:={x.word with sl:=0}}:Xj)) (λr=>(Yn r.2,(r.1.l (.pointer pw) (.pointer pi)).toArray)) (Yr (Gk Tryz.func182 λw=>NA _ w hb0 hb1) Xt) (Ca (Tx (b:=(E4 J.Ai)) (FY hb0 hb1)) (Ca (Tw (b:=(E4 J.Ai)) (FY hb0 hb1)) (Ca (Tv (b:=(E4 J.Ai)) (FY hb0 hb1)) (Ca (Tu (b:=(E4 J.Ai)) (FY hb0 hb1)) Ci)))) h1 ?_;exact vS1
def kR(J:Xa)(pw:Option Go.Addr)(pi:Option Go.Addr)(x:Xj):Env:=Iw [J.last.ii,J.op.ii,[J.size,J.wanted,J.Ai,J.child],J.base.ii,J.node.ii,J.sentinel.ii,J.answer.ii,J.count.ii,x.ii,[Ds J.child]] [J.bb,[x.word.mark]] [.pointer pw,.pointer pi] (AI rfl)
def sQ:St:=⟨[],[(1,186,(ct [[.int (.lit 3)],vs 0 8,[.bool (.var 0)],vs 8 4,[.bool (.var 1)],vs 12 16,[.bool (.var 2)],vs 28 4,[.bool (.var 3)],vs 32 4,[.bool (.var 4),.AQ 0,.AQ 1],vs 36 6,[.bool (.var 5)]]))],[],10,0⟩
def cN:List SV:=[.c (.ptr 1 0),.agg ((ct [vs 42 4,[.bool (.var 6),.bool (.lit true)]]))]
def yG:List Xu:=[⟨false,189,0,[],[.c (.int (.var 23))],.c (.int (.var 46)),[]⟩]
theorem kS(J:Xa)(pw:Option Go.Addr)(pi:Option Go.Addr)(x:Xj)(g1:Nat)(w:World)(h1:Bk w g1 186 (({J with pc:=3}:Xa).l (.pointer pw) (.pointer pi)).toArray)(hc0:0<=J.child)(hc1:J.child<8):Calls Tryz.prog 176 #[.pointer (some ⟨g1,0,none⟩),.agg ({x with ok:=true}:Xj).l.toArray] w λen w'=>en=.returned (Yn (Xa.Ak ({J with pc:=3}:Xa) ({x with ok:=true}:Xj)).2)/\Bk w' g1 186 ((Xa.Ak ({J with pc:=3}:Xa) ({x with ok:=true}:Xj)).1.l (.pointer pw) (.pointer pi)).toArray/\Al [g1] w w':=by
 refine p1 (kR J pw pi x) yG 80 sQ cN (Xa.Ak ({J with pc:=3}:Xa) ({x with ok:=true}:Xj)) (λr=>(Yn r.2,(r.1.l (.pointer pw) (.pointer pi)).toArray)) (Yr (Gk Tryz.func189 λw=>KJ _ w hc0 hc1) Xt) Ci h1 ?_;exact vS1
def kH(J:Xa)(pw:Option Go.Addr)(pi:Option Go.Addr)(x:Xj):Env:=Iw [J.last.ii,J.op.ii,[J.size,J.wanted,J.Ai,J.child],J.base.ii,J.node.ii,J.sentinel.ii,J.answer.ii,J.count.ii,x.ii] [J.bb,[x.word.mark]] [.pointer pw,.pointer pi] (AI rfl)
def sL:St:=⟨[],[(1,186,(ct [[.int (.lit 8)],vs 0 8,[.bool (.var 0)],vs 8 4,[.bool (.var 1)],vs 12 16,[.bool (.var 2)],vs 28 4,[.bool (.var 3)],vs 32 4,[.bool (.var 4),.AQ 0,.AQ 1],vs 36 6,[.bool (.var 5)]]))],[(.lt (.add (.lit 8) (.var 23)) (.lit 0),false),(.le (.lit 24) (.add (.lit 8) (.var 23)),false),(.le (.lit 0) (.add (.lit 8) (.var 23)),true),(.lt (.add (.lit 8) (.var 23)) (.lit 24),true)],10,0⟩
def cI:List SV:=[.c (.ptr 1 0),.agg ((ct [vs 42 4,[.bool (.var 6),.bool (.lit true)]]))]
theorem kI(J:Xa)(pw:Option Go.Addr)(pi:Option Go.Addr)(x:Xj)(g1:Nat)(w:World)(h1:Bk w g1 186 (({J with pc:=8}:Xa).l (.pointer pw) (.pointer pi)).toArray)(hc0:0<=J.child)(hc1:J.child<8):Calls Tryz.prog 176 #[.pointer (some ⟨g1,0,none⟩),.agg ({x with ok:=true}:Xj).l.toArray] w λen w'=>en=.returned (Yn (Xa.Ak ({J with pc:=8}:Xa) ({x with ok:=true}:Xj)).2)/\Bk w' g1 186 ((Xa.Ak ({J with pc:=8}:Xa) ({x with ok:=true}:Xj)).1.l (.pointer pw) (.pointer pi)).toArray/\Al [g1] w w':=by
 refine p1 (kH J pw pi x) [] 80 sL cI (Xa.Ak ({J with pc:=8}:Xa) ({x with ok:=true}:Xj)) (λr=>(Yn r.2,(r.1.l (.pointer pw) (.pointer pi)).toArray)) Xt (Ca (Tx (b:=J.child) ⟨hc0,hc1⟩) (Ca (Tw (b:=J.child) ⟨hc0,hc1⟩) (Ca (Tv (b:=J.child) ⟨hc0,hc1⟩) (Ca (Tu (b:=J.child) ⟨hc0,hc1⟩) Ci)))) h1 ?_;repeat' (first|with_reducible (first|refine pN ?_|refine pA ?_|refine pO ?_|refine pB ?_|refine pF ?_|refine pT ?_|refine Jq (by first|(show(Xa.pc _==_)=_;with_unfolding_all rfl)|(show(Bl.kind _==_)=_;with_unfolding_all rfl)|(show(Xj.ok _)=_;with_unfolding_all rfl)|(show(Xd.nm _==_)=_;with_unfolding_all rfl)|(show(Xd.sl _==_)=_;with_unfolding_all rfl)) ?_|refine Jp (by first|(show(Xa.pc _==_)=_;with_unfolding_all rfl)|(show(Bl.kind _==_)=_;with_unfolding_all rfl)|(show(Xj.ok _)=_;with_unfolding_all rfl)|(show(Xd.nm _==_)=_;with_unfolding_all rfl)|(show(Xd.sl _==_)=_;with_unfolding_all rfl)) ?_|refine pC ?_ ?_)|unfold Xa.Cq|refine GP ?_|refine GQ ?_|refine D9 (Dp _ _ _) ?_|exact l1)
def kL(J:Xa)(pw:Option Go.Addr)(pi:Option Go.Addr)(x:Xj):Env:=Iw [J.last.ii,J.op.ii,[J.size,J.wanted,J.Ai,J.child],J.base.ii,J.node.ii,J.sentinel.ii,J.answer.ii,J.count.ii,x.ii] [J.bb,x.bb] [.pointer pw,.pointer pi] (AI rfl)
def sN:St:=⟨[],[(1,186,(ct [[.int (.lit 6)],vs 0 8,[.bool (.var 0)],vs 8 4,[.bool (.var 1)],vs 12 16,[.bool (.var 2)],vs 28 4,[.bool (.var 3)],vs 32 4,[.bool (.var 4),.AQ 0,.AQ 1],vs 36 6,[.bool (.var 5)]]))],[(.lt (.add (.lit 8) (.var 23)) (.lit 0),false),(.le (.lit 24) (.add (.lit 8) (.var 23)),false),(.le (.lit 0) (.add (.lit 8) (.var 23)),true),(.lt (.add (.lit 8) (.var 23)) (.lit 24),true)],10,0⟩
def cK:List SV:=[.c (.ptr 1 0),.agg ((ct [vs 42 4,[.bool (.var 6),.bool (.var 7)]]))]
theorem kM(J:Xa)(pw:Option Go.Addr)(pi:Option Go.Addr)(x:Xj)(g1:Nat)(w:World)(h1:Bk w g1 186 (({J with pc:=6}:Xa).l (.pointer pw) (.pointer pi)).toArray)(hc0:0<=J.child)(hc1:J.child<8):Calls Tryz.prog 176 #[.pointer (some ⟨g1,0,none⟩),.agg x.l.toArray] w λen w'=>en=.returned (Yn (Xa.Ak ({J with pc:=6}:Xa) x).2)/\Bk w' g1 186 ((Xa.Ak ({J with pc:=6}:Xa) x).1.l (.pointer pw) (.pointer pi)).toArray/\Al [g1] w w':=by
 refine p1 (kL J pw pi x) [] 80 sN cK (Xa.Ak ({J with pc:=6}:Xa) x) (λr=>(Yn r.2,(r.1.l (.pointer pw) (.pointer pi)).toArray)) Xt (Ca (Tx (b:=J.child) ⟨hc0,hc1⟩) (Ca (Tw (b:=J.child) ⟨hc0,hc1⟩) (Ca (Tv (b:=J.child) ⟨hc0,hc1⟩) (Ca (Tu (b:=J.child) ⟨hc0,hc1⟩) Ci)))) h1 ?_;exact vS1
def kE(J:Xa)(pw:Option Go.Addr)(pi:Option Go.Addr)(x:Xj):Env:=Iw [J.last.ii,J.op.ii,[J.size,J.wanted,J.Ai,J.child],J.base.ii,J.node.ii,J.sentinel.ii,J.answer.ii,J.count.ii,[x.word.gn,x.word.tg,x.word.nm]] [J.bb,x.bb] [.pointer pw,.pointer pi] (AI rfl)
def sJ:St:=⟨[],[(1,186,(ct [[.int (.lit 9)],vs 0 8,[.bool (.var 0)],vs 8 4,[.bool (.var 1)],vs 12 16,[.bool (.var 2)],vs 28 4,[.bool (.var 3)],vs 32 4,[.bool (.var 4),.AQ 0,.AQ 1],vs 36 6,[.bool (.var 5)]]))],[(.lt (.add (.lit 8) (.var 23)) (.lit 0),false),(.le (.lit 24) (.add (.lit 8) (.var 23)),false),(.le (.lit 0) (.add (.lit 8) (.var 23)),true),(.lt (.add (.lit 8) (.var 23)) (.lit 24),true)],10,0⟩
def cF:List SV:=[.c (.ptr 1 0),.agg ((ct [[.int (.lit 0)],vs 42 3,[.bool (.var 6),.bool (.var 7)]]))]
theorem kF(J:Xa)(pw:Option Go.Addr)(pi:Option Go.Addr)(x:Xj)(g1:Nat)(w:World)(h1:Bk w g1 186 (({J with pc:=9}:Xa).l (.pointer pw) (.pointer pi)).toArray)(hc0:0<=J.child)(hc1:J.child<8):Calls Tryz.prog 176 #[.pointer (some ⟨g1,0,none⟩),.agg ({x with word:={x.word with sl:=0}}:Xj).l.toArray] w λen w'=>en=.returned (Yn (Xa.Ak ({J with pc:=9}:Xa) ({x with word:={x.word with sl:=0}}:Xj)).2)/\Bk w' g1 186 ((Xa.Ak ({J with pc:=9}:Xa) ({x with word:={x.word with sl:=0}}:Xj)).1.l (.pointer pw) (.pointer pi)).toArray/\Al [g1] w w':=by
 refine p1 (kE J pw pi x) [] 80 sJ cF (Xa.Ak ({J with pc:=9}:Xa) ({x with word:={x.word with sl:=0}}:Xj)) (λr=>(Yn r.2,(r.1.l (.pointer pw) (.pointer pi)).toArray)) Xt (Ca (Tx (b:=J.child) ⟨hc0,hc1⟩) (Ca (Tw (b:=J.child) ⟨hc0,hc1⟩) (Ca (Tv (b:=J.child) ⟨hc0,hc1⟩) (Ca (Tu (b:=J.child) ⟨hc0,hc1⟩) Ci)))) h1 ?_;exact vS1
def dB(J:Xa)(pw:Option Go.Addr)(pi:Go.Addr)(x:Xj)(c:Xf):Env:=Iw [J.last.ii,J.op.ii,[J.size,J.wanted,J.Ai,J.child],J.base.ii,J.node.ii,J.sentinel.ii,J.answer.ii,J.count.ii,x.ii,c.ii] [J.bb,x.bb,c.bb] [.pointer pw,.pointer (some pi)] (AI rfl)
def kZ:St:=⟨[],[(1,186,(ct [[.int (.lit 11)],vs 0 8,[.bool (.var 0)],vs 8 4,[.bool (.var 1)],vs 12 16,[.bool (.var 2)],vs 28 4,[.bool (.var 3)],vs 32 4,[.bool (.var 4),.AQ 0,.AQ 1],vs 36 6,[.bool (.var 5)]]))],[(.nil 1,false)],10,0⟩
def Wm:List SV:=[.c (.ptr 1 0),.agg ((ct [vs 42 4,[.bool (.var 6),.bool (.var 7)]]))]
def sS:List Xu:=[⟨false,154,101,[],[.c (.AQ 1),.agg ((ct [vs 42 4,[.bool (.var 6),.bool (.var 7)]]))],.agg ((ct [vs 46 8,[.bool (.var 8)],vs 54 4,[.bool (.var 9)],vs 58 4])),[]⟩]
theorem dC{Φ:GL}{F:Nat->Prop}(J:Xa)(pw:Option Go.Addr)(pi:Go.Addr)(x:Xj)(c:Xf)(g1:Nat)(w:World)(h1:Bk w g1 186 (({J with pc:=11}:Xa).l (.pointer pw) (.pointer (some pi))).toArray)(H0:∀w F,Φ.P 0 w F->(∀b,F b->b<w.heap.size)->Calls Tryz.prog 154 #[.pointer (some pi),.agg x.l.toArray] w λen w'=>en=.returned (.agg c.l.toArray)/\ES Φ 1 F none w w')(f1:Φ.P 0 w F)(f2:¬F g1)(f3:∀b,F b->b<w.heap.size):Calls Tryz.prog 176 #[.pointer (some ⟨g1,0,none⟩),.agg x.l.toArray] w λen w'=>Ky Φ 1 F g1 186 ((Xa.Gb ({J with pc:=11}:Xa) c).1.l (.pointer pw) (.pointer (some pi))).toArray (Yn (Xa.Gb ({J with pc:=11}:Xa) c).2) w en w':=by
 refine pE (dB J pw pi x c) sS 60 kZ Wm (Xa.Gb ({J with pc:=11}:Xa) c) (λr=>(Yn r.2,1,(r.1.l (.pointer pw) (.pointer (some pi))).toArray)) (Yc (AP 0 1 λhq w F hP hb=>Yw Tryz.func154 (H0 w F hP hb)) Gr) (Ca rfl Ci) h1 f1 f2 f3 ?_;exact vS5
theorem aR(J:Xi)(x:Xj)(g:Nat)(F:List Nat)(w:World)(h:Km w g J F):
  Calls Tryz.prog 154 #[.pointer (some ⟨g,0,none⟩),.agg x.l.toArray] w (IR (λw F=>Km w g (J.next x).1 F) (Yn (J.next x).2) F w):=by
 obtain⟨⟨q,F1,rfl,hb,hw⟩,hn⟩:=h
 cases hW:J.walk with
 |none=>
  rw[hW] at hw
  obtain⟨rfl,rfl⟩:=hw
  have e:({J with walk:=none}:Xi)=J:=by cases J;simp only at hW;subst hW;rfl
  have:=oT J x g w (by rw[e];exact hb) Zs
  rw[e] at this
  exact this
 |some W=>
  rw[hW] at hw
  obtain⟨g2,rfl,rfl,hb2⟩:=hw
  have e:({J with walk:=some W}:Xi)=J:=by cases J;simp only at hW;subst hW;rfl
  have:=oR J W x g g2 w (by rw[e];exact hb) hb2 hn
  rw[e] at this
  exact this
def zT (gi:Nat) (I I':Xi):GL:=⟨fun i w F=>if i = 0 then ∃ Fl,Km w gi I Fl∧∀ b,F b↔b∈Fl else ∃ F1,Km w gi I' (gi :: F1)∧∀ b,F b↔b∈gi :: F1,fun i w w' F h hs=>by
 split at h
 ·rename_i h0;obtain⟨Fl,h1,h2⟩:=h;rw[if_pos h0];exact⟨Fl,h1.same λb hb=>hs b ((h2 b).2 hb),h2⟩
 ·rename_i h0;obtain⟨Fl,h1,h2⟩:=h;rw[if_neg h0];exact⟨Fl,h1.same λb hb=>hs b ((h2 b).2 hb),h2⟩⟩
theorem S9{Φ:GL}{j:Nat}{F:Nat->Prop}{Fl:List Nat}{w w':World}(hc:Al Fl w w')(hF:∀b,b∈Fl->F b)(hfin:∃F':Nat->Prop,Φ.P j w' F'/\(∀b,F' b->F b\/w.heap.size<=b)/\∀b,F' b->b<w'.heap.size):ES Φ j F none w w':=
 ⟨hc.os,hc.tape,hc.output,hc.size,λb hb _ hf=>hc.Av b hb λhm=>hf (hF b hm),hfin⟩
theorem DL{J:Xa}{n:Int}(h:J.pc=n):({J with pc:=n}:Xa)=J:=by subst h;rfl
theorem MO{J:Xa}{n k:Int}(h:J.pc=n)(h1:J.op.kind=k):({J with pc:=n,op:={J.op with kind:=k}}:Xa)=J:=by subst h;subst h1;rfl
theorem ZH{J:Xa}{n:Int}{o:Option Xq}(h:J.pc=n)(h1:J.walk=o):({J with pc:=n,walk:=o}:Xa)=J:=by subst h;subst h1;rfl
theorem xW{x:Xj}{n:Int}(h:x.word.nm=n):({x with word:={x.word with nm:=n}}:Xj)=x:=by subst h;rfl
theorem x_sl{x:Xj}{n:Int}(h:x.word.sl=n):({x with word:={x.word with sl:=n}}:Xj)=x:=by subst h;rfl
theorem xV{x:Xj}{b:Bool}(h:x.ok=b):({x with ok:=b}:Xj)=x:=by subst h;rfl
structure xQ(J:Xa):Prop where
 pc:J.pc=0\/J.pc=1\/J.pc=2\/J.pc=3\/J.pc=4\/J.pc=5\/J.pc=6\/J.pc=7\/J.pc=8\/J.pc=9\/J.pc=10\/J.pc=11\/J.pc=12\/J.pc=13\/J.pc=14\/J.pc=15
 kind:J.op.kind=6\/J.op.kind=7\/J.op.kind=8
 k0:0<=J.op.key
 k1:J.op.key<256
 w0:0<=J.wanted
 w1:J.wanted<8
 way:J.pc=2->PR J.wanted J.Ai
 b0:0<=J.Ai
 b1:J.Ai<8
 wayc:J.pc=9\/J.pc=10->PR J.wanted J.child
 c0:0<=J.child
 c1:J.child<8
 walk:J.pc=5\/J.pc=7->∃W,J.walk=some W
 inner:J.pc=11->∃I,J.inner=some I
section
variable{J:Xa}{x:Xj}
theorem n0(h:J.pc=0):J.next x=Xa.next ({J with pc:=0}:Xa) x:=by rw[DL h]
theorem n1(h:J.pc=1):J.next x=J.sized x:=by unfold Xa.next;rw[h];rfl
theorem n2(h:J.pc=2):J.next x=J.EO x:=by unfold Xa.next;rw[h];rfl
theorem n11(h:J.pc=11):J.next x=J.Ii x:=by unfold Xa.next;rw[h];rfl
theorem n12(h:J.pc=12):J.next x=J.GX x:=by unfold Xa.next;rw[h];rfl
theorem n13(h:J.pc=13):J.next x=J.He x:=by unfold Xa.next;rw[h];rfl
theorem n14(h:J.pc=14):J.next x=J.Dn x:=by unfold Xa.next;rw[h];rfl
theorem n15(h:J.pc=15):J.next x=J.done J.answer:=by unfold Xa.next;rw[h];rfl
theorem nC(h:J.pc=3\/J.pc=4\/J.pc=5\/J.pc=6\/J.pc=7\/J.pc=8\/J.pc=9\/J.pc=10):J.next x=J.Ak x:=by
 unfold Xa.next;rcases h with h|h|h|h|h|h|h|h<;>rw[h]<;>rfl
end
end Go.Proofs.YtaipogljokblkaaGreatDoor
