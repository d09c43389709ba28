/- Core: JA, CLitS, CVb, CVe, JB. -/
import Derived.Test.YtaipogljokblkaaGreatDoorE19
import Derived.Test.YtaipogljokblkaaGreatDoorE07
import Derived.Test.YtaipogljokblkaaGreatDoorE09
import Derived.Test.YtaipogljokblkaaGreatDoorE01
import Derived.Test.YtaipogljokblkaaGreatDoorE06
import Derived.Test.YtaipogljokblkaaGreatDoorE11
import Derived.Test.YtaipogljokblkaaGreatDoorE20
set_option linter.all false
set_option maxRecDepth 100000
set_option maxHeartbeats 8000000
namespace Go.Proofs.YtaipogljokblkaaGreatDoor
open Go Go.RowKit
set_option linter.unusedSimpArgs false
set_option linter.unusedVariables false
set_option linter.unusedSectionVars false
def IE(Rep:World->List Nat->Prop)(V:Value)(F:List Nat)(w:World)(en:Ending)(w':World):Prop:=
 ∃F',en=.returned V/\Rep w' F'/\(∀b∈F',b∈F\/w.heap.size<=b)/\Ak F w w'
section
variable{w w':World}{g:Nat}{F F1:List Nat}{q:Value}
theorem Dh.same{o:Option Xm}(h:Dh w q o F)(hs:∀b∈F,w'.heap[b]?=w.heap[b]?):Dh w' q o F:=by
 cases o with
 |none=>exact h
 |some W=>obtain⟨g,rfl,rfl,hb⟩:=h;exact⟨g,rfl,rfl,hb.same (hs g Zs)⟩
theorem Dh.lt{o:Option Xm}(h:Dh w q o F):∀b∈F,b<w.heap.size:=by
 cases o with
 |none=>obtain⟨rfl,rfl⟩:=h;simp
 |some W=>obtain⟨g,rfl,rfl,hb⟩:=h;intro b hm;rw[List.mem_singleton.1 hm];exact hb.lt
theorem JX.same{J:Xh}(h:JX w g J F)(hs:∀b∈F,w'.heap[b]?=w.heap[b]?):JX w' g J F:=by
 obtain⟨⟨q,F1,rfl,hb,hw⟩,hn⟩:=h;exact⟨⟨q,F1,rfl,hb.same (hs g Zs),hw.same λb hm=>hs b (by simp[hm])⟩,hn⟩
theorem JX.lt{J:Xh}(h:JX w g J F):∀b∈F,b<w.heap.size:=by
 obtain⟨⟨q,F1,rfl,hb,hw⟩,hn⟩:=h;intro b hm;rcases List.mem_cons.1 hm with rfl|hm
 ·exact hb.lt
 ·exact hw.lt b hm
theorem BI.same{o:Option Xd}(h:BI w q o F)(hs:∀b∈F,w'.heap[b]?=w.heap[b]?):BI w' q o F:=by
 cases o with
 |none=>exact h
 |some W=>obtain⟨g,rfl,rfl,hb⟩:=h;exact⟨g,rfl,rfl,hb.same (hs g Zs)⟩
theorem BI.lt{o:Option Xd}(h:BI w q o F):∀b∈F,b<w.heap.size:=by
 cases o with
 |none=>obtain⟨rfl,rfl⟩:=h;simp
 |some W=>obtain⟨g,rfl,rfl,hb⟩:=h;intro b hm;rw[List.mem_singleton.1 hm];exact hb.lt
theorem UX.same{J:Xc}(h:UX w g J F)(hs:∀b∈F,w'.heap[b]?=w.heap[b]?):UX w' g J F:=by
 obtain⟨⟨q,F1,rfl,hb,hw⟩,hn⟩:=h;exact⟨⟨q,F1,rfl,hb.same (hs g Zs),hw.same λb hm=>hs b (by simp[hm])⟩,hn⟩
theorem UX.lt{J:Xc}(h:UX w g J F):∀b∈F,b<w.heap.size:=by
 obtain⟨⟨q,F1,rfl,hb,hw⟩,hn⟩:=h;intro b hm;rcases List.mem_cons.1 hm with rfl|hm
 ·exact hb.lt
 ·exact hw.lt b hm
def FT(w:World)(q:Value)(o:Option Xh)(F:List Nat):Prop:=
 match o with
 |none=>q=.pointer none/\F=[]
 |some I=>∃gi F1,q=.pointer (some ⟨gi,0,none⟩)/\F=gi::F1/\JX w gi I F
theorem FT.same{o:Option Xh}(h:FT w q o F)(hs:∀b∈F,w'.heap[b]?=w.heap[b]?):FT w' q o F:=by
 cases o with
 |none=>exact h
 |some I=>obtain⟨gi,F1,rfl,rfl,hl⟩:=h;exact⟨gi,F1,rfl,rfl,hl.same hs⟩
theorem FT.lt{o:Option Xh}(h:FT w q o F):∀b∈F,b<w.heap.size:=by
 cases o with
 |none=>obtain⟨rfl,rfl⟩:=h;simp
 |some I=>obtain⟨gi,F1,rfl,rfl,hl⟩:=h;exact hl.lt
theorem FT.nodup{o:Option Xh}(h:FT w q o F):F.Nodup:=by
 cases o with
 |none=>obtain⟨rfl,rfl⟩:=h;simp
 |some I=>obtain⟨gi,F1,rfl,rfl,hl⟩:=h;exact hl.2
def MF(w:World)(g:Nat)(J:Xa)(F:List Nat):Prop:=
 ∃pw pi Fw Fi,F=g::(Fw++Fi)/\Bk w g 186 (J.l (.pointer pw) (.pointer pi)).toArray/\Dh w (.pointer pw) J.walk Fw/\FT w (.pointer pi) J.inner Fi/\F.Nodup
theorem MF.same{J:Xa}(h:MF w g J F)(hs:∀b∈F,w'.heap[b]?=w.heap[b]?):MF w' g J F:=by
 obtain⟨pw,pi,Fw,Fi,rfl,hb,hw,hi,hn⟩:=h;exact⟨pw,pi,Fw,Fi,rfl,hb.same (hs g Zs),hw.same λb hm=>hs b (by simp[hm]),hi.same λb hm=>hs b (by simp[hm]),hn⟩
theorem MF.lt{J:Xa}(h:MF w g J F):∀b∈F,b<w.heap.size:=by
 obtain⟨pw,pi,Fw,Fi,rfl,hb,hw,hi,hn⟩:=h;intro b hm;simp only[List.mem_cons,List.mem_append] at hm;rcases hm with rfl|hm|hm
 ·exact hb.lt
 ·exact hw.lt b hm
 ·exact hi.lt b hm
end
section
variable{w w':World}{g:Nat}{Fw Fi:List Nat}{pw pi:Option Go.Addr}{J J':Xa}{V:Value}{en:Ending}
theorem BQ(hw:Dh w (.pointer pw) J.walk Fw)(hi:FT w (.pointer pi) J.inner Fi)(hn:(g::(Fw++Fi)).Nodup)(e1:J'.walk=J.walk)(e2:J'.inner=J.inner)
  (hr:en=.returned V)(hb:Bk w' g 186 (J'.l (.pointer pw) (.pointer pi)).toArray)(hc:Ak [g] w w'):IE (λw F=>MF w g J' F) V (g::(Fw++Fi)) w en w':=by
 have hg:∀b∈Fw++Fi,b∉[g]:=λb hm he=>(List.nodup_cons.1 hn).1 (by rw[←List.mem_singleton.1 he];exact hm)
 refine⟨g::(Fw++Fi),hr,⟨pw,pi,Fw,Fi,rfl,hb,?_,?_,hn⟩,λb hb=>Or.inl hb,hc.mono λx hx=>Or.inl (by rw[List.mem_singleton.1 hx];simp)⟩
 ·rw[e1];exact hw.same λb hm=>hc.Ax b (hw.lt b hm) (hg b (by simp[hm]))
 ·rw[e2];exact hi.same λb hm=>hc.Ax b (hi.lt b hm) (hg b (by simp[hm]))
theorem K9{Fp:List Nat}(hw:Dh w (.pointer pw) J.walk Fw)(hi:FT w (.pointer pi) J.inner Fi)(hn:(g::(Fw++Fi)).Nodup)(e2:J'.inner=J.inner)(hgp:g∈Fp)(hFp:∀b∈Fp,b∈g::Fw)
  (hp:FF (λw q F1=>Dh w q J'.walk F1) 186 (λq=>J'.l q (.pointer pi)) V g Fp w en w'):IE (λw F=>MF w g J' F) V (g::(Fw++Fi)) w en w':=by
 obtain⟨F',hr,⟨⟨q,F1,rfl,hb,hs⟩,hnd⟩,hnew,hc⟩:=hp
 have hgi:∀b∈Fi,b∉Fp:=λb hm he=>by
  have h1:=hFp b he;have h2:=(List.nodup_cons.1 hn);have h3:=List.nodup_append.1 h2.2;rcases List.mem_cons.1 h1 with rfl|h1
  ·exact h2.1 (by simp[hm])
  ·exact h3.2.2 b h1 b hm rfl
 have hold:∀b∈F1,b∈g::Fw\/w.heap.size<=b:=λb hm=>(hnew b (by simp[hm])).imp (hFp b) id
 obtain⟨pw',rfl⟩:∃pw',q=.pointer pw':=by
  cases hW:J'.walk with
  |none=>rw[hW] at hs;exact⟨none,hs.1⟩
  |some W=>rw[hW] at hs;obtain⟨g2,rfl,_⟩:=hs;exact⟨_,rfl⟩
 refine⟨g::(F1++Fi),hr,⟨pw',pi,F1,Fi,rfl,hb,hs,?_,?_⟩,λb hm=>?_,hc.mono λx hx=>Or.inl (by have:=hFp x hx;simp only[List.mem_cons,List.mem_append] at this ⊢;rcases this with h|h<;>simp[h])⟩
 ·rw[e2];exact hi.same λb hm=>hc.Ax b (hi.lt b hm) (hgi b hm)
 ·rw[List.nodup_cons] at hn hnd ⊢;refine⟨λhm=>?_,List.nodup_append.2 ⟨hnd.2,hi.nodup,λa ha b hb hab=>?_⟩⟩
  ·rcases List.mem_append.1 hm with h|h
   ·exact hnd.1 h
   ·exact hn.1 (by simp[h])
  ·subst hab;rcases hold a ha with h|h
   ·rcases List.mem_cons.1 h with rfl|h
    ·exact hnd.1 ha
    ·exact(List.nodup_append.1 hn.2).2.2 a h a hb rfl
   ·have:=hi.lt a hb;omega
 ·simp only[List.mem_cons,List.mem_append] at hm ⊢;rcases hm with rfl|hm|hm
  ·exact Or.inl (Or.inl rfl)
  ·rcases hold b hm with h|h
   ·rcases List.mem_cons.1 h with rfl|h
    ·exact Or.inl (Or.inl rfl)
    ·exact Or.inl (Or.inr (Or.inl h))
   ·exact Or.inr h
  ·exact Or.inl (Or.inr (Or.inr hm))
theorem YO(hw:Dh w (.pointer pw) J.walk Fw)(hi:FT w (.pointer pi) J.inner Fi)(hgl:g<w.heap.size)(hn:(g::(Fw++Fi)).Nodup)(e1:J'.walk=J.walk)
  (hp:QG pw pi J' V J.inner g w en w'):IE (λw F=>MF w g J' F) V (g::(Fw++Fi)) w en w':=by
 obtain⟨hr,hc,h|h⟩:=hp
 ·exact BQ hw hi hn e1 h.1 hr h.2 hc
 ·obtain⟨gi,F1,I,e2,hb,hl,hnew⟩:=h;have hg:∀b∈Fw,b∉[g]:=λb hm he=>(List.nodup_cons.1 hn).1 (by rw[←List.mem_singleton.1 he];simp[hm]);refine⟨g::(Fw++gi::F1),hr,⟨pw,some ⟨gi,0,none⟩,Fw,gi::F1,rfl,hb,?_,?_,?_⟩,λb hm=>?_,hc.mono λx hx=>Or.inl (by rw[List.mem_singleton.1 hx];simp)⟩
  ·rw[e1];exact hw.same λb hm=>hc.Ax b (hw.lt b hm) (hg b hm)
  ·rw[e2];exact⟨gi,F1,rfl,rfl,hl⟩
  ·rw[List.nodup_cons] at hn ⊢;refine⟨λhm=>?_,List.nodup_append.2 ⟨(List.nodup_append.1 hn.2).1,hl.2,λa ha b hb hab=>?_⟩⟩
   ·rcases List.mem_append.1 hm with h|h
    ·exact hn.1 (by simp[h])
    ·have:=hnew g h;omega
   ·subst hab;have h1:=hw.lt a ha;have h2:=hnew a hb;omega
  ·simp only[List.mem_cons,List.mem_append] at hm ⊢;rcases hm with rfl|hm|hm
   ·exact Or.inl (Or.inl rfl)
   ·exact Or.inl (Or.inr (Or.inl hm))
   ·exact Or.inr (hnew b (by simp only[List.mem_cons];exact hm))
end
def nQ(J:Xh)(W:Xm)(x:Xj):Env:=Il [J.ii,W.ii,x.ii,(Xm.step W x).1.ii,(Xm.step W x).2.1.ii,(Xm.step (Xm.new J.start J.key) x).1.ii,(Xm.step (Xm.new J.start J.key) x).2.1.ii] [J.bb,W.bb,x.bb,(Xm.step W x).1.bb,(Xm.step W x).2.1.bb,[(Xm.step W x).2.2],(Xm.step (Xm.new J.start J.key) x).1.bb,(Xm.step (Xm.new J.start J.key) x).2.1.bb,[(Xm.step (Xm.new J.start J.key) x).2.2]]
def uK:St:=⟨[],[(1,206,(ct [vs 0 9,[.bool (.var 0)],vs 9 4,[.bool (.var 1)],vs 13 12,[.ptr 3 0],vs 25 4,[.bool (.var 2),.int (.var 29)]])),(3,261,(ct [vs 30 9,[.bool (.var 3)],vs 39 4,[.bool (.var 4)],vs 43 15,[.bool (.var 5)],vs 58 4,[.bool (.var 6),.int (.var 62),.bool (.var 7)]]))],[],10,0⟩
def fH:List SV:=[.c (.ptr 1 0),.agg ((ct [vs 63 4,[.bool (.var 8),.bool (.var 9)]]))]
def zK:List Xv:=[⟨true,162,261,(ct [vs 30 9,[.bool (.var 3)],vs 39 4,[.bool (.var 4)],vs 43 15,[.bool (.var 5)],vs 58 4,[.bool (.var 6),.int (.var 62),.bool (.var 7)]]),[.agg ((ct [vs 63 4,[.bool (.var 8),.bool (.var 9)]]))],.IU [(true,(ct [vs 100 8,[.bool (.var 15)],vs 108 4,[.bool (.var 16)],vs 112 4])),(false,[.bool (.var 17)])],(ct [vs 67 9,[.bool (.var 10)],vs 76 4,[.bool (.var 11)],vs 80 15,[.bool (.var 12)],vs 95 4,[.bool (.var 13),.int (.var 99),.bool (.var 14)]])⟩,⟨true,162,261,(ct [zs 9,[.bool (.lit false)],zs 4,[.bool (.lit false)],zs 4,vs 17 4,vs 17 3,zs 4,[.bool (.lit false)],zs 4,[.bool (.lit false),.int (.lit 0),.bool (.lit false)]]),[.agg ((ct [vs 63 4,[.bool (.var 8),.bool (.var 9)]]))],.IU [(true,(ct [vs 149 8,[.bool (.var 23)],vs 157 4,[.bool (.var 24)],vs 161 4])),(false,[.bool (.var 25)])],(ct [vs 116 9,[.bool (.var 18)],vs 125 4,[.bool (.var 19)],vs 129 15,[.bool (.var 20)],vs 144 4,[.bool (.var 21),.int (.var 148),.bool (.var 22)]])⟩]
theorem nR(J:Xh)(W:Xm)(x:Xj)(g1 g2:Nat)(w:World)(h1:Bk w g1 206 (({J with walk:=some W}:Xh).l (.pointer (some ⟨g2,0,none⟩))).toArray)(h2:Bk w g2 261 (W.l).toArray)(hnd:[g1,g2].Nodup):Calls Tryz.prog 154 #[.pointer (some ⟨g1,0,none⟩),.agg x.l.toArray] w λen w'=>∃F',en=.returned (Yk (Xh.next {J with walk:=some W} x).2)/\JX w' g1 (Xh.next {J with walk:=some W} x).1 F'/\(∀b∈F',b∈[g1,g2]\/w.heap.size<=b)/\Ak [g1,g2] w w':=by
 refine p2 (nQ J W x) zK 60 uK fH 27 206 261 (Xh.next {J with walk:=some W} x) (λr=>Yk r.2) (λr q=>r.1.l q) (λr=>r.1.walk.map λW=>W.l.toArray) (λr w q F1=>Dh w q r.1.walk F1) (Ys (BW Tryz.func162 λg w hB=>Hq W x g w hB) (Ys (BW Tryz.func162 λg w hB=>Hq (Xm.new J.start J.key) x g w hB) Xu)) BY (bl2 (Yw h1 Zk) (Yw h2 Zk)) hnd (λ_ _ h=>JC h) (λ_ _ _ _ h hb=>JB h hb) ?_;exact vS10
def jS(J:Xa)(pw:Option Go.Addr)(pi:Option Go.Addr)(x:Xj):Env:=Ik [J.last.ii,J.op.ii,[J.size,J.wanted,J.Am,J.child],J.base.ii,J.node.ii,J.sentinel.ii,J.answer.ii,J.count.ii,[x.word.gn,x.word.tg,x.word.nm,Eh J.Am]] [J.bb,x.bb] [.pointer pw,.pointer pi] (AE rfl)
def sD:St:=⟨[],[(1,186,(ct [[.int (.lit 2)],vs 0 8,[.bool (.var 0)],vs 8 4,[.bool (.var 1)],vs 12 16,[.bool (.var 2)],vs 28 4,[.bool (.var 3)],vs 32 4,[.bool (.var 4),.AN 0,.AN 1],vs 36 6,[.bool (.var 5)]]))],[(.lt (.add (.lit 8) (.var 45)) (.lit 0),false),(.le (.lit 24) (.add (.lit 8) (.var 45)),false),(.le (.lit 0) (.add (.lit 8) (.var 45)),true),(.lt (.add (.lit 8) (.var 45)) (.lit 24),true)],10,0⟩
def bG:List SV:=[.c (.ptr 1 0),.agg ((ct [[.int (.lit 0)],vs 42 3,[.bool (.var 6),.bool (.var 7)]]))]
def xX:List Xv:=[⟨false,182,0,[],[.c (.int (.var 22))],.c (.int (.var 45)),[]⟩]
theorem jU(J:Xa)(pw:Option Go.Addr)(pi:Option Go.Addr)(x:Xj)(g1:Nat)(w:World)(h1:Bk w g1 186 (({J with pc:=2}:Xa).l (.pointer pw) (.pointer pi)).toArray)(hb0:0<=J.Am)(hb1:J.Am<8):Calls Tryz.prog 176 #[.pointer (some ⟨g1,0,none⟩),.agg ({x with word:={x.word with sl:=0}}:Xj).l.toArray] w λen w'=>en=.returned (Yk (Xa.EF ({J with pc:=2}:Xa) ({x with word:={x.word with sl:=0}}:Xj)).2)/\Bk w' g1 186 ((Xa.EF ({J with pc:=2}:Xa) ({x with word:={x.word with sl:=0}}:Xj)).1.l (.pointer pw) (.pointer pi)).toArray/\Ak [g1] w w':=by
 refine p1 (jS J pw pi x) xX 80 sD bG (Xa.EF ({J with pc:=2}:Xa) ({x with word:={x.word with sl:=0}}:Xj)) (λr=>(Yk r.2,(r.1.l (.pointer pw) (.pointer pi)).toArray)) (Ys (FZ Tryz.func182 λw=>MP _ w hb0 hb1) Xu) (BO (SE (b:=(Eh J.Am)) (FL hb0 hb1)) (BO (SD (b:=(Eh J.Am)) (FL hb0 hb1)) (BO (SB (b:=(Eh J.Am)) (FL hb0 hb1)) (BO (SA (b:=(Eh J.Am)) (FL hb0 hb1)) BY)))) h1 ?_;exact vS1
def jQ(J:Xa)(pw:Option Go.Addr)(pi:Option Go.Addr)(x:Xj):Env:=Ik [J.last.ii,J.op.ii,[J.size,J.wanted,J.Am,J.child],J.base.ii,J.node.ii,J.sentinel.ii,J.answer.ii,J.count.ii,x.ii,[Yn J.child]] [J.bb,[x.word.mark]] [.pointer pw,.pointer pi] (AE rfl)
def sC:St:=⟨[],[(1,186,(ct [[.int (.lit 3)],vs 0 8,[.bool (.var 0)],vs 8 4,[.bool (.var 1)],vs 12 16,[.bool (.var 2)],vs 28 4,[.bool (.var 3)],vs 32 4,[.bool (.var 4),.AN 0,.AN 1],vs 36 6,[.bool (.var 5)]]))],[],10,0⟩
def bF:List SV:=[.c (.ptr 1 0),.agg ((ct [vs 42 4,[.bool (.var 6),.bool (.lit true)]]))]
def xW:List Xv:=[⟨false,189,0,[],[.c (.int (.var 23))],.c (.int (.var 46)),[]⟩]
theorem jR(J:Xa)(pw:Option Go.Addr)(pi:Option Go.Addr)(x:Xj)(g1:Nat)(w:World)(h1:Bk w g1 186 (({J with pc:=3}:Xa).l (.pointer pw) (.pointer pi)).toArray)(hc0:0<=J.child)(hc1:J.child<8):Calls Tryz.prog 176 #[.pointer (some ⟨g1,0,none⟩),.agg ({x with ok:=true}:Xj).l.toArray] w λen w'=>en=.returned (Yk (Xa.Al ({J with pc:=3}:Xa) ({x with ok:=true}:Xj)).2)/\Bk w' g1 186 ((Xa.Al ({J with pc:=3}:Xa) ({x with ok:=true}:Xj)).1.l (.pointer pw) (.pointer pi)).toArray/\Ak [g1] w w':=by
 refine p1 (jQ J pw pi x) xW 80 sC bF (Xa.Al ({J with pc:=3}:Xa) ({x with ok:=true}:Xj)) (λr=>(Yk r.2,(r.1.l (.pointer pw) (.pointer pi)).toArray)) (Ys (FZ Tryz.func189 λw=>Kw _ w hc0 hc1) Xu) BY h1 ?_;exact vS1
def jG(J:Xa)(pw:Option Go.Addr)(pi:Option Go.Addr)(x:Xj):Env:=Ik [J.last.ii,J.op.ii,[J.size,J.wanted,J.Am,J.child],J.base.ii,J.node.ii,J.sentinel.ii,J.answer.ii,J.count.ii,x.ii] [J.bb,[x.word.mark]] [.pointer pw,.pointer pi] (AE rfl)
def rX:St:=⟨[],[(1,186,(ct [[.int (.lit 8)],vs 0 8,[.bool (.var 0)],vs 8 4,[.bool (.var 1)],vs 12 16,[.bool (.var 2)],vs 28 4,[.bool (.var 3)],vs 32 4,[.bool (.var 4),.AN 0,.AN 1],vs 36 6,[.bool (.var 5)]]))],[(.lt (.add (.lit 8) (.var 23)) (.lit 0),false),(.le (.lit 24) (.add (.lit 8) (.var 23)),false),(.le (.lit 0) (.add (.lit 8) (.var 23)),true),(.lt (.add (.lit 8) (.var 23)) (.lit 24),true)],10,0⟩
def bA:List SV:=[.c (.ptr 1 0),.agg ((ct [vs 42 4,[.bool (.var 6),.bool (.lit true)]]))]
theorem jH(J:Xa)(pw:Option Go.Addr)(pi:Option Go.Addr)(x:Xj)(g1:Nat)(w:World)(h1:Bk w g1 186 (({J with pc:=8}:Xa).l (.pointer pw) (.pointer pi)).toArray)(hc0:0<=J.child)(hc1:J.child<8):Calls Tryz.prog 176 #[.pointer (some ⟨g1,0,none⟩),.agg ({x with ok:=true}:Xj).l.toArray] w λen w'=>en=.returned (Yk (Xa.Al ({J with pc:=8}:Xa) ({x with ok:=true}:Xj)).2)/\Bk w' g1 186 ((Xa.Al ({J with pc:=8}:Xa) ({x with ok:=true}:Xj)).1.l (.pointer pw) (.pointer pi)).toArray/\Ak [g1] w w':=by
 refine p1 (jG J pw pi x) [] 80 rX bA (Xa.Al ({J with pc:=8}:Xa) ({x with ok:=true}:Xj)) (λr=>(Yk r.2,(r.1.l (.pointer pw) (.pointer pi)).toArray)) Xu (BO (SE (b:=J.child) ⟨hc0,hc1⟩) (BO (SD (b:=J.child) ⟨hc0,hc1⟩) (BO (SB (b:=J.child) ⟨hc0,hc1⟩) (BO (SA (b:=J.child) ⟨hc0,hc1⟩) BY)))) h1 ?_;repeat' (first|with_reducible (first|refine pN ?_|refine pA ?_|refine pO ?_|refine pB ?_|refine pF ?_|refine pT ?_|refine Jd (by first|(show(Xa.pc _==_)=_;with_unfolding_all rfl)|(show(A3.kind _==_)=_;with_unfolding_all rfl)|(show(Xj.ok _)=_;with_unfolding_all rfl)|(show(Xe.nm _==_)=_;with_unfolding_all rfl)|(show(Xe.sl _==_)=_;with_unfolding_all rfl)) ?_|refine Jc (by first|(show(Xa.pc _==_)=_;with_unfolding_all rfl)|(show(A3.kind _==_)=_;with_unfolding_all rfl)|(show(Xj.ok _)=_;with_unfolding_all rfl)|(show(Xe.nm _==_)=_;with_unfolding_all rfl)|(show(Xe.sl _==_)=_;with_unfolding_all rfl)) ?_|refine pC ?_ ?_)|unfold Xa.Dn|refine GN ?_|refine GO ?_|refine Dr (Df _ _ _) ?_|exact l1)
def jK(J:Xa)(pw:Option Go.Addr)(pi:Option Go.Addr)(x:Xj):Env:=Ik [J.last.ii,J.op.ii,[J.size,J.wanted,J.Am,J.child],J.base.ii,J.node.ii,J.sentinel.ii,J.answer.ii,J.count.ii,x.ii] [J.bb,x.bb] [.pointer pw,.pointer pi] (AE rfl)
def rZ:St:=⟨[],[(1,186,(ct [[.int (.lit 6)],vs 0 8,[.bool (.var 0)],vs 8 4,[.bool (.var 1)],vs 12 16,[.bool (.var 2)],vs 28 4,[.bool (.var 3)],vs 32 4,[.bool (.var 4),.AN 0,.AN 1],vs 36 6,[.bool (.var 5)]]))],[(.lt (.add (.lit 8) (.var 23)) (.lit 0),false),(.le (.lit 24) (.add (.lit 8) (.var 23)),false),(.le (.lit 0) (.add (.lit 8) (.var 23)),true),(.lt (.add (.lit 8) (.var 23)) (.lit 24),true)],10,0⟩
def bC:List SV:=[.c (.ptr 1 0),.agg ((ct [vs 42 4,[.bool (.var 6),.bool (.var 7)]]))]
theorem jL(J:Xa)(pw:Option Go.Addr)(pi:Option Go.Addr)(x:Xj)(g1:Nat)(w:World)(h1:Bk w g1 186 (({J with pc:=6}:Xa).l (.pointer pw) (.pointer pi)).toArray)(hc0:0<=J.child)(hc1:J.child<8):Calls Tryz.prog 176 #[.pointer (some ⟨g1,0,none⟩),.agg x.l.toArray] w λen w'=>en=.returned (Yk (Xa.Al ({J with pc:=6}:Xa) x).2)/\Bk w' g1 186 ((Xa.Al ({J with pc:=6}:Xa) x).1.l (.pointer pw) (.pointer pi)).toArray/\Ak [g1] w w':=by
 refine p1 (jK J pw pi x) [] 80 rZ bC (Xa.Al ({J with pc:=6}:Xa) x) (λr=>(Yk r.2,(r.1.l (.pointer pw) (.pointer pi)).toArray)) Xu (BO (SE (b:=J.child) ⟨hc0,hc1⟩) (BO (SD (b:=J.child) ⟨hc0,hc1⟩) (BO (SB (b:=J.child) ⟨hc0,hc1⟩) (BO (SA (b:=J.child) ⟨hc0,hc1⟩) BY)))) h1 ?_;exact vS1
def jD(J:Xa)(pw:Option Go.Addr)(pi:Option Go.Addr)(x:Xj):Env:=Ik [J.last.ii,J.op.ii,[J.size,J.wanted,J.Am,J.child],J.base.ii,J.node.ii,J.sentinel.ii,J.answer.ii,J.count.ii,[x.word.gn,x.word.tg,x.word.nm]] [J.bb,x.bb] [.pointer pw,.pointer pi] (AE rfl)
def rU:St:=⟨[],[(1,186,(ct [[.int (.lit 9)],vs 0 8,[.bool (.var 0)],vs 8 4,[.bool (.var 1)],vs 12 16,[.bool (.var 2)],vs 28 4,[.bool (.var 3)],vs 32 4,[.bool (.var 4),.AN 0,.AN 1],vs 36 6,[.bool (.var 5)]]))],[(.lt (.add (.lit 8) (.var 23)) (.lit 0),false),(.le (.lit 24) (.add (.lit 8) (.var 23)),false),(.le (.lit 0) (.add (.lit 8) (.var 23)),true),(.lt (.add (.lit 8) (.var 23)) (.lit 24),true)],10,0⟩
def aX:List SV:=[.c (.ptr 1 0),.agg ((ct [[.int (.lit 0)],vs 42 3,[.bool (.var 6),.bool (.var 7)]]))]
theorem jE(J:Xa)(pw:Option Go.Addr)(pi:Option Go.Addr)(x:Xj)(g1:Nat)(w:World)(h1:Bk w g1 186 (({J with pc:=9}:Xa).l (.pointer pw) (.pointer pi)).toArray)(hc0:0<=J.child)(hc1:J.child<8):Calls Tryz.prog 176 #[.pointer (some ⟨g1,0,none⟩),.agg ({x with word:={x.word with sl:=0}}:Xj).l.toArray] w λen w'=>en=.returned (Yk (Xa.Al ({J with pc:=9}:Xa) ({x with word:={x.word with sl:=0}}:Xj)).2)/\Bk w' g1 186 ((Xa.Al ({J with pc:=9}:Xa) ({x with word:={x.word with sl:=0}}:Xj)).1.l (.pointer pw) (.pointer pi)).toArray/\Ak [g1] w w':=by
 refine p1 (jD J pw pi x) [] 80 rU aX (Xa.Al ({J with pc:=9}:Xa) ({x with word:={x.word with sl:=0}}:Xj)) (λr=>(Yk r.2,(r.1.l (.pointer pw) (.pointer pi)).toArray)) Xu (BO (SE (b:=J.child) ⟨hc0,hc1⟩) (BO (SD (b:=J.child) ⟨hc0,hc1⟩) (BO (SB (b:=J.child) ⟨hc0,hc1⟩) (BO (SA (b:=J.child) ⟨hc0,hc1⟩) BY)))) h1 ?_;exact vS1
def bT(J:Xa)(pw:Option Go.Addr)(pi:Go.Addr)(x:Xj)(c:Xf):Env:=Ik [J.last.ii,J.op.ii,[J.size,J.wanted,J.Am,J.child],J.base.ii,J.node.ii,J.sentinel.ii,J.answer.ii,J.count.ii,x.ii,c.ii] [J.bb,x.bb,c.bb] [.pointer pw,.pointer (some pi)] (AE rfl)
def jZ:St:=⟨[],[(1,186,(ct [[.int (.lit 11)],vs 0 8,[.bool (.var 0)],vs 8 4,[.bool (.var 1)],vs 12 16,[.bool (.var 2)],vs 28 4,[.bool (.var 3)],vs 32 4,[.bool (.var 4),.AN 0,.AN 1],vs 36 6,[.bool (.var 5)]]))],[(.nil 1,false)],10,0⟩
def VA:List SV:=[.c (.ptr 1 0),.agg ((ct [vs 42 4,[.bool (.var 6),.bool (.var 7)]]))]
def sE:List Xv:=[⟨false,154,101,[],[.c (.AN 1),.agg ((ct [vs 42 4,[.bool (.var 6),.bool (.var 7)]]))],.agg ((ct [vs 46 8,[.bool (.var 8)],vs 54 4,[.bool (.var 9)],vs 58 4])),[]⟩]
theorem bU{Φ:GF}{F:Nat->Prop}(J:Xa)(pw:Option Go.Addr)(pi:Go.Addr)(x:Xj)(c:Xf)(g1:Nat)(w:World)(h1:Bk w g1 186 (({J with pc:=11}:Xa).l (.pointer pw) (.pointer (some pi))).toArray)(H0:∀w F,Φ.P 0 w F->(∀b,F b->b<w.heap.size)->Calls Tryz.prog 154 #[.pointer (some pi),.agg x.l.toArray] w λen w'=>en=.returned (.agg c.l.toArray)/\EH Φ 1 F none w w')(f1:Φ.P 0 w F)(f2:¬F g1)(f3:∀b,F b->b<w.heap.size):Calls Tryz.prog 176 #[.pointer (some ⟨g1,0,none⟩),.agg x.l.toArray] w λen w'=>Ki Φ 1 F g1 186 ((Xa.F9 ({J with pc:=11}:Xa) c).1.l (.pointer pw) (.pointer (some pi))).toArray (Yk (Xa.F9 ({J with pc:=11}:Xa) c).2) w en w':=by
 refine pE (bT J pw pi x c) sE 60 jZ VA (Xa.F9 ({J with pc:=11}:Xa) c) (λr=>(Yk r.2,1,(r.1.l (.pointer pw) (.pointer (some pi))).toArray)) (X6 (AM 0 1 λhq w F hP hb=>Yz Tryz.func154 (H0 w F hP hb)) Gi) (BO rfl BY) h1 f1 f2 f3 ?_;exact vS5
theorem ZE(J:Xh)(x:Xj)(g:Nat)(F:List Nat)(w:World)(h:JX w g J F):
  Calls Tryz.prog 154 #[.pointer (some ⟨g,0,none⟩),.agg x.l.toArray] w (IE (λw F=>JX w g (J.next x).1 F) (Yk (J.next x).2) F w):=by
 obtain⟨⟨q,F1,rfl,hb,hw⟩,hn⟩:=h
 cases hW:J.walk with
 |none=>
  rw[hW] at hw
  obtain⟨rfl,rfl⟩:=hw
  have e:({J with walk:=none}:Xh)=J:=by cases J;simp only at hW;subst hW;rfl
  have:=nT J x g w (by rw[e];exact hb) Zs
  rw[e] at this
  exact this
 |some W=>
  rw[hW] at hw
  obtain⟨g2,rfl,rfl,hb2⟩:=hw
  have e:({J with walk:=some W}:Xh)=J:=by cases J;simp only at hW;subst hW;rfl
  have:=nR J W x g g2 w (by rw[e];exact hb) hb2 hn
  rw[e] at this
  exact this
def zL (gi:Nat) (I I':Xh):GF:=⟨fun i w F=>if i = 0 then ∃ Fl,JX w gi I Fl∧∀ b,F b↔b∈Fl else ∃ F1,JX w gi I' (gi :: F1)∧∀ b,F b↔b∈gi :: F1,fun i w w' F h hs=>by
 split at h
 ·rename_i h0;obtain⟨Fl,h1,h2⟩:=h;rw[if_pos h0];exact⟨Fl,h1.same λb hb=>hs b ((h2 b).2 hb),h2⟩
 ·rename_i h0;obtain⟨Fl,h1,h2⟩:=h;rw[if_neg h0];exact⟨Fl,h1.same λb hb=>hs b ((h2 b).2 hb),h2⟩⟩
theorem RE{Φ:GF}{j:Nat}{F:Nat->Prop}{Fl:List Nat}{w w':World}(hc:Ak Fl w w')(hF:∀b,b∈Fl->F b)(hfin:∃F':Nat->Prop,Φ.P j w' F'/\(∀b,F' b->F b\/w.heap.size<=b)/\∀b,F' b->b<w'.heap.size):EH Φ j F none w w':=
 ⟨hc.os,hc.tape,hc.output,hc.size,λb hb _ hf=>hc.Ax b hb λhm=>hf (hF b hm),hfin⟩
theorem DB{J:Xa}{n:Int}(h:J.pc=n):({J with pc:=n}:Xa)=J:=by subst h;rfl
theorem Mi{J:Xa}{n k:Int}(h:J.pc=n)(h1:J.op.kind=k):({J with pc:=n,op:={J.op with kind:=k}}:Xa)=J:=by subst h;subst h1;rfl
theorem YS{J:Xa}{n:Int}{o:Option Xm}(h:J.pc=n)(h1:J.walk=o):({J with pc:=n,walk:=o}:Xa)=J:=by subst h;subst h1;rfl
theorem xK{x:Xj}{n:Int}(h:x.word.nm=n):({x with word:={x.word with nm:=n}}:Xj)=x:=by subst h;rfl
theorem x_sl{x:Xj}{n:Int}(h:x.word.sl=n):({x with word:={x.word with sl:=n}}:Xj)=x:=by subst h;rfl
theorem xJ{x:Xj}{b:Bool}(h:x.ok=b):({x with ok:=b}:Xj)=x:=by subst h;rfl
structure xG(J:Xa):Prop where
 pc:J.pc=0\/J.pc=1\/J.pc=2\/J.pc=3\/J.pc=4\/J.pc=5\/J.pc=6\/J.pc=7\/J.pc=8\/J.pc=9\/J.pc=10\/J.pc=11\/J.pc=12\/J.pc=13\/J.pc=14\/J.pc=15
 kind:J.op.kind=6\/J.op.kind=7\/J.op.kind=8
 k0:0<=J.op.key
 k1:J.op.key<256
 w0:0<=J.wanted
 w1:J.wanted<8
 way:J.pc=2->OM J.wanted J.Am
 b0:0<=J.Am
 b1:J.Am<8
 wayc:J.pc=9\/J.pc=10->OM J.wanted J.child
 c0:0<=J.child
 c1:J.child<8
 walk:J.pc=5\/J.pc=7->∃W,J.walk=some W
 inner:J.pc=11->∃I,J.inner=some I
section
variable{J:Xa}{x:Xj}
theorem n0(h:J.pc=0):J.next x=Xa.next ({J with pc:=0}:Xa) x:=by rw[DB h]
theorem n1(h:J.pc=1):J.next x=J.sized x:=by unfold Xa.next;rw[h];rfl
theorem n2(h:J.pc=2):J.next x=J.EF x:=by unfold Xa.next;rw[h];rfl
theorem n11(h:J.pc=11):J.next x=J.Jy x:=by unfold Xa.next;rw[h];rfl
theorem n12(h:J.pc=12):J.next x=J.GV x:=by unfold Xa.next;rw[h];rfl
theorem n13(h:J.pc=13):J.next x=J.Ih x:=by unfold Xa.next;rw[h];rfl
theorem n14(h:J.pc=14):J.next x=J.DD x:=by unfold Xa.next;rw[h];rfl
theorem n15(h:J.pc=15):J.next x=J.done J.answer:=by unfold Xa.next;rw[h];rfl
theorem nC(h:J.pc=3\/J.pc=4\/J.pc=5\/J.pc=6\/J.pc=7\/J.pc=8\/J.pc=9\/J.pc=10):J.next x=J.Al x:=by
 unfold Xa.next;rcases h with h|h|h|h|h|h|h|h<;>rw[h]<;>rfl
end
end Go.Proofs.YtaipogljokblkaaGreatDoor
