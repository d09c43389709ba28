/- Core: SymM, SymP, PM, PW, PL, Rfl. -/
import Derived.Test.YtaipogljokblkaaGreatDoorW05
import Derived.Test.YtaipogljokblkaaGreatDoorW01
import Derived.Test.YtaipogljokblkaaGreatDoorProg
set_option linter.all false
set_option maxRecDepth 100000
set_option maxHeartbeats 8000000
namespace Go.Proofs.YtaipogljokblkaaGreatDoor
open Go Go.RowKit
set_option linter.unusedSimpArgs false
set_option linter.unusedVariables false
set_option linter.unusedSectionVars false
structure Al(F:List Nat)(w w':World):Prop where
 os:w'.os=w.os
 tape:w'.tape=w.tape
 output:w'.output=w.output
 size:w.heap.size<=w'.heap.size
 Av:∀b,b<w.heap.size->b∉F->w'.heap[b]?=w.heap[b]?
section
variable{F G:List Nat}{w w1 w2:World}
theorem Al.refl(F:List Nat)(w:World):Al F w w:=⟨rfl,rfl,rfl,Nat.le_refl _,λ_ _ _=>rfl⟩
theorem Al.trans(h:Al F w w1)(h':Al F w1 w2):Al F w w2:=
 ⟨h'.os.trans h.os,h'.tape.trans h.tape,h'.output.trans h.output,Nat.le_trans h.size h'.size,λb hb hf=>(h'.Av b (Nat.lt_of_lt_of_le hb h.size) hf).trans (h.Av b hb hf)⟩
theorem Al.mono(h:Al F w w1)(hs:∀x∈F,x∈G\/w.heap.size<=x):Al G w w1:=
 ⟨h.os,h.tape,h.output,h.size,λb hb hg=>h.Av b hb λhf=>by rcases hs b hf with h1|h1;exact hg h1;omega⟩
theorem Al.below(h:Al [] w w1):Below w.heap.size w w1:=⟨h.os,h.tape,h.output,h.size,λb hb=>h.Av b hb Zs⟩
theorem Al.Af(h:Below w.heap.size w w1):Al F w w1:=⟨h.os,h.tape,h.output,h.size,λb hb _=>h.block b hb⟩
theorem Al.grown{g:Nat}(h:Al [g] w w1):w.grownBy w1 (some g):=⟨h.os,h.tape,h.output,h.size,λb hb hne=>h.Av b hb (by simp only[List.mem_singleton];intro e;exact hne (by rw[e]))⟩
theorem Bk.Cf{g:Nat}{t:TypeId}{cs:Array Value}(h:Bk w g t cs)(hc:Al F w w1)(hg:g∉F):Bk w1 g t cs:=h.same (hc.Av g h.lt hg)
end
def Dw(gs:List Nat)(l:Nat):Nat:=if l%2=0 then l/2 else gs.getD (l/2) 0
theorem CE(gs:List Nat)(g:Nat):Dw gs (2*g)=g:=by
 unfold Dw;rw[if_pos Zo];omega
def Io(h':Yk):Yk->List Nat
 |[]=>[]
 |x::r=>match DS x.1 h' with
  |some (t,cs)=>if t==x.2.1&&E8 SC.same x.2.2 cs then Io h' r else x.1::Io h' r
  |none=>x.1::Io h' r
theorem Rt{h':Yk}{x:Nat × TypeId × List SC}:∀{h:Yk},x∈h->x.1∈Io h' h\/(x.1,x.2.1,x.2.2)∈h'
 |[],hx=>by cases hx
 |y::r,hx=>by
  unfold Io;rcases List.mem_cons.1 hx with rfl|hx
  ·split
   ·rename_i t cs hl;split
    ·rename_i hc;simp only[Bool.and_eq_true,beq_iff_eq] at hc;right;have:=B9 hl;rw[hc.1,←Cd (λ_ _=>SC.BQ) hc.2] at this;exact this
    ·left;simp
   ·left;simp
  ·have ih:=Rt (h':=h') hx;split
   ·split
    ·exact ih
    ·exact ih.imp (λh=>List.mem_cons_of_mem _ h) id
   ·exact ih.imp (λh=>List.mem_cons_of_mem _ h) id
section
variable{P:Program}{e:Env}{S:List Xu}
structure Hf(e:Env)(k:Nat->Nat)(hp:Yk)(w:World)(v:SV)(hp':Yk)(en:Ending)(w':World)(k':Nat->Nat):Prop where
 ret:en=.returned (v.den e k')
 blk:∀x∈hp',Bk w' (k' x.1) x.2.1 (Ym e k' x.2.2)
 ext:∀l∈Yi hp,k' l=k l
 even:∀g,k' (2*g)=g
 new:∀x∈hp',x.1∈Yi hp\/w.heap.size<=k' x.1
 inj:∀x∈hp',∀y∈hp',k' x.1=k' y.1->x.1=y.1
 Cf:Al ((Io hp' hp).map k) w w'
structure CG(F:Nat->Prop)(w w':World):Prop where
 os:w'.os=w.os
 tape:w'.tape=w.tape
 output:w'.output=w.output
 size:w.heap.size<=w'.heap.size
 Av:∀b,b<w.heap.size->¬F b->w'.heap[b]?=w.heap[b]?
structure LV(e:Env)(Φ:GL)(F:Nat->Prop)(k:Nat->Nat)(hp:Yk)(w:World)(v:SV)(ph:Nat)(hp':Yk)(en:Ending)(w':World)(k':Nat->Nat):Prop where
 ret:en=.returned (v.den e k')
 blk:∀x∈hp',Bk w' (k' x.1) x.2.1 (Ym e k' x.2.2)
 ext:∀l∈Yi hp,k' l=k l
 even:∀g,k' (2*g)=g
 new:∀x∈hp',x.1∈Yi hp\/w.heap.size<=k' x.1
 inj:∀x∈hp',∀y∈hp',k' x.1=k' y.1->x.1=y.1
 Cf:CG (λb=>b∈(Io hp' hp).map k\/F b) w w'
 fin:∃F':Nat->Prop,Φ.P ph w' F'/\(∀x∈hp',¬F' (k' x.1))/\(∀b,F' b->b<w'.heap.size)/\∀b,F' b->F b\/w.heap.size<=b
theorem Og{Φ:GL}(hm:P.follows .mixedOrders=true)(hS:Dv P e Φ S){n f:Nat}{args:List SV}{st st':St}{x:Ex}{v:SV}(h:(exec P S n (.call f args) st).B8 e=some (x,v,st'))(hasm:AV e st.BY)
  {k:Nat->Nat}{w:World}(Gn:∀g,k (2*g)=g)(blocks:∀x∈st.hp,Bk w (k x.1) x.2.1 (Ym e k x.2.2))(closed:QO (Yi st.hp) st.hp=true)(cargs:args.all (Jc (Yi st.hp))=true)
  (inj:∀x∈st.hp,∀y∈st.hp,k x.1=k y.1->x.1=y.1){args':Array Value}(ha:args'=(args.map (SV.den e k)).toArray)
  {F:Nat->Prop}(f1:Φ.P st.ph w F)(f2:∀x∈st.hp,¬F (k x.1))(f3:∀b,F b->b<w.heap.size)(hnf:¬f=Dy:=by decide):
  Calls P f args' w λen w'=>∃k',LV e Φ F k st.hp w v st'.ph st'.hp en w' k':=by
 have al:∀ β,Gu k st.hp β→Alike (Yi st.hp) β k:=fun β hβ=>⟨hβ.1,Gn,fun l hl=>by
  obtain⟨x,hx,rfl⟩:=Bd.1 hl;exact hβ.2 x hx⟩
 have H:Cp e ⟨Yi st.hp,k,w,F,Φ⟩ k st.ph st.hp w:=by
  refine⟨Gn,λβ hβ x hx=>?_,inj,λ_ _=>rfl,λx hx=>Or.inl (Bd.2 ⟨x,hx,rfl⟩),λl hl=>Bd.1 hl,rfl,rfl,rfl,Nat.le_refl _,λ_ _ _ _=>rfl,F,f1,f2,f3,λ_ hb=>Or.inl hb⟩;rw[hβ.2 x hx,EE (al β hβ) (Lp closed x hx)];exact blocks x hx
 have hsel:(Ru P S n f args st).B8 e=some (v,st'):=by
  unfold Ru;rw[BG,h];rfl
 have hen:=(Pa hm hS n).2.2 f args st v st' hsel k w F H hasm args' (fun β hβ=>by
  rw[ha];congr 1;exact List.map_congr_left λu hu=>(FB (al β hβ) (List.all_eq_true.1 cargs u hu)).symm)
 unfold AL at hen
 rw[if_neg hnf] at hen
 obtain⟨_,hcalls⟩:=hen
 refine hcalls.mono λen w' hpost=>?_
 obtain⟨k',H',_,hen⟩:=hpost
 obtain⟨F',g1,g2,g3,g4⟩:=H'.oC
 refine⟨k',hen k' H'.Iq,λx hx=>H'.heap k' H'.Iq x hx,H'.ext,H'.Gn,H'.new,H'.inj,⟨H'.os,H'.tape,H'.output,H'.size,λb hb hf=>?_⟩,F',g1,g2,g3,g4⟩
 by_cases hbl:∃l∈Yi st.hp,k l=b
 ·obtain⟨l,hl,rfl⟩:=hbl;obtain⟨x,hx,rfl⟩:=Bd.1 hl;rcases Rt (h':=st'.hp) hx with h1|h1
  ·exact absurd (Or.inl (List.mem_map.2 ⟨_,h1,rfl⟩)) hf
  ·have h2:=H'.heap k' H'.Iq _ h1;have h3:=blocks x hx;have e1:k' x.1=k x.1:=H'.ext x.1 hl;simp only at h2;have Nw:Alike (Yi st.hp) k' k:=⟨H'.Gn,Gn,λl hl=>H'.ext l hl⟩;rw[e1,EE Nw (Lp closed x hx)] at h2;unfold Bk at h2 h3;rw[h2,h3]
 ·exact H'.Va b hb (λl hl he=>hbl ⟨l,hl,he⟩) λhf'=>hf (Or.inr hf')
theorem Ww(hm:P.follows .mixedOrders=true)(hS:El P e S){n f:Nat}{args:List SV}{st st':St}{x:Ex}{v:SV}(h:(exec P S n (.call f args) st).B8 e=some (x,v,st'))(hasm:AV e st.BY)
  {k:Nat->Nat}{w:World}(Gn:∀g,k (2*g)=g)(blocks:∀x∈st.hp,Bk w (k x.1) x.2.1 (Ym e k x.2.2))(closed:QO (Yi st.hp) st.hp=true)(cargs:args.all (Jc (Yi st.hp))=true)
  (inj:∀x∈st.hp,∀y∈st.hp,k x.1=k y.1->x.1=y.1){args':Array Value}(ha:args'=(args.map (SV.den e k)).toArray)(hp:Hk S=true:=by kernel_rfl)(hnf:¬f=Dy:=by decide):
  Calls P f args' w λen w'=>∃k',Hf e k st.hp w v st'.hp en w' k':=by
 refine(Og (Φ:=GL.no) hm (hS.vR hp) h hasm Gn blocks closed cargs inj ha (F:=λ_=>False) (λ_ h=>h) (λ_ _ h=>h) (λ_ h=>h.elim) hnf).mono λen w' hx=>?_
 obtain⟨k',q⟩:=hx
 exact⟨k',q.ret,q.blk,q.ext,q.even,q.new,q.inj,⟨q.Cf.os,q.Cf.tape,q.Cf.output,q.Cf.size,λb hb hf=>q.Cf.Av b hb λh=>by rcases h with h|h;exact hf h;exact h⟩⟩
theorem Hb{e:Env}{s:FV}(h:s=[]):AV e s:=by subst h;intro p hp;cases hp
end
theorem Hq{e:Env}{k:Nat->Nat}{hp:Yk}{w:World}{v:SV}{hp':Yk}{en:Ending}{w':World}{k':Nat->Nat}(h:Hf e k hp w v hp' en w' k'){l:Nat}{t:TypeId}{cs:List SC}(hm:(l,t,cs)∈hp'){g:Nat}(e1:k' l=g){row:Array Value}(hc:Ym e k' cs=row):Bk w' g t row:=by
 have:=h.blk _ hm;simp only at this;rw[e1,hc] at this;exact this
def vs(k n:Nat):List SC:=(List.range n).map λi=>.int (.var (k+i))
def zs(n:Nat):List SC:=List.replicate n (.int (.lit 0))
def pt(b:List SC):List (Nat × List SC)->List SC
 |[]=>b
 |p::r=>pt (splice b p.1 p.2) r
def CY(t:Xz (Ex × SV × St)):Xz (SV × Yk):=t.bind λr=>.leaf (r.2.1,r.2.2.hp)
theorem fY{e:Env}{t:Xz (Ex × SV × St)}{v:SV}{h:Yk}(hs:(CY t).B8 e=some (v,h)):∃x s,t.B8 e=some (x,v,s)/\s.hp=h:=by
 unfold CY at hs;rw[BG] at hs;obtain⟨⟨x,u,s⟩,h1,h2⟩:=Option.bind_eq_some_iff.1 hs;simp only[Xz.B8,Option.some.injEq,Prod.mk.injEq] at h2;obtain⟨rfl,rfl⟩:=h2;exact⟨x,s,h1,rfl⟩
def QK(t:Xz (Ex × SV × St)):Xz (SV × Nat × Yk):=t.bind λr=>.leaf (r.2.1,r.2.2.ph,r.2.2.hp)
theorem fZ{e:Env}{t:Xz (Ex × SV × St)}{v:SV}{ph:Nat}{h:Yk}(hs:(QK t).B8 e=some (v,ph,h)):∃x s,t.B8 e=some (x,v,s)/\s.ph=ph/\s.hp=h:=by
 unfold QK at hs;rw[BG] at hs;obtain⟨⟨x,u,s⟩,h1,h2⟩:=Option.bind_eq_some_iff.1 hs;simp only[Xz.B8,Option.some.injEq,Prod.mk.injEq] at h2;obtain⟨rfl,rfl,rfl⟩:=h2;exact⟨x,s,h1,rfl,rfl⟩
theorem Q8{P:Program}{e:Env}{Φ:GL}{S:List Xu}(hm:P.follows .mixedOrders=true)(hS:Dv P e Φ S){n f:Nat}{args:List SV}{st:St}{v:SV}{ph:Nat}{hp':Yk}(h:(QK (exec P S n (.call f args) st)).B8 e=some (v,ph,hp'))(hasm:AV e st.BY)
  {k:Nat->Nat}{w:World}(Gn:∀g,k (2*g)=g)(blocks:∀x∈st.hp,Bk w (k x.1) x.2.1 (Ym e k x.2.2))(closed:QO (Yi st.hp) st.hp=true)(cargs:args.all (Jc (Yi st.hp))=true)
  (inj:∀x∈st.hp,∀y∈st.hp,k x.1=k y.1->x.1=y.1){args':Array Value}(ha:args'=(args.map (SV.den e k)).toArray)
  {F:Nat->Prop}(f1:Φ.P st.ph w F)(f2:∀x∈st.hp,¬F (k x.1))(f3:∀b,F b->b<w.heap.size)(hnf:¬f=Dy:=by decide):
  Calls P f args' w λen w'=>∃k',LV e Φ F k st.hp w v ph hp' en w' k':=by
 obtain⟨x,s,h1,rfl,rfl⟩:=fZ h
 exact Og hm hS h1 hasm Gn blocks closed cargs inj ha f1 f2 f3 hnf
theorem Cy{P:Program}{e:Env}{S:List Xu}(hm:P.follows .mixedOrders=true)(hS:El P e S){n f:Nat}{args:List SV}{st:St}{v:SV}{hp':Yk}(h:(CY (exec P S n (.call f args) st)).B8 e=some (v,hp'))(hasm:AV e st.BY)
  {k:Nat->Nat}{w:World}(Gn:∀g,k (2*g)=g)(blocks:∀x∈st.hp,Bk w (k x.1) x.2.1 (Ym e k x.2.2))(closed:QO (Yi st.hp) st.hp=true)(cargs:args.all (Jc (Yi st.hp))=true)
  (inj:∀x∈st.hp,∀y∈st.hp,k x.1=k y.1->x.1=y.1){args':Array Value}(ha:args'=(args.map (SV.den e k)).toArray)(hpl:Hk S=true:=by kernel_rfl)(hnf:¬f=Dy:=by decide):
  Calls P f args' w λen w'=>∃k',Hf e k st.hp w v hp' en w' k':=by
 obtain⟨x,s,h1,rfl⟩:=fY h
 exact Ww hm hS h1 hasm Gn blocks closed cargs inj ha hpl hnf
theorem Xt{P:Program}{e:Env}:El P e []:=λ_ h=>by cases h
theorem CJ{P:Program}{f:Nat}{fn:Func}(hf:P.funcs[f]?=some fn)(hn:(fn.name== "runtime.NumGoroutine")=false)(hb:fn.body.isNone=false)(args:Array Value)(w:World):(callFunc f args).run P w=.ok (.enter f args) w:=by
 unfold callFunc;simp only[Sem.run_bind,run_program,Result.andThen_ok,hf];rw[if_neg (by simp[hn]),if_neg (by simp[hb])];rfl
theorem Dc{e:Env}{b:BT}{v:Bool}{s:FV}(h:b.den e=v)(hs:AV e s):AV e ((b,v)::s):=by
 intro p hp;rcases List.mem_cons.1 hp with rfl|hp
 ·exact h
 ·exact hs p hp
theorem Yu{w:World}{g:Nat}{t:TypeId}{cs cs':Array Value}(h:Bk w g t cs)(e:cs=cs'):Bk w g t cs':=e▸h
theorem Gd{gs F ls ls':List Nat}{w w':World}(h:Al (ls'.map (Dw gs)) w w')(e:ls'=ls)(hs:∀l∈ls,Dw gs l∈F):Al F w w':=by
 subst e;exact h.mono λx hx=>by obtain⟨l,hl,rfl⟩:=List.mem_map.1 hx;exact Or.inl (hs l hl)
theorem zY{h:Yk}(gs:List Nat)(hn:(h.map λx=>Dw gs x.1).Nodup)(x y:Nat × TypeId × List SC)(hx:x∈h)(hy:y∈h)(hxy:Dw gs x.1=Dw gs y.1):x.1=y.1:=by
 induction h with
 |nil=>cases hx
 |cons z r ih=>
  simp only[List.map_cons,List.nodup_cons,List.mem_map,not_exists,not_and] at hn;rcases List.mem_cons.1 hx with h1|h1<;>rcases List.mem_cons.1 hy with h2|h2
  ·rw[h1,h2]
  ·rw[h1] at hxy;exact absurd hxy.symm (hn.1 y h2)
  ·rw[h2] at hxy;exact absurd hxy (hn.1 x h1)
  ·exact ih hn.2 h1 h2
def Rep2(Sub:World->Value->List Nat->Prop)(T:TypeId)(JL:Value->List Value)(w:World)(g:Nat)(F:List Nat):Prop:=
 (∃q F1,F=g::F1/\Bk w g T (JL q).toArray/\Sub w q F1)/\F.Nodup
def FU(Sub:World->Value->List Nat->Prop)(T:TypeId)(JL:Value->List Value)(V:Value)(g:Nat)(F:List Nat)(w:World)(en:Ending)(w':World):Prop:=
 ∃F',en=.returned V/\Rep2 Sub T JL w' g F'/\(∀b∈F',b∈F\/w.heap.size<=b)/\Al F w w'
section
variable{e:Env}{gs F:List Nat}{hp hp':Yk}{w w':World}{v:SV}{en:Ending}{k':Nat->Nat}{Sub:World->Value->List Nat->Prop}{T T2:TypeId}{JL:Value->List Value}{V:Value}{g:Nat}{c1 c2:List SC}{ls:List Nat}
theorem vK(h:Hf e (Dw gs) hp w v hp' en w' k')(l1:Fs 1 (Yi hp)=true)(hg:Dw gs 1=g)(m1:(1,T,c1)∈hp')(ec:Ym e k' c1=(JL (.pointer none)).toArray)(hv:v.den e k'=V)
  (hch:Io hp' hp=ls)(hF:∀l∈ls,Dw gs l∈F)(gF:g∈F)(hsub:Sub w' (.pointer none) []):FU Sub T JL V g F w en w':=
 ⟨[g],h.ret.trans (by rw[hv]),⟨⟨_,[],rfl,Hq h m1 ((h.ext 1 (B5.1 l1)).trans hg) ec,hsub⟩,by simp⟩,λb hb=>by rw[List.mem_singleton.1 hb];exact Or.inl gF,Gd h.Cf hch hF⟩
theorem vJ(h:Hf e (Dw gs) hp w v hp' en w' k')(l1:Fs 1 (Yi hp)=true)(hg:Dw gs 1=g)(m1:(1,T,c1)∈hp')(l2:Nat)(m2:(l2,T2,c2)∈hp')(hne:(l2==1)=false)(ec:Ym e k' c1=(JL (.pointer (some ⟨k' l2,0,none⟩))).toArray)(hv:v.den e k'=V)
  (hch:Io hp' hp=ls)(hF:∀l∈ls,Dw gs l∈F)(gF:g∈F)(hl2:Fs l2 (Yi hp)=true->Dw gs l2∈F)(hsub:Bk w' (k' l2) T2 (Ym e k' c2)->Sub w' (.pointer (some ⟨k' l2,0,none⟩)) [k' l2]):FU Sub T JL V g F w en w':=by
 have e1:=(h.ext 1 (B5.1 l1)).trans hg
 have hn:¬(g=k' l2):=λhe=>by
  have:=h.inj _ m1 _ m2 (e1.trans he);simp only at this;rw[←this] at hne;simp at hne
 refine⟨[g,k' l2],h.ret.trans (by rw[hv]),⟨⟨_,_,rfl,Hq h m1 e1 ec,hsub (Hq h m2 rfl rfl)⟩,by simp[hn]⟩,λb hb=>?_,Gd h.Cf hch hF⟩
 rcases List.mem_cons.1 hb with rfl|hb
 ·exact Or.inl gF
 ·rw[List.mem_singleton.1 hb];rcases h.new _ m2 with h1|h1
  ·left;rw[h.ext _ h1];exact hl2 (B5.2 h1)
  ·exact Or.inr h1
end
theorem mixed:Tryz.prog.follows .mixedOrders=true:=Zk
structure Xd where
 sl:Int
 gn:Int
 tg:Int
 nm:Int
 mark:Bool
 deriving DecidableEq
def Xd.l(x:Xd):List Value:=[.int .i64 x.sl]++[.int .i64 x.gn]++[.int .i64 x.tg]++[.int .i64 x.nm]++[.bool x.mark]
def Xd.zero:Xd:=⟨0,0,0,0,false⟩
structure Yj where
 sl:Int
 gn:Int
 fd:Int
 deriving DecidableEq
def Yj.l(x:Yj):List Value:=[.int .i64 x.sl]++[.int .i64 x.gn]++[.int .i64 x.fd]
def Yj.zero:Yj:=⟨0,0,0⟩
structure DQ where
 code:Int
 val:Int
 deriving DecidableEq
def DQ.l(x:DQ):List Value:=[.int .i64 x.code]++[.int .i64 x.val]
def DQ.zero:DQ:=⟨0,0⟩
structure Bl where
 kind:Int
 key:Int
 val:Int
 Aj:Int
 deriving DecidableEq
def Bl.l(x:Bl):List Value:=[.int .i64 x.kind]++[.int .i64 x.key]++[.int .i64 x.val]++[.int .i64 x.Aj]
def Bl.zero:Bl:=⟨0,0,0,0⟩
structure Xf where
 kind:Int
 A2:Yj
 A1:Xd
 new:Xd
 i:Int
 j:Int
 BR:DQ
 deriving DecidableEq
def Xf.l(x:Xf):List Value:=[.int .i64 x.kind]++x.A2.l++x.A1.l++x.new.l++[.int .i64 x.i]++[.int .i64 x.j]++x.BR.l
def Xf.zero:Xf:=⟨0,Yj.zero,Xd.zero,Xd.zero,0,0,DQ.zero⟩
structure Xj where
 word:Xd
 ok:Bool
 deriving DecidableEq
def Xj.l(x:Xj):List Value:=x.word.l++[.bool x.ok]
def Xj.zero:Xj:=⟨Xd.zero,false⟩
structure Bo where
 kind:Int
 A2:Yj
 A1:Xd
 new:Xd
 deriving DecidableEq
def Bo.l(x:Bo):List Value:=[.int .i64 x.kind]++x.A2.l++x.A1.l++x.new.l
def Bo.zero:Bo:=⟨0,Yj.zero,Xd.zero,Xd.zero⟩
structure AN where
 is:Bool
 low:Int
 IC:Int
 deriving DecidableEq
def AN.l(x:AN):List Value:=[.bool x.is]++[.int .i64 x.low]++[.int .i64 x.IC]
def AN.zero:AN:=⟨false,0,0⟩
structure Xn where
 ref:Xd
 A8:Int
 Db:Int
 deriving DecidableEq
def Xn.l(x:Xn):List Value:=x.ref.l++[.int .i64 x.A8]++[.int .i64 x.Db]
def Xn.zero:Xn:=⟨Xd.zero,0,0⟩
structure Xq where
 pc:Int
 last:Xf
 start:Yj
 key:Int
 prev:Yj
 Ay:Xd
 next:Xd
 k:Int
 found:Bool
 deriving DecidableEq
def Xq.l(x:Xq):List Value:=[.int .i64 x.pc]++x.last.l++x.start.l++[.int .i64 x.key]++x.prev.l++x.Ay.l++x.next.l++[.int .i64 x.k]++[.bool x.found]
def Xq.zero:Xq:=⟨0,Xf.zero,Yj.zero,0,Yj.zero,Xd.zero,Xd.zero,0,false⟩
structure B7 where
 prev:Yj
 Ay:Xd
 deriving DecidableEq
def B7.l(x:B7):List Value:=x.prev.l++x.Ay.l
def B7.zero:B7:=⟨Yj.zero,Xd.zero⟩
structure Xe where
 pc:Int
 last:Xf
 spot:B7
 Ha:Int
 level:Int
 next:Xd
 k:Int
 s0:B7
 s1:B7
 s2:B7
 found:Xd
 deriving DecidableEq
def Xe.l(x:Xe):List Value:=[.int .i64 x.pc]++x.last.l++x.spot.l++[.int .i64 x.Ha]++[.int .i64 x.level]++x.next.l++[.int .i64 x.k]++x.s0.l++x.s1.l++x.s2.l++x.found.l
def Xe.zero:Xe:=⟨0,Xf.zero,B7.zero,0,0,Xd.zero,0,B7.zero,B7.zero,B7.zero,Xd.zero⟩
structure X6 where
 pc:Int
 last:Xf
 op:Bl
 node:Xd
 By:Xd
 val:Int
 deriving DecidableEq
def X6.l(x:X6):List Value:=[.int .i64 x.pc]++x.last.l++x.op.l++x.node.l++x.By.l++[.int .i64 x.val]
def X6.zero:X6:=⟨0,Xf.zero,Bl.zero,Xd.zero,Xd.zero,0⟩
structure Yd where
 pc:Int
 last:Xf
 op:Bl
 node:Xd
 h:Xd
 t:Xd
 n:Xd
 val:Int
 deriving DecidableEq
def Yd.l(x:Yd):List Value:=[.int .i64 x.pc]++x.last.l++x.op.l++x.node.l++x.h.l++x.t.l++x.n.l++[.int .i64 x.val]
def Yd.zero:Yd:=⟨0,Xf.zero,Bl.zero,Xd.zero,Xd.zero,Xd.zero,Xd.zero,0⟩
structure Xi where
 pc:Int
 last:Xf
 start:Yj
 key:Int
 op:Bl
 walk:Option Xq
 node:Xd
 val:Int
 deriving DecidableEq
def Xi.l(x:Xi)(p_walk:Value):List Value:=[.int .i64 x.pc]++x.last.l++x.start.l++[.int .i64 x.key]++x.op.l++[p_walk]++x.node.l++[.int .i64 x.val]
def Xi.zero:Xi:=⟨0,Xf.zero,Yj.zero,0,Bl.zero,none,Xd.zero,0⟩
structure Xc where
 pc:Int
 last:Xf
 op:Bl
 Ab:Option Xe
 node:Xd
 level:Int
 Kf:Int
 val:Int
 deriving DecidableEq
def Xc.l(x:Xc)(p_climb:Value):List Value:=[.int .i64 x.pc]++x.last.l++x.op.l++[p_climb]++x.node.l++[.int .i64 x.level]++[.int .i64 x.Kf]++[.int .i64 x.val]
def Xc.zero:Xc:=⟨0,Xf.zero,Bl.zero,none,Xd.zero,0,0,0⟩
structure Xa where
 pc:Int
 last:Xf
 op:Bl
 size:Int
 wanted:Int
 Ai:Int
 child:Int
 base:Xd
 node:Xd
 sentinel:Xd
 walk:Option Xq
 inner:Option Xi
 answer:DQ
 count:Xd
 deriving DecidableEq
def Xa.l(x:Xa)(p_walk:Value)(p_inner:Value):List Value:=[.int .i64 x.pc]++x.last.l++x.op.l++[.int .i64 x.size]++[.int .i64 x.wanted]++[.int .i64 x.Ai]++[.int .i64 x.child]++x.base.l++x.node.l++x.sentinel.l++[p_walk]++[p_inner]++x.answer.l++x.count.l
def Xa.zero:Xa:=⟨0,Xf.zero,Bl.zero,0,0,0,0,Xd.zero,Xd.zero,Xd.zero,none,none,DQ.zero,Xd.zero⟩
abbrev wr(n:Int):Int:=IntKind.i64.wrap n
def AF(w:Xd):Xd:=⟨w.sl,w.gn,0,0,false⟩
def BC(w r:Xd):Xd:=⟨r.sl,r.gn,wr (w.tg+1),0,false⟩
def Bg(w:Xd):Xd:=⟨w.sl,w.gn,wr (w.tg+1),w.nm,true⟩
def Y5(n:Int):Xd:=⟨0,0,0,n,false⟩
def Cx(w:Xd)(Kf:Int):Xd:=⟨0,0,wr (w.tg+1),wr (w.nm+Kf),false⟩
def Xg(w:Xd)(n:Int):Yj:=⟨w.sl,w.gn,n⟩
def AE(a b:Xd):Bool:=a.sl==b.sl&&(a.tg==b.tg&&(a.nm==b.nm&&a.mark==b.mark))
def root(n:Int):Yj:=⟨0,0,n⟩
def X8(a:Yj):Xf:=⟨3,a,.zero,.zero,0,0,.zero⟩
def Yf(a:Yj)(w:Xd):Xf:=⟨4,a,.zero,w,0,0,.zero⟩
def Xx(a:Yj)(o n:Xd):Xf:=⟨5,a,o,n,0,0,.zero⟩
def X9(a:Yj)(i:Int):Xf:=⟨6,a,.zero,.zero,i,0,.zero⟩
def GZ(i j:Int):Xf:=⟨7,.zero,.zero,.zero,i,j,.zero⟩
def AK:Xf:=⟨8,.zero,.zero,.zero,0,0,.zero⟩
def GG(w:Xd):Xf:=⟨9,.zero,w,.zero,0,0,.zero⟩
def AU(w:Xd):Xf:=⟨10,.zero,w,.zero,0,0,.zero⟩
def FR(code val:Int):Xf:=⟨12,.zero,.zero,.zero,0,0,⟨code,val⟩⟩
def Yn(c:Xf):Value:=.agg c.l.toArray
def I1(c:Xf × Bool):Value:=.tuple #[.agg c.1.l.toArray,.bool c.2]
namespace Xq
def new(start:Yj)(key:Int):Xq:={Xq.zero with start:=start,key:=key,prev:=start}
def again(W:Xq):Xq × Xf × Bool:=({W with prev:=W.start,pc:=1},X9 W.start 1,true)
def behind(W:Xq):Xq × Xf × Bool:=({W with pc:=2},X9 (Xg W.Ay 2) 0,true)
def finish(W:Xq)(b:Bool):Xq × Xf × Bool:=({W with pc:=-1,found:=b},Xf.zero,false)
def on(W:Xq):Xq × Xf × Bool:=if W.Ay.sl==0 then W.finish false else({W with pc:=8},GZ 1 0,true)
def step(W:Xq)(x:Xj):Xq × Xf × Bool:=
 if W.pc==1 then
  if x.word.mark then W.again else
  let W:={W with Ay:=x.word}
  if x.word.sl==0 then W.finish false else W.behind
 else if W.pc==2 then({W with next:=x.word,pc:=3},X8 (Xg W.Ay 0),true)
 else if W.pc==3 then({W with k:=x.word.nm,pc:=4},X8 W.prev,true)
 else if W.pc==4 then
  if !AE x.word W.Ay then W.again else
  if W.next.mark then({W with pc:=5},Xx W.prev W.Ay (BC W.Ay W.next),true) else
  if decide (W.key<=W.k) then W.finish (W.k==W.key) else
  ({W with prev:=Xg W.Ay 2,pc:=7},GZ 2 1,true)
 else if W.pc==5 then
  if x.ok then({W with pc:=6},AU W.Ay,true) else W.again
 else if W.pc==0 then W.again
 else if W.pc==6 then Xq.on {W with Ay:=BC W.Ay W.next}
 else if W.pc==7 then Xq.on {W with Ay:=W.next}
 else if W.pc==8 then W.behind
 else(W,Xf.zero,false)
end Xq
namespace Xe
def new(Ha:Int):Xe:={Xe.zero with Ha:=Ha}
def getS(C:Xe)(l:Int):B7:=if l==0 then C.s0 else if l==1 then C.s1 else C.s2
def DY(C:Xe)(l:Int)(s:B7):Xe:=if l==0 then{C with s0:=s} else if l==1 then{C with s1:=s} else{C with s2:=s}
def enter(C:Xe):Xe × Xf × Bool:=({C with pc:=2},X9 C.spot.prev (3*C.level+1),true)
def again(C:Xe):Xe × Xf × Bool:=Xe.enter {C with level:=2,spot:={C.spot with prev:=root 2}}
def behind(C:Xe):Xe × Xf × Bool:=({C with pc:=3},X9 (Xg C.spot.Ay (2+C.level)) (3*C.level),true)
def lower(C:Xe):Xe × Xf × Bool:=
 let C:=C.DY C.level C.spot
 if C.level==0 then
  let C:={C with pc:=-1}
  if !(C.spot.Ay.sl==0)&&C.k==C.Ha then({C with found:=AF C.spot.Ay},Xf.zero,false) else(C,Xf.zero,false)
 else
  let C:={C with level:=C.level-1}
  if C.spot.prev.sl==0 then Xe.enter {C with spot:={C.spot with prev:=root C.level}} else
  ({C with spot:={C.spot with prev:={C.spot.prev with fd:=2+C.level}},pc:=9},GZ (3*C.level+2) (3*C.level+5),true)
def on(C:Xe):Xe × Xf × Bool:=
 if C.spot.Ay.sl==0 then C.lower else({C with pc:=8},GZ (3*C.level+1) (3*C.level),true)
def step(C:Xe)(x:Xj):Xe × Xf × Bool:=
 if C.pc==2 then
  if x.word.mark then C.again else
  let C:={C with spot:={C.spot with Ay:=x.word}}
  if x.word.sl==0 then C.lower else C.behind
 else if C.pc==3 then({C with next:=x.word,pc:=4},X8 (Xg C.spot.Ay 0),true)
 else if C.pc==4 then({C with k:=x.word.nm,pc:=5},X8 C.spot.prev,true)
 else if C.pc==5 then
  if !AE x.word C.spot.Ay then C.again else
  if C.next.mark then({C with pc:=6},Xx C.spot.prev C.spot.Ay (BC C.spot.Ay C.next),true) else
  if decide (C.Ha<=C.k) then C.lower else
  ({C with spot:={C.spot with prev:=Xg C.spot.Ay (2+C.level)},pc:=7},GZ (3*C.level+2) (3*C.level+1),true)
 else if C.pc==6 then
  if x.ok then Xe.on {C with spot:={C.spot with Ay:=BC C.spot.Ay C.next}} else C.again
 else if C.pc==0 then C.again
 else if C.pc==7 then Xe.on {C with spot:={C.spot with Ay:=C.next}}
 else if C.pc==8 then C.behind
 else if C.pc==9 then C.enter
 else(C,Xf.zero,false)
end Xe
def CT(o:Option Xq)(x:Xj):Option Xq × Xf × Bool:=
 match o with
 |none=>(none,Xf.zero,false)
 |some W=>(some (W.step x).1,(W.step x).2.1,(W.step x).2.2)
def IV(o:Option Xq):Bool:=match o with|none=>false|some W=>W.found
def BF(o:Option Xq):Yj:=match o with|none=>Yj.zero|some W=>W.prev
def Xs(o:Option Xq):Xd:=match o with|none=>Xd.zero|some W=>W.Ay
def Cm(o:Option Xq):Xd:=match o with|none=>Xd.zero|some W=>W.next
namespace Xi
def from_(start:Yj)(key:Int)(op:Bl):Xi:={Xi.zero with start:=start,key:=key,op:=op}
def done(J:Xi)(code val:Int):Xi × Xf:=({J with pc:=-1,last:=FR code val},FR code val)
def An(J:Xi)(step:Int):Xi:={J with walk:=some (Xq.new J.start J.key),pc:=step}
def BK(J:Xi)(x:Xj):Xi × Xf:=
 let r:=CT J.walk x
 let J:={J with walk:=r.1}
 if r.2.2 then(J,r.2.1) else
 if IV J.walk then({J with pc:=5},GG J.node) else
 ({J with pc:=6},Yf (Xg J.node 2) (AF (Xs J.walk)))
def insert(J:Xi)(x:Xj):Xi × Xf:=
 if J.pc==0 then({J with pc:=1},AK)
 else if J.pc==1 then
  if !x.ok then J.done 4 0 else({J with node:=x.word,pc:=2},Yf (Xg x.word 0) (Y5 J.key))
 else if J.pc==2 then({J with pc:=3},Yf (Xg J.node 1) (Y5 J.op.val))
 else if J.pc==7 then
  if x.ok then J.done 1 0 else(J.An 4).BK x
 else if J.pc==3 then(J.An 4).BK x
 else if J.pc==4 then J.BK x
 else if J.pc==5 then J.done 3 0
 else if J.pc==6 then({J with pc:=7},Xx (BF J.walk) (Xs J.walk) (BC (Xs J.walk) J.node))
 else(J,J.last)
def AT(J:Xi)(x:Xj):Xi × Xf:=
 let r:=CT J.walk x
 let J:={J with walk:=r.1}
 if r.2.2 then(J,r.2.1) else
 if !IV J.walk then J.done 2 0 else
 ({J with pc:=2},X8 (Xg (Xs J.walk) 1))
def BI(J:Xi)(x:Xj):Xi × Xf:=
 let r:=CT J.walk x
 let J:={J with walk:=r.1}
 if r.2.2 then(J,r.2.1) else J.done 1 J.val
def Am(J:Xi)(x:Xj):Xi × Xf:=
 if J.pc==3 then
  if x.ok then({J with pc:=4},Xx (BF J.walk) (Xs J.walk) (BC (Xs J.walk) (Cm J.walk))) else(J.An 1).AT x
 else if J.pc==0 then(J.An 1).AT x
 else if J.pc==1 then J.AT x
 else if J.pc==2 then({J with val:=x.word.nm,pc:=3},Xx (Xg (Xs J.walk) 2) (Cm J.walk) (Bg (Cm J.walk)))
 else if J.pc==4 then
  if x.ok then({J with pc:=5},AU (Xs J.walk)) else(J.An 6).BI x
 else if J.pc==6 then J.BI x
 else if J.pc==5 then J.done 1 J.val
 else(J,J.last)
def get(J:Xi)(x:Xj):Xi × Xf:=
 if J.pc==0 then(J.An 1).AT x
 else if J.pc==1 then J.AT x
 else if J.pc==2 then J.done 1 x.word.nm
 else(J,J.last)
def next(J:Xi)(x:Xj):Xi × Xf:=
 if J.op.kind==6 then J.insert x
 else if J.op.kind==7 then J.Am x
 else J.get x
end Xi
def Dt(w:World)(p:Value)(W:Option Xq)(F:List Nat):Prop:=
 match W with
 |none=>p=.pointer none/\F=[]
 |some W=>∃g,p=.pointer (some ⟨g,0,none⟩)/\F=[g]/\Bk w g 261 W.l.toArray
def LitR(w:World)(g:Nat)(J:Xi)(F:List Nat):Prop:=
 ∃q F1,F=g::F1/\Bk w g 206 (J.l q).toArray/\Dt w q J.walk F1
def Km(w:World)(g:Nat)(J:Xi)(F:List Nat):Prop:=LitR w g J F/\F.Nodup
def ct(l:List (List SC)):List SC:=l.flatten
def oX(s:FV):BT->Option Bool
 |.lit b=>some b
 |.not a=>match Jv (.not a) s with
  |some v=>some v
  |none=>(oX s a).map (!·)
 |.and a b=>match Jv (.and a b) s with
  |some v=>some v
  |none=>match oX s a,oX s b with
   |some false,_=>some false
   |_,some false=>some false
   |some true,some true=>some true
   |_,_=>none
 |.or a b=>match Jv (.or a b) s with
  |some v=>some v
  |none=>match oX s a,oX s b with
   |some true,_=>some true
   |_,some true=>some true
   |some false,some false=>some false
   |_,_=>none
 |b=>Jv b s
theorem GB{e:Env}{s:FV}(hs:AV e s):∀(b:BT) (v:Bool),oX s b=some v->b.den e=v
 |.lit b,v,h=>by cases h;rfl
 |.not a,v,h=>by
  unfold oX at h;split at h
  ·rename_i u hu;cases h;exact Yy hs hu
  ·obtain⟨u,h1,h2⟩:=Option.map_eq_some_iff.1 h;show(!a.den e)=v;rw[GB hs a u h1];exact h2
 |.and a b,v,h=>by
  unfold oX at h;split at h
  ·rename_i u hu;cases h;exact Yy hs hu
  ·show(a.den e&&b.den e)=v;split at h
   ·rename_i h1;cases h;rw[GB hs a _ h1];rfl
   ·rename_i h1 _;cases h;rw[GB hs b _ h1];cases a.den e<;>rfl
   ·rename_i h1 h2;cases h;rw[GB hs a _ h1,GB hs b _ h2];rfl
   ·cases h
 |.or a b,v,h=>by
  unfold oX at h;split at h
  ·rename_i u hu;cases h;exact Yy hs hu
  ·show(a.den e||b.den e)=v;split at h
   ·rename_i h1;cases h;rw[GB hs a _ h1];rfl
   ·rename_i h1 _;cases h;rw[GB hs b _ h1];cases a.den e<;>rfl
   ·rename_i h1 h2;cases h;rw[GB hs a _ h1,GB hs b _ h2];rfl
   ·cases h
 |.var i,v,h=>Yy hs h
 |.eq a b,v,h=>Yy hs h
 |.lt a b,v,h=>Yy hs h
 |.le a b,v,h=>Yy hs h
 |.beq a b,v,h=>Yy hs h
 |.nil i,v,h=>Yy hs h
 |.gI i,v,h=>Yy hs h
section
variable{α R:Type}{e:Env}
def Xz.lv(s:FV):Xz α->List (Option α)
 |.leaf a=>[some a]
 |.fail _=>[none]
 |.br b t f=>match oX s b with
  |some true=>t.lv s
  |some false=>f.lv s
  |none=>t.lv (IM b true s)++f.lv (IM b false s)
theorem M4:∀(t:Xz α) (s:FV),AV e s->t.B8 e∈t.lv s
 |.leaf a,_,_=>by unfold Xz.lv Xz.B8;exact List.mem_cons_self ..
 |.fail _,_,_=>by unfold Xz.lv Xz.B8;exact List.mem_cons_self ..
 |.br b t f,s,hs=>by
  unfold Xz.lv Xz.B8;split
  ·rename_i hk;rw[GB hs b _ hk];exact M4 t s hs
  ·rename_i hk;rw[GB hs b _ hk];exact M4 f s hs
  ·cases hb:b.den e with
   |true=>exact List.mem_append_left _ (M4 t _ (Gq hs hb))
   |false=>exact List.mem_append_right _ (M4 f _ (Gq hs hb))
def BT.bare:BT->BT
 |.not a=>a.bare
 |b=>b
def Xz.nx(s:FV):Xz α->BT
 |.leaf _=>.lit true
 |.fail _=>.lit true
 |.br b t f=>match oX s b with
  |some true=>t.nx s
  |some false=>f.nx s
  |none=>b.bare
def PO(t:Xz α)(e:Env)(Q:α->R->Prop)(s:FV)(r:R):Prop:=AV e s->∃a,t.B8 e=some a/\Q a r
variable{t:Xz α}{Q:α->R->Prop}{s:FV}{a b p q:R}{c d:Bool}
theorem po_br(hc:(t.nx s).den e=c)(h1:PO t e Q (IM (t.nx s) true s) a)(h2:PO t e Q (IM (t.nx s) false s) b):PO t e Q s (bif c then a else b):=λhs=>by
 cases c with
 |true=>exact h1 (Gq hs hc)
 |false=>exact h2 (Gq hs hc)
theorem GQ(h:PO t e Q s (bif c then a else b)):PO t e Q s (bif c then a else b):=h
theorem GP(h:PO t e Q s (bif c then a else b)):PO t e Q s (if c=true then a else b):=by cases c<;>exact h
theorem zE(h:PO t e Q s (bif c then b else a)):PO t e Q s (bif !c then a else b):=by cases c<;>exact h
theorem zG(h:PO t e Q s (bif c then(bif d then a else b) else b)):PO t e Q s (bif c&&d then a else b):=by cases c<;>cases d<;>exact h
theorem po_or(h:PO t e Q s (bif c then a else(bif d then a else b))):PO t e Q s (bif c||d then a else b):=by cases c<;>cases d<;>exact h
theorem Jp(hc:c=true)(h:PO t e Q s a):PO t e Q s (bif c then a else b):=by subst hc;exact h
theorem Jq(hc:c=false)(h:PO t e Q s b):PO t e Q s (bif c then a else b):=by subst hc;exact h
def jI{α:Type}(ok:α->Bool):Option α->Bool
 |some a=>ok a
 |none=>false
theorem JW{β:Type}(f:(Nat->Nat)->α->β)(g:R->β)(ok:α->Bool)(h1:(t.lv s).all (jI ok)=true)(h2:∀k,(t.lv s).map (λo=>o.map (f k))=(t.lv s).map λ_=>some (g a))
  (hQ:∀x,ok x=true->(∀k,f k x=g a)->Q x a):PO t e Q s a:=λhs=>by
 have hm:=M4 t s hs
 have h3:=List.all_eq_true.1 h1 _ hm
 cases hx:t.B8 e with
 |none=>rw[hx] at h3;cases h3
 |some x=>
  rw[hx] at h3 hm
  refine⟨x,rfl,hQ x h3 λk=>?_⟩
  obtain⟨i,hi,he⟩:=List.getElem_of_mem hm
  have h4:=congrArg (λl=>l[i]?) (h2 k)
  simp only[List.getElem?_map,List.getElem?_eq_getElem hi,Option.map_some,he,Option.map_some,Option.some.injEq] at h4
  exact h4
end
def cellAt(l:Nat)(h:Yk):List SC:=match DS l h with|some x=>x.2|none=>[]
def oB(e:Env)(k:Nat->Nat)(a:SV × Yk):Value × Array Value:=(a.1.den e k,Ym e k (cellAt 1 a.2))
def UM(T:TypeId)(hp:Yk)(a:SV × Yk):Bool:=(match DS 1 a.2 with|some x=>x.1==T|none=>false)&&(Io a.2 hp).all (·==1)
def Q1(e:Env)(T:TypeId)(hp:Yk)(a:SV × Yk)(r:Value × Array Value):Prop:=UM T hp a=true/\∀k,oB e k a=r
theorem nK{t:Xz (SV × Yk)}{e:Env}{T:TypeId}{hp:Yk}{s:FV}{R:Type}{a:R}{g:R->Value × Array Value}(h1:(t.lv s).all (jI (UM T hp))=true)(h2:∀k,(t.lv s).map (λo=>o.map (oB e k))=(t.lv s).map λ_=>some (g a)):PO t e (λx r=>Q1 e T hp x (g r)) s a:=
 JW (oB e) g (UM T hp) h1 h2 λ_ h h'=>⟨h,h'⟩
theorem po1{P:Program}{e:Env}{S:List Xu}{n f:Nat}{args:List SV}{st:St}{T:TypeId}{g:Nat}{cs:List SC}{w:World}{args':Array Value}{R:Type}{r:R}{G:R->Value × Array Value}(hm:P.follows .mixedOrders=true)(hS:El P e S)(hp:st.hp=[(1,T,cs)])(hasm:AV e st.BY)
  (hb:Bk w g T (Ym e (Dw [g]) cs))(closed:QO (Yi st.hp) st.hp=true)(cargs:args.all (Jc (Yi st.hp))=true)(ha:args'=(args.map (SV.den e (Dw [g]))).toArray)
  (h:PO (CY (exec P S n (.call f args) st)) e (λx r=>Q1 e T st.hp x (G r)) st.BY r)(hpl:Hk S=true:=by kernel_rfl)(hnf:¬f=Dy:=by decide):
  Calls P f args' w λen w'=>en=.returned (G r).1/\Bk w' g T (G r).2/\Al [g] w w':=by
 obtain⟨⟨v,h'⟩,hsel,hok,hout⟩:=h hasm
 refine(Cy hm hS hsel hasm (CE [g]) (λz hz=>?_) closed cargs (λz hz y hy _=>?_) ha hpl hnf).mono λen w' hx=>?_
 ·rw[hp] at hz;rw[List.mem_singleton.1 hz];exact Yu (show Bk w (Dw [g] 1) T _ from hb) rfl
 ·rw[hp] at hz hy;rw[List.mem_singleton.1 hz,List.mem_singleton.1 hy]
 ·obtain⟨k',q⟩:=hx;have e1:=hout k';unfold UM at hok;rw[Bool.and_eq_true] at hok;obtain⟨o1,o2⟩:=hok;cases hl:DS 1 h' with
  |none=>rw[hl] at o1;cases o1
  |some x=>
   obtain⟨T',c1⟩:=x;rw[hl] at o1;obtain rfl:T'=T:=by simpa using o1
   unfold oB cellAt at e1;rw[hl] at e1;have hk:k' 1=g:=(q.ext 1 (by rw[hp];exact List.mem_singleton.2 rfl)).trans rfl;refine⟨q.ret.trans ?_,Hq q (B9 hl) hk ?_,Gd q.Cf rfl λl hl=>?_⟩
   ·rw[←e1]
   ·rw[←e1]
   ·have:=List.all_eq_true.1 o2 l hl;obtain rfl:l=1:=by simpa using this
    exact List.mem_singleton.2 rfl
end Go.Proofs.YtaipogljokblkaaGreatDoor
