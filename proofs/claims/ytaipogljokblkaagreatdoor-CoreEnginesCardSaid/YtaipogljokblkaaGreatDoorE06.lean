/- Core: SymM, SymP, PM, PW, Rfl, PL. -/
import Derived.Test.YtaipogljokblkaaGreatDoorE05
import Derived.Test.YtaipogljokblkaaGreatDoorE01
import Derived.Test.YtaipogljokblkaaGreatDoorProg
set_option linter.all false
set_option maxRecDepth 100000
set_option maxHeartbeats 8000000
namespace Go.Proofs.YtaipogljokblkaaGreatDoor
open Go Go.RowKit
set_option linter.unusedSimpArgs false
set_option linter.unusedVariables false
set_option linter.unusedSectionVars false
structure Ak(F:List Nat)(w w':World):Prop where
 os:w'.os=w.os
 tape:w'.tape=w.tape
 output:w'.output=w.output
 size:w.heap.size<=w'.heap.size
 Ax:∀b,b<w.heap.size->b∉F->w'.heap[b]?=w.heap[b]?
section
variable{F G:List Nat}{w w1 w2:World}
theorem Ak.refl(F:List Nat)(w:World):Ak F w w:=⟨rfl,rfl,rfl,Nat.le_refl _,λ_ _ _=>rfl⟩
theorem Ak.trans(h:Ak F w w1)(h':Ak F w1 w2):Ak F w w2:=
 ⟨h'.os.trans h.os,h'.tape.trans h.tape,h'.output.trans h.output,Nat.le_trans h.size h'.size,λb hb hf=>(h'.Ax b (Nat.lt_of_lt_of_le hb h.size) hf).trans (h.Ax b hb hf)⟩
theorem Ak.mono(h:Ak F w w1)(hs:∀x∈F,x∈G\/w.heap.size<=x):Ak G w w1:=
 ⟨h.os,h.tape,h.output,h.size,λb hb hg=>h.Ax b hb λhf=>by rcases hs b hf with h1|h1;exact hg h1;omega⟩
theorem Ak.below(h:Ak [] w w1):Below w.heap.size w w1:=⟨h.os,h.tape,h.output,h.size,λb hb=>h.Ax b hb Zs⟩
theorem Ak.Ag(h:Below w.heap.size w w1):Ak F w w1:=⟨h.os,h.tape,h.output,h.size,λb hb _=>h.block b hb⟩
theorem Ak.grown{g:Nat}(h:Ak [g] w w1):w.grownBy w1 (some g):=⟨h.os,h.tape,h.output,h.size,λb hb hne=>h.Ax b hb (by simp only[List.mem_singleton];intro e;exact hne (by rw[e]))⟩
theorem Bk.BV{g:Nat}{t:TypeId}{cs:Array Value}(h:Bk w g t cs)(hc:Ak F w w1)(hg:g∉F):Bk w1 g t cs:=h.same (hc.Ax g h.lt hg)
end
def Dk(gs:List Nat)(l:Nat):Nat:=if l%2=0 then l/2 else gs.getD (l/2) 0
theorem Cv(gs:List Nat)(g:Nat):Dk gs (2*g)=g:=by
 unfold Dk;rw[if_pos Zo];omega
def Ic(h':Yh):Yh->List Nat
 |[]=>[]
 |x::r=>match DI x.1 h' with
  |some (t,cs)=>if t==x.2.1&&Ey SC.same x.2.2 cs then Ic h' r else x.1::Ic h' r
  |none=>x.1::Ic h' r
theorem Q4{h':Yh}{x:Nat × TypeId × List SC}:∀{h:Yh},x∈h->x.1∈Ic h' h\/(x.1,x.2.1,x.2.2)∈h'
 |[],hx=>by cases hx
 |y::r,hx=>by
  unfold Ic;rcases List.mem_cons.1 hx with rfl|hx
  ·split
   ·rename_i t cs hl;split
    ·rename_i hc;simp only[Bool.and_eq_true,beq_iff_eq] at hc;right;have:=Bz hl;rw[hc.1,←BS (λ_ _=>SC.BG) hc.2] at this;exact this
    ·left;simp
   ·left;simp
  ·have ih:=Q4 (h':=h') hx;split
   ·split
    ·exact ih
    ·exact ih.imp (λh=>List.mem_cons_of_mem _ h) id
   ·exact ih.imp (λh=>List.mem_cons_of_mem _ h) id
section
variable{P:Program}{e:Env}{S:List Xv}
structure GZ(e:Env)(k:Nat->Nat)(hp:Yh)(w:World)(v:SV)(hp':Yh)(en:Ending)(w':World)(k':Nat->Nat):Prop where
 ret:en=.returned (v.den e k')
 blk:∀x∈hp',Bk w' (k' x.1) x.2.1 (Yj e k' x.2.2)
 ext:∀l∈Yg hp,k' l=k l
 even:∀g,k' (2*g)=g
 new:∀x∈hp',x.1∈Yg hp\/w.heap.size<=k' x.1
 inj:∀x∈hp',∀y∈hp',k' x.1=k' y.1->x.1=y.1
 BV:Ak ((Ic hp' hp).map k) w w'
structure DS(F:Nat->Prop)(w w':World):Prop where
 os:w'.os=w.os
 tape:w'.tape=w.tape
 output:w'.output=w.output
 size:w.heap.size<=w'.heap.size
 Ax:∀b,b<w.heap.size->¬F b->w'.heap[b]?=w.heap[b]?
structure Lo(e:Env)(Φ:GF)(F:Nat->Prop)(k:Nat->Nat)(hp:Yh)(w:World)(v:SV)(ph:Nat)(hp':Yh)(en:Ending)(w':World)(k':Nat->Nat):Prop where
 ret:en=.returned (v.den e k')
 blk:∀x∈hp',Bk w' (k' x.1) x.2.1 (Yj e k' x.2.2)
 ext:∀l∈Yg hp,k' l=k l
 even:∀g,k' (2*g)=g
 new:∀x∈hp',x.1∈Yg hp\/w.heap.size<=k' x.1
 inj:∀x∈hp',∀y∈hp',k' x.1=k' y.1->x.1=y.1
 BV:DS (λb=>b∈(Ic hp' hp).map k\/F b) w w'
 fin:∃F':Nat->Prop,Φ.P ph w' F'/\(∀x∈hp',¬F' (k' x.1))/\(∀b,F' b->b<w'.heap.size)/\∀b,F' b->F b\/w.heap.size<=b
theorem Nt{Φ:GF}(hm:P.follows .mixedOrders=true)(hS:Di P e Φ S){n f:Nat}{args:List SV}{st st':St}{x:Ex}{v:SV}(h:(exec P S n (.call f args) st).By e=some (x,v,st'))(hasm:AR e st.BM)
  {k:Nat->Nat}{w:World}(Gd:∀g,k (2*g)=g)(blocks:∀x∈st.hp,Bk w (k x.1) x.2.1 (Yj e k x.2.2))(closed:PU (Yg st.hp) st.hp=true)(cargs:args.all (IN (Yg st.hp))=true)
  (inj:∀x∈st.hp,∀y∈st.hp,k x.1=k y.1->x.1=y.1){args':Array Value}(ha:args'=(args.map (SV.den e k)).toArray)
  {F:Nat->Prop}(f1:Φ.P st.ph w F)(f2:∀x∈st.hp,¬F (k x.1))(f3:∀b,F b->b<w.heap.size)(hnf:¬f=Dl:=by decide):
  Calls P f args' w λen w'=>∃k',Lo e Φ F k st.hp w v st'.ph st'.hp en w' k':=by
 have al:∀ β,Gm k st.hp β→Alike (Yg st.hp) β k:=fun β hβ=>⟨hβ.1,Gd,fun l hl=>by
  obtain⟨x,hx,rfl⟩:=Bc.1 hl;exact hβ.2 x hx⟩
 have H:Cm e ⟨Yg st.hp,k,w,F,Φ⟩ k st.ph st.hp w:=by
  refine⟨Gd,λβ hβ x hx=>?_,inj,λ_ _=>rfl,λx hx=>Or.inl (Bc.2 ⟨x,hx,rfl⟩),λl hl=>Bc.1 hl,rfl,rfl,rfl,Nat.le_refl _,λ_ _ _ _=>rfl,F,f1,f2,f3,λ_ hb=>Or.inl hb⟩;rw[hβ.2 x hx,E0 (al β hβ) (KR closed x hx)];exact blocks x hx
 have hsel:(Q5 P S n f args st).By e=some (v,st'):=by
  unfold Q5;rw[B7,h];rfl
 have hen:=(Oq hm hS n).2.2 f args st v st' hsel k w F H hasm args' (fun β hβ=>by
  rw[ha];congr 1;exact List.map_congr_left λu hu=>(Fq (al β hβ) (List.all_eq_true.1 cargs u hu)).symm)
 unfold AI at hen
 rw[if_neg hnf] at hen
 obtain⟨_,hcalls⟩:=hen
 refine hcalls.mono λen w' hpost=>?_
 obtain⟨k',H',_,hen⟩:=hpost
 obtain⟨F',g1,g2,g3,g4⟩:=H'.mY
 refine⟨k',hen k' H'.Ig,λx hx=>H'.heap k' H'.Ig x hx,H'.ext,H'.Gd,H'.new,H'.inj,⟨H'.os,H'.tape,H'.output,H'.size,λb hb hf=>?_⟩,F',g1,g2,g3,g4⟩
 by_cases hbl:∃l∈Yg st.hp,k l=b
 ·obtain⟨l,hl,rfl⟩:=hbl;obtain⟨x,hx,rfl⟩:=Bc.1 hl;rcases Q4 (h':=st'.hp) hx with h1|h1
  ·exact absurd (Or.inl (List.mem_map.2 ⟨_,h1,rfl⟩)) hf
  ·have h2:=H'.heap k' H'.Ig _ h1;have h3:=blocks x hx;have e1:k' x.1=k x.1:=H'.ext x.1 hl;simp only at h2;have al':Alike (Yg st.hp) k' k:=⟨H'.Gd,Gd,λl hl=>H'.ext l hl⟩;rw[e1,E0 al' (KR closed x hx)] at h2;unfold Bk at h2 h3;rw[h2,h3]
 ·exact H'.JW b hb (λl hl he=>hbl ⟨l,hl,he⟩) λhf'=>hf (Or.inr hf')
theorem VO(hm:P.follows .mixedOrders=true)(hS:Eb P e S){n f:Nat}{args:List SV}{st st':St}{x:Ex}{v:SV}(h:(exec P S n (.call f args) st).By e=some (x,v,st'))(hasm:AR e st.BM)
  {k:Nat->Nat}{w:World}(Gd:∀g,k (2*g)=g)(blocks:∀x∈st.hp,Bk w (k x.1) x.2.1 (Yj e k x.2.2))(closed:PU (Yg st.hp) st.hp=true)(cargs:args.all (IN (Yg st.hp))=true)
  (inj:∀x∈st.hp,∀y∈st.hp,k x.1=k y.1->x.1=y.1){args':Array Value}(ha:args'=(args.map (SV.den e k)).toArray)(hp:Hg S=true:=by kernel_rfl)(hnf:¬f=Dl:=by decide):
  Calls P f args' w λen w'=>∃k',GZ e k st.hp w v st'.hp en w' k':=by
 refine(Nt (Φ:=GF.no) hm (hS.vE hp) h hasm Gd blocks closed cargs inj ha (F:=λ_=>False) (λ_ h=>h) (λ_ _ h=>h) (λ_ h=>h.elim) hnf).mono λen w' hx=>?_
 obtain⟨k',q⟩:=hx
 exact⟨k',q.ret,q.blk,q.ext,q.even,q.new,q.inj,⟨q.BV.os,q.BV.tape,q.BV.output,q.BV.size,λb hb hf=>q.BV.Ax b hb λh=>by rcases h with h|h;exact hf h;exact h⟩⟩
theorem GY{e:Env}{s:FH}(h:s=[]):AR e s:=by subst h;intro p hp;cases hp
end
theorem Hm{e:Env}{k:Nat->Nat}{hp:Yh}{w:World}{v:SV}{hp':Yh}{en:Ending}{w':World}{k':Nat->Nat}(h:GZ e k hp w v hp' en w' k'){l:Nat}{t:TypeId}{cs:List SC}(hm:(l,t,cs)∈hp'){g:Nat}(e1:k' l=g){row:Array Value}(hc:Yj e k' cs=row):Bk w' g t row:=by
 have:=h.blk _ hm;simp only at this;rw[e1,hc] at this;exact this
def vs(k n:Nat):List SC:=(List.range n).map λi=>.int (.var (k+i))
def zs(n:Nat):List SC:=List.replicate n (.int (.lit 0))
def pt(b:List SC):List (Nat × List SC)->List SC
 |[]=>b
 |p::r=>pt (splice b p.1 p.2) r
def CR(t:Xz (Ex × SV × St)):Xz (SV × Yh):=t.bind λr=>.leaf (r.2.1,r.2.2.hp)
theorem eU{e:Env}{t:Xz (Ex × SV × St)}{v:SV}{h:Yh}(hs:(CR t).By e=some (v,h)):∃x s,t.By e=some (x,v,s)/\s.hp=h:=by
 unfold CR at hs;rw[B7] at hs;obtain⟨⟨x,u,s⟩,h1,h2⟩:=Option.bind_eq_some_iff.1 hs;simp only[Xz.By,Option.some.injEq,Prod.mk.injEq] at h2;obtain⟨rfl,rfl⟩:=h2;exact⟨x,s,h1,rfl⟩
def PQ(t:Xz (Ex × SV × St)):Xz (SV × Nat × Yh):=t.bind λr=>.leaf (r.2.1,r.2.2.ph,r.2.2.hp)
theorem eV{e:Env}{t:Xz (Ex × SV × St)}{v:SV}{ph:Nat}{h:Yh}(hs:(PQ t).By e=some (v,ph,h)):∃x s,t.By e=some (x,v,s)/\s.ph=ph/\s.hp=h:=by
 unfold PQ at hs;rw[B7] at hs;obtain⟨⟨x,u,s⟩,h1,h2⟩:=Option.bind_eq_some_iff.1 hs;simp only[Xz.By,Option.some.injEq,Prod.mk.injEq] at h2;obtain⟨rfl,rfl,rfl⟩:=h2;exact⟨x,s,h1,rfl,rfl⟩
theorem P0{P:Program}{e:Env}{Φ:GF}{S:List Xv}(hm:P.follows .mixedOrders=true)(hS:Di P e Φ S){n f:Nat}{args:List SV}{st:St}{v:SV}{ph:Nat}{hp':Yh}(h:(PQ (exec P S n (.call f args) st)).By e=some (v,ph,hp'))(hasm:AR e st.BM)
  {k:Nat->Nat}{w:World}(Gd:∀g,k (2*g)=g)(blocks:∀x∈st.hp,Bk w (k x.1) x.2.1 (Yj e k x.2.2))(closed:PU (Yg st.hp) st.hp=true)(cargs:args.all (IN (Yg st.hp))=true)
  (inj:∀x∈st.hp,∀y∈st.hp,k x.1=k y.1->x.1=y.1){args':Array Value}(ha:args'=(args.map (SV.den e k)).toArray)
  {F:Nat->Prop}(f1:Φ.P st.ph w F)(f2:∀x∈st.hp,¬F (k x.1))(f3:∀b,F b->b<w.heap.size)(hnf:¬f=Dl:=by decide):
  Calls P f args' w λen w'=>∃k',Lo e Φ F k st.hp w v ph hp' en w' k':=by
 obtain⟨x,s,h1,rfl,rfl⟩:=eV h
 exact Nt hm hS h1 hasm Gd blocks closed cargs inj ha f1 f2 f3 hnf
theorem Ct{P:Program}{e:Env}{S:List Xv}(hm:P.follows .mixedOrders=true)(hS:Eb P e S){n f:Nat}{args:List SV}{st:St}{v:SV}{hp':Yh}(h:(CR (exec P S n (.call f args) st)).By e=some (v,hp'))(hasm:AR e st.BM)
  {k:Nat->Nat}{w:World}(Gd:∀g,k (2*g)=g)(blocks:∀x∈st.hp,Bk w (k x.1) x.2.1 (Yj e k x.2.2))(closed:PU (Yg st.hp) st.hp=true)(cargs:args.all (IN (Yg st.hp))=true)
  (inj:∀x∈st.hp,∀y∈st.hp,k x.1=k y.1->x.1=y.1){args':Array Value}(ha:args'=(args.map (SV.den e k)).toArray)(hpl:Hg S=true:=by kernel_rfl)(hnf:¬f=Dl:=by decide):
  Calls P f args' w λen w'=>∃k',GZ e k st.hp w v hp' en w' k':=by
 obtain⟨x,s,h1,rfl⟩:=eU h
 exact VO hm hS h1 hasm Gd blocks closed cargs inj ha hpl hnf
theorem Xu{P:Program}{e:Env}:Eb P e []:=λ_ h=>by cases h
theorem CF{P:Program}{f:Nat}{fn:Func}(hf:P.funcs[f]?=some fn)(hn:(fn.name== "runtime.NumGoroutine")=false)(hb:fn.body.isNone=false)(args:Array Value)(w:World):(callFunc f args).run P w=.ok (.enter f args) w:=by
 unfold callFunc;simp only[Sem.run_bind,run_program,Result.andThen_ok,hf];rw[if_neg (by simp[hn]),if_neg (by simp[hb])];rfl
theorem CT{e:Env}{b:BT}{v:Bool}{s:FH}(h:b.den e=v)(hs:AR e s):AR e ((b,v)::s):=by
 intro p hp;rcases List.mem_cons.1 hp with rfl|hp
 ·exact h
 ·exact hs p hp
theorem Yw{w:World}{g:Nat}{t:TypeId}{cs cs':Array Value}(h:Bk w g t cs)(e:cs=cs'):Bk w g t cs':=e▸h
theorem FQ{gs F ls ls':List Nat}{w w':World}(h:Ak (ls'.map (Dk gs)) w w')(e:ls'=ls)(hs:∀l∈ls,Dk gs l∈F):Ak F w w':=by
 subst e;exact h.mono λx hx=>by obtain⟨l,hl,rfl⟩:=List.mem_map.1 hx;exact Or.inl (hs l hl)
theorem zQ{h:Yh}(gs:List Nat)(hn:(h.map λx=>Dk gs x.1).Nodup)(x y:Nat × TypeId × List SC)(hx:x∈h)(hy:y∈h)(hxy:Dk gs x.1=Dk gs y.1):x.1=y.1:=by
 induction h with
 |nil=>cases hx
 |cons z r ih=>
  simp only[List.map_cons,List.nodup_cons,List.mem_map,not_exists,not_and] at hn;rcases List.mem_cons.1 hx with h1|h1<;>rcases List.mem_cons.1 hy with h2|h2
  ·rw[h1,h2]
  ·rw[h1] at hxy;exact absurd hxy.symm (hn.1 y h2)
  ·rw[h2] at hxy;exact absurd hxy (hn.1 x h1)
  ·exact ih hn.2 h1 h2
def Rep2(Sub:World->Value->List Nat->Prop)(T:TypeId)(JL:Value->List Value)(w:World)(g:Nat)(F:List Nat):Prop:=
 (∃q F1,F=g::F1/\Bk w g T (JL q).toArray/\Sub w q F1)/\F.Nodup
def FF(Sub:World->Value->List Nat->Prop)(T:TypeId)(JL:Value->List Value)(V:Value)(g:Nat)(F:List Nat)(w:World)(en:Ending)(w':World):Prop:=
 ∃F',en=.returned V/\Rep2 Sub T JL w' g F'/\(∀b∈F',b∈F\/w.heap.size<=b)/\Ak F w w'
section
variable{e:Env}{gs F:List Nat}{hp hp':Yh}{w w':World}{v:SV}{en:Ending}{k':Nat->Nat}{Sub:World->Value->List Nat->Prop}{T T2:TypeId}{JL:Value->List Value}{V:Value}{g:Nat}{c1 c2:List SC}{ls:List Nat}
theorem uW(h:GZ e (Dk gs) hp w v hp' en w' k')(l1:Fa 1 (Yg hp)=true)(hg:Dk gs 1=g)(m1:(1,T,c1)∈hp')(ec:Yj e k' c1=(JL (.pointer none)).toArray)(hv:v.den e k'=V)
  (hch:Ic hp' hp=ls)(hF:∀l∈ls,Dk gs l∈F)(gF:g∈F)(hsub:Sub w' (.pointer none) []):FF Sub T JL V g F w en w':=
 ⟨[g],h.ret.trans (by rw[hv]),⟨⟨_,[],rfl,Hm h m1 ((h.ext 1 (Bw.1 l1)).trans hg) ec,hsub⟩,by simp⟩,λb hb=>by rw[List.mem_singleton.1 hb];exact Or.inl gF,FQ h.BV hch hF⟩
theorem uV(h:GZ e (Dk gs) hp w v hp' en w' k')(l1:Fa 1 (Yg hp)=true)(hg:Dk gs 1=g)(m1:(1,T,c1)∈hp')(l2:Nat)(m2:(l2,T2,c2)∈hp')(hne:(l2==1)=false)(ec:Yj e k' c1=(JL (.pointer (some ⟨k' l2,0,none⟩))).toArray)(hv:v.den e k'=V)
  (hch:Ic hp' hp=ls)(hF:∀l∈ls,Dk gs l∈F)(gF:g∈F)(hl2:Fa l2 (Yg hp)=true->Dk gs l2∈F)(hsub:Bk w' (k' l2) T2 (Yj e k' c2)->Sub w' (.pointer (some ⟨k' l2,0,none⟩)) [k' l2]):FF Sub T JL V g F w en w':=by
 have e1:=(h.ext 1 (Bw.1 l1)).trans hg
 have hn:¬(g=k' l2):=λhe=>by
  have:=h.inj _ m1 _ m2 (e1.trans he);simp only at this;rw[←this] at hne;simp at hne
 refine⟨[g,k' l2],h.ret.trans (by rw[hv]),⟨⟨_,_,rfl,Hm h m1 e1 ec,hsub (Hm h m2 rfl rfl)⟩,by simp[hn]⟩,λb hb=>?_,FQ h.BV hch hF⟩
 rcases List.mem_cons.1 hb with rfl|hb
 ·exact Or.inl gF
 ·rw[List.mem_singleton.1 hb];rcases h.new _ m2 with h1|h1
  ·left;rw[h.ext _ h1];exact hl2 (Bw.2 h1)
  ·exact Or.inr h1
end
theorem mixed:Tryz.prog.follows .mixedOrders=true:=Zk
structure Xe where
 sl:Int
 gn:Int
 tg:Int
 nm:Int
 mark:Bool
 deriving DecidableEq
def Xe.l(x:Xe):List Value:=[.int .i64 x.sl]++[.int .i64 x.gn]++[.int .i64 x.tg]++[.int .i64 x.nm]++[.bool x.mark]
def Xe.zero:Xe:=⟨0,0,0,0,false⟩
structure X9 where
 sl:Int
 gn:Int
 fd:Int
 deriving DecidableEq
def X9.l(x:X9):List Value:=[.int .i64 x.sl]++[.int .i64 x.gn]++[.int .i64 x.fd]
def X9.zero:X9:=⟨0,0,0⟩
structure Yu where
 code:Int
 val:Int
 deriving DecidableEq
def Yu.l(x:Yu):List Value:=[.int .i64 x.code]++[.int .i64 x.val]
def Yu.zero:Yu:=⟨0,0⟩
structure A3 where
 kind:Int
 key:Int
 val:Int
 Ah:Int
 deriving DecidableEq
def A3.l(x:A3):List Value:=[.int .i64 x.kind]++[.int .i64 x.key]++[.int .i64 x.val]++[.int .i64 x.Ah]
def A3.zero:A3:=⟨0,0,0,0⟩
structure Xf where
 kind:Int
 Ay:X9
 Bb:Xe
 new:Xe
 i:Int
 j:Int
 A5:Yu
 deriving DecidableEq
def Xf.l(x:Xf):List Value:=[.int .i64 x.kind]++x.Ay.l++x.Bb.l++x.new.l++[.int .i64 x.i]++[.int .i64 x.j]++x.A5.l
def Xf.zero:Xf:=⟨0,X9.zero,Xe.zero,Xe.zero,0,0,Yu.zero⟩
structure Xj where
 word:Xe
 ok:Bool
 deriving DecidableEq
def Xj.l(x:Xj):List Value:=x.word.l++[.bool x.ok]
def Xj.zero:Xj:=⟨Xe.zero,false⟩
structure Bn where
 kind:Int
 Ay:X9
 Bb:Xe
 new:Xe
 deriving DecidableEq
def Bn.l(x:Bn):List Value:=[.int .i64 x.kind]++x.Ay.l++x.Bb.l++x.new.l
def Bn.zero:Bn:=⟨0,X9.zero,Xe.zero,Xe.zero⟩
structure AJ where
 is:Bool
 low:Int
 Hh:Int
 deriving DecidableEq
def AJ.l(x:AJ):List Value:=[.bool x.is]++[.int .i64 x.low]++[.int .i64 x.Hh]
def AJ.zero:AJ:=⟨false,0,0⟩
structure Xq where
 ref:Xe
 A4:Int
 CS:Int
 deriving DecidableEq
def Xq.l(x:Xq):List Value:=x.ref.l++[.int .i64 x.A4]++[.int .i64 x.CS]
def Xq.zero:Xq:=⟨Xe.zero,0,0⟩
structure Xm where
 pc:Int
 last:Xf
 start:X9
 key:Int
 prev:X9
 cur:Xe
 next:Xe
 k:Int
 found:Bool
 deriving DecidableEq
def Xm.l(x:Xm):List Value:=[.int .i64 x.pc]++x.last.l++x.start.l++[.int .i64 x.key]++x.prev.l++x.cur.l++x.next.l++[.int .i64 x.k]++[.bool x.found]
def Xm.zero:Xm:=⟨0,Xf.zero,X9.zero,0,X9.zero,Xe.zero,Xe.zero,0,false⟩
structure Bq where
 prev:X9
 cur:Xe
 deriving DecidableEq
def Bq.l(x:Bq):List Value:=x.prev.l++x.cur.l
def Bq.zero:Bq:=⟨X9.zero,Xe.zero⟩
structure Xd where
 pc:Int
 last:Xf
 spot:Bq
 FE:Int
 level:Int
 next:Xe
 k:Int
 s0:Bq
 s1:Bq
 s2:Bq
 found:Xe
 deriving DecidableEq
def Xd.l(x:Xd):List Value:=[.int .i64 x.pc]++x.last.l++x.spot.l++[.int .i64 x.FE]++[.int .i64 x.level]++x.next.l++[.int .i64 x.k]++x.s0.l++x.s1.l++x.s2.l++x.found.l
def Xd.zero:Xd:=⟨0,Xf.zero,Bq.zero,0,0,Xe.zero,0,Bq.zero,Bq.zero,Bq.zero,Xe.zero⟩
structure Xk where
 pc:Int
 last:Xf
 op:A3
 node:Xe
 Ss:Xe
 val:Int
 deriving DecidableEq
def Xk.l(x:Xk):List Value:=[.int .i64 x.pc]++x.last.l++x.op.l++x.node.l++x.Ss.l++[.int .i64 x.val]
def Xk.zero:Xk:=⟨0,Xf.zero,A3.zero,Xe.zero,Xe.zero,0⟩
structure Xt where
 pc:Int
 last:Xf
 op:A3
 node:Xe
 h:Xe
 t:Xe
 n:Xe
 val:Int
 deriving DecidableEq
def Xt.l(x:Xt):List Value:=[.int .i64 x.pc]++x.last.l++x.op.l++x.node.l++x.h.l++x.t.l++x.n.l++[.int .i64 x.val]
def Xt.zero:Xt:=⟨0,Xf.zero,A3.zero,Xe.zero,Xe.zero,Xe.zero,Xe.zero,0⟩
structure Xh where
 pc:Int
 last:Xf
 start:X9
 key:Int
 op:A3
 walk:Option Xm
 node:Xe
 val:Int
 deriving DecidableEq
def Xh.l(x:Xh)(p_walk:Value):List Value:=[.int .i64 x.pc]++x.last.l++x.start.l++[.int .i64 x.key]++x.op.l++[p_walk]++x.node.l++[.int .i64 x.val]
def Xh.zero:Xh:=⟨0,Xf.zero,X9.zero,0,A3.zero,none,Xe.zero,0⟩
structure Xc where
 pc:Int
 last:Xf
 op:A3
 Ab:Option Xd
 node:Xe
 level:Int
 M5:Int
 val:Int
 deriving DecidableEq
def Xc.l(x:Xc)(p_climb:Value):List Value:=[.int .i64 x.pc]++x.last.l++x.op.l++[p_climb]++x.node.l++[.int .i64 x.level]++[.int .i64 x.M5]++[.int .i64 x.val]
def Xc.zero:Xc:=⟨0,Xf.zero,A3.zero,none,Xe.zero,0,0,0⟩
structure Xa where
 pc:Int
 last:Xf
 op:A3
 size:Int
 wanted:Int
 Am:Int
 child:Int
 base:Xe
 node:Xe
 sentinel:Xe
 walk:Option Xm
 inner:Option Xh
 answer:Yu
 count:Xe
 deriving DecidableEq
def Xa.l(x:Xa)(p_walk:Value)(p_inner:Value):List Value:=[.int .i64 x.pc]++x.last.l++x.op.l++[.int .i64 x.size]++[.int .i64 x.wanted]++[.int .i64 x.Am]++[.int .i64 x.child]++x.base.l++x.node.l++x.sentinel.l++[p_walk]++[p_inner]++x.answer.l++x.count.l
def Xa.zero:Xa:=⟨0,Xf.zero,A3.zero,0,0,0,0,Xe.zero,Xe.zero,Xe.zero,none,none,Yu.zero,Xe.zero⟩
abbrev wr(n:Int):Int:=IntKind.i64.wrap n
def Yt(w:Xe):Xe:=⟨w.sl,w.gn,0,0,false⟩
def En(w r:Xe):Xe:=⟨r.sl,r.gn,wr (w.tg+1),0,false⟩
def Ff(w:Xe):Xe:=⟨w.sl,w.gn,wr (w.tg+1),w.nm,true⟩
def Yy(n:Int):Xe:=⟨0,0,0,n,false⟩
def BP(w:Xe)(M5:Int):Xe:=⟨0,0,wr (w.tg+1),wr (w.nm+M5),false⟩
def Xg(w:Xe)(n:Int):X9:=⟨w.sl,w.gn,n⟩
def Dm(a b:Xe):Bool:=a.sl==b.sl&&(a.tg==b.tg&&(a.nm==b.nm&&a.mark==b.mark))
def root(n:Int):X9:=⟨0,0,n⟩
def Yv(a:X9):Xf:=⟨3,a,.zero,.zero,0,0,.zero⟩
def AV(a:X9)(w:Xe):Xf:=⟨4,a,.zero,w,0,0,.zero⟩
def Y6(a:X9)(o n:Xe):Xf:=⟨5,a,o,n,0,0,.zero⟩
def AA(a:X9)(i:Int):Xf:=⟨6,a,.zero,.zero,i,0,.zero⟩
def FD(i j:Int):Xf:=⟨7,.zero,.zero,.zero,i,j,.zero⟩
def Dd:Xf:=⟨8,.zero,.zero,.zero,0,0,.zero⟩
def Kg(w:Xe):Xf:=⟨9,.zero,w,.zero,0,0,.zero⟩
def EC(w:Xe):Xf:=⟨10,.zero,w,.zero,0,0,.zero⟩
def BK(code val:Int):Xf:=⟨12,.zero,.zero,.zero,0,0,⟨code,val⟩⟩
def Yk(c:Xf):Value:=.agg c.l.toArray
def Ip(c:Xf × Bool):Value:=.tuple #[.agg c.1.l.toArray,.bool c.2]
namespace Xm
def new(start:X9)(key:Int):Xm:={Xm.zero with start:=start,key:=key,prev:=start}
def again(W:Xm):Xm × Xf × Bool:=({W with prev:=W.start,pc:=1},AA W.start 1,true)
def behind(W:Xm):Xm × Xf × Bool:=({W with pc:=2},AA (Xg W.cur 2) 0,true)
def finish(W:Xm)(b:Bool):Xm × Xf × Bool:=({W with pc:=-1,found:=b},Xf.zero,false)
def on(W:Xm):Xm × Xf × Bool:=if W.cur.sl==0 then W.finish false else({W with pc:=8},FD 1 0,true)
def step(W:Xm)(x:Xj):Xm × Xf × Bool:=
 if W.pc==1 then
  if x.word.mark then W.again else
  let W:={W with cur:=x.word}
  if x.word.sl==0 then W.finish false else W.behind
 else if W.pc==2 then({W with next:=x.word,pc:=3},Yv (Xg W.cur 0),true)
 else if W.pc==3 then({W with k:=x.word.nm,pc:=4},Yv W.prev,true)
 else if W.pc==4 then
  if !Dm x.word W.cur then W.again else
  if W.next.mark then({W with pc:=5},Y6 W.prev W.cur (En W.cur W.next),true) else
  if decide (W.key<=W.k) then W.finish (W.k==W.key) else
  ({W with prev:=Xg W.cur 2,pc:=7},FD 2 1,true)
 else if W.pc==5 then
  if x.ok then({W with pc:=6},EC W.cur,true) else W.again
 else if W.pc==0 then W.again
 else if W.pc==6 then Xm.on {W with cur:=En W.cur W.next}
 else if W.pc==7 then Xm.on {W with cur:=W.next}
 else if W.pc==8 then W.behind
 else(W,Xf.zero,false)
end Xm
namespace Xd
def new(FE:Int):Xd:={Xd.zero with FE:=FE}
def E9(C:Xd)(l:Int):Bq:=if l==0 then C.s0 else if l==1 then C.s1 else C.s2
def Dc(C:Xd)(l:Int)(s:Bq):Xd:=if l==0 then{C with s0:=s} else if l==1 then{C with s1:=s} else{C with s2:=s}
def enter(C:Xd):Xd × Xf × Bool:=({C with pc:=2},AA C.spot.prev (3*C.level+1),true)
def again(C:Xd):Xd × Xf × Bool:=Xd.enter {C with level:=2,spot:={C.spot with prev:=root 2}}
def behind(C:Xd):Xd × Xf × Bool:=({C with pc:=3},AA (Xg C.spot.cur (2+C.level)) (3*C.level),true)
def lower(C:Xd):Xd × Xf × Bool:=
 let C:=C.Dc C.level C.spot
 if C.level==0 then
  let C:={C with pc:=-1}
  if !(C.spot.cur.sl==0)&&C.k==C.FE then({C with found:=Yt C.spot.cur},Xf.zero,false) else(C,Xf.zero,false)
 else
  let C:={C with level:=C.level-1}
  if C.spot.prev.sl==0 then Xd.enter {C with spot:={C.spot with prev:=root C.level}} else
  ({C with spot:={C.spot with prev:={C.spot.prev with fd:=2+C.level}},pc:=9},FD (3*C.level+2) (3*C.level+5),true)
def on(C:Xd):Xd × Xf × Bool:=
 if C.spot.cur.sl==0 then C.lower else({C with pc:=8},FD (3*C.level+1) (3*C.level),true)
def step(C:Xd)(x:Xj):Xd × Xf × Bool:=
 if C.pc==2 then
  if x.word.mark then C.again else
  let C:={C with spot:={C.spot with cur:=x.word}}
  if x.word.sl==0 then C.lower else C.behind
 else if C.pc==3 then({C with next:=x.word,pc:=4},Yv (Xg C.spot.cur 0),true)
 else if C.pc==4 then({C with k:=x.word.nm,pc:=5},Yv C.spot.prev,true)
 else if C.pc==5 then
  if !Dm x.word C.spot.cur then C.again else
  if C.next.mark then({C with pc:=6},Y6 C.spot.prev C.spot.cur (En C.spot.cur C.next),true) else
  if decide (C.FE<=C.k) then C.lower else
  ({C with spot:={C.spot with prev:=Xg C.spot.cur (2+C.level)},pc:=7},FD (3*C.level+2) (3*C.level+1),true)
 else if C.pc==6 then
  if x.ok then Xd.on {C with spot:={C.spot with cur:=En C.spot.cur C.next}} else C.again
 else if C.pc==0 then C.again
 else if C.pc==7 then Xd.on {C with spot:={C.spot with cur:=C.next}}
 else if C.pc==8 then C.behind
 else if C.pc==9 then C.enter
 else(C,Xf.zero,false)
end Xd
def ct(l:List (List SC)):List SC:=l.flatten
def nX(s:FH):BT->Option Bool
 |.lit b=>some b
 |.not a=>match Jj (.not a) s with
  |some v=>some v
  |none=>(nX s a).map (!·)
 |.and a b=>match Jj (.and a b) s with
  |some v=>some v
  |none=>match nX s a,nX s b with
   |some false,_=>some false
   |_,some false=>some false
   |some true,some true=>some true
   |_,_=>none
 |.or a b=>match Jj (.or a b) s with
  |some v=>some v
  |none=>match nX s a,nX s b with
   |some true,_=>some true
   |_,some true=>some true
   |some false,some false=>some false
   |_,_=>none
 |b=>Jj b s
theorem G5{e:Env}{s:FH}(hs:AR e s):∀(b:BT) (v:Bool),nX s b=some v->b.den e=v
 |.lit b,v,h=>by cases h;rfl
 |.not a,v,h=>by
  unfold nX at h;split at h
  ·rename_i u hu;cases h;exact Y1 hs hu
  ·obtain⟨u,h1,h2⟩:=Option.map_eq_some_iff.1 h;show(!a.den e)=v;rw[G5 hs a u h1];exact h2
 |.and a b,v,h=>by
  unfold nX at h;split at h
  ·rename_i u hu;cases h;exact Y1 hs hu
  ·show(a.den e&&b.den e)=v;split at h
   ·rename_i h1;cases h;rw[G5 hs a _ h1];rfl
   ·rename_i h1 _;cases h;rw[G5 hs b _ h1];cases a.den e<;>rfl
   ·rename_i h1 h2;cases h;rw[G5 hs a _ h1,G5 hs b _ h2];rfl
   ·cases h
 |.or a b,v,h=>by
  unfold nX at h;split at h
  ·rename_i u hu;cases h;exact Y1 hs hu
  ·show(a.den e||b.den e)=v;split at h
   ·rename_i h1;cases h;rw[G5 hs a _ h1];rfl
   ·rename_i h1 _;cases h;rw[G5 hs b _ h1];cases a.den e<;>rfl
   ·rename_i h1 h2;cases h;rw[G5 hs a _ h1,G5 hs b _ h2];rfl
   ·cases h
 |.var i,v,h=>Y1 hs h
 |.eq a b,v,h=>Y1 hs h
 |.lt a b,v,h=>Y1 hs h
 |.le a b,v,h=>Y1 hs h
 |.beq a b,v,h=>Y1 hs h
 |.nil i,v,h=>Y1 hs h
 |.fD i,v,h=>Y1 hs h
section
variable{α R:Type}{e:Env}
def Xz.lv(s:FH):Xz α->List (Option α)
 |.leaf a=>[some a]
 |.fail _=>[none]
 |.br b t f=>match nX s b with
  |some true=>t.lv s
  |some false=>f.lv s
  |none=>t.lv (IC b true s)++f.lv (IC b false s)
theorem LL:∀(t:Xz α) (s:FH),AR e s->t.By e∈t.lv s
 |.leaf a,_,_=>by unfold Xz.lv Xz.By;exact List.mem_cons_self ..
 |.fail _,_,_=>by unfold Xz.lv Xz.By;exact List.mem_cons_self ..
 |.br b t f,s,hs=>by
  unfold Xz.lv Xz.By;split
  ·rename_i hk;rw[G5 hs b _ hk];exact LL t s hs
  ·rename_i hk;rw[G5 hs b _ hk];exact LL f s hs
  ·cases hb:b.den e with
   |true=>exact List.mem_append_left _ (LL t _ (Gf hs hb))
   |false=>exact List.mem_append_right _ (LL f _ (Gf hs hb))
def BT.bare:BT->BT
 |.not a=>a.bare
 |b=>b
def Xz.nx(s:FH):Xz α->BT
 |.leaf _=>.lit true
 |.fail _=>.lit true
 |.br b t f=>match nX s b with
  |some true=>t.nx s
  |some false=>f.nx s
  |none=>b.bare
def PO(t:Xz α)(e:Env)(Q:α->R->Prop)(s:FH)(r:R):Prop:=AR e s->∃a,t.By e=some a/\Q a r
variable{t:Xz α}{Q:α->R->Prop}{s:FH}{a b p q:R}{c d:Bool}
theorem po_br(hc:(t.nx s).den e=c)(h1:PO t e Q (IC (t.nx s) true s) a)(h2:PO t e Q (IC (t.nx s) false s) b):PO t e Q s (bif c then a else b):=λhs=>by
 cases c with
 |true=>exact h1 (Gf hs hc)
 |false=>exact h2 (Gf hs hc)
theorem GO(h:PO t e Q s (bif c then a else b)):PO t e Q s (bif c then a else b):=h
theorem GN(h:PO t e Q s (bif c then a else b)):PO t e Q s (if c=true then a else b):=by cases c<;>exact h
theorem yY(h:PO t e Q s (bif c then b else a)):PO t e Q s (bif !c then a else b):=by cases c<;>exact h
theorem zA(h:PO t e Q s (bif c then(bif d then a else b) else b)):PO t e Q s (bif c&&d then a else b):=by cases c<;>cases d<;>exact h
theorem po_or(h:PO t e Q s (bif c then a else(bif d then a else b))):PO t e Q s (bif c||d then a else b):=by cases c<;>cases d<;>exact h
theorem Jc(hc:c=true)(h:PO t e Q s a):PO t e Q s (bif c then a else b):=by subst hc;exact h
theorem Jd(hc:c=false)(h:PO t e Q s b):PO t e Q s (bif c then a else b):=by subst hc;exact h
def iG{α:Type}(ok:α->Bool):Option α->Bool
 |some a=>ok a
 |none=>false
theorem JH{β:Type}(f:(Nat->Nat)->α->β)(g:R->β)(ok:α->Bool)(h1:(t.lv s).all (iG ok)=true)(h2:∀k,(t.lv s).map (λo=>o.map (f k))=(t.lv s).map λ_=>some (g a))
  (hQ:∀x,ok x=true->(∀k,f k x=g a)->Q x a):PO t e Q s a:=λhs=>by
 have hm:=LL t s hs
 have h3:=List.all_eq_true.1 h1 _ hm
 cases hx:t.By e with
 |none=>rw[hx] at h3;cases h3
 |some x=>
  rw[hx] at h3 hm
  refine⟨x,rfl,hQ x h3 λk=>?_⟩
  obtain⟨i,hi,he⟩:=List.getElem_of_mem hm
  have h4:=congrArg (λl=>l[i]?) (h2 k)
  simp only[List.getElem?_map,List.getElem?_eq_getElem hi,Option.map_some,he,Option.map_some,Option.some.injEq] at h4
  exact h4
end
def cellAt(l:Nat)(h:Yh):List SC:=match DI l h with|some x=>x.2|none=>[]
def mX(e:Env)(k:Nat->Nat)(a:SV × Yh):Value × Array Value:=(a.1.den e k,Yj e k (cellAt 1 a.2))
def Uh(T:TypeId)(hp:Yh)(a:SV × Yh):Bool:=(match DI 1 a.2 with|some x=>x.1==T|none=>false)&&(Ic a.2 hp).all (·==1)
def Q1(e:Env)(T:TypeId)(hp:Yh)(a:SV × Yh)(r:Value × Array Value):Prop:=Uh T hp a=true/\∀k,mX e k a=r
theorem mH{t:Xz (SV × Yh)}{e:Env}{T:TypeId}{hp:Yh}{s:FH}{R:Type}{a:R}{g:R->Value × Array Value}(h1:(t.lv s).all (iG (Uh T hp))=true)(h2:∀k,(t.lv s).map (λo=>o.map (mX e k))=(t.lv s).map λ_=>some (g a)):PO t e (λx r=>Q1 e T hp x (g r)) s a:=
 JH (mX e) g (Uh T hp) h1 h2 λ_ h h'=>⟨h,h'⟩
theorem po1{P:Program}{e:Env}{S:List Xv}{n f:Nat}{args:List SV}{st:St}{T:TypeId}{g:Nat}{cs:List SC}{w:World}{args':Array Value}{R:Type}{r:R}{G:R->Value × Array Value}(hm:P.follows .mixedOrders=true)(hS:Eb P e S)(hp:st.hp=[(1,T,cs)])(hasm:AR e st.BM)
  (hb:Bk w g T (Yj e (Dk [g]) cs))(closed:PU (Yg st.hp) st.hp=true)(cargs:args.all (IN (Yg st.hp))=true)(ha:args'=(args.map (SV.den e (Dk [g]))).toArray)
  (h:PO (CR (exec P S n (.call f args) st)) e (λx r=>Q1 e T st.hp x (G r)) st.BM r)(hpl:Hg S=true:=by kernel_rfl)(hnf:¬f=Dl:=by decide):
  Calls P f args' w λen w'=>en=.returned (G r).1/\Bk w' g T (G r).2/\Ak [g] w w':=by
 obtain⟨⟨v,h'⟩,hsel,hok,hout⟩:=h hasm
 refine(Ct hm hS hsel hasm (Cv [g]) (λz hz=>?_) closed cargs (λz hz y hy _=>?_) ha hpl hnf).mono λen w' hx=>?_
 ·rw[hp] at hz;rw[List.mem_singleton.1 hz];exact Yw (show Bk w (Dk [g] 1) T _ from hb) rfl
 ·rw[hp] at hz hy;rw[List.mem_singleton.1 hz,List.mem_singleton.1 hy]
 ·obtain⟨k',q⟩:=hx;have e1:=hout k';unfold Uh at hok;rw[Bool.and_eq_true] at hok;obtain⟨o1,o2⟩:=hok;cases hl:DI 1 h' with
  |none=>rw[hl] at o1;cases o1
  |some x=>
   obtain⟨T',c1⟩:=x;rw[hl] at o1;obtain rfl:T'=T:=by simpa using o1
   unfold mX cellAt at e1;rw[hl] at e1;have hk:k' 1=g:=(q.ext 1 (by rw[hp];exact List.mem_singleton.2 rfl)).trans rfl;refine⟨q.ret.trans ?_,Hm q (Bz hl) hk ?_,FQ q.BV rfl λl hl=>?_⟩
   ·rw[←e1]
   ·rw[←e1]
   ·have:=List.all_eq_true.1 o2 l hl;obtain rfl:l=1:=by simpa using this
    exact List.mem_singleton.2 rfl
def DH(o:Option Xm)(x:Xj):Option Xm × Xf × Bool:=
 match o with
 |none=>(none,Xf.zero,false)
 |some W=>(some (W.step x).1,(W.step x).2.1,(W.step x).2.2)
def JY(o:Option Xm):Bool:=match o with|none=>false|some W=>W.found
def CM(o:Option Xm):X9:=match o with|none=>X9.zero|some W=>W.prev
def Y9(o:Option Xm):Xe:=match o with|none=>Xe.zero|some W=>W.cur
def Io(o:Option Xm):Xe:=match o with|none=>Xe.zero|some W=>W.next
namespace Xh
def from_(start:X9)(key:Int)(op:A3):Xh:={Xh.zero with start:=start,key:=key,op:=op}
def done(J:Xh)(code val:Int):Xh × Xf:=({J with pc:=-1,last:=BK code val},BK code val)
def Au(J:Xh)(step:Int):Xh:={J with walk:=some (Xm.new J.start J.key),pc:=step}
def Cr(J:Xh)(x:Xj):Xh × Xf:=
 let r:=DH J.walk x
 let J:={J with walk:=r.1}
 if r.2.2 then(J,r.2.1) else
 if JY J.walk then({J with pc:=5},Kg J.node) else
 ({J with pc:=6},AV (Xg J.node 2) (Yt (Y9 J.walk)))
def insert(J:Xh)(x:Xj):Xh × Xf:=
 if J.pc==0 then({J with pc:=1},Dd)
 else if J.pc==1 then
  if !x.ok then J.done 4 0 else({J with node:=x.word,pc:=2},AV (Xg x.word 0) (Yy J.key))
 else if J.pc==2 then({J with pc:=3},AV (Xg J.node 1) (Yy J.op.val))
 else if J.pc==7 then
  if x.ok then J.done 1 0 else(J.Au 4).Cr x
 else if J.pc==3 then(J.Au 4).Cr x
 else if J.pc==4 then J.Cr x
 else if J.pc==5 then J.done 3 0
 else if J.pc==6 then({J with pc:=7},Y6 (CM J.walk) (Y9 J.walk) (En (Y9 J.walk) J.node))
 else(J,J.last)
def BB(J:Xh)(x:Xj):Xh × Xf:=
 let r:=DH J.walk x
 let J:={J with walk:=r.1}
 if r.2.2 then(J,r.2.1) else
 if !JY J.walk then J.done 2 0 else
 ({J with pc:=2},Yv (Xg (Y9 J.walk) 1))
def CQ(J:Xh)(x:Xj):Xh × Xf:=
 let r:=DH J.walk x
 let J:={J with walk:=r.1}
 if r.2.2 then(J,r.2.1) else J.done 1 J.val
def A6(J:Xh)(x:Xj):Xh × Xf:=
 if J.pc==3 then
  if x.ok then({J with pc:=4},Y6 (CM J.walk) (Y9 J.walk) (En (Y9 J.walk) (Io J.walk))) else(J.Au 1).BB x
 else if J.pc==0 then(J.Au 1).BB x
 else if J.pc==1 then J.BB x
 else if J.pc==2 then({J with val:=x.word.nm,pc:=3},Y6 (Xg (Y9 J.walk) 2) (Io J.walk) (Ff (Io J.walk)))
 else if J.pc==4 then
  if x.ok then({J with pc:=5},EC (Y9 J.walk)) else(J.Au 6).CQ x
 else if J.pc==6 then J.CQ x
 else if J.pc==5 then J.done 1 J.val
 else(J,J.last)
def get(J:Xh)(x:Xj):Xh × Xf:=
 if J.pc==0 then(J.Au 1).BB x
 else if J.pc==1 then J.BB x
 else if J.pc==2 then J.done 1 x.word.nm
 else(J,J.last)
def next(J:Xh)(x:Xj):Xh × Xf:=
 if J.op.kind==6 then J.insert x
 else if J.op.kind==7 then J.A6 x
 else J.get x
end Xh
def Dh(w:World)(p:Value)(W:Option Xm)(F:List Nat):Prop:=
 match W with
 |none=>p=.pointer none/\F=[]
 |some W=>∃g,p=.pointer (some ⟨g,0,none⟩)/\F=[g]/\Bk w g 261 W.l.toArray
def LitR(w:World)(g:Nat)(J:Xh)(F:List Nat):Prop:=
 ∃q F1,F=g::F1/\Bk w g 206 (J.l q).toArray/\Dh w q J.walk F1
def JX(w:World)(g:Nat)(J:Xh)(F:List Nat):Prop:=LitR w g J F/\F.Nodup
end Go.Proofs.YtaipogljokblkaaGreatDoor
