/- Core: SymM, Rfl, SymQ, Rfm, SymR. -/
import Derived.Test.YtaipogljokblkaaGreatDoorP05
set_option linter.all false
set_option maxRecDepth 100000
set_option maxHeartbeats 8000000
namespace Go.Proofs.YtaipogljokblkaaGreatDoor
open Go Go.RowKit
structure Aq(F:List Nat)(w w':World):Prop where
 os:w'.os=w.os
 tape:w'.tape=w.tape
 output:w'.output=w.output
 size:w.heap.size<=w'.heap.size
 A5:∀b,b<w.heap.size->b∉F->w'.heap[b]?=w.heap[b]?
section
variable{F G:List Nat}{w w1 w2:World}
def Aq.refl(F:List Nat)(w:World):Aq F w w:=⟨rfl,rfl,rfl,Nat.le_refl _,λ_ _ _=>rfl⟩
def Aq.trans(h:Aq F w w1)(h':Aq F w1 w2):Aq F w w2:=
 ⟨h'.os.trans h.os,h'.tape.trans h.tape,h'.output.trans h.output,gb h.size h'.size,λb a c=>(h'.A5 b (ib a h.size) c).trans (h.A5 b a c)⟩
def Aq.mono(h:Aq F w w1)(a:∀x∈F,x∈G\/w.heap.size<=x):Aq G w w1:=
 ⟨h.os,h.tape,h.output,h.size,λb c d=>h.A5 b c λf=>by rcases a b f with h1|h1;exact d h1;omega⟩
def Aq.below(h:Aq [] w w1):Below w.heap.size w w1:=⟨h.os,h.tape,h.output,h.size,λb a=>h.A5 b a Zs⟩
def Aq.Ai(h:Below w.heap.size w w1):Aq F w w1:=⟨h.os,h.tape,h.output,h.size,λb a _=>h.block b a⟩
def Aq.grown{g:Nat}(h:Aq [g] w w1):w.grownBy w1 (some g):=⟨h.os,h.tape,h.output,h.size,λb c a=>h.A5 b c (by simp only[ft];intro e;exact a (by rw[e]))⟩
def Bk.CJ{g:Nat}{t:TypeId}{cs:Array Value}(h:Bk w g t cs)(a:Aq F w w1)(b:g∉F):Bk w1 g t cs:=h.same (a.A5 g h.lt b)
end
def DF(gs:List Nat)(l:Nat):Nat:=if l%2=0 then l/2 else gs.getD (l/2) 0
def Db(gs:List Nat)(g:Nat):DF gs (2*g)=g:=by
 unfold DF;rw[ga Zo];omega
def I3(h':Heap):Heap->List Nat
 |[]=>[]
 |x::r=>match Ee x.1 h' with
  |some (t,a)=>if t==x.2.1&&EV SC.same x.2.2 a then I3 h' r else x.1::I3 h' r
  |none=>x.1::I3 h' r
def RU{h':Heap}{x:Nat × TypeId × List SC}:∀{h:Heap},x∈h->x.1∈I3 h' h\/(x.1,x.2.1,x.2.2)∈h'
 |[],a=>by cases a
 |y::r,a=>by
  unfold I3;rcases gf.1 a with rfl|a
  ·split
   ·rename_i t f d;split
    ·rename_i b;simp only[gm,jn] at b;right;have:=BE d;rw[b.1,←Ct (λ_ _=>SC.Ch) b.2] at this;exact this
    ·left;simp
   ·left;simp
  ·have c:=RU (h':=h') a;split
   ·split
    ·exact c
    ·exact c.imp (λh=>gq _ h) id
   ·exact c.imp (λh=>gq _ h) id
section
variable{P:Program}{e:Env}{S:List X8}
structure Hu(e:Env)(k:Nat->Nat)(hp:Heap)(w:World)(v:SV)(hp':Heap)(en:Ending)(w':World)(k':Nat->Nat):Prop where
 ret:en=.returned (v.den e k')
 U':∀x∈hp',Bk w' (k' x.1) x.2.1 (Yp e k' x.2.2)
 ext:∀l∈Ym hp,k' l=k l
 even:∀g,k' (2*g)=g
 new:∀x∈hp',x.1∈Ym hp\/w.heap.size<=k' x.1
 inj:∀x∈hp',∀y∈hp',k' x.1=k' y.1->x.1=y.1
 CJ:Aq ((I3 hp' hp).map k) w w'
structure CI(F:Nat->Prop)(w w':World):Prop where
 os:w'.os=w.os
 tape:w'.tape=w.tape
 output:w'.output=w.output
 size:w.heap.size<=w'.heap.size
 A5:∀b,b<w.heap.size->¬F b->w'.heap[b]?=w.heap[b]?
structure Mi(e:Env)(Φ:Hg)(F:Nat->Prop)(k:Nat->Nat)(hp:Heap)(w:World)(v:SV)(ph:Nat)(hp':Heap)(en:Ending)(w':World)(k':Nat->Nat):Prop where
 ret:en=.returned (v.den e k')
 U':∀x∈hp',Bk w' (k' x.1) x.2.1 (Yp e k' x.2.2)
 ext:∀l∈Ym hp,k' l=k l
 even:∀g,k' (2*g)=g
 new:∀x∈hp',x.1∈Ym hp\/w.heap.size<=k' x.1
 inj:∀x∈hp',∀y∈hp',k' x.1=k' y.1->x.1=y.1
 CJ:CI (λb=>b∈(I3 hp' hp).map k\/F b) w w'
 fin:∃F':Nat->Prop,Φ.P ph w' F'/\(∀x∈hp',¬F' (k' x.1))/\(∀b,F' b->b<w'.heap.size)/\∀b,F' b->F b\/w.heap.size<=b
def Ow{Φ:Hg}(Q:P.follows .mixedOrders=true)(R:DE P e Φ S){n f:Nat}{args:List SV}{st m:St}{x:Ex}{v:SV}(h:(exec P S n (.call f args) st).BD e=some (x,v,m))(A:Bd e st.Co)
  {k:Nat->Nat}{w:World}(E:∀g,k (2*g)=g)(i:∀x∈st.hp,Bk w (k x.1) x.2.1 (Yp e k x.2.2))(j:Rt (Ym st.hp) st.hp=true)(s:args.all (Jk (Ym st.hp))=true)
  (inj:∀x∈st.hp,∀y∈st.hp,k x.1=k y.1->x.1=y.1){c:Array Value}(ha:c=(args.map (SV.den e k)).toArray)
  {F:Nat->Prop}(f1:Φ.P st.ph w F)(f2:∀x∈st.hp,¬F (k x.1))(f3:∀b,F b->b<w.heap.size)(I:¬f=DG:=by decide):
  Calls P f c w λen w'=>∃k',Mi e Φ F k st.hp w v m.ph m.hp en w' k':=by
 have M:∀ t,GL k st.hp t→Alike (Ym st.hp) t k:=fun t d=>⟨d.1,E,fun l q=>by
  obtain⟨x,o,rfl⟩:=Bn.1 q;exact d.2 x o⟩
 have H:CS e ⟨Ym st.hp,k,w,F,Φ⟩ k st.ph st.hp w:=by
  refine⟨E,λt d x o=>?_,inj,λ_ _=>rfl,λx o=>fq (Bn.2 ⟨x,o,rfl⟩),λl q=>Bn.1 q,rfl,rfl,rfl,Nat.le_refl _,λ_ _ _ _=>rfl,F,f1,f2,f3,λ_ J=>fq J⟩;rw[d.2 x o,Fb (M t d) (L6 j x o)];exact i x o
 have B:(RV P S n f args st).BD e=some (v,m):=by
  unfold RV;rw[BQ,h];rfl
 have p:=(Py Q R n).2.2 f args st v m B k w F H A c (fun t d=>by
  rw[ha];congr 1;exact jl λu U=>(FR (M t d) (g9.1 s u U)).symm)
 unfold AY at p
 rw[fw I] at p
 obtain⟨_,r⟩:=p
 refine r.mono λen w' z=>?_
 obtain⟨k',a,_,p⟩:=z
 obtain⟨W,X,Y,Z,g4⟩:=a.rY
 refine⟨k',p k' a.I5,λx o=>a.heap k' a.I5 x o,a.ext,a.G9,a.new,a.inj,⟨a.os,a.tape,a.output,a.size,λb J N=>?_⟩,W,X,Y,Z,g4⟩
 by_cases C:∃l∈Ym st.hp,k l=b
 ·obtain⟨l,q,rfl⟩:=C;obtain⟨x,o,rfl⟩:=Bn.1 q;rcases RU (h':=m.hp) o with h1|h1
  ·exact absurd (fq (j7.2 ⟨_,h1,rfl⟩)) N
  ·have D:=a.heap k' a.I5 _ h1;have O:=i x o;have e1:k' x.1=k x.1:=a.ext x.1 q;simp only at D;have K:Alike (Ym st.hp) k' k:=⟨a.G9,E,λl q=>a.ext l q⟩;rw[e1,Fb K (L6 j x o)] at D;unfold Bk at D O;rw[D,O]
 ·exact a.Wc b J (λl q he=>C ⟨l,q,he⟩) λL=>N (db L)
def YK(o:P.follows .mixedOrders=true)(p:E5 P e S){n f:Nat}{args:List SV}{st j:St}{x:Ex}{v:SV}(h:(exec P S n (.call f args) st).BD e=some (x,v,j))(l:Bd e st.Co)
  {k:Nat->Nat}{w:World}(r:∀g,k (2*g)=g)(c:∀x∈st.hp,Bk w (k x.1) x.2.1 (Yp e k x.2.2))(d:Rt (Ym st.hp) st.hp=true)(i:args.all (Jk (Ym st.hp))=true)
  (inj:∀x∈st.hp,∀y∈st.hp,k x.1=k y.1->x.1=y.1){a:Array Value}(ha:a=(args.map (SV.den e k)).toArray)(hp:HJ S=true:=by kernel_rfl)(m:¬f=DG:=by decide):
  Calls P f a w λen w'=>∃k',Hu e k st.hp w v j.hp en w' k':=by
 refine(Ow (Φ:=Hg.no) o (p.qp hp) h l r c d i inj ha (F:=λ_=>False) (λ_ h=>h) (λ_ _ h=>h) (λ_ h=>h.elim) m).mono λen w' s=>?_
 obtain⟨k',q⟩:=s
 exact⟨k',q.ret,q.U',q.ext,q.even,q.new,q.inj,⟨q.CJ.os,q.CJ.tape,q.CJ.output,q.CJ.size,λb t u=>q.CJ.A5 b t λh=>by rcases h with h|h;exact u h;exact h⟩⟩
def Ht{e:Env}{s:Gj}(h:s=[]):Bd e s:=by subst h;intro p hp;cases hp
end
def Ib{e:Env}{k:Nat->Nat}{hp:Heap}{w:World}{v:SV}{hp':Heap}{en:Ending}{w':World}{k':Nat->Nat}(h:Hu e k hp w v hp' en w' k'){l:Nat}{t:TypeId}{cs:List SC}(a:(l,t,cs)∈hp'){g:Nat}(b:k' l=g){row:Array Value}(c:Yp e k' cs=row):Bk w' g t row:=by
 have:=h.U' _ a;simp only at this;rw[b,c] at this;exact this
def vs(k n:Nat):List SC:=(List.range n).map λi=>.int (.var (k+i))
def zs(n:Nat):List SC:=List.replicate n (.int (.lit 0))
def pt(b:List SC):List (Nat × List SC)->List SC
 |[]=>b
 |p::r=>pt (splice b p.1 p.2) r
def Dq(t:Yd (Ex × SV × St)):Yd (SV × Heap):=t.bind λr=>.leaf (r.2.1,r.2.2.hp)
def jY{e:Env}{t:Yd (Ex × SV × St)}{v:SV}{h:Heap}(a:(Dq t).BD e=some (v,h)):∃x s,t.BD e=some (x,v,s)/\s.hp=h:=by
 unfold Dq at a;rw[BQ] at a;obtain⟨⟨x,u,s⟩,c,b⟩:=io.1 a;simp only[Yd.BD,gu,jd] at b;obtain⟨rfl,rfl⟩:=b;exact⟨x,s,c,rfl⟩
def Ro(t:Yd (Ex × SV × St)):Yd (SV × Nat × Heap):=t.bind λr=>.leaf (r.2.1,r.2.2.ph,r.2.2.hp)
def jZ{e:Env}{t:Yd (Ex × SV × St)}{v:SV}{ph:Nat}{h:Heap}(a:(Ro t).BD e=some (v,ph,h)):∃x s,t.BD e=some (x,v,s)/\s.ph=ph/\s.hp=h:=by
 unfold Ro at a;rw[BQ] at a;obtain⟨⟨x,u,s⟩,c,b⟩:=io.1 a;simp only[Yd.BD,gu,jd] at b;obtain⟨rfl,rfl,rfl⟩:=b;exact⟨x,s,c,rfl,rfl⟩
def QZ{P:Program}{e:Env}{Φ:Hg}{S:List X8}(m:P.follows .mixedOrders=true)(o:DE P e Φ S){n f:Nat}{args:List SV}{st:St}{v:SV}{ph:Nat}{hp':Heap}(h:(Ro (exec P S n (.call f args) st)).BD e=some (v,ph,hp'))(j:Bd e st.Co)
  {k:Nat->Nat}{w:World}(p:∀g,k (2*g)=g)(c:∀x∈st.hp,Bk w (k x.1) x.2.1 (Yp e k x.2.2))(d:Rt (Ym st.hp) st.hp=true)(i:args.all (Jk (Ym st.hp))=true)
  (inj:∀x∈st.hp,∀y∈st.hp,k x.1=k y.1->x.1=y.1){a:Array Value}(ha:a=(args.map (SV.den e k)).toArray)
  {F:Nat->Prop}(f1:Φ.P st.ph w F)(f2:∀x∈st.hp,¬F (k x.1))(f3:∀b,F b->b<w.heap.size)(l:¬f=DG:=by decide):
  Calls P f a w λen w'=>∃k',Mi e Φ F k st.hp w v ph hp' en w' k':=by
 obtain⟨x,s,q,rfl,rfl⟩:=jZ h
 exact Ow m o q j p c d i inj ha f1 f2 f3 l
def CZ{P:Program}{e:Env}{S:List X8}(m:P.follows .mixedOrders=true)(o:E5 P e S){n f:Nat}{args:List SV}{st:St}{v:SV}{hp':Heap}(h:(Dq (exec P S n (.call f args) st)).BD e=some (v,hp'))(i:Bd e st.Co)
  {k:Nat->Nat}{w:World}(p:∀g,k (2*g)=g)(b:∀x∈st.hp,Bk w (k x.1) x.2.1 (Yp e k x.2.2))(c:Rt (Ym st.hp) st.hp=true)(d:args.all (Jk (Ym st.hp))=true)
  (inj:∀x∈st.hp,∀y∈st.hp,k x.1=k y.1->x.1=y.1){a:Array Value}(ha:a=(args.map (SV.den e k)).toArray)(j:HJ S=true:=by kernel_rfl)(l:¬f=DG:=by decide):
  Calls P f a w λen w'=>∃k',Hu e k st.hp w v hp' en w' k':=by
 obtain⟨x,s,q,rfl⟩:=jY h
 exact YK m o q i p b c d inj ha j l
def X6{P:Program}{e:Env}:E5 P e []:=λ_ h=>by cases h
def Dh{P:Program}{f:Nat}{fn:Func}(a:P.funcs[f]?=some fn)(b:(fn.name== "runtime.NumGoroutine")=false)(c:fn.body.isNone=false)(args:Array Value)(w:World):(callFunc f args).run P w=.ok (.enter f args) w:=by
 unfold callFunc;simp only[ig,pm,ia,a];rw[fw (by simp[b]),fw (by simp[c])];rfl
def Ds{e:Env}{b:BT}{v:Bool}{s:Gj}(h:b.den e=v)(a:Bd e s):Bd e ((b,v)::s):=by
 intro p hp;rcases gf.1 hp with rfl|hp
 ·exact h
 ·exact a p hp
def Y1{w:World}{g:Nat}{t:TypeId}{cs cs':Array Value}(h:Bk w g t cs)(e:cs=cs'):Bk w g t cs':=e▸h
def Gs{gs F ls a:List Nat}{w w':World}(h:Aq (a.map (DF gs)) w w')(e:a=ls)(b:∀l∈ls,DF gs l∈F):Aq F w w':=by
 subst e;exact h.mono λx c=>by obtain⟨l,d,rfl⟩:=j7.1 c;exact fq (b l d)
def xr{h:Heap}(gs:List Nat)(b:(h.map λx=>DF gs x.1).Nodup)(x y:Nat × TypeId × List SC)(c:x∈h)(d:y∈h)(a:DF gs x.1=DF gs y.1):x.1=y.1:=by
 induction h with
 |nil=>cases c
 |cons z r f=>
  simp only[jj,ja,j7,not_exists,not_and] at b;rcases gf.1 c with h1|h1<;>rcases gf.1 d with h2|h2
  ·rw[h1,h2]
  ·rw[h1] at a;exact absurd a.symm (b.1 y h2)
  ·rw[h2] at a;exact absurd a (b.1 x h1)
  ·exact f b.2 h1 h2
def Rep2(Sub:World->Value->List Nat->Prop)(T:TypeId)(JL:Value->List Value)(w:World)(g:Nat)(F:List Nat):Prop:=
 (∃q a,F=g::a/\Bk w g T (JL q).toArray/\Sub w q a)/\F.Nodup
def Gh(Sub:World->Value->List Nat->Prop)(T:TypeId)(JL:Value->List Value)(V:Value)(g:Nat)(F:List Nat)(w:World)(en:Ending)(w':World):Prop:=
 ∃a,en=.returned V/\Rep2 Sub T JL w' g a/\(∀b∈a,b∈F\/w.heap.size<=b)/\Aq F w w'
section
variable{e:Env}{gs F:List Nat}{hp hp':Heap}{w w':World}{v:SV}{en:Ending}{k':Nat->Nat}{Sub:World->Value->List Nat->Prop}{T T2:TypeId}{JL:Value->List Value}{V:Value}{g:Nat}{c1 c2:List SC}{ls:List Nat}
def qi(h:Hu e (DF gs) hp w v hp' en w' k')(l1:FH 1 (Ym hp)=true)(d:DF gs 1=g)(f:(1,T,c1)∈hp')(i:Yp e k' c1=(JL (.pointer none)).toArray)(j:v.den e k'=V)
  (c:I3 hp' hp=ls)(hF:∀l∈ls,DF gs l∈F)(k:g∈F)(a:Sub w' (.pointer none) []):Gh Sub T JL V g F w en w':=
 ⟨[g],h.ret.trans (by rw[j]),⟨⟨_,[],rfl,Ib h f ((h.ext 1 (BA.1 l1)).trans d) i,a⟩,by simp⟩,λb m=>by rw[ft.1 m];exact fq k,Gs h.CJ c hF⟩
def qh(h:Hu e (DF gs) hp w v hp' en w' k')(l1:FH 1 (Ym hp)=true)(n:DF gs 1=g)(k:(1,T,c1)∈hp')(l2:Nat)(d:(l2,T2,c2)∈hp')(a:(l2==1)=false)(o:Yp e k' c1=(JL (.pointer (some ⟨k' l2,0,none⟩))).toArray)(p:v.den e k'=V)
  (f:I3 hp' hp=ls)(hF:∀l∈ls,DF gs l∈F)(q:g∈F)(i:FH l2 (Ym hp)=true->DF gs l2∈F)(c:Bk w' (k' l2) T2 (Yp e k' c2)->Sub w' (.pointer (some ⟨k' l2,0,none⟩)) [k' l2]):Gh Sub T JL V g F w en w':=by
 have m:=(h.ext 1 (BA.1 l1)).trans n
 have r:¬(g=k' l2):=λs=>by
  have:=h.inj _ k _ d (m.trans s);simp only at this;rw[←this] at a;simp at a
 refine⟨[g,k' l2],h.ret.trans (by rw[p]),⟨⟨_,_,rfl,Ib h k m o,c (Ib h d rfl rfl)⟩,by simp[r]⟩,λb j=>?_,Gs h.CJ f hF⟩
 rcases gf.1 j with rfl|j
 ·exact fq q
 ·rw[ft.1 j];rcases h.new _ d with h1|h1
  ·left;rw[h.ext _ h1];exact i (BA.2 h1)
  ·exact db h1
end
def ct(l:List (List SC)):List SC:=l.flatten
def sY(s:Gj):BT->Option Bool
 |.lit b=>some b
 |.not a=>match J7 (.not a) s with
  |some v=>some v
  |none=>(sY s a).map (!·)
 |.and a b=>match J7 (.and a b) s with
  |some v=>some v
  |none=>match sY s a,sY s b with
   |some false,_=>some false
   |_,some false=>some false
   |some true,some true=>some true
   |_,_=>none
 |.or a b=>match J7 (.or a b) s with
  |some v=>some v
  |none=>match sY s a,sY s b with
   |some true,_=>some true
   |_,some true=>some true
   |some false,some false=>some false
   |_,_=>none
 |b=>J7 b s
def GW{e:Env}{s:Gj}(f:Bd e s):∀(b:BT) (v:Bool),sY s b=some v->b.den e=v
 |.lit b,v,h=>by cases h;rfl
 |.not a,v,h=>by
  unfold sY at h;split at h
  ·rename_i u j;cases h;exact Ze f j
  ·obtain⟨u,g,k⟩:=my.1 h;show(!a.den e)=v;rw[GW f a u g];exact k
 |.and a b,v,h=>by
  unfold sY at h;split at h
  ·rename_i u j;cases h;exact Ze f j
  ·show(a.den e&&b.den e)=v;split at h
   ·rename_i g;cases h;rw[GW f a _ g];rfl
   ·rename_i g _;cases h;rw[GW f b _ g];cases a.den e<;>rfl
   ·rename_i g k;cases h;rw[GW f a _ g,GW f b _ k];rfl
   ·cases h
 |.or a b,v,h=>by
  unfold sY at h;split at h
  ·rename_i u j;cases h;exact Ze f j
  ·show(a.den e||b.den e)=v;split at h
   ·rename_i g;cases h;rw[GW f a _ g];rfl
   ·rename_i g _;cases h;rw[GW f b _ g];cases a.den e<;>rfl
   ·rename_i g k;cases h;rw[GW f a _ g,GW f b _ k];rfl
   ·cases h
 |.var i,v,h=>Ze f h
 |.eq a b,v,h=>Ze f h
 |.lt a b,v,h=>Ze f h
 |.le a b,v,h=>Ze f h
 |.beq a b,v,h=>Ze f h
 |.nil i,v,h=>Ze f h
 |.kH i,v,h=>Ze f h
section
variable{α R:Type}{e:Env}
def Yd.lv(s:Gj):Yd α->List (Option α)
 |.leaf a=>[some a]
 |.fail _=>[none]
 |.br b t f=>match sY s b with
  |some true=>t.lv s
  |some false=>f.lv s
  |none=>t.lv (IZ b true s)++f.lv (IZ b false s)
def MI:∀(t:Yd α) (s:Gj),Bd e s->t.BD e∈t.lv s
 |.leaf a,_,_=>by unfold Yd.lv Yd.BD;exact g6 ..
 |.fail _,_,_=>by unfold Yd.lv Yd.BD;exact g6 ..
 |.br b t f,s,g=>by
  unfold Yd.lv Yd.BD;split
  ·rename_i h;rw[GW g b _ h];exact MI t s g
  ·rename_i h;rw[GW g b _ h];exact MI f s g
  ·cases i:b.den e with
   |true=>exact g8 _ (MI t _ (GC g i))
   |false=>exact jq _ (MI f _ (GC g i))
def BT.bare:BT->BT
 |.not a=>a.bare
 |b=>b
def Yd.nx(s:Gj):Yd α->BT
 |.leaf _=>.lit true
 |.fail _=>.lit true
 |.br b t f=>match sY s b with
  |some true=>t.nx s
  |some false=>f.nx s
  |none=>b.bare
def PO(t:Yd α)(e:Env)(Q:α->R->Prop)(s:Gj)(r:R):Prop:=Bd e s->∃a,t.BD e=some a/\Q a r
variable{t:Yd α}{Q:α->R->Prop}{s:Gj}{a b p q:R}{c d:Bool}
def R0(f:(t.nx s).den e=c)(h:PO t e Q (IZ (t.nx s) true s) a)(i:PO t e Q (IZ (t.nx s) false s) b):PO t e Q s (bif c then a else b):=λg=>by
 cases c with
 |true=>exact h (GC g f)
 |false=>exact i (GC g f)
def Hm(h:PO t e Q s (bif c then a else b)):PO t e Q s (bif c then a else b):=h
def Hl(h:PO t e Q s (bif c then a else b)):PO t e Q s (if c=true then a else b):=by cases c<;>exact h
def wh(h:PO t e Q s (bif c then b else a)):PO t e Q s (bif !c then a else b):=by cases c<;>exact h
def wj(h:PO t e Q s (bif c then(bif d then a else b) else b)):PO t e Q s (bif c&&d then a else b):=by cases c<;>cases d<;>exact h
def P7(h:PO t e Q s (bif c then a else(bif d then a else b))):PO t e Q s (bif c||d then a else b):=by cases c<;>cases d<;>exact h
def Jy(f:c=true)(h:PO t e Q s a):PO t e Q s (bif c then a else b):=by subst f;exact h
def Jz(f:c=false)(h:PO t e Q s b):PO t e Q s (bif c then a else b):=by subst f;exact h
def mK{α:Type}(ok:α->Bool):Option α->Bool
 |some a=>ok a
 |none=>false
def Km{β:Type}(f:(Nat->Nat)->α->β)(g:R->β)(ok:α->Bool)(r:(t.lv s).all (mK ok)=true)(u:∀k,(t.lv s).map (λo=>o.map (f k))=(t.lv s).map λ_=>some (g a))
  (v:∀x,ok x=true->(∀k,f k x=g a)->Q x a):PO t e Q s a:=λw=>by
 have j:=MI t s w
 have h:=g9.1 r _ j
 cases m:t.BD e with
 |none=>rw[m] at h;cases h
 |some x=>
  rw[m] at h j
  refine⟨x,rfl,v x h λk=>?_⟩
  obtain⟨i,y,z⟩:=List.getElem_of_mem j
  have n:=iy (λl=>l[i]?) (u k)
  simp only[kf,gl y,j5,z,j5,gu] at n
  exact n
end
def cellAt(l:Nat)(h:Heap):List SC:=match Ee l h with|some x=>x.2|none=>[]
def rX(e:Env)(k:Nat->Nat)(a:SV × Heap):Value × Array Value:=(a.1.den e k,Yp e k (cellAt 1 a.2))
def VG(T:TypeId)(f:Heap)(a:SV × Heap):Bool:=(match Ee 1 a.2 with|some x=>x.1==T|none=>false)&&(I3 a.2 f).all (·==1)
def Q1(e:Env)(T:TypeId)(f:Heap)(a:SV × Heap)(r:Value × Array Value):Prop:=VG T f a=true/\∀k,rX e k a=r
def rH{t:Yd (SV × Heap)}{e:Env}{T:TypeId}{f:Heap}{s:Gj}{R:Type}{a:R}{g:R->Value × Array Value}(i:(t.lv s).all (mK (VG T f))=true)(j:∀k,(t.lv s).map (λo=>o.map (rX e k))=(t.lv s).map λ_=>some (g a)):PO t e (λx r=>Q1 e T f x (g r)) s a:=
 Km (rX e) g (VG T f) i j λ_ h l=>⟨h,l⟩
def po1{P:Program}{e:Env}{S:List X8}{n f:Nat}{args:List SV}{st:St}{T:TypeId}{g:Nat}{cs:List SC}{w:World}{i:Array Value}{R:Type}{r:R}{G:R->Value × Array Value}(M:P.follows .mixedOrders=true)(N:E5 P e S)(F:st.hp=[(1,T,cs)])(k:Bd e st.Co)
  (O:Bk w g T (Yp e (DF [g]) cs))(j:Rt (Ym st.hp) st.hp=true)(m:args.all (Jk (Ym st.hp))=true)(ha:i=(args.map (SV.den e (DF [g]))).toArray)
  (h:PO (Dq (exec P S n (.call f args) st)) e (λx r=>Q1 e T st.hp x (G r)) st.Co r)(H:HJ S=true:=by kernel_rfl)(I:¬f=DG:=by decide):
  Calls P f i w λJ w'=>J=.returned (G r).1/\Bk w' g T (G r).2/\Aq [g] w w':=by
 obtain⟨⟨v,U⟩,A,o,B⟩:=h k
 refine(CZ M N A k (Db [g]) (λz C=>?_) j m (λz C y K _=>?_) ha H I).mono λJ w' V=>?_
 ·rw[F] at C;rw[ft.1 C];exact Y1 (show Bk w (DF [g] 1) T _ from O) rfl
 ·rw[F] at C K;rw[ft.1 C,ft.1 K]
 ·obtain⟨L,q⟩:=V;have D:=B L;unfold VG at o;rw[gm] at o;obtain⟨E,W⟩:=o;cases u:Ee 1 U with
  |none=>rw[u] at E;cases E
  |some x=>
   obtain⟨X,Z⟩:=x;rw[u] at E;obtain rfl:X=T:=by simpa using E
   unfold rX cellAt at D;rw[u] at D;have Y:L 1=g:=(q.ext 1 (by rw[F];exact ft.2 rfl)).trans rfl;refine⟨q.ret.trans ?_,Ib q (BE u) Y ?_,Gs q.CJ rfl λl u=>?_⟩
   ·rw[←D]
   ·rw[←D]
   ·have:=g9.1 W l u;obtain rfl:l=1:=by simpa using this
    exact ft.2 rfl
def KG(Φ:Hg)(ph:Nat)(F:Nat->Prop)(g:Nat)(T:TypeId)(row:Array Value)(V:Value)(w:World)(c:Ending)(w':World):Prop:=
 c=.returned V/\Bk w' g T row/\CI (λb=>b=g\/F b) w w'/\∃a:Nat->Prop,Φ.P ph w' a/\¬a g/\(∀b,a b->b<w'.heap.size)/\∀b,a b->F b\/w.heap.size<=b
def I'{e:Env}{Φ:Hg}{F:Nat->Prop}{c:List Nat}{d hp':Heap}{w w':World}{v:SV}{ph:Nat}{i:Ending}{k':Nat->Nat}{T:TypeId}{V:Value}{g:Nat}{j:List SC}{ls:List Nat}{row:Array Value}
  (h:Mi e Φ F (DF c) d w v ph hp' i w' k')(l1:FH 1 (Ym d)=true)(o:DF c 1=g)(k:(1,T,j)∈hp')(p:Yp e k' j=row)(q:v.den e k'=V)
  (f:I3 hp' d=ls)(hF:∀l∈ls,DF c l=g):KG Φ ph F g T row V w i w':=by
 have m:k' 1=g:=(h.ext 1 (BA.1 l1)).trans o
 obtain⟨r,p1,p2,s,t⟩:=h.fin
 refine⟨h.ret.trans (by rw[q]),?_,⟨h.CJ.os,h.CJ.tape,h.CJ.output,h.CJ.size,λb u x=>h.CJ.A5 b u λa=>x ?_⟩,r,p1,?_,s,t⟩
 ·have:=h.U' _ k;simp only at this;rw[m,p] at this;exact this
 ·rcases a with a|a
  ·obtain⟨l,n,rfl⟩:=j7.1 a;rw[f] at n;exact fq (hF l n)
  ·exact db a
 ·have:=p2 _ k;simp only at this;rwa [m] at this
def Xt{b:Bool}(h:(!b)=true):b=false:=by cases b<;>simp_all
def noF{g:Nat}{F:Nat->Prop}(a:¬F g){l:Nat}{t:TypeId}{cs:List SC}(b:DF [g] l=g):∀x∈([(l,t,cs)]:Heap),¬F (DF [g] x.1):=λx c=>by
 rw[ft.1 c];show ¬F (DF [g] l);rw[b];exact a
def kG:SC->Bool
 |.lit (.pointer none)=>true
 |_=>false
def N6:SC->Option Nat
 |.ptr l 0=>some l
 |_=>none
def gM(i:Nat)(h:Heap):Option Nat:=(cellAt 1 h)[i]?.bind N6
def rV(i:Nat)(e:Env)(k:Nat->Nat)(a:SV × Heap):Value × Array Value × Option (Array Value):=
 (a.1.den e k,Yp e k ((cellAt 1 a.2).set i (.lit (.pointer none))),(gM i a.2).map λl=>Yp e k (cellAt l a.2))
def tC(T:TypeId)(l:Nat)(h:Heap):Bool:=match Ee l h with|some x=>x.1==T|none=>false
def T1(i:Nat)(T d:TypeId)(b:Heap)(a:SV × Heap):Bool:=
 tC T 1 a.2 && (match (cellAt 1 a.2)[i]? with
  |some c=>kG c||(match N6 c with|some l=>!(l==1)&&tC d l a.2|none=>false)
  |none=>false)&&(I3 a.2 b).all λl=>FH l (Ym b)
def IQ{T:TypeId}{l:Nat}{h:Heap}(a:tC T l h=true):(l,T,cellAt l h)∈h:=by
 unfold tC at a;unfold cellAt;cases b:Ee l h with
 |none=>rw[b] at a;cases a
 |some x=>
  obtain⟨d,c⟩:=x;rw[b] at a;obtain rfl:d=T:=by simpa using a
  exact BE b
def dE{c:SC}(h:kG c=true):c=.lit (.pointer none):=by
 unfold kG at h;split at h
 ·rfl
 ·cases h
def Sp{c:SC}{l:Nat}(h:N6 c=some l):c=.ptr l 0:=by
 unfold N6 at h;split at h
 ·cases h;rfl
 ·cases h
def Q2(i:Nat)(e:Env)(T b:TypeId)(c:Heap)(a:SV × Heap)(r:Value × Array Value × Option (Array Value)):Prop:=T1 i T b c a=true/\∀k,rV i e k a=r
def rG{i:Nat}{t:Yd (SV × Heap)}{e:Env}{T b:TypeId}{c:Heap}{s:Gj}{R:Type}{a:R}{g:R->Value × Array Value × Option (Array Value)}(d:(t.lv s).all (mK (T1 i T b c))=true)(f:∀k,(t.lv s).map (λo=>o.map (rV i e k))=(t.lv s).map λ_=>some (g a)):PO t e (λx r=>Q2 i e T b c x (g r)) s a:=
 Km (rV i e) g (T1 i T b c) d f λ_ h j=>⟨h,j⟩
def po2{P:Program}{e:Env}{S:List X8}{n f:Nat}{args:List SV}{st:St}{a:List Nat}{w:World}{d:Array Value}{R:Type}{r:R}(i:Nat)(T T2:TypeId)(g:Nat)(V:R->Value)(C:R->Value->List Value)(k:R->Option (Array Value))(Sub:R->World->Value->List Nat->Prop)
  (hm:P.follows .mixedOrders=true)(hS:E5 P e S)(p:Bd e st.Co)
  (m:∀x∈st.hp,Bk w (DF a x.1) x.2.1 (Yp e (DF a) x.2.2))(o:Rt (Ym st.hp) st.hp=true)(t:args.all (Jk (Ym st.hp))=true)
  (inj:(st.hp.map λx=>DF a x.1).Nodup)(ha:d=(args.map (SV.den e (DF a))).toArray)(hF:∀l∈Ym st.hp,DF a l∈a)(l1:FH 1 (Ym st.hp)=true)(J:DF a 1=g)
  (hJL:∀q,C r q=(C r (.pointer none)).set i q)(K:∀w,k r=none->Sub r w (.pointer none) [])(L:∀w g cs,k r=some cs->Bk w g T2 cs->Sub r w (.pointer (some ⟨g,0,none⟩)) [g])
  (h:PO (Dq (exec P S n (.call f args) st)) e (λx r=>Q2 i e T T2 st.hp x (V r,(C r (.pointer none)).toArray,k r)) st.Co r)(M:HJ S=true:=by kernel_rfl)(N:¬f=DG:=by decide):
  Calls P f d w λen w'=>Gh (Sub r) T (C r) (V r) g a w en w':=by
 obtain⟨⟨v,B⟩,D,u,E⟩:=h p
 refine(CZ hm hS D p (Db a) m o t (λx O y hy Q=>xr a inj x y O hy Q) ha M N).mono λen w' O=>?_
 obtain⟨F,q⟩:=O
 have e1:=E F
 unfold T1 at u
 simp only[gm] at u
 obtain⟨⟨o1,b⟩,o3⟩:=u
 have U:=IQ o1
 unfold rV at e1
 injection e1 with W s
 injection s with s X
 simp only at W s X U b o3
 have G:∀l∈I3 B st.hp,DF a l∈a:=λl H=>hF l (BA.1 (g9.1 o3 l H))
 have gF:g∈a:=by rw[←J];exact hF 1 (BA.1 l1)
 cases z:(cellAt 1 B)[i]? with
 |none=>rw[z] at b;cases b
 |some c=>
  rw[z] at b
  simp only[ka] at b
  have e5:(cellAt 1 B).set i c=cellAt 1 B:=by
   apply ni;intro j;rw[qa];split
   ·rename_i Y;subst Y;split
    ·exact z.symm
    ·rename_i aa;rw[ik Zo] at z;cases z
   ·rfl
  have e6:∀q,Yp e F ((cellAt 1 B).set i q)=(C r (q.den e F)).toArray:=λq=>by
   rw[hJL (q.den e F)];have s:=iy Array.toList s;unfold Yp at s ⊢;simp only[List.map_set] at s ⊢;rw[←s,ob]
  cases hn:kG c with
  |true=>
   have A:=dE hn
   subst A
   have Z:k r=none:=by
    rw[←X];unfold gM;rw[z];rfl
   have I:=e6 (.lit (.pointer none))
   rw[e5] at I
   exact qi q l1 J U I W rfl G gF (K w' Z)
  |false=>
   rw[hn] at b
   simp only[im,false_or] at b
   cases H:N6 c with
   |none=>rw[H] at b;cases b
   |some l=>
    rw[H] at b
    simp only[gm,jp] at b
    have A:=Sp H
    subst A
    have Z:k r=some (Yp e F (cellAt l B)):=by
     rw[←X];unfold gM;rw[z];rfl
    have I:=e6 (.ptr l 0)
    rw[e5] at I
    exact qh q l1 J U l (IQ b.2) b.1 I W rfl G gF (λhh=>hF l (BA.1 hh)) λhb=>L w' _ _ Z hb
def Yz{P:Program}{e:Env}{s:X8}{S:List X8}(h:Mj P e s)(b:E5 P e S):E5 P e (s::S):=λz a=>by
 rcases gf.1 a with rfl|a
 ·exact h
 ·exact b z a
def Cz{P:Program}{e:Env}{s:X8}{fn:Func}{c:List Value}{row a:Array Value}{V:Value}(j:P.funcs[s.f]?=some fn)
  (h:∀g w,Bk w g s.ty row->Calls P s.f (Value.pointer (some ⟨g,0,none⟩)::c).toArray w λd w'=>d=.returned V/\Bk w' g s.ty a/\Aq [g] w w')
  (k:s.self=true:=by kernel_rfl)(l:(fn.name== "runtime.NumGoroutine")=false:=by kernel_rfl)(m:fn.body.isNone=false:=by kernel_rfl)(n:Yp e half s.cells=row:=by kernel_rfl)(o:s.rest.map (SV.den e half)=c:=by kernel_rfl)(p:s.out.den e half=V:=by kernel_rfl)(q:Yp e half s.E4=a:=by kernel_rfl):Mj P e s:=by
 unfold Mj
 rw[ga k]
 intro g w i b ha
 rw[o] at ha
 subst ha
 rw[n] at i
 rw[p,q]
 exact⟨Dh j l m _ _,(h g w i).mono λd w' h=>⟨h.1,h.2.1,h.2.2.grown⟩⟩
def G6{P:Program}{e:Env}{s:X8}{fn:Func}{b:List Value}{V:Value}(c:P.funcs[s.f]?=some fn)
  (h:∀w,Calls P s.f b.toArray w λd w'=>d=.returned V/\Below w.heap.size w w')
  (g:s.self=false:=by kernel_rfl)(i:(fn.name== "runtime.NumGoroutine")=false:=by kernel_rfl)(j:fn.body.isNone=false:=by kernel_rfl)(k:s.rest.map (SV.den e half)=b:=by kernel_rfl)(l:s.out.den e half=V:=by kernel_rfl):Mj P e s:=by
 unfold Mj
 rw[fw (by rw[g];decide)]
 intro w a ha
 rw[k] at ha
 subst ha
 rw[l]
 exact⟨Dh c i j _ _,h w⟩
def Yf{P:Program}{e:Env}{Φ:Hg}{s:X8}{S:List X8}(h:Fs P e Φ s)(b:DE P e Φ S):DE P e Φ (s::S):=λz a=>by
 rcases gf.1 a with rfl|a
 ·exact h
 ·exact b z a
def GG{P:Program}{e:Env}{Φ:Hg}:DE P e Φ []:=λ_ h=>by cases h
def AZ{P:Program}{e:Env}{Φ:Hg}{s:X8}{c:List Value}{V:Value}(i j:Nat)
  (h:(∀q,SC.bool q∈s.cells->q.den e=true)->∀w F,Φ.P i w F->(∀b,F b->b<w.heap.size)->AY P s.f c.toArray w λg w'=>g=.returned V/\Fx Φ j F none w w')
  (k:GO s=none:=by kernel_rfl)(l:(!s.self&&!(s.ty==0))=true:=by kernel_rfl)(m:s.rest.map (SV.den e half)=c:=by kernel_rfl)(n:s.out.den e half=V:=by kernel_rfl)(o:(s.ty-1)%100=i:=by kernel_rfl)(p:(s.ty-1)/100=j:=by kernel_rfl):Fs P e Φ s:=by
 unfold Fs
 rw[k]
 simp only
 rw[ga l]
 intro r w F d t a ha
 rw[m] at ha
 subst ha
 rw[n,p]
 rw[o] at d
 exact h r w F d t
def Y8{P:Program}{f:Nat}{fn:Func}{a:Array Value}{w:World}{R:Ending->World->Prop}(b:P.funcs[f]?=some fn)(h:Calls P f a w R)(c:¬f=DG:=by decide)(d:(fn.name== "runtime.NumGoroutine")=false:=by kernel_rfl)(e:fn.body.isNone=false:=by kernel_rfl):AY P f a w R:=
 AY.fn c ⟨Dh b d e _ _,h⟩
def xZ{P:Program}{e:Env}{Φ:Hg}{s:X8}{fn:Func}{k:List Value}{row a:Array Value}{V:Value}(n:Nat)(i j o:Nat)(p:P.funcs[s.f]?=some fn)
  (h:∀g w F,Bk w g s.ty row->Φ.P i w F->¬F g->(∀b,F b->b<w.heap.size)->Calls P s.f (Value.pointer (some ⟨g,o,none⟩)::k).toArray w λq w'=>q=.returned V/\Bk w' g s.ty a/\Fx Φ j F (some g) w w')
  (r:GO s=some n:=by kernel_rfl)(t:(fn.name== "runtime.NumGoroutine")=false:=by kernel_rfl)(u:fn.body.isNone=false:=by kernel_rfl)(v:Yp e half s.cells=row:=by kernel_rfl)(x:s.rest.map (SV.den e half)=k:=by kernel_rfl)(y:s.out.den e half=V:=by kernel_rfl)(z:Yp e half s.E4.dropLast=a:=by kernel_rfl)
  (A:(n-1)%100=i:=by kernel_rfl)(B:(n-1)%10000/100=j:=by kernel_rfl)(C:n/10000=o:=by kernel_rfl):Fs P e Φ s:=by
 unfold Fs
 rw[r]
 simp only
 intro g w F l m D c d ha
 rw[x,C] at ha
 subst ha
 rw[v] at l
 rw[A] at m
 rw[y,z,B]
 exact⟨Dh p t u _ _,h g w F l m D c⟩
def rU(e:Env)(k:Nat->Nat)(a:SV × Nat × Heap):Value × Nat × Array Value:=(a.1.den e k,a.2.1,Yp e k (cellAt 1 a.2.2))
def TT(T:TypeId)(b:Heap)(a:SV × Nat × Heap):Bool:=tC T 1 a.2.2&&(I3 a.2.2 b).all (·==1)
def QE(e:Env)(T:TypeId)(b:Heap)(a:SV × Nat × Heap)(r:Value × Nat × Array Value):Prop:=TT T b a=true/\∀k,rU e k a=r
def rF{t:Yd (SV × Nat × Heap)}{e:Env}{T:TypeId}{b:Heap}{s:Gj}{R:Type}{a:R}{g:R->Value × Nat × Array Value}(c:(t.lv s).all (mK (TT T b))=true)(d:∀k,(t.lv s).map (λo=>o.map (rU e k))=(t.lv s).map λ_=>some (g a)):PO t e (λx r=>QE e T b x (g r)) s a:=
 Km (rU e) g (TT T b) c d λ_ h f=>⟨h,f⟩
def poE{P:Program}{e:Env}{Φ:Hg}{S:List X8}{n f:Nat}{args:List SV}{st:St}{T:TypeId}{g:Nat}{cs:List SC}{w:World}{a:Array Value}{R:Type}{r:R}{G:R->Value × Nat × Array Value}{F:Nat->Prop}(C:P.follows .mixedOrders=true)(D:DE P e Φ S)(s:st.hp=[(1,T,cs)])(d:Bd e st.Co)
  (E:Bk w g T (Yp e (DF [g]) cs))(f1:Φ.P st.ph w F)(f2:¬F g)(f3:∀b,F b->b<w.heap.size)
  (h:PO (Ro (exec P S n (.call f args) st)) e (λx r=>QE e T st.hp x (G r)) st.Co r)(c:Rt (Ym st.hp) st.hp=true:=by kernel_rfl)(i:args.all (Jk (Ym st.hp))=true:=by kernel_rfl)(ha:a=(args.map (SV.den e (DF [g]))).toArray:=by kernel_rfl)(t:¬f=DG:=by decide):
  Calls P f a w λu w'=>KG Φ (G r).2.1 F g T (G r).2.2 (G r).1 w u w':=by
 obtain⟨⟨v,p,M⟩,k,j,m⟩:=h d
 refine(QZ C D k d (Db [g]) (λz o=>?_) c i (λz o y A _=>?_) ha f1 (by rw[s];exact noF f2 rfl) f3 t).mono λu w' H=>?_
 ·rw[s] at o;rw[ft.1 o];exact Y1 (show Bk w (DF [g] 1) T _ from E) rfl
 ·rw[s] at o A;rw[ft.1 o,ft.1 A]
 ·obtain⟨I,q⟩:=H;have B:=m I;unfold TT at j;rw[gm] at j;obtain⟨J,K⟩:=j;unfold rU at B;rw[←B];refine I' q (BA.2 (by rw[s];exact ft.2 rfl)) rfl (IQ J) rfl rfl rfl λl L=>?_;have:=g9.1 K l L;obtain rfl:l=1:=by simpa using this
  rfl
def zB(e:Env)(k:Nat->Nat)(a:SV × Heap):Value:=a.1.den e k
def Q0(e:Env)(a:SV × Heap)(r:Value):Prop:=∀k,zB e k a=r
def rI{t:Yd (SV × Heap)}{e:Env}{s:Gj}{R:Type}{a:R}{g:R->Value}(b:(t.lv s).all (mK λ_=>true)=true)(c:∀k,(t.lv s).map (λo=>o.map (zB e k))=(t.lv s).map λ_=>some (g a)):PO t e (λx r=>Q0 e x (g r)) s a:=
 Km (zB e) g (λ_=>true) b c λ_ _ d=>d
def po0{P:Program}{e:Env}{S:List X8}{n f:Nat}{args:List SV}{st:St}{w:World}{a:Array Value}{R:Type}{r:R}{G:R->Value}(s:P.follows .mixedOrders=true)(t:E5 P e S)(d:st.hp=[])(b:Bd e st.Co)
  (h:PO (Dq (exec P S n (.call f args) st)) e (λx r=>Q0 e x (G r)) st.Co r)(c:args.all (Jk [])=true:=by kernel_rfl)(ha:a=(args.map (SV.den e (DF []))).toArray:=by kernel_rfl)(k:HJ S=true:=by kernel_rfl)(l:¬f=DG:=by decide):
  Calls P f a w λm w'=>m=.returned (G r)/\Aq [] w w':=by
 obtain⟨⟨v,A⟩,g,i⟩:=h b
 refine(CZ s t g b (Db []) (λz j=>by rw[d] at j;cases j) (by rw[d];rfl) (by rw[d];exact c) (λz j=>by rw[d] at j;cases j) ha k l).mono λm w' u=>?_
 obtain⟨o,q⟩:=u
 have y:v.den e o=G r:=i o
 have p:=q.CJ
 rw[d] at p
 exact⟨q.ret.trans (by rw[y]),p⟩
def EA{f R:Type}{t:Yd f}{e:Env}{Q:f->R->Prop}{s:Gj}{a b:R}{c d:Bool}(g:c=d)(h:PO t e Q s (bif d then a else b)):PO t e Q s (bif c then a else b):=by subst g;exact h
def DB{d β:Type}(c:Bool)(a b:d × β):(bif c then a else b).1=bif c then a.1 else b.1:=by cases c<;>rfl
def qy{d β:Type}(c:Bool)(f:d->β){a b:d}:f (bif c then a else b)=bif c then f a else f b:=by cases c<;>rfl
def R1{d R:Type}{t:Yd d}{e:Env}{Q:d->R->Prop}{s:Gj}{x y:R}{a b c:Bool}(h:PO t e Q s (bif a then(bif b then x else y) else(bif c then x else y))):PO t e Q s (bif (bif a then b else c) then x else y):=by cases a<;>exact h
def Ed{a R:Type}{t:Yd a}{e:Env}{Q:a->R->Prop}{s:Gj}{r r':R}(h:r=r')(H:PO t e Q s r'):PO t e Q s r:=by subst h;exact H
def Ta{a R:Type}{t:Yd a}{e:Env}{Q:a->R->Prop}{s:Gj}{r:R}(h:False):PO t e Q s r:=h.elim
def wi{d R:Type}{t:Yd d}{e:Env}{Q:d->R->Prop}{s:Gj}{a b:R}{c:Bool}(f:(t.nx s).den e=c)(h:c=true->PO t e Q (IZ (t.nx s) true s) a)(i:c=false->PO t e Q (IZ (t.nx s) false s) b):PO t e Q s (bif c then a else b):=λg=>by
 cases c with
 |true=>exact h rfl (GC g f)
 |false=>exact i rfl (GC g f)
def TX(Φ:Hg)(ph:Nat)(F:Nat->Prop)(V:Value)(w:World)(c:Ending)(w':World):Prop:=
 c=.returned V/\CI F w w'/\∃a:Nat->Prop,Φ.P ph w' a/\(∀b,a b->b<w'.heap.size)/\∀b,a b->F b\/w.heap.size<=b
def x8{e:Env}{Φ:Hg}{F:Nat->Prop}{g:List Nat}{hp':Heap}{w w':World}{v:SV}{ph:Nat}{d:Ending}{k':Nat->Nat}{V:Value}
  (h:Mi e Φ F (DF g) [] w v ph hp' d w' k')(i:v.den e k'=V)(c:I3 hp' []=[]):TX Φ ph F V w d w':=by
 obtain⟨j,p1,p2,k,m⟩:=h.fin
 refine⟨h.ret.trans (by rw[i]),⟨h.CJ.os,h.CJ.tape,h.CJ.output,h.CJ.size,λb n o=>h.CJ.A5 b n λa=>o ?_⟩,j,p1,k,m⟩
 rcases a with a|a
 ·obtain⟨l,f,rfl⟩:=j7.1 a;rw[c] at f;cases f
 ·exact a
