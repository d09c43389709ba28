/- Core: SymB, SymC, SymD, SymE, SymF. -/
import Derived.Test.YtaipogljokblkaaGreatDoorE02
import Derived.Test.YtaipogljokblkaaGreatDoorE01
import Derived.ChangeKeysEq
import Derived.Laws.CopyRow
set_option linter.all false
set_option maxRecDepth 100000
set_option maxHeartbeats 8000000
namespace Go.Proofs.YtaipogljokblkaaGreatDoor
open Go Go.RowKit
set_option linter.unusedSimpArgs false
set_option linter.unusedVariables false
set_option linter.unusedSectionVars false
section
variable(e:Env)
theorem Tm.Qt(a b:Tm):(Tm.mk (·+·) .add a b).den e=IntKind.i64.wrap (a.den e+b.den e):=by
 unfold Tm.mk;split<;>rfl
theorem Tm.Qq(a b:Tm):(Tm.mk (· -·) .sub a b).den e=IntKind.i64.wrap (a.den e-b.den e):=by
 unfold Tm.mk;split<;>rfl
theorem Tm.Qr(a b:Tm):(Tm.mk (·*·) .mul a b).den e=IntKind.i64.wrap (a.den e*b.den e):=by
 unfold Tm.mk;split<;>rfl
theorem Tm.gG(a:Tm)(d:Int):(a.nG d).den e=IntKind.i64.wrap ((a.den e).tdiv d):=by
 unfold Tm.nG;split<;>rfl
theorem Tm.gE(a:Tm)(d:Int):(a.nF d).den e=(a.den e).tmod d:=by
 unfold Tm.nF;split<;>rfl
theorem BT.HY(a b:Tm):(BT.Um a b).den e=(a.den e==b.den e):=by
 unfold BT.Um;split
 ·rfl
 ·split
  ·rename_i h;subst h;simp[BT.den]
  ·rfl
theorem BT.UB(a b:Tm):(BT.uE a b).den e=decide (a.den e<b.den e):=by
 unfold BT.uE;split<;>rfl
theorem BT.UC(a b:Tm):(BT.uG a b).den e=decide (a.den e<=b.den e):=by
 unfold BT.uG;split<;>rfl
theorem BT.Ek(a:BT):a.KT.den e=!a.den e:=by
 unfold BT.KT;split<;>simp[BT.den]
theorem BT.Qs(a b:BT):(BT.Z9 a b).den e=(a.den e&&b.den e):=by
 unfold BT.Z9;split<;>simp[BT.den]
theorem BT.oW(a b:BT):(BT.zI a b).den e=(a.den e||b.den e):=by
 unfold BT.zI;split<;>simp[BT.den]
theorem BT.gH(a b:BT):(BT.nH a b).den e=(a.den e==b.den e):=by
 unfold BT.nH;split
 ·simp[BT.den]
 ·simp[BT.den,BT.Ek]
 ·simp[BT.den]
 ·simp[BT.den,BT.Ek]
 ·split
  ·rename_i h;subst h;simp[BT.den]
  ·rfl
def AR(s:FH):Prop:=∀p∈s,p.1.den e=p.2
variable{e}
theorem Y1{b:BT}:∀{s:FH} {v:Bool},AR e s->Jj b s=some v->b.den e=v
 |[],_,_,h=>by cases h
 |(x,u)::r,v,hs,h=>by
  unfold Jj at h;split at h
  ·rename_i hx;subst hx;cases h;exact hs (x,u) Zs
  ·exact Y1 (λp hp=>hs p (by simp[hp])) h
theorem Ei{s:FH}(hs:AR e s):∀b:BT,(known s b).den e=b.den e
 |.lit b=>rfl
 |.not a=>by unfold known;rw[BT.Ek,Ei hs a];rfl
 |.var i=>by unfold known;split<;>(first|(rename_i h;exact(Y1 hs h).symm)|rfl)
 |.eq a b=>by unfold known;split<;>(first|(rename_i h;exact(Y1 hs h).symm)|rfl)
 |.lt a b=>by unfold known;split<;>(first|(rename_i h;exact(Y1 hs h).symm)|rfl)
 |.le a b=>by unfold known;split<;>(first|(rename_i h;exact(Y1 hs h).symm)|rfl)
 |.and a b=>by unfold known;split<;>(first|(rename_i h;exact(Y1 hs h).symm)|rfl)
 |.or a b=>by unfold known;split<;>(first|(rename_i h;exact(Y1 hs h).symm)|rfl)
 |.beq a b=>by unfold known;split<;>(first|(rename_i h;exact(Y1 hs h).symm)|rfl)
 |.fD i=>by unfold known;split<;>(first|(rename_i h;exact(Y1 hs h).symm)|rfl)
 |.nil i=>by unfold known;split<;>(first|(rename_i h;exact(Y1 hs h).symm)|rfl)
theorem Gf{s:FH}(hs:AR e s){b:BT}{v:Bool}(h:b.den e=v):AR e (IC b v s):=by
 have one:∀(x:BT) (u:Bool) (s:FH),AR e s->x.den e=u->AR e ((x,u)::s):=λx u s hs hx p hp=>by
  rcases List.mem_cons.1 hp with rfl|hp
  ·exact hx
  ·exact hs p hp
 unfold IC;split
 ·exact one _ _ _ hs (by rw[←h];simp[BT.den])
 ·simp only[BT.den,Bool.and_eq_true] at h;exact one _ _ _ (one _ _ _ hs h.2) h.1
 ·simp only[BT.den,Bool.or_eq_false_iff] at h;exact one _ _ _ (one _ _ _ hs h.2) h.1
 ·exact one _ _ _ hs h
end
section
variable(e:Env)(β:Nat->Nat)
theorem Ou(v:Value):(Kq v).den e β=v:=by
 unfold Kq;split<;>rfl
theorem M1(l:List Value):Yj e β (l.map Kq)=l.toArray:=by
 unfold Yj;rw[List.map_map];congr 1;conv=>rhs;rw[←List.map_id l]
 exact List.map_congr_left λv _=>Ou e β v
theorem Mz(v:Value):(ofValue v).den e β=v:=by
 unfold ofValue;split
 ·show Value.agg (Yj e β _)=_;rw[M1]
 ·exact Ou e β _
theorem ZT{x:SC}(h:x.one=true):(x.den e β).oneCell'=true:=by
 cases x<;>first|exact h|rfl|exact e.one _
theorem oX{l:List SC}(h:l.all SC.one=true):∀v∈(Yj e β l).toList,v.oneCell'=true:=by
 intro v hv;simp only[Yj,List.mem_map] at hv;obtain⟨x,hx,rfl⟩:=hv;exact ZT e β (List.all_eq_true.1 h x hx)
theorem Ia(l:List SC):(Yj e β l).size=l.length:=by simp[Yj]
theorem GS(l:List SC):(Yj e β l).toList=l.map (SC.den e β):=by simp[Yj]
theorem Le(l:List SC)(i:Nat):(Yj e β l)[i]?=(l[i]?).map (SC.den e β):=by simp[Yj]
theorem Pf{v:Value}(h:v.oneCell'=true):v.cells=#[v]:=by
 cases v<;>first|rfl|cases h
theorem JR{v:SV}{l:List SC}(h:v.cells?=some l):(v.den e β).cells=Yj e β l:=by
 cases v with
 |c x=>
  simp only[SV.cells?] at h;split at h
  ·rename_i hx;cases h;show(x.den e β).cells=_;rw[Pf (ZT e β hx)];rfl
  ·cases h
 |agg l=>cases h;rfl
 |IU l=>cases h
theorem GU(cs:List SC)(i:Nat)(vs:List SC):Yj e β (splice cs i vs)=((Yj e β cs).toList.take i++(Yj e β vs).toList++(Yj e β cs).toList.drop (i+vs.length)).toArray:=by
 simp[Yj,splice,List.map_take,List.map_drop]
end
theorem Qn(d:Nat)(v:SV)(t:Nat):∀fr:Vk,Hk t (oD d v fr)=if t=d then v else Hk t fr
 |[]=>by
  simp only[oD,Hk];by_cases h:t=d
  ·subst h;simp
  ·simp[h,Ne.symm h]
 |(k,y)::r=>by
  have ih:=Qn d v t r;simp only[oD];by_cases h1:k=d
  ·subst h1;simp only[beq_self_eq_true,if_true,Hk];by_cases h:t=k
   ·subst h;simp
   ·simp[h,Ne.symm h]
  ·have h1':(k==d)=false:=by simpa using h1
   simp only[h1',Bool.false_eq_true,if_false];by_cases h2:k<d
   ·simp only[h2,if_true];rw[Hk];by_cases h:t=d
    ·subst h;simp
    ·have h':(d==t)=false:=by simpa using Ne.symm h
     simp only[h',Bool.false_eq_true,if_false,h];by_cases h3:d<t
     ·simp only[h3,if_true];rw[Hk];have h4:(k==t)=false:=by simp;omega
      simp only[h4,Bool.false_eq_true,if_false];rw[if_pos Zo]
     ·simp only[h3,if_false]
   ·simp only[h2,if_false];rw[Hk,Hk];by_cases h:k=t
    ·subst h;simp[h1]
    ·have h':(k==t)=false:=by simpa using h
     simp only[h',Bool.false_eq_true,if_false];by_cases h3:k<t
     ·simp only[h3,if_true];rw[if_neg Zo]
     ·simp only[h3,if_false,ih]
theorem Oc:∀(l:List SV) (k:Nat) (BN:Vk) (t:Nat),(∀t,k<=t->Hk t BN=EQ)->
  Hk t (OA k l BN)=if k<=t then l.getD (t-k) EQ else Hk t BN
 |[],k,BN,t,h=>by
  simp only[OA];split
  ·rename_i hk;simp[h t hk]
  ·rfl
 |v::r,k,BN,t,h=>by
  simp only[OA];have h':∀t,k+1<=t->Hk t ((k,v)::BN)=EQ:=λt ht=>by
   rw[Hk];have h1:(k==t)=false:=by simp;omega
   simp only[h1,Bool.false_eq_true,if_false];rw[if_pos Zo]
  rw[Oc r (k+1) _ t h'];by_cases h1:k+1<=t
  ·rw[if_pos h1,if_pos Zo];obtain⟨m,rfl⟩:∃m,t=k+1+m:=⟨t-(k+1),by omega⟩;rw[show k+1+m-(k+1)=m by omega,show k+1+m-k=m+1 by omega];simp
  ·rw[if_neg h1];rw[Hk];by_cases h2:k=t
   ·subst h2;simp
   ·have h3:(k==t)=false:=by simpa using h2
    simp only[h3,Bool.false_eq_true,if_false];rw[if_neg Zo,if_neg Zo]
section
variable{P:Program}{e:Env}{β:Nat->Nat}{w:World}
theorem Hu{t:TypeId}{i:TypeInfo}(h:P.info? t=some i):(sizeOf t).run P w=.ok i.size w:=by
 simp[sizeOf,typeInfo,h]
theorem Hv{t:TypeId}{b:Bool}(h:NV P t=some b):(isAgg t).run P w=.ok b w:=by
 unfold NV at h;split at h
 ·rename_i hu;cases h;simp[isAgg,underlying,hu]
 ·rename_i hu;cases h;simp[isAgg,underlying,hu]
 ·rename_i hn1 hn2 hu;cases h;simp only[isAgg,underlying,Sem.run_bind,run_program,Result.andThen_ok,hu,Sem.run_pure]
 ·cases h
theorem lF{t:TypeId}{cs:List SC}{off:Nat}{v:SV}(h:NH P t cs off=some v):(part t (Yj e β cs) off).run P w=.ok (v.den e β) w:=by
 unfold NH at h;split at h
 ·rename_i i ha hi;split at h
  ·rename_i hle;cases h;unfold part;simp only[Sem.run_bind,Hv ha,Result.andThen_ok,if_true,Hu hi,Sem.run_pure];congr 2;apply Array.ext';simp[Yj,List.map_drop,List.map_take,List.extract_eq_drop_take']
  ·cases h
 ·rename_i i ha hi;split at h
  ·rename_i x hx;split at h
   ·cases h;unfold part;simp[Hv ha,Le,hx,SV.den]
   ·cases h
  ·cases h
 ·cases h
theorem ZR{t:TypeId}{x y:SC}{b:BT}(h:eqC P t x y=some b)(n:Nat):(Op.equalIn (n+1) t (x.den e β) (y.den e β)).run P w=.ok (b.den e) w:=by
 unfold eqC at h;split at h<;>first|(cases h;done)|skip
 ·rename_i hu;cases h;simp[Op.equalIn,underlying,hu,SC.den,BT.gH]
 ·rename_i hu;cases h;simp[Op.equalIn,underlying,hu,SC.den,BT.HY]
 ·rename_i hu;cases h;simp[Op.equalIn,underlying,hu,SC.den,BT.den]
 ·rename_i hu;cases h;simp[Op.equalIn,underlying,hu,SC.den,BT.den]
 ·rename_i hu;cases h;simp[Op.equalIn,underlying,hu,SC.den,BT.den]
 ·rename_i hu;cases h;simp[Op.equalIn,underlying,hu,SC.den,BT.den]
theorem PA{t:TypeId}{cs:List SC}{off:Nat}{x:SC}(ha:NV P t=some false)(hx:cs[off]?=some x):(part t (Yj e β cs) off).run P w=.ok (x.den e β) w:=by
 unfold part;simp[Hv ha,Le,hx]
theorem ZQ{xs ys:List SC}(n:Nat):∀(l:List Field) (b:BT),eqF P xs ys l=some b->
  (forIn l ((none,()):Option Bool × Unit) (fun (f:Field) (_:Option Bool × Unit) =>
   if f.name= "_" then(pure (ForInStep.yield (none,())):Sem (ForInStep (Option Bool × Unit)))
   else do
    let x ←part f.type (Yj e β xs) f.offset
    let y ←part f.type (Yj e β ys) f.offset
    let r ←Op.equalIn (n+1) f.type x y
    if r=false then pure (ForInStep.done (some false,())) else pure (ForInStep.yield (none,())))).run P w=
   .ok (if b.den e then(none,()) else(some false,())) w
 |[],b,h=>by cases h;simp[BT.den]
 |f::r,b,h=>by
  unfold eqF at h;split at h
  ·cases h
  ·rename_i hn;split at h
   ·rename_i x y ha hx hy;split at h
    ·rename_i b1 hb1;split at h
     ·rename_i b2 hb2;cases h;rw[List.forIn_cons];have h1:=ZR (e:=e) (β:=β) (w:=w) hb1 n;have ih:=ZQ n r b2 hb2;simp only[hn,if_false,Sem.run_bind,PA ha hx,PA ha hy,Result.andThen_ok,h1,BT.Qs];cases hc:b1.den e with
      |false=>simp
      |true=>simpa using ih
     ·cases h
    ·cases h
   ·cases h
theorem vD{t:TypeId}{x y:SV}{b:BT}(h:eqS P t x y=some b)(n:Nat):(Op.equalIn (n+2) t (x.den e β) (y.den e β)).run P w=.ok (b.den e) w:=by
 unfold eqS at h;split at h
 ·split at h
  ·exact ZR h (n+1)
  ·cases h
 ·split at h
  ·rename_i xs ys fs hu;split at h
   ·cases h
   ·rename_i hg;simp only[Bool.or_eq_true,not_or,Bool.not_eq_true] at hg;have h1:=ZQ (e:=e) (β:=β) (w:=w) n fs.toList b h;rw[Array.forIn_toList] at h1;obtain⟨m,hm⟩:∃m,n+1=m:=⟨_,rfl⟩;rw[show n+2=m+1 by omega];rw[hm] at h1;simp only[SV.den];simp only[Op.equalIn,underlying,Sem.run_bind,run_program,Result.andThen_ok,hu,Sem.run_pure,hg.1,Bool.false_eq_true,if_false];simp only[bne_iff_ne,ne_eq,ite_not,Bool.not_eq_eq_eq_not,Bool.not_true,decide_eq_true_eq,decide_not] at h1 ⊢;rw[h1];cases b.den e<;>simp
  ·cases h
 ·cases h
end
section
variable{P:Program}{e:Env}{β:Nat->Nat}{w:World}
theorem F3(op:BinOp)(t:TypeId)(x y:Operand)(a b:Value)(h1:¬(a=.nilIface/\b=.nilIface))(h2:∀xs ys,¬(a=.agg xs/\b=.agg ys)):(eqGuard op t x y a b).run P w=.ok () w:=by
  unfold eqGuard
  split
  all_goals first
    |rfl
    | (simp only [Bool.not_true,Bool.false_eq_true,if_false]
       split
       · exact absurd ⟨rfl,rfl⟩ h1
       · exact absurd ⟨rfl,rfl⟩ (h2 _ _)
       · rfl)
theorem Qm{op:BinOp}{t:TypeId}(x y:Operand)(xs ys:Array Value)(h:P.eqGuardType P.depth t=false):(eqGuard op t x y (.agg xs) (.agg ys)).run P w=.ok () w:=by
 unfold eqGuard;split;all_goals first
  |rfl
  |(simp[h];done)
theorem binEql{t:TypeId}{x y:SV}{b:BT}(h:eqS P t x y=some b)(ox oy:Operand):
  ((eqGuard .eql t ox oy (x.den e β) (y.den e β)).run P w=.ok () w/\(eqGuard .neq t ox oy (x.den e β) (y.den e β)).run P w=.ok () w)/\
  (Go.binOp .eql t (x.den e β) (y.den e β)).run P w=.ok (.bool (b.den e)) w/\(Go.binOp .neq t (x.den e β) (y.den e β)).run P w=.ok (.bool (!b.den e)) w:=by
 have h1:=vD (e:=e) (β:=β) (w:=w) h 9998
 have h2:(Op.equal t (x.den e β) (y.den e β)).run P w=.ok (b.den e) w:=h1
 clear h1
 unfold eqS at h
 split at h
 ·split at h
  ·unfold eqC at h;split at h<;>first|(cases h;done)|skip
   all_goals
    cases h
    simp only[SV.den,SC.den] at h2 ⊢
    refine⟨⟨F3 _ _ _ _ _ _ Zs Zs,F3 _ _ _ _ _ _ Zs Zs⟩,?_,?_⟩<;>first
     |(simp[Go.binOp,h2];done)
     |(simp[Go.binOp,Op.intCmp,BT.HY];done)
     |(simp[Go.binOp,Op.intCmp,BT.HY,bne])
  ·cases h
 ·split at h
  ·rename_i xs ys fs hu;split at h
   ·cases h
   ·rename_i hg;simp only[Bool.or_eq_true,not_or,Bool.not_eq_true] at hg;simp only[SV.den] at h2 ⊢;exact⟨⟨Qm _ _ _ _ hg.2,Qm _ _ _ _ hg.2⟩,by simp[Go.binOp,h2],by simp[Go.binOp,h2]⟩
  ·cases h
 ·cases h
theorem pX{op:BinOp}{t:TypeId}{x y v:SV}(h:binS P op t x y=some v)(ox oy:Operand):
    ((do eqGuard op t ox oy (x.den e β) (y.den e β);Go.binOp op t (x.den e β) (y.den e β)):Sem Value).run P w=.ok (v.den e β) w:=by
  unfold binS at h
  split at h<;>first|(cases h;done)|skip
  all_goals first
    | (cases h
       simp only[SV.den,SC.den,Sem.run_bind]
       rw[F3 _ _ _ _ _ _ Zs Zs]
       simp[Go.binOp,Op.intCmp,Op.intArith,BT.HY,BT.Ek,BT.UB,BT.UC,Tm.Qt,Tm.Qq,Tm.Qr];done)
    | (cases h
       simp only[SV.den,SC.den,Sem.run_bind]
       rw[F3 _ _ _ _ _ _ Zs Zs]
       simp[Go.binOp,Op.intCmp,Op.intArith,BT.HY,BT.Ek,BT.UB,BT.UC,Tm.Qt,Tm.Qq,Tm.Qr,bne];done)
    | (split at h
       · cases h
       · rename_i hd;cases h;simp only[SV.den,SC.den,Tm.den,Sem.run_bind];rw[F3 _ _ _ _ _ _ Zs Zs];simp[Go.binOp,Op.intDiv,hd,Tm.gG,Tm.gE];done)
    | (split at h
       · rename_i b hb;cases h;have h3:=binEql (e:=e) (β:=β) (w:=w) hb ox oy;simp only[Sem.run_bind,h3.1.1,h3.1.2,Result.andThen_ok,h3.2.1,h3.2.2];simp[SV.den,SC.den,BT.Ek];done
       · cases h)
theorem KX(off:Nat):∀(vs:List Value) (k:Nat) (cs:Array Value),off+k+vs.length<=cs.size->
  ((vs.zipIdx k).foldl (λ(cs:Array Value) (p:Value × Nat)=>cs.setIfInBounds (off+p.2) p.1) cs).toList=cs.toList.take (off+k)++vs++cs.toList.drop (off+k+vs.length)
 |[],k,cs,h=>by simp
 |v::r,k,cs,h=>by
  simp only[List.length_cons] at h;rw[List.zipIdx_cons,List.foldl_cons,KX off r (k+1) _ (by simp;omega)];have e:(cs.setIfInBounds (off+k) v).toList=cs.toList.take (off+k)++v::cs.toList.drop (off+k+1):=by
   rw[Array.toList_setIfInBounds,List.set_eq_take_append_cons_drop,if_pos (by simp;omega)]
  rw[e];have key:∀A B:List Value,A.length=off+k->(A++v::B).take (off+(k+1))++r++(A++v::B).drop (off+(k+1)+r.length)=A++(v::r)++B.drop r.length:=by
   intro A B hA;rw[show off+(k+1)=A.length+1 by omega,List.take_length_add_append,show A.length+1+r.length=A.length+(1+r.length) by omega,List.drop_length_add_append];simp[Nat.add_comm 1 r.length]
  rw[key _ _ (by simp;omega),List.drop_drop];congr 2;simp;omega
theorem U3(place:Nat->Option (Nat × Nat)):∀(parts:List (Nat × SV)) (cells l:List SC),U4 place cells parts=some l->
  Instr.fill place (Yj e β cells) (parts.map λp=>(p.1,p.2.den e β))=some (Yj e β l)
 |[],cells,l,h=>by cases h;rfl
 |(i,v)::rest,cells,l,h=>by
  unfold U4 at h;split at h
  ·rename_i off size vs hp hv;split at h
   ·rename_i hc;have ih:=U3 place rest _ l h;have hcells:(v.den e β).cells=Yj e β vs:=JR e β hv;have hs:(Yj e β vs).size=vs.length:=Ia e β vs;simp only[List.map_cons,Instr.fill,hp,hcells,hs];rw[if_neg (by simp[Ia];exact hc)];rw[←ih];congr 1;apply Array.toList_inj.1;rw[←Array.foldl_toList,Array.toList_zipIdx];rw[show(λ(cs:Array Value) (x:Value × Nat)=>match x with|(c,j)=>cs.setIfInBounds (off+j) c)=(λ(cs:Array Value) (p:Value × Nat)=>cs.setIfInBounds (off+p.2) p.1) from rfl];rw[KX off _ 0 _ (by simp[Ia,GS];omega)];simp[GU,GS]
   ·cases h
  ·cases h
theorem gX{t:TypeId}{it:TypeInfo}{fs:Array Field}{z:Value}{pl:List (Nat × Nat)}{parts:List (Nat × SV)}{l:List SC}(hi:P.info? t=some it)(hu:P.underlying t=some (.struct fs))(hz:it.zero=some z)
  (hp:fs.toList.mapM (λf=>(P.info? f.type).map λi=>(f.offset,i.size))=some pl)(hf:U4 (pl.toArray[·]?) (z.cells.toList.map Kq) parts=some l):
  P.built t (parts.map λp=>(p.1,p.2.den e β))=some (Yj e β l):=by
 unfold Program.built
 simp only[hi,hu,hz,hp]
 have h:=U3 (e:=e) (β:=β) _ parts _ l hf
 rw[M1] at h
 simpa using h
end
section
variable{P:Program}{e:Env}{β:Nat->Nat}{w:World}
def Evs(e:Env)(β:Nat->Nat)(a:Act)(fr:Vk):Prop:=∀x:Operand,a.eval x=(ev fr x).den e β
theorem evs_of{a:Act}{fr:Vk}(hg:∀g,β (2*g)=g)(h:∀t,a.tmps.getD t undef=(Hk t fr).den e β):Evs e β a fr:=by
 intro x;cases x with
 |tmp t=>exact h t
 |const v=>exact(Mz e β v).symm
 |global g=>show Value.pointer _=Value.pointer _;rw[hg]
 |func f=>rfl
theorem Dw{a:Act}{fr:Vk}(he:Evs e β a fr){y:Operand}{v:SV}(h:ev fr y=v):a.eval y=v.den e β:=by rw[he,h]
theorem T6{s:TypeId}{fs:Array Field}{f:Nat}{fd:Field}{i:TypeInfo}(hu:P.underlying s=some (.struct fs))(hf:fs[f]?=some fd)(hi:P.info? fd.type=some i)(h0:i.size≠0)(b o:Nat):
  (Instr.fieldAt s (.pointer (some ⟨b,o,none⟩)) f).run P w=.ok (.pointer (some ⟨b,o+fd.offset,none⟩)) w:=by
 simp only[Instr.fieldAt,Sem.run_bind,run_underlying hu,Result.andThen_ok,hf,Instr.sureAddr,Sem.run_pure,fieldPlace,Hu hi]
 rw[if_neg h0]
 simp only[Sem.run_pure]
 simp only[Addr.add]
 split
 ·rename_i h;simp[h]
 ·rfl
theorem Uj{P:Program}{w:World}{t:TypeId}{ms}(hu:P.underlying t=some (.interface ms))(n:Nat):(Op.equalIn (n+1) t .nilIface .nilIface).run P w=.ok true w:=by
 simp[Op.equalIn,underlying,hu]
theorem PV{P:Program}{w:World}{t:TypeId}{ms}(hu:P.underlying t=some (.interface ms)):(Op.equal t .nilIface .nilIface).run P w=.ok true w:=Uj hu 9999
theorem fO{e:Env}{i:Nat}(h:(BT.fD i).den e=false):∃T x,e.val i=.iface T x:=by
 simp only[BT.den] at h;cases hv:e.val i with
 |iface T x=>exact⟨T,x,rfl⟩
 |_=>rw[hv] at h;cases h
theorem NB{e:Env}{i:Nat}(h:(BT.nil i).den e=false):∃p,e.val i=.pointer (some p):=by
 simp only[BT.den] at h;cases hv:e.val i with
 |pointer q=>cases q with
  |none=>rw[hv] at h;cases h
  |some p=>exact⟨p,rfl⟩
 |_=>rw[hv] at h;cases h
theorem TR{P:Program}{w:World}{t u:TypeId}(hu:P.underlying t=some (.pointer u))(p:Addr)(n:Nat):(Op.equalIn (n+1) t (.pointer (some p)) (.pointer none)).run P w=.ok false w:=by
 simp[Op.equalIn,underlying,hu]
theorem PL{P:Program}{w:World}{t u:TypeId}(hu:P.underlying t=some (.pointer u))(p:Addr):(Op.equal t (.pointer (some p)) (.pointer none)).run P w=.ok false w:=
 TR hu p 9999
theorem pure_run{fr:Vk}{s:FH}{op:Op}{v:SV}(h:PJ P fr s op=some v)(hs:AR e s){a:Act}(he:Evs e β a fr){o:Oper}(ho:o.op=op):
  (execOp a.eval o).run P w=.ok (.value (v.den e β)) w:=by
 unfold PJ at h
 unfold execOp
 rw[ho]
 split at h
 ·cases h;simp[he _]
 ·cases h;simp[he _]
 ·
  rename_i c x y;split at h
  ·rename_i q hq;have hc:a.eval c=.bool (q.den e):=by rw[he,hq];rfl
   have hk:=Ei hs q;split at h
   ·rename_i hkn;rw[hkn] at hk;cases h;simp[hc,asBool,←hk,BT.den,he _]
   ·rename_i hkn;rw[hkn] at hk;cases h;simp[hc,asBool,←hk,BT.den,he _]
   ·rename_i q' hkn1 hkn2;split at h
    ·rename_i yb hx hy;cases h;have h1:a.eval x=.bool true:=by rw[he,hx];rfl
     have h2:a.eval y=.bool (BT.den e yb):=by rw[he,hy];rfl
     simp only[hc,asBool,h1,h2,Sem.run_bind,Sem.run_pure,Result.andThen_ok,SV.den,SC.den,BT.oW,hk];cases q.den e<;>simp
    ·rename_i xb _ hx hy;cases h;have h1:a.eval x=.bool (BT.den e xb):=by rw[he,hx];rfl
     have h2:a.eval y=.bool false:=by rw[he,hy];rfl
     simp only[hc,asBool,h1,h2,Sem.run_bind,Sem.run_pure,Result.andThen_ok,SV.den,SC.den,BT.Qs,hk];cases q.den e<;>simp
    ·cases h
  ·cases h
 ·
  split at h
  ·rename_i l i hx;cases h;simp[he _,hx,SV.den,SC.den]
  ·rename_i i hx;split at h
   ·rename_i hq;cases h;obtain⟨T,x,hp⟩:=fO (Y1 hs hq);have h1:=Dw he hx;simp only[SV.den,SC.den] at h1;simp[h1,hp,SV.den,SC.den]
   ·cases h
  ·cases h
 ·
  split at h
  ·rename_i fs l i hu hx;split at h
   ·rename_i fd hf;split at h
    ·rename_i inf hi;split at h
     ·cases h
     ·rename_i h0;cases h;have h1:=Dw he hx;simp only[SV.den,SC.den] at h1;simp only[h1,Sem.run_bind,T6 hu hf hi h0,Result.andThen_ok,Sem.run_pure];rfl
    ·cases h
   ·cases h
  ·cases h
 ·
  split at h
  ·rename_i fs cs hu hx;split at h
   ·rename_i fd hf;have h1:=Dw he hx;simp only[SV.den,SC.den] at h1;simp[h1,Instr.field,run_underlying hu,hf,asAgg,lF h]
   ·cases h
  ·cases h
 ·
  split at h
  ·rename_i l hx;have h1:=Dw he hx;simp only[SV.den,SC.den] at h1;split at h
   ·rename_i cs hl;cases h;simp[h1,Instr.extract,hl,RZ,SV.den]
   ·rename_i x hl;cases h;simp[h1,Instr.extract,hl,RZ,SV.den]
   ·cases h
  ·cases h
 ·
  rename_i op t x y yt;split at h
  ·rename_i v' hn;cases h;unfold nilS at hn;split at hn
   ·rename_i i _ hx hu;split at hn
    ·rename_i hq;cases hn;obtain⟨p,hp⟩:=NB (Y1 hs hq);have h1:=Dw he hx;simp only[SV.den,SC.den,hp] at h1;have h3:a.eval (.const (.pointer none))=.pointer none:=rfl;have h2:(Op.equal t (.pointer (some p)) (.pointer none)).run P w=.ok false w:=PL hu p;simp[h1,h3,eqGuard,Go.binOp,h2,SV.den,SC.den,BT.den]
    ·cases hn
   ·rename_i i _ hx hu;split at hn
    ·rename_i hq;cases hn;obtain⟨p,hp⟩:=NB (Y1 hs hq);have h1:=Dw he hx;simp only[SV.den,SC.den,hp] at h1;have h3:a.eval (.const (.pointer none))=.pointer none:=rfl;have h2:(Op.equal t (.pointer (some p)) (.pointer none)).run P w=.ok false w:=PL hu p;simp[h1,h3,eqGuard,Go.binOp,h2,SV.den,SC.den,BT.den]
    ·cases hn
   ·rename_i hx hu;cases hn;have h1:=Dw he hx;simp only[SV.den,SC.den] at h1;have h2:=PV (P:=P) (w:=w) hu;have h3:a.eval (.const .nilIface)=.nilIface:=rfl;simp[h1,h3,eqGuard,Go.binOp,h2,SV.den,SC.den,BT.den]
   ·rename_i hx hu;cases hn;have h1:=Dw he hx;simp only[SV.den,SC.den] at h1;have h2:=PV (P:=P) (w:=w) hu;have h3:a.eval (.const .nilIface)=.nilIface:=rfl;simp[h1,h3,eqGuard,Go.binOp,h2,SV.den,SC.den,BT.den]
   ·cases hn
  have h1:=pX (e:=e) (β:=β) (w:=w) h x y;rw[←he,←he] at h1;simp only[Sem.run_bind] at h1 ⊢;rw[h1];rfl
 ·
  split at h
  ·rename_i b hx;cases h;have h1:=Dw he hx;simp only[SV.den,SC.den] at h1;simp[h1,Op.unary,SV.den,SC.den,BT.Ek]
  ·cases h
 ·
  split at h
  ·rename_i len el l i n hu hx hi;split at h
   ·rename_i inf hinf;split at h
    ·rename_i hn;cases h;have h1:=Dw he hx;simp only[SV.den,SC.den] at h1;have h2:=Dw he hi;simp only[SV.den,SC.den,Tm.den] at h2;simp only[h1,h2,Instr.indexAt,asIntOf,Sem.run_bind,Sem.run_pure,Result.andThen_ok,run_underlying hu,Instr.sureAddr];rw[if_pos hn];simp only[Sem.run_bind,Hu hinf,Result.andThen_ok,Sem.run_pure,SV.den,SC.den,Addr.add];split
     ·rename_i h0;simp[h0]
     ·rfl
    ·cases h
   ·cases h
  ·cases h
 ·
  split at h
  ·rename_i it fs hi hu;split at h
   ·rename_i z pl hz hp;split at h
    ·rename_i l hl;cases h;have hb:=gX (e:=e) (β:=β) hi hu hz hp hl;simp only[Sem.run_bind];rw[run_build w _ _ (Yj e β l) (by rw[←hb];congr 1;simp[mO,he _])];rfl
    ·cases h
   ·cases h
  ·cases h
 ·
  split at h
  ·rename_i el l i hu hx;cases h;have h1:=Dw he hx;simp only[SV.den,SC.den] at h1;simp[h1,Instr.makeInterface,run_underlying hu,SV.den,SC.den]
  ·rename_i el hu hx;cases h;have h1:=Dw he hx;simp only[SV.den,SC.den] at h1;simp[h1,Instr.makeInterface,run_underlying hu,SV.den,SC.den]
  ·cases h
 ·cases h
end
structure GF where
 P:Nat->World->(Nat->Prop)->Prop
 AG:∀i w w' F,P i w F->(∀b,F b->w'.heap[b]?=w.heap[b]?)->P i w' F
def GF.no:GF:=⟨λ_ _ F=>∀b,¬F b,λ_ _ _ _ h _=>h⟩
structure Sr where
 lab:List Nat
 k:Nat->Nat
 w:World
 F:Nat->Prop
 Φ:GF
def Gm(k:Nat->Nat)(h:Yh)(β:Nat->Nat):Prop:=(∀g,β (2*g)=g)/\∀x∈h,β x.1=k x.1
structure Cm(e:Env)(B:Sr)(k:Nat->Nat)(ph:Nat)(h:Yh)(w:World):Prop where
 Gd:∀g,k (2*g)=g
 heap:∀β,Gm k h β->∀x∈h,Bk w (β x.1) x.2.1 (Yj e β x.2.2)
 inj:∀x∈h,∀y∈h,k x.1=k y.1->x.1=y.1
 ext:∀l∈B.lab,k l=B.k l
 new:∀x∈h,x.1∈B.lab\/B.w.heap.size<=k x.1
 Bb:∀l∈B.lab,∃x∈h,x.1=l
 os:w.os=B.w.os
 tape:w.tape=B.w.tape
 output:w.output=B.w.output
 size:B.w.heap.size<=w.heap.size
 JW:∀b,b<B.w.heap.size->(∀l∈B.lab,B.k l≠b)->¬B.F b->w.heap[b]?=B.w.heap[b]?
 mY:∃F:Nat->Prop,B.Φ.P ph w F/\(∀x∈h,¬F (k x.1))/\(∀b,F b->b<w.heap.size)/\(∀b,F b->B.F b\/B.w.heap.size<=b)
theorem Bc{l:Nat}:∀{h:Yh},l∈Yg h↔∃x∈h,x.1=l
 |[]=>by simp[Yg]
 |x::r=>by
  simp only[Yg,List.mem_cons,Bc (h:=r)];constructor
  ·rintro(rfl|⟨y,hy,rfl⟩)
   ·exact⟨x,Or.inl rfl,rfl⟩
   ·exact⟨y,Or.inr hy,rfl⟩
  ·rintro⟨y,rfl|hy,rfl⟩
   ·exact Or.inl rfl
   ·exact Or.inr ⟨y,hy,rfl⟩
section
variable{e:Env}{B:Sr}{k:Nat->Nat}{ph:Nat}{h:Yh}{w w':World}
theorem Cm.Ig(H:Cm e B k ph h w):Gm k h k:=⟨H.Gd,λ_ _=>rfl⟩
theorem Hz(H:∃F:Nat->Prop,B.Φ.P ph w F/\(∀x∈h,¬F (k x.1))/\(∀b,F b->b<w.heap.size)/\(∀b,F b->B.F b\/B.w.heap.size<=b))(hz:w.heap.size<=w'.heap.size)
  {h':Yh}{k':Nat->Nat}(hs:∀F:Nat->Prop,(∀x∈h,¬F (k x.1))->(∀b,F b->b<w.heap.size)->(∀b,F b->w'.heap[b]?=w.heap[b]?)/\∀x∈h',¬F (k' x.1)):
  ∃F:Nat->Prop,B.Φ.P ph w' F/\(∀x∈h',¬F (k' x.1))/\(∀b,F b->b<w'.heap.size)/\(∀b,F b->B.F b\/B.w.heap.size<=b):=by
 obtain⟨F,h1,h2,h3,h4⟩:=H
 obtain⟨h5,h6⟩:=hs F h2 h3
 exact⟨F,B.Φ.AG _ _ _ _ h1 h5,h6,λb hb=>Nat.lt_of_lt_of_le (h3 b hb) hz,h4⟩
theorem Cm.same(H:Cm e B k ph h w)(h1:w'.heap=w.heap)(h2:w'.os=w.os)(h3:w'.tape=w.tape)(h4:w'.output=w.output):Cm e B k ph h w':=
 ⟨H.Gd,fun β hβ x hx=>(H.heap β hβ x hx).same (by rw [h1]),H.inj,H.ext,H.new,H.Bb,h2.trans H.os,h3.trans H.tape,h4.trans H.output,by rw [h1];exact H.size,fun b hb hl hf=>by rw [h1];exact H.JW b hb hl hf,
  Hz H.mY (by rw[h1];exact Nat.le_refl _) λF a _=>⟨λb _=>by rw[h1],a⟩⟩
theorem Cm.drew(H:Cm e B k ph h w):Cm e B k ph h w.drew:=H.same rfl rfl rfl rfl
theorem Cm.start(H:Cm e B k ph h w):∃F:Nat->Prop,Cm e ⟨Yg h,k,w,F,B.Φ⟩ k ph h w/\∀b,F b->B.F b\/B.w.heap.size<=b:=by
 obtain⟨F,h1,h2,h3,h4⟩:=H.mY;exact⟨F,⟨H.Gd,H.heap,H.inj,λ_ _=>rfl,λx hx=>Or.inl (Bc.2 ⟨x,hx,rfl⟩),λl hl=>Bc.1 hl,rfl,rfl,rfl,Nat.le_refl _,λ_ _ _ _=>rfl,F,h1,h2,h3,λb hb=>Or.inl hb⟩,h4⟩
theorem Cm.trans{k':Nat->Nat}{ph':Nat}{h':Yh}{F:Nat->Prop}(H:Cm e B k ph h w)(hF:∀b,F b->B.F b\/B.w.heap.size<=b)(H':Cm e ⟨Yg h,k,w,F,B.Φ⟩ k' ph' h' w'):Cm e B k' ph' h' w':=by
 refine⟨H'.Gd,H'.heap,H'.inj,λl hl=>?_,λx hx=>?_,λl hl=>?_,H'.os.trans H.os,H'.tape.trans H.tape,H'.output.trans H.output,Nat.le_trans H.size H'.size,λb hb hl hf=>?_,?_⟩
 ·exact(H'.ext l (Bc.2 (H.Bb l hl))).trans (H.ext l hl)
 ·rcases H'.new x hx with h1|h1
  ·obtain⟨y,hy,hyx⟩:=Bc.1 h1;rcases H.new y hy with h2|h2
   ·exact Or.inl (by rw[←hyx];exact h2)
   ·exact Or.inr (by rw[H'.ext x.1 h1];simp only;rw[←hyx];exact h2)
  ·exact Or.inr (Nat.le_trans H.size h1)
 ·exact H'.Bb l (Bc.2 (H.Bb l hl))
 ·rw[H'.JW b (Nat.lt_of_lt_of_le hb H.size) (λl hl'=>?_) (λhf'=>?_),H.JW b hb hl hf]
  ·obtain⟨x,hx,rfl⟩:=Bc.1 hl';rcases H.new x hx with h2|h2
   ·simp only;rw[H.ext _ h2];exact hl _ h2
   ·simp only;omega
  ·rcases hF b hf' with h1|h1
   ·exact hf h1
   ·omega
 ·obtain⟨F',h1,h2,h3,h4⟩:=H'.mY;refine⟨F',h1,h2,h3,λb hb=>?_⟩;rcases h4 b hb with h5|h5
  ·exact hF b h5
  ·exact Or.inr (Nat.le_trans H.size h5)
theorem Cm.lt(H:Cm e B k ph h w){x:Nat × TypeId × List SC}(hx:x∈h):k x.1<w.heap.size:=(H.heap k H.Ig x hx).lt
theorem Bz{l:Nat}{t:TypeId}{cs:List SC}:∀{h:Yh},DI l h=some (t,cs)->(l,t,cs)∈h
 |[],h=>by cases h
 |(k,u,ds)::r,h=>by
  unfold DI at h;split at h
  ·rename_i hk;cases h;simp only[beq_iff_eq] at hk;subst hk;simp
  ·exact List.mem_cons_of_mem _ (Bz h)
theorem NO{l:Nat}:∀{h:Yh},DI l h=none->∀x∈h,x.1≠l
 |[],_,x,hx=>by cases hx
 |(k,u,ds)::r,h,x,hx=>by
  unfold DI at h;split at h
  ·cases h
  ·rename_i hk;rcases List.mem_cons.1 hx with rfl|hx
   ·simpa using hk
   ·exact NO h x hx
theorem E5{x y:Nat × TypeId × List SC}:∀{h:Yh},y∈Pj x h↔y=x\/y∈h
 |[]=>by simp[Pj]
 |z::r=>by
  simp only[Pj];split
  ·simp only[List.mem_cons,E5 (h:=r)];constructor
   ·rintro(rfl|rfl|h)
    ·exact Or.inr (Or.inl rfl)
    ·exact Or.inl rfl
    ·exact Or.inr (Or.inr h)
   ·rintro(rfl|rfl|h)
    ·exact Or.inr (Or.inl rfl)
    ·exact Or.inl rfl
    ·exact Or.inr (Or.inr h)
  ·simp
theorem Cm.alloc(H:Cm e B k ph h w){l:Nat}(hodd:l%2=1)(hl:DI l h=none){t:TypeId}{cs:List SC}{row:Array Value}(hrow:∀β,Gm k h β->Yj e β cs=row):
  Cm e B (λi=>if i=l then w.heap.size else k i) ph (Pj (l,t,cs) h) (w.alloc (.cells row t))/\∀β,Gm (λi=>if i=l then w.heap.size else k i) (Pj (l,t,cs) h) β->Gm k h β/\β l=w.heap.size:=by
 have hne:=NO hl
 have hag:∀β,Gm (λi=>if i=l then w.heap.size else k i) (Pj (l,t,cs) h) β->Gm k h β/\β l=w.heap.size:=λβ hβ=>by
  refine⟨⟨hβ.1,λx hx=>?_⟩,?_⟩
  ·have:=hβ.2 x (E5.2 (Or.inr hx));simpa [hne x hx] using this
  ·have:=hβ.2 (l,t,cs) (E5.2 (Or.inl rfl));simpa using this
 refine⟨⟨λg=>?_,λβ hβ x hx=>?_,λx hx y hy hxy=>?_,λi hi=>?_,λx hx=>?_,λi hi=>?_,H.os,H.tape,H.output,?_,λb hb hbl hf=>?_,?_⟩,hag⟩
 ·have:2*g≠l:=Zo;simp[this,H.Gd]
 ·obtain⟨h1,h2⟩:=hag β hβ;rcases E5.1 hx with rfl|hx
  ·simp only[h2];rw[hrow β h1];exact Bk.new w t row
  ·exact(H.heap β h1 x hx).alloc _
 ·rcases E5.1 hx with rfl|hx<;>rcases E5.1 hy with rfl|hy
  ·rfl
  ·have:=H.lt hy;simp[hne y hy] at hxy;omega
  ·have:=H.lt hx;simp[hne x hx] at hxy;omega
  ·simp[hne x hx,hne y hy] at hxy;exact H.inj x hx y hy hxy
 ·obtain⟨x,hx,rfl⟩:=H.Bb i hi;simp[hne x hx,H.ext _ hi]
 ·rcases E5.1 hx with rfl|hx
  ·simp only[if_true];exact Or.inr H.size
  ·rcases H.new x hx with h1|h1
   ·exact Or.inl h1
   ·simp[hne x hx];exact Or.inr h1
 ·obtain⟨x,hx,rfl⟩:=H.Bb i hi;exact⟨x,E5.2 (Or.inr hx),rfl⟩
 ·have:=H.size;simp;omega
 ·rw[←H.JW b hb hbl hf];exact Below.heap_alloc w _ b (Nat.lt_of_lt_of_le hb H.size)
 ·refine Hz (h':=Pj (l,t,cs) h) (k':=λi=>if i=l then w.heap.size else k i) H.mY Zs λF a b=>⟨λc hc=>Below.heap_alloc w _ c (b c hc),λx hx=>?_⟩;rcases E5.1 hx with rfl|hx
  ·simp only[if_true];exact λhf=>absurd (b _ hf) (Nat.lt_irrefl _)
  ·simp only[if_neg (hne x hx)];exact a x hx
theorem Kl(w:World)(g b:Nat)(cs:Array Value)(h:b≠g):(w.setRow g cs).heap[b]?=w.heap[b]?:=by
 simp[World.setRow,Array.getElem?_modify,Ne.symm h]
theorem setRow_size(w:World)(g:Nat)(cs:Array Value):(w.setRow g cs).heap.size=w.heap.size:=by
 simp[World.setRow]
theorem AU{l:Nat}{cs:List SC}{x:Nat × TypeId × List SC}{h:Yh}:x∈Km l cs h↔∃y∈h,x=if y.1==l then(y.1,y.2.1,cs) else y:=by
 simp only[Km,List.mem_map];constructor
 ·rintro⟨y,hy,rfl⟩;exact⟨y,hy,rfl⟩
 ·rintro⟨y,hy,rfl⟩;exact⟨y,hy,rfl⟩
theorem Bv{l:Nat}{cs:List SC}(y:Nat × TypeId × List SC):(if y.1==l then(y.1,y.2.1,cs) else y).1=y.1:=by
 split<;>rfl
theorem Cm.store(H:Cm e B k ph h w){l:Nat}{t:TypeId}{cs cs':List SC}(hl:DI l h=some (t,cs)){row:Array Value}(hrow:∀β,Gm k h β->Yj e β cs'=row):
  Cm e B k ph (Km l cs' h) (w.setRow (k l) row)/\∀β,Gm k (Km l cs' h) β->Gm k h β:=by
 have hag:∀ β,Gm k (Km l cs' h) β→Gm k h β:=fun β hβ=>⟨hβ.1,fun x hx=>by
  have:=hβ.2 _ (AU.2 ⟨x,hx,rfl⟩);rwa [Bv] at this⟩
 have hm:=Bz hl
 have hb0:=H.heap k H.Ig _ hm
 refine⟨⟨H.Gd,λβ hβ x hx=>?_,λx hx y hy hxy=>?_,H.ext,λx hx=>?_,λi hi=>?_,H.os,H.tape,H.output,?_,λb hb hbl hf=>?_,?_⟩,hag⟩
 ·have h1:=hag β hβ;obtain⟨y,hy,rfl⟩:=AU.1 hx;have hy1:=H.heap β h1 y hy;by_cases hyl:y.1=l
  ·have:(y.1==l)=true:=by simpa using hyl
   simp only[this,if_true];rw[hrow β h1];have e1:β y.1=k l:=by rw[h1.2 y hy,hyl]
   rw[e1] at hy1 ⊢;unfold Bk at hy1 ⊢;exact setRow_heap w (k l) _ row _ _ hy1
  ·have:(y.1==l)=false:=by simpa using hyl
   simp only[this,Bool.false_eq_true,if_false];refine hy1.same (Kl w _ _ _ ?_);rw[h1.2 y hy];intro heq;exact hyl (H.inj y hy (l,t,cs) hm heq)
 ·obtain⟨x',hx',rfl⟩:=AU.1 hx;obtain⟨y',hy',rfl⟩:=AU.1 hy;rw[Bv,Bv] at hxy ⊢;exact H.inj x' hx' y' hy' hxy
 ·obtain⟨x',hx',rfl⟩:=AU.1 hx;rw[Bv];exact H.new x' hx'
 ·obtain⟨x,hx,rfl⟩:=H.Bb i hi;exact⟨_,AU.2 ⟨x,hx,rfl⟩,Bv x⟩
 ·rw[setRow_size];exact H.size
 ·rw[Kl w _ _ _ ?_,H.JW b hb hbl hf];intro heq;rcases H.new _ hm with h1|h1
  ·have h2:=H.ext _ h1;exact hbl _ h1 (by rw[←h2,heq])
  ·simp only at h1;omega
 ·refine Hz H.mY (by rw[setRow_size];exact Nat.le_refl _) λF a b=>⟨λc hc=>Kl w _ _ _ λheq=>a _ hm (by simp only;rw[←heq];exact hc),λx hx=>?_⟩;obtain⟨x',hx',rfl⟩:=AU.1 hx;rw[Bv];exact a x' hx'
theorem Cm.Ap(H:Cm e B k ph h w){l:Nat}{t:TypeId}{cs cs':List SC}(hl:DI l h=some (t,cs)){row:Array Value}(hrow:∀β,Gm k h β->Yj e β cs'=row)
  (hb':Bk w' (k l) t row)(hg:w.grownBy w' (some (k l))):Cm e B k ph (Km l cs' h) w'/\∀β,Gm k (Km l cs' h) β->Gm k h β:=by
 have hag:∀ β,Gm k (Km l cs' h) β→Gm k h β:=fun β hβ=>⟨hβ.1,fun x hx=>by
  have:=hβ.2 _ (AU.2 ⟨x,hx,rfl⟩);rwa [Bv] at this⟩
 have hm:=Bz hl
 have hb0:=H.heap k H.Ig _ hm
 refine⟨⟨H.Gd,λβ hβ x hx=>?_,λx hx y hy hxy=>?_,H.ext,λx hx=>?_,λi hi=>?_,hg.os.trans H.os,hg.tape.trans H.tape,hg.output.trans H.output,Nat.le_trans H.size hg.size,λb hb hbl hf=>?_,?_⟩,hag⟩
 ·have h1:=hag β hβ;obtain⟨y,hy,rfl⟩:=AU.1 hx;have hy1:=H.heap β h1 y hy;by_cases hyl:y.1=l
  ·have:(y.1==l)=true:=by simpa using hyl
   simp only[this,if_true];rw[hrow β h1];have e1:β y.1=k l:=by rw[h1.2 y hy,hyl]
   rw[e1] at hy1 ⊢;have e2:y.2.1=t:=by
    unfold Bk at hy1 hb0;rw[hb0] at hy1;injection hy1 with hy2;injection hy2 with _ hy3;exact hy3.symm
   rw[e2];exact hb'
  ·have:(y.1==l)=false:=by simpa using hyl
   simp only[this,Bool.false_eq_true,if_false];refine hy1.grown hg ?_;rw[h1.2 y hy];intro heq;exact hyl (H.inj y hy (l,t,cs) hm (Option.some.inj heq))
 ·obtain⟨x',hx',rfl⟩:=AU.1 hx;obtain⟨y',hy',rfl⟩:=AU.1 hy;rw[Bv,Bv] at hxy ⊢;exact H.inj x' hx' y' hy' hxy
 ·obtain⟨x',hx',rfl⟩:=AU.1 hx;rw[Bv];exact H.new x' hx'
 ·obtain⟨x,hx,rfl⟩:=H.Bb i hi;exact⟨_,AU.2 ⟨x,hx,rfl⟩,Bv x⟩
 ·rw[hg.block b (Nat.lt_of_lt_of_le hb H.size) (λheq=>?_),H.JW b hb hbl hf];have heq:=Option.some.inj heq;rcases H.new _ hm with h1|h1
  ·have h2:=H.ext _ h1;exact hbl _ h1 (by rw[←h2,heq])
  ·simp only at h1;omega
 ·refine Hz H.mY hg.size λF a b=>⟨λc hc=>hg.block c (b c hc) λheq=>a _ hm (by rw[←Option.some.inj heq];exact hc),λx hx=>?_⟩;obtain⟨x',hx',rfl⟩:=AU.1 hx;rw[Bv];exact a x' hx'
structure EH(Φ:GF)(j:Nat)(F:Nat->Prop)(g:Option Nat)(w w':World):Prop where
 os:w'.os=w.os
 tape:w'.tape=w.tape
 output:w'.output=w.output
 size:w.heap.size<=w'.heap.size
 JW:∀b,b<w.heap.size->some b≠g->¬F b->w'.heap[b]?=w.heap[b]?
 fin:∃F':Nat->Prop,Φ.P j w' F'/\(∀b,F' b->F b\/w.heap.size<=b)/\∀b,F' b->b<w'.heap.size
theorem Cm.eff(H:Cm e B k ph h w){F:Nat->Prop}(f2:∀x∈h,¬F (k x.1))(f4:∀b,F b->B.F b\/B.w.heap.size<=b){j:Nat}(O:EH B.Φ j F none w w'):Cm e B k j h w':=by
 obtain⟨F',p',s',b'⟩:=O.fin;refine⟨H.Gd,λβ hβ x hx=>?_,H.inj,H.ext,H.new,H.Bb,O.os.trans H.os,O.tape.trans H.tape,O.output.trans H.output,Nat.le_trans H.size O.size,λb hb hbl hf=>?_,F',p',λx hx hf=>?_,b',λb hb=>?_⟩
 ·refine(H.heap β hβ x hx).same (O.JW _ (H.heap β hβ x hx).lt Zs ?_);rw[hβ.2 x hx];exact f2 x hx
 ·rw[O.JW b (Nat.lt_of_lt_of_le hb H.size) Zs λhf'=>by rcases f4 b hf' with h1|h1;exact hf h1;omega,H.JW b hb hbl hf]
 ·rcases s' _ hf with h1|h1
  ·exact f2 x hx h1
  ·have:=H.lt hx;omega
 ·rcases s' b hb with h1|h1
  ·exact f4 b h1
  ·exact Or.inr (Nat.le_trans H.size h1)
theorem Cm.effG(H:Cm e B k ph h w){F:Nat->Prop}(f2:∀x∈h,¬F (k x.1))(f4:∀b,F b->B.F b\/B.w.heap.size<=b){j:Nat}{l:Nat}{t:TypeId}{cs cs':List SC}(hl:DI l h=some (t,cs))
  {row:Array Value}(hrow:∀β,Gm k h β->Yj e β cs'=row)(hb':Bk w' (k l) t row)(O:EH B.Φ j F (some (k l)) w w'):Cm e B k j (Km l cs' h) w'/\∀β,Gm k (Km l cs' h) β->Gm k h β:=by
 have hag:∀ β,Gm k (Km l cs' h) β→Gm k h β:=fun β hβ=>⟨hβ.1,fun x hx=>by
  have:=hβ.2 _ (AU.2 ⟨x,hx,rfl⟩);rwa [Bv] at this⟩
 have hm:=Bz hl
 have hb0:=H.heap k H.Ig _ hm
 obtain⟨F',p',s',b'⟩:=O.fin
 refine⟨⟨H.Gd,λβ hβ x hx=>?_,λx hx y hy hxy=>?_,H.ext,λx hx=>?_,λi hi=>?_,O.os.trans H.os,O.tape.trans H.tape,O.output.trans H.output,Nat.le_trans H.size O.size,λb hb hbl hf=>?_,F',p',λx hx hf=>?_,b',λb hb=>?_⟩,hag⟩
 ·have h1:=hag β hβ;obtain⟨y,hy,rfl⟩:=AU.1 hx;have hy1:=H.heap β h1 y hy;by_cases hyl:y.1=l
  ·have:(y.1==l)=true:=by simpa using hyl
   simp only[this,if_true];rw[hrow β h1];have e1:β y.1=k l:=by rw[h1.2 y hy,hyl]
   rw[e1] at hy1 ⊢;have e2:y.2.1=t:=by
    unfold Bk at hy1 hb0;rw[hb0] at hy1;injection hy1 with hy2;injection hy2 with _ hy3;exact hy3.symm
   rw[e2];exact hb'
  ·have:(y.1==l)=false:=by simpa using hyl
   simp only[this,Bool.false_eq_true,if_false];refine hy1.same (O.JW _ hy1.lt ?_ ?_)
   ·rw[h1.2 y hy];intro heq;exact hyl (H.inj y hy (l,t,cs) hm (Option.some.inj heq))
   ·rw[h1.2 y hy];exact f2 y hy
 ·obtain⟨x',hx',rfl⟩:=AU.1 hx;obtain⟨y',hy',rfl⟩:=AU.1 hy;rw[Bv,Bv] at hxy ⊢;exact H.inj x' hx' y' hy' hxy
 ·obtain⟨x',hx',rfl⟩:=AU.1 hx;rw[Bv];exact H.new x' hx'
 ·obtain⟨x,hx,rfl⟩:=H.Bb i hi;exact⟨_,AU.2 ⟨x,hx,rfl⟩,Bv x⟩
 ·rw[O.JW b (Nat.lt_of_lt_of_le hb H.size) (λheq=>?_) λhf'=>by rcases f4 b hf' with h1|h1;exact hf h1;omega,H.JW b hb hbl hf];have heq:=Option.some.inj heq;rcases H.new _ hm with h1|h1
  ·have h2:=H.ext _ h1;exact hbl _ h1 (by rw[←h2,heq])
  ·simp only at h1;omega
 ·obtain⟨x',hx',rfl⟩:=AU.1 hx;rw[Bv] at hf;rcases s' _ hf with h1|h1
  ·exact f2 x' hx' h1
  ·have:=H.lt hx';omega
 ·rcases s' b hb with h1|h1
  ·exact f4 b h1
  ·exact Or.inr (Nat.le_trans H.size h1)
end
end Go.Proofs.YtaipogljokblkaaGreatDoor
