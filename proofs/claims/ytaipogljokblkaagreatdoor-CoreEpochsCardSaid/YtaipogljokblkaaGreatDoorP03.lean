/- Core: SymB, SymC, SymD, SymE, SymF. -/
import Derived.Test.YtaipogljokblkaaGreatDoorP02
import Derived.ChangeKeysEq
import Derived.Laws.CopyRow
set_option linter.all false
set_option maxRecDepth 100000
set_option maxHeartbeats 8000000
namespace Go.Proofs.YtaipogljokblkaaGreatDoor
open Go Go.RowKit
section
variable(e:Env)
def Tm.RM(a b:Tm):(Tm.mk (·+·) .add a b).den e=IntKind.i64.wrap (a.den e+b.den e):=by
 unfold Tm.mk;split<;>rfl
def Tm.RI(a b:Tm):(Tm.mk (· -·) .sub a b).den e=IntKind.i64.wrap (a.den e-b.den e):=by
 unfold Tm.mk;split<;>rfl
def Tm.RK(a b:Tm):(Tm.mk (·*·) .mul a b).den e=IntKind.i64.wrap (a.den e*b.den e):=by
 unfold Tm.mk;split<;>rfl
def Tm.lG(a:Tm)(d:Int):(a.sG d).den e=IntKind.i64.wrap ((a.den e).tdiv d):=by
 unfold Tm.sG;split<;>rfl
def Tm.lF(a:Tm)(d:Int):(a.sF d).den e=(a.den e).tmod d:=by
 unfold Tm.sF;split<;>rfl
def BT.Iz(a b:Tm):(BT.VQ a b).den e=(a.den e==b.den e):=by
 unfold BT.VQ;split
 ·rfl
 ·split
  ·rename_i h;subst h;simp[BT.den]
  ·rfl
def BT.Wo(a b:Tm):(BT.zI a b).den e=decide (a.den e<b.den e):=by
 unfold BT.zI;split<;>rfl
def BT.Wp(a b:Tm):(BT.zJ a b).den e=decide (a.den e<=b.den e):=by
 unfold BT.zJ;split<;>rfl
def BT.EH(a:BT):a.LC.den e=!a.den e:=by
 unfold BT.LC;split<;>simp[BT.den]
def BT.RL(a b:BT):(BT.dF a b).den e=(a.den e&&b.den e):=by
 unfold BT.dF;split<;>simp[BT.den]
def BT.uA(a b:BT):(BT.xg a b).den e=(a.den e||b.den e):=by
 unfold BT.xg;split<;>simp[BT.den]
def BT.lH(a b:BT):(BT.sH a b).den e=(a.den e==b.den e):=by
 unfold BT.sH;split
 ·simp[BT.den]
 ·simp[BT.den,BT.EH]
 ·simp[BT.den]
 ·simp[BT.den,BT.EH]
 ·split
  ·rename_i h;subst h;simp[BT.den]
  ·rfl
def Bd(s:Gj):Prop:=∀p∈s,p.1.den e=p.2
variable{e}
def Ze{b:BT}:∀{s:Gj} {v:Bool},Bd e s->J7 b s=some v->b.den e=v
 |[],_,_,h=>by cases h
 |(x,u)::r,v,a,h=>by
  unfold J7 at h;split at h
  ·rename_i c;subst c;cases h;exact a (x,u) Zs
  ·exact Ze (λp d=>a p (by simp[d])) h
def EC{s:Gj}(c:Bd e s):∀b:BT,(known s b).den e=b.den e
 |.lit b=>rfl
 |.not a=>by unfold known;rw[BT.EH,EC c a];rfl
 |.var i=>by unfold known;split<;>(first|(rename_i h;exact(Ze c h).symm)|rfl)
 |.eq a b=>by unfold known;split<;>(first|(rename_i h;exact(Ze c h).symm)|rfl)
 |.lt a b=>by unfold known;split<;>(first|(rename_i h;exact(Ze c h).symm)|rfl)
 |.le a b=>by unfold known;split<;>(first|(rename_i h;exact(Ze c h).symm)|rfl)
 |.and a b=>by unfold known;split<;>(first|(rename_i h;exact(Ze c h).symm)|rfl)
 |.or a b=>by unfold known;split<;>(first|(rename_i h;exact(Ze c h).symm)|rfl)
 |.beq a b=>by unfold known;split<;>(first|(rename_i h;exact(Ze c h).symm)|rfl)
 |.kH i=>by unfold known;split<;>(first|(rename_i h;exact(Ze c h).symm)|rfl)
 |.nil i=>by unfold known;split<;>(first|(rename_i h;exact(Ze c h).symm)|rfl)
def GC{s:Gj}(a:Bd e s){b:BT}{v:Bool}(h:b.den e=v):Bd e (IZ b v s):=by
 have one:∀(x:BT) (u:Bool) (s:Gj),Bd e s->x.den e=u->Bd e ((x,u)::s):=λx u s a c p hp=>by
  rcases gf.1 hp with rfl|hp
  ·exact c
  ·exact a p hp
 unfold IZ;split
 ·exact one _ _ _ a (by rw[←h];simp[BT.den])
 ·simp only[BT.den,gm] at h;exact one _ _ _ (one _ _ _ a h.2) h.1
 ·simp only[BT.den,nw] at h;exact one _ _ _ (one _ _ _ a h.2) h.1
 ·exact one _ _ _ a h
end
section
variable(e:Env)(β:Nat->Nat)
def P9(v:Value):(KP v).den e β=v:=by
 unfold KP;split<;>rfl
def Nv(l:List Value):Yp e β (l.map KP)=l.toArray:=by
 unfold Yp;rw[pd];congr 1;conv=>rhs;rw[←List.map_id l]
 exact jl λv _=>P9 e β v
def Nu(v:Value):(ofValue v).den e β=v:=by
 unfold ofValue;split
 ·show Value.agg (Yp e β _)=_;rw[Nv]
 ·exact P9 e β _
def eC{x:SC}(h:x.one=true):(x.den e β).oneCell'=true:=by
 cases x<;>first|exact h|rfl|exact e.one _
def uB{l:List SC}(h:l.all SC.one=true):∀v∈(Yp e β l).toList,v.oneCell'=true:=by
 intro v a;simp only[Yp,j7] at a;obtain⟨x,b,rfl⟩:=a;exact eC e β (g9.1 h x b)
def I1(l:List SC):(Yp e β l).size=l.length:=by simp[Yp]
def Hq(l:List SC):(Yp e β l).toList=l.map (SC.den e β):=by simp[Yp]
def LS(l:List SC)(i:Nat):(Yp e β l)[i]?=(l[i]?).map (SC.den e β):=by simp[Yp]
def Q5{v:Value}(h:v.oneCell'=true):v.cells=#[v]:=by
 cases v<;>first|rfl|cases h
def Kw{v:SV}{l:List SC}(h:v.cells?=some l):(v.den e β).cells=Yp e β l:=by
 cases v with
 |c x=>
  simp only[SV.cells?] at h;split at h
  ·rename_i a;cases h;show(x.den e β).cells=_;rw[Q5 (eC e β a)];rfl
  ·cases h
 |agg l=>cases h;rfl
 |Jt l=>cases h
def Hr(cs:List SC)(i:Nat)(vs:List SC):Yp e β (splice cs i vs)=((Yp e β cs).toList.take i++(Yp e β vs).toList++(Yp e β cs).toList.drop (i+vs.length)).toArray:=by
 simp[Yp,splice,List.map_take,List.map_drop]
end
def RD(d:Nat)(v:SV)(t:Nat):∀fr:Xo,HU t (tD d v fr)=if t=d then v else HU t fr
 |[]=>by
  simp only[tD,HU];by_cases h:t=d
  ·subst h;simp
  ·simp[h,Ne.symm h]
 |(k,y)::r=>by
  have i:=RD d v t r;simp only[tD];by_cases b:k=d
  ·subst b;simp only[beq_self_eq_true,ko,HU];by_cases h:t=k
   ·subst h;simp
   ·simp[h,Ne.symm h]
  ·have c:(k==d)=false:=by simpa using b
   simp only[c,im,jx];by_cases g:k<d
   ·simp only[g,ko];rw[HU];by_cases h:t=d
    ·subst h;simp
    ·have f:(d==t)=false:=by simpa using Ne.symm h
     simp only[f,im,jx,h];by_cases a:d<t
     ·simp only[a,ko];rw[HU];have j:(k==t)=false:=by simp;omega
      simp only[j,im,jx];rw[ga Zo]
     ·simp only[a,jx]
   ·simp only[g,jx];rw[HU,HU];by_cases h:k=t
    ·subst h;simp[b]
    ·have f:(k==t)=false:=by simpa using h
     simp only[f,im,jx];by_cases a:k<t
     ·simp only[a,ko];rw[fw Zo]
     ·simp only[a,jx,i]
def Pn:∀(l:List SV) (k:Nat) (a:Xo) (t:Nat),(∀t,k<=t->HU t a=FB)->
  HU t (PV k l a)=if k<=t then l.getD (t-k) FB else HU t a
 |[],k,a,t,h=>by
  simp only[PV];split
  ·rename_i d;simp[h t d]
  ·rfl
 |v::r,k,a,t,h=>by
  simp only[PV];have f:∀t,k+1<=t->HU t ((k,v)::a)=FB:=λt i=>by
   rw[HU];have b:(k==t)=false:=by simp;omega
   simp only[b,im,jx];rw[ga Zo]
  rw[Pn r (k+1) _ t f];by_cases b:k+1<=t
  ·rw[ga b,ga Zo];obtain⟨m,rfl⟩:∃m,t=k+1+m:=⟨t-(k+1),Zo⟩;rw[show k+1+m-(k+1)=m by omega,show k+1+m-k=m+1 by omega];simp
  ·rw[fw b];rw[HU];by_cases c:k=t
   ·subst c;simp
   ·have g:(k==t)=false:=by simpa using c
    simp only[g,im,jx];rw[fw Zo,fw Zo]
section
variable{P:Program}{e:Env}{β:Nat->Nat}{w:World}
def Iq{t:TypeId}{i:TypeInfo}(h:P.info? t=some i):(sizeOf t).run P w=.ok i.size w:=by
 simp[sizeOf,typeInfo,h]
def Ir{t:TypeId}{b:Bool}(h:Pd P t=some b):(isAgg t).run P w=.ok b w:=by
 unfold Pd at h;split at h
 ·rename_i a;cases h;simp[isAgg,underlying,a]
 ·rename_i a;cases h;simp[isAgg,underlying,a]
 ·rename_i c d a;cases h;simp only[isAgg,underlying,ig,pm,ia,a,ji]
 ·cases h
def qF{t:TypeId}{cs:List SC}{a:Nat}{v:SV}(h:OM P t cs a=some v):(part t (Yp e β cs) a).run P w=.ok (v.den e β) w:=by
 unfold OM at h;split at h
 ·rename_i i ha b;split at h
  ·rename_i c;cases h;unfold part;simp only[ig,Ir ha,ia,ko,Iq b,ji];congr 2;apply Array.ext';simp[Yp,List.map_drop,List.map_take,List.extract_eq_drop_take']
  ·cases h
 ·rename_i i ha b;split at h
  ·rename_i x d;split at h
   ·cases h;unfold part;simp[Ir ha,LS,d,SV.den]
   ·cases h
  ·cases h
 ·cases h
def eB{t:TypeId}{x y:SC}{b:BT}(h:N' P t x y=some b)(n:Nat):(Op.equalIn (n+1) t (x.den e β) (y.den e β)).run P w=.ok (b.den e) w:=by
 unfold N' at h;split at h<;>first|(cases h;done)|skip
 ·rename_i a;cases h;simp[Op.equalIn,underlying,a,SC.den,BT.lH]
 ·rename_i a;cases h;simp[Op.equalIn,underlying,a,SC.den,BT.Iz]
 ·rename_i a;cases h;simp[Op.equalIn,underlying,a,SC.den,BT.den]
 ·rename_i a;cases h;simp[Op.equalIn,underlying,a,SC.den,BT.den]
 ·rename_i a;cases h;simp[Op.equalIn,underlying,a,SC.den,BT.den]
 ·rename_i a;cases h;simp[Op.equalIn,underlying,a,SC.den,BT.den]
def Re{t:TypeId}{cs:List SC}{a:Nat}{x:SC}(ha:Pd P t=some false)(b:cs[a]?=some x):(part t (Yp e β cs) a).run P w=.ok (x.den e β) w:=by
 unfold part;simp[Ir ha,LS,b]
def eA{xs d:List SC}(n:Nat):∀(l:List Field) (b:BT),eqF P xs d l=some b->
  (forIn l ((none,()):Option Bool × Unit) (fun (f:Field) (_:Option Bool × Unit) =>
   if f.name= "_" then(pure (ForInStep.yield (none,())):Sem (ForInStep (Option Bool × Unit)))
   else do
    let x ←part f.type (Yp e β xs) f.offset
    let y ←part f.type (Yp e β d) f.offset
    let r ←Op.equalIn (n+1) f.type x y
    if r=false then pure (ForInStep.done (some false,())) else pure (ForInStep.yield (none,())))).run P w=
   .ok (if b.den e then(none,()) else(some false,())) w
 |[],b,h=>by cases h;simp[BT.den]
 |f::r,b,h=>by
  unfold eqF at h;split at h
  ·cases h
  ·rename_i g;split at h
   ·rename_i x y ha i j;split at h
    ·rename_i k a;split at h
     ·rename_i m c;cases h;rw[List.forIn_cons];have o:=eB (e:=e) (β:=β) (w:=w) a n;have p:=eA n r m c;simp only[g,jx,ig,Re ha i,Re ha j,ia,o,BT.RL];cases q:k.den e with
      |false=>simp
      |true=>simpa using p
     ·cases h
    ·cases h
   ·cases h
def qn{t:TypeId}{x y:SV}{b:BT}(h:zi P t x y=some b)(n:Nat):(Op.equalIn (n+2) t (x.den e β) (y.den e β)).run P w=.ok (b.den e) w:=by
 unfold zi at h;split at h
 ·split at h
  ·exact eB h (n+1)
  ·cases h
 ·split at h
  ·rename_i i j d f;split at h
   ·cases h
   ·rename_i c;simp only[ka,not_or,s7] at c;have a:=eA (e:=e) (β:=β) (w:=w) n d.toList b h;rw[Array.forIn_toList] at a;obtain⟨m,g⟩:∃m,n+1=m:=⟨_,rfl⟩;rw[show n+2=m+1 by omega];rw[g] at a;simp only[SV.den];simp only[Op.equalIn,underlying,ig,pm,ia,f,ji,c.1,im,jx];simp only[bne_iff_ne,ne_eq,ite_not,Bool.not_eq_eq_eq_not,iv,jh,decide_not] at a ⊢;rw[a];cases b.den e<;>simp
  ·cases h
 ·cases h
end
section
variable{P:Program}{e:Env}{β:Nat->Nat}{w:World}
def Gc(op:BinOp)(t:TypeId)(x y:Operand)(a b:Value)(c:¬(a=.nilIface/\b=.nilIface))(d:∀xs f,¬(a=.agg xs/\b=.agg f)):(eqGuard op t x y a b).run P w=.ok () w:=by
  unfold eqGuard
  split
  all_goals first
    |rfl
    | (simp only [iv,im,jx]
       split
       · exact absurd ⟨rfl,rfl⟩ c
       · exact absurd ⟨rfl,rfl⟩ (d _ _)
       · rfl)
def RA{op:BinOp}{t:TypeId}(x y:Operand)(xs a:Array Value)(h:P.eqGuardType P.depth t=false):(eqGuard op t x y (.agg xs) (.agg a)).run P w=.ok () w:=by
 unfold eqGuard;split;all_goals first
  |rfl
  |(simp[h];done)
def yn{t:TypeId}{x y:SV}{b:BT}(h:zi P t x y=some b)(d f:Operand):
  ((eqGuard .eql t d f (x.den e β) (y.den e β)).run P w=.ok () w/\(eqGuard .neq t d f (x.den e β) (y.den e β)).run P w=.ok () w)/\
  (Go.binOp .eql t (x.den e β) (y.den e β)).run P w=.ok (.bool (b.den e)) w/\(Go.binOp .neq t (x.den e β) (y.den e β)).run P w=.ok (.bool (!b.den e)) w:=by
 have g:=qn (e:=e) (β:=β) (w:=w) h 9998
 have a:(Op.equal t (x.den e β) (y.den e β)).run P w=.ok (b.den e) w:=g
 clear g
 unfold zi at h
 split at h
 ·split at h
  ·unfold N' at h;split at h<;>first|(cases h;done)|skip
   all_goals
    cases h
    simp only[SV.den,SC.den] at a ⊢
    refine⟨⟨Gc _ _ _ _ _ _ Zs Zs,Gc _ _ _ _ _ _ Zs Zs⟩,?_,?_⟩<;>first
     |(simp[Go.binOp,a];done)
     |(simp[Go.binOp,Op.intCmp,BT.Iz];done)
     |(simp[Go.binOp,Op.intCmp,BT.Iz,bne])
  ·cases h
 ·split at h
  ·rename_i i j k l;split at h
   ·cases h
   ·rename_i c;simp only[ka,not_or,s7] at c;simp only[SV.den] at a ⊢;exact⟨⟨RA _ _ _ _ c.2,RA _ _ _ _ c.2⟩,by simp[Go.binOp,a],by simp[Go.binOp,a]⟩
  ·cases h
 ·cases h
def uR{op:BinOp}{t:TypeId}{x y v:SV}(h:ym P op t x y=some v)(c d:Operand):
    ((do eqGuard op t c d (x.den e β) (y.den e β);Go.binOp op t (x.den e β) (y.den e β)):Sem Value).run P w=.ok (v.den e β) w:=by
  unfold ym at h
  split at h<;>first|(cases h;done)|skip
  all_goals first
    | (cases h
       simp only[SV.den,SC.den,ig]
       rw[Gc _ _ _ _ _ _ Zs Zs]
       simp[Go.binOp,Op.intCmp,Op.intArith,BT.Iz,BT.EH,BT.Wo,BT.Wp,Tm.RM,Tm.RI,Tm.RK];done)
    | (cases h
       simp only[SV.den,SC.den,ig]
       rw[Gc _ _ _ _ _ _ Zs Zs]
       simp[Go.binOp,Op.intCmp,Op.intArith,BT.Iz,BT.EH,BT.Wo,BT.Wp,Tm.RM,Tm.RI,Tm.RK,bne];done)
    | (split at h
       · cases h
       · rename_i f;cases h;simp only[SV.den,SC.den,Tm.den,ig];rw[Gc _ _ _ _ _ _ Zs Zs];simp[Go.binOp,Op.intDiv,f,Tm.lG,Tm.lF];done)
    | (split at h
       · rename_i b g;cases h;have a:=yn (e:=e) (β:=β) (w:=w) g c d;simp only[ig,a.1.1,a.1.2,ia,a.2.1,a.2.2];simp[SV.den,SC.den,BT.EH];done
       · cases h)
def LM(a:Nat):∀(vs:List Value) (k:Nat) (cs:Array Value),a+k+vs.length<=cs.size->
  ((vs.zipIdx k).foldl (λ(cs:Array Value) (p:Value × Nat)=>cs.setIfInBounds (a+p.2) p.1) cs).toList=cs.toList.take (a+k)++vs++cs.toList.drop (a+k+vs.length)
 |[],k,cs,h=>by simp
 |v::r,k,cs,h=>by
  simp only[jb] at h;rw[List.zipIdx_cons,List.foldl_cons,LM a r (k+1) _ (by simp;omega)];have e:(cs.setIfInBounds (a+k) v).toList=cs.toList.take (a+k)++v::cs.toList.drop (a+k+1):=by
   rw[mi,p7,ga (by simp;omega)]
  rw[e];have b:∀A B:List Value,A.length=a+k->(A++v::B).take (a+(k+1))++r++(A++v::B).drop (a+(k+1)+r.length)=A++(v::r)++B.drop r.length:=by
   intro A B c;rw[show a+(k+1)=A.length+1 by omega,oa,show A.length+1+r.length=A.length+(1+r.length) by omega,oe];simp[Nat.add_comm 1 r.length]
  rw[b _ _ (by simp;omega),List.drop_drop];congr 2;simp;omega
def Wf(place:Nat->Option (Nat × Nat)):∀(parts:List (Nat × SV)) (a l:List SC),Wg place a parts=some l->
  Instr.fill place (Yp e β a) (parts.map λp=>(p.1,p.2.den e β))=some (Yp e β l)
 |[],a,l,h=>by cases h;rfl
 |(i,v)::rest,a,l,h=>by
  unfold Wg at h;split at h
  ·rename_i d size vs g k;split at h
   ·rename_i m;have n:=Wf place rest _ l h;have b:(v.den e β).cells=Yp e β vs:=Kw e β k;have o:(Yp e β vs).size=vs.length:=I1 e β vs;simp only[jj,Instr.fill,g,b,o];rw[fw (by simp[I1];exact m)];rw[←n];congr 1;apply kx.1;rw[←Array.foldl_toList,Array.toList_zipIdx];rw[show(λ(f:Array Value) (x:Value × Nat)=>match x with|(c,j)=>f.setIfInBounds (d+j) c)=(λ(f:Array Value) (p:Value × Nat)=>f.setIfInBounds (d+p.2) p.1) from rfl];rw[LM d _ 0 _ (by simp[I1,Hq];omega)];simp[Hr,Hq]
   ·cases h
  ·cases h
def lT{t:TypeId}{a:TypeInfo}{b:Array Field}{z:Value}{c:List (Nat × Nat)}{parts:List (Nat × SV)}{l:List SC}(d:P.info? t=some a)(g:P.underlying t=some (.struct b))(j:a.zero=some z)
  (k:b.toList.mapM (λf=>(P.info? f.type).map λi=>(f.offset,i.size))=some c)(m:Wg (c.toArray[·]?) (z.cells.toList.map KP) parts=some l):
  P.built t (parts.map λp=>(p.1,p.2.den e β))=some (Yp e β l):=by
 unfold Program.built
 simp only[d,g,j,k]
 have h:=Wf (e:=e) (β:=β) _ parts _ l m
 rw[Nv] at h
 simpa using h
end
section
variable{P:Program}{e:Env}{β:Nat->Nat}{w:World}
def Evs(e:Env)(β:Nat->Nat)(a:Act)(fr:Xo):Prop:=∀x:Operand,a.eval x=(ev fr x).den e β
def ye{a:Act}{fr:Xo}(b:∀g,β (2*g)=g)(h:∀t,a.tmps.getD t undef=(HU t fr).den e β):Evs e β a fr:=by
 intro x;cases x with
 |tmp t=>exact h t
 |const v=>exact(Nu e β v).symm
 |global g=>show Value.pointer _=Value.pointer _;rw[b]
 |func f=>rfl
def DN{a:Act}{fr:Xo}(b:Evs e β a fr){y:Operand}{v:SV}(h:ev fr y=v):a.eval y=v.den e β:=by rw[b,h]
def Ve{s:TypeId}{c:Array Field}{f:Nat}{a:Field}{i:TypeInfo}(d:P.underlying s=some (.struct c))(g:c[f]?=some a)(j:P.info? a.type=some i)(k:i.size≠0)(b o:Nat):
  (Instr.fieldAt s (.pointer (some ⟨b,o,none⟩)) f).run P w=.ok (.pointer (some ⟨b,o+a.offset,none⟩)) w:=by
 simp only[Instr.fieldAt,ig,kz d,ia,g,Instr.sureAddr,ji,fieldPlace,Iq j]
 rw[fw k]
 simp only[ji]
 simp only[Addr.add]
 split
 ·rename_i h;simp[h]
 ·rfl
def VJ{P:Program}{w:World}{t:TypeId}{a}(b:P.underlying t=some (.interface a))(n:Nat):(Op.equalIn (n+1) t .nilIface .nilIface).run P w=.ok true w:=by
 simp[Op.equalIn,underlying,b]
def Rv{P:Program}{w:World}{t:TypeId}{a}(b:P.underlying t=some (.interface a)):(Op.equal t .nilIface .nilIface).run P w=.ok true w:=VJ b 9999
def kU{e:Env}{i:Nat}(h:(BT.kH i).den e=false):∃T x,e.val i=.iface T x:=by
 simp only[BT.den] at h;cases a:e.val i with
 |iface T x=>exact⟨T,x,rfl⟩
 |_=>rw[a] at h;cases h
def OI{e:Env}{i:Nat}(h:(BT.nil i).den e=false):∃p,e.val i=.pointer (some p):=by
 simp only[BT.den] at h;cases a:e.val i with
 |pointer q=>cases q with
  |none=>rw[a] at h;cases h
  |some p=>exact⟨p,rfl⟩
 |_=>rw[a] at h;cases h
def Vu{P:Program}{w:World}{t u:TypeId}(a:P.underlying t=some (.pointer u))(p:Addr)(n:Nat):(Op.equalIn (n+1) t (.pointer (some p)) (.pointer none)).run P w=.ok false w:=by
 simp[Op.equalIn,underlying,a]
def Rk{P:Program}{w:World}{t u:TypeId}(a:P.underlying t=some (.pointer u))(p:Addr):(Op.equal t (.pointer (some p)) (.pointer none)).run P w=.ok false w:=
 Vu a p 9999
def pure_run{fr:Xo}{s:Gj}{op:Op}{v:SV}(h:Rj P fr s op=some v)(G:Bd e s){a:Act}(g:Evs e β a fr){o:Oper}(Q:o.op=op):
  (execOp a.eval o).run P w=.ok (.value (v.den e β)) w:=by
 unfold Rj at h
 unfold execOp
 rw[Q]
 split at h
 ·cases h;simp[g _]
 ·cases h;simp[g _]
 ·
  rename_i c x y;split at h
  ·rename_i q r;have H:a.eval c=.bool (q.den e):=by rw[g,r];rfl
   have C:=EC G q;split at h
   ·rename_i u;rw[u] at C;cases h;simp[H,asBool,←C,BT.den,g _]
   ·rename_i u;rw[u] at C;cases h;simp[H,asBool,←C,BT.den,g _]
   ·rename_i Z M N;split at h
    ·rename_i R f I;cases h;have d:a.eval x=.bool true:=by rw[g,f];rfl
     have k:a.eval y=.bool (BT.den e R):=by rw[g,I];rfl
     simp only[H,asBool,d,k,ig,ji,ia,SV.den,SC.den,BT.uA,C];cases q.den e<;>simp
    ·rename_i S _ f I;cases h;have d:a.eval x=.bool (BT.den e S):=by rw[g,f];rfl
     have k:a.eval y=.bool false:=by rw[g,I];rfl
     simp only[H,asBool,d,k,ig,ji,ia,SV.den,SC.den,BT.RL,C];cases q.den e<;>simp
    ·cases h
  ·cases h
 ·
  split at h
  ·rename_i l i f;cases h;simp[g _,f,SV.den,SC.den]
  ·rename_i i f;split at h
   ·rename_i r;cases h;obtain⟨T,x,A⟩:=kU (Ze G r);have d:=DN g f;simp only[SV.den,SC.den] at d;simp[d,A,SV.den,SC.den]
   ·cases h
  ·cases h
 ·
  split at h
  ·rename_i O l i j f;split at h
   ·rename_i U J;split at h
    ·rename_i K D;split at h
     ·cases h
     ·rename_i L;cases h;have d:=DN g f;simp only[SV.den,SC.den] at d;simp only[d,ig,Ve j J D L,ia,ji];rfl
    ·cases h
   ·cases h
  ·cases h
 ·
  split at h
  ·rename_i O V j f;split at h
   ·rename_i U J;have d:=DN g f;simp only[SV.den,SC.den] at d;simp[d,Instr.field,kz j,J,asAgg,qF h]
   ·cases h
  ·cases h
 ·
  split at h
  ·rename_i l f;have d:=DN g f;simp only[SV.den,SC.den] at d;split at h
   ·rename_i V E;cases h;simp[d,Instr.extract,E,T6,SV.den]
   ·rename_i x E;cases h;simp[d,Instr.extract,E,T6,SV.den]
   ·cases h
  ·cases h
 ·
  rename_i op t x y yt;split at h
  ·rename_i v' m;cases h;unfold V2 at m;split at m
   ·rename_i i _ f j;split at m
    ·rename_i r;cases m;obtain⟨p,A⟩:=OI (Ze G r);have d:=DN g f;simp only[SV.den,SC.den,A] at d;have B:a.eval (.const (.pointer none))=.pointer none:=rfl;have k:(Op.equal t (.pointer (some p)) (.pointer none)).run P w=.ok false w:=Rk j p;simp[d,B,eqGuard,Go.binOp,k,SV.den,SC.den,BT.den]
    ·cases m
   ·rename_i i _ f j;split at m
    ·rename_i r;cases m;obtain⟨p,A⟩:=OI (Ze G r);have d:=DN g f;simp only[SV.den,SC.den,A] at d;have B:a.eval (.const (.pointer none))=.pointer none:=rfl;have k:(Op.equal t (.pointer (some p)) (.pointer none)).run P w=.ok false w:=Rk j p;simp[d,B,eqGuard,Go.binOp,k,SV.den,SC.den,BT.den]
    ·cases m
   ·rename_i f j;cases m;have d:=DN g f;simp only[SV.den,SC.den] at d;have k:=Rv (P:=P) (w:=w) j;have B:a.eval (.const .nilIface)=.nilIface:=rfl;simp[d,B,eqGuard,Go.binOp,k,SV.den,SC.den,BT.den]
   ·rename_i f j;cases m;have d:=DN g f;simp only[SV.den,SC.den] at d;have k:=Rv (P:=P) (w:=w) j;have B:a.eval (.const .nilIface)=.nilIface:=rfl;simp[d,B,eqGuard,Go.binOp,k,SV.den,SC.den,BT.den]
   ·cases m
  have d:=uR (e:=e) (β:=β) (w:=w) h x y;rw[←g,←g] at d;simp only[ig] at d ⊢;rw[d];rfl
 ·
  split at h
  ·rename_i b f;cases h;have d:=DN g f;simp only[SV.den,SC.den] at d;simp[d,Op.unary,SV.den,SC.den,BT.EH]
  ·cases h
 ·
  split at h
  ·rename_i W el l i n j f D;split at h
   ·rename_i K F;split at h
    ·rename_i m;cases h;have d:=DN g f;simp only[SV.den,SC.den] at d;have k:=DN g D;simp only[SV.den,SC.den,Tm.den] at k;simp only[d,k,Instr.indexAt,asIntOf,ig,ji,ia,kz j,Instr.sureAddr];rw[ga m];simp only[ig,Iq F,ia,ji,SV.den,SC.den,Addr.add];split
     ·rename_i L;simp[L]
     ·rfl
    ·cases h
   ·cases h
  ·cases h
 ·
  split at h
  ·rename_i it O D j;split at h
   ·rename_i z pl X A;split at h
    ·rename_i l E;cases h;have Y:=lT (e:=e) (β:=β) D j X A E;simp only[ig];rw[run_build w _ _ (Yp e β l) (by rw[←Y];congr 1;simp[rO,g _])];rfl
    ·cases h
   ·cases h
  ·cases h
 ·
  split at h
  ·rename_i el l i j f;cases h;have d:=DN g f;simp only[SV.den,SC.den] at d;simp[d,Instr.makeInterface,kz j,SV.den,SC.den]
  ·rename_i el j f;cases h;have d:=DN g f;simp only[SV.den,SC.den] at d;simp[d,Instr.makeInterface,kz j,SV.den,SC.den]
  ·cases h
 ·cases h
end
structure Hg where
 P:Nat->World->(Nat->Prop)->Prop
 AL:∀i w w' F,P i w F->(∀b,F b->w'.heap[b]?=w.heap[b]?)->P i w' F
def Hg.no:Hg:=⟨λ_ _ F=>∀b,¬F b,λ_ _ _ _ h _=>h⟩
structure TZ where
 lab:List Nat
 k:Nat->Nat
 w:World
 F:Nat->Prop
 Φ:Hg
def GL(k:Nat->Nat)(h:Heap)(β:Nat->Nat):Prop:=(∀g,β (2*g)=g)/\∀x∈h,β x.1=k x.1
structure CS(e:Env)(B:TZ)(k:Nat->Nat)(ph:Nat)(h:Heap)(w:World):Prop where
 G9:∀g,k (2*g)=g
 heap:∀β,GL k h β->∀x∈h,Bk w (β x.1) x.2.1 (Yp e β x.2.2)
 inj:∀x∈h,∀y∈h,k x.1=k y.1->x.1=y.1
 ext:∀l∈B.lab,k l=B.k l
 new:∀x∈h,x.1∈B.lab\/B.w.heap.size<=k x.1
 AU:∀l∈B.lab,∃x∈h,x.1=l
 os:w.os=B.w.os
 tape:w.tape=B.w.tape
 output:w.output=B.w.output
 size:B.w.heap.size<=w.heap.size
 Wc:∀b,b<B.w.heap.size->(∀l∈B.lab,B.k l≠b)->¬B.F b->w.heap[b]?=B.w.heap[b]?
 rY:∃F:Nat->Prop,B.Φ.P ph w F/\(∀x∈h,¬F (k x.1))/\(∀b,F b->b<w.heap.size)/\(∀b,F b->B.F b\/B.w.heap.size<=b)
def Bn{l:Nat}:∀{h:Heap},l∈Ym h↔∃x∈h,x.1=l
 |[]=>by simp[Ym]
 |x::r=>by
  simp only[Ym,gf,Bn (h:=r)];constructor
  ·rintro(rfl|⟨y,a,rfl⟩)
   ·exact⟨x,fq rfl,rfl⟩
   ·exact⟨y,db a,rfl⟩
  ·rintro⟨y,rfl|a,rfl⟩
   ·exact fq rfl
   ·exact db ⟨y,a,rfl⟩
section
variable{e:Env}{B:TZ}{k:Nat->Nat}{ph:Nat}{h:Heap}{w w':World}
def CS.I5(H:CS e B k ph h w):GL k h k:=⟨H.G9,λ_ _=>rfl⟩
def Iu(H:∃F:Nat->Prop,B.Φ.P ph w F/\(∀x∈h,¬F (k x.1))/\(∀b,F b->b<w.heap.size)/\(∀b,F b->B.F b\/B.w.heap.size<=b))(c:w.heap.size<=w'.heap.size)
  {h':Heap}{k':Nat->Nat}(d:∀F:Nat->Prop,(∀x∈h,¬F (k x.1))->(∀b,F b->b<w.heap.size)->(∀b,F b->w'.heap[b]?=w.heap[b]?)/\∀x∈h',¬F (k' x.1)):
  ∃F:Nat->Prop,B.Φ.P ph w' F/\(∀x∈h',¬F (k' x.1))/\(∀b,F b->b<w'.heap.size)/\(∀b,F b->B.F b\/B.w.heap.size<=b):=by
 obtain⟨F,f,g,a,i⟩:=H
 obtain⟨j,l⟩:=d F g a
 exact⟨F,B.Φ.AL _ _ _ _ f j,l,λb m=>ib (a b m) c,i⟩
def CS.same(H:CS e B k ph h w)(c:w'.heap=w.heap)(f:w'.os=w.os)(g:w'.tape=w.tape)(i:w'.output=w.output):CS e B k ph h w':=
 ⟨H.G9,fun j d x l=>(H.heap j d x l).same (by rw [c]),H.inj,H.ext,H.new,H.AU,f.trans H.os,g.trans H.tape,i.trans H.output,by rw [c];exact H.size,fun b m n o=>by rw [c];exact H.Wc b m n o,
  Iu H.rY (by rw[c];exact Nat.le_refl _) λF a _=>⟨λb _=>by rw[c],a⟩⟩
def CS.drew(H:CS e B k ph h w):CS e B k ph h w.drew:=H.same rfl rfl rfl rfl
def CS.start(H:CS e B k ph h w):∃F:Nat->Prop,CS e ⟨Ym h,k,w,F,B.Φ⟩ k ph h w/\∀b,F b->B.F b\/B.w.heap.size<=b:=by
 obtain⟨F,a,c,d,f⟩:=H.rY;exact⟨F,⟨H.G9,H.heap,H.inj,λ_ _=>rfl,λx g=>fq (Bn.2 ⟨x,g,rfl⟩),λl i=>Bn.1 i,rfl,rfl,rfl,Nat.le_refl _,λ_ _ _ _=>rfl,F,a,c,d,λb j=>fq j⟩,f⟩
def CS.trans{k':Nat->Nat}{d:Nat}{h':Heap}{F:Nat->Prop}(H:CS e B k ph h w)(hF:∀b,F b->B.F b\/B.w.heap.size<=b)(a:CS e ⟨Ym h,k,w,F,B.Φ⟩ k' d h' w'):CS e B k' d h' w':=by
 refine⟨a.G9,a.heap,a.inj,λl c=>?_,λx i=>?_,λl c=>?_,a.os.trans H.os,a.tape.trans H.tape,a.output.trans H.output,gb H.size a.size,λb g c n=>?_,?_⟩
 ·exact(a.ext l (Bn.2 (H.AU l c))).trans (H.ext l c)
 ·rcases a.new x i with h1|h1
  ·obtain⟨y,o,f⟩:=Bn.1 h1;rcases H.new y o with h2|h2
   ·exact fq (by rw[←f];exact h2)
   ·exact db (by rw[a.ext x.1 h1];simp only;rw[←f];exact h2)
  ·exact db (gb H.size h1)
 ·exact a.AU l (Bn.2 (H.AU l c))
 ·rw[a.Wc b (ib g H.size) (λl j=>?_) (λm=>?_),H.Wc b g c n]
  ·obtain⟨x,i,rfl⟩:=Bn.1 j;rcases H.new x i with h2|h2
   ·simp only;rw[H.ext _ h2];exact c _ h2
   ·simp only;omega
  ·rcases hF b m with h1|h1
   ·exact n h1
   ·omega
 ·obtain⟨p,h1,h2,q,r⟩:=a.rY;refine⟨p,h1,h2,q,λb g=>?_⟩;rcases r b g with h5|h5
  ·exact hF b h5
  ·exact db (gb H.size h5)
def CS.lt(H:CS e B k ph h w){x:Nat × TypeId × List SC}(a:x∈h):k x.1<w.heap.size:=(H.heap k H.I5 x a).lt
def BE{l:Nat}{t:TypeId}{cs:List SC}:∀{h:Heap},Ee l h=some (t,cs)->(l,t,cs)∈h
 |[],h=>by cases h
 |(k,u,ds)::r,h=>by
  unfold Ee at h;split at h
  ·rename_i a;cases h;simp only[jn] at a;subst a;simp
  ·exact gq _ (BE h)
def OU{l:Nat}:∀{h:Heap},Ee l h=none->∀x∈h,x.1≠l
 |[],_,x,a=>by cases a
 |(k,u,ds)::r,h,x,a=>by
  unfold Ee at h;split at h
  ·cases h
  ·rename_i b;rcases gf.1 a with rfl|a
   ·simpa using b
   ·exact OU h x a
def Ff{x y:Nat × TypeId × List SC}:∀{h:Heap},y∈QA x h↔y=x\/y∈h
 |[]=>by simp[QA]
 |z::r=>by
  simp only[QA];split
  ·simp only[gf,Ff (h:=r)];constructor
   ·rintro(rfl|rfl|h)
    ·exact db (fq rfl)
    ·exact fq rfl
    ·exact db (db h)
   ·rintro(rfl|rfl|h)
    ·exact db (fq rfl)
    ·exact fq rfl
    ·exact db (db h)
  ·simp
def CS.alloc(H:CS e B k ph h w){l:Nat}(u:l%2=1)(z:Ee l h=none){t:TypeId}{cs:List SC}{row:Array Value}(o:∀β,GL k h β->Yp e β cs=row):
  CS e B (λi=>if i=l then w.heap.size else k i) ph (QA (l,t,cs) h) (w.alloc (.cells row t))/\∀β,GL (λi=>if i=l then w.heap.size else k i) (QA (l,t,cs) h) β->GL k h β/\β l=w.heap.size:=by
 have f:=OU z
 have p:∀β,GL (λi=>if i=l then w.heap.size else k i) (QA (l,t,cs) h) β->GL k h β/\β l=w.heap.size:=λβ j=>by
  refine⟨⟨j.1,λx d=>?_⟩,?_⟩
  ·have:=j.2 x (Ff.2 (db d));simpa [f x d] using this
  ·have:=j.2 (l,t,cs) (Ff.2 (fq rfl));simpa using this
 refine⟨⟨λg=>?_,λβ j x d=>?_,λx d y n m=>?_,λi q=>?_,λx d=>?_,λi q=>?_,H.os,H.tape,H.output,?_,λb v r s=>?_,?_⟩,p⟩
 ·have:2*g≠l:=Zo;simp[this,H.G9]
 ·obtain⟨h1,A⟩:=p β j;rcases Ff.1 d with rfl|d
  ·simp only[A];rw[o β h1];exact Bk.new w t row
  ·exact(H.heap β h1 x d).alloc _
 ·rcases Ff.1 d with rfl|d<;>rcases Ff.1 n with rfl|n
  ·rfl
  ·have:=H.lt n;simp[f y n] at m;omega
  ·have:=H.lt d;simp[f x d] at m;omega
  ·simp[f x d,f y n] at m;exact H.inj x d y n m
 ·obtain⟨x,d,rfl⟩:=H.AU i q;simp[f x d,H.ext _ q]
 ·rcases Ff.1 d with rfl|d
  ·simp only[ko];exact db H.size
  ·rcases H.new x d with h1|h1
   ·exact fq h1
   ·simp[f x d];exact db h1
 ·obtain⟨x,d,rfl⟩:=H.AU i q;exact⟨x,Ff.2 (db d),rfl⟩
 ·have:=H.size;simp;omega
 ·rw[←H.Wc b v r s];exact lp w _ b (ib v H.size)
 ·refine Iu (h':=QA (l,t,cs) h) (k':=λi=>if i=l then w.heap.size else k i) H.rY Zs λF a b=>⟨λc C=>lp w _ c (b c C),λx d=>?_⟩;rcases Ff.1 d with rfl|d
  ·simp only[ko];exact λs=>absurd (b _ s) (Nat.lt_irrefl _)
  ·simp only[fw (f x d)];exact a x d
def KK(w:World)(g b:Nat)(cs:Array Value)(h:b≠g):(w.setRow g cs).heap[b]?=w.heap[b]?:=by
 simp[World.setRow,pk,Ne.symm h]
def setRow_size(w:World)(g:Nat)(cs:Array Value):(w.setRow g cs).heap.size=w.heap.size:=by
 simp[World.setRow]
def Bf{l:Nat}{cs:List SC}{x:Nat × TypeId × List SC}{h:Heap}:x∈KL l cs h↔∃y∈h,x=if y.1==l then(y.1,y.2.1,cs) else y:=by
 simp only[KL,j7];constructor
 ·rintro⟨y,a,rfl⟩;exact⟨y,a,rfl⟩
 ·rintro⟨y,a,rfl⟩;exact⟨y,a,rfl⟩
def B8{l:Nat}{cs:List SC}(y:Nat × TypeId × List SC):(if y.1==l then(y.1,y.2.1,cs) else y).1=y.1:=by
 split<;>rfl
def CS.store(H:CS e B k ph h w){l:Nat}{t:TypeId}{cs cs':List SC}(A:Ee l h=some (t,cs)){row:Array Value}(p:∀β,GL k h β->Yp e β cs'=row):
  CS e B k ph (KL l cs' h) (w.setRow (k l) row)/\∀β,GL k (KL l cs' h) β->GL k h β:=by
 have q:∀ β,GL k (KL l cs' h) β→GL k h β:=fun β j=>⟨j.1,fun x d=>by
  have:=j.2 _ (Bf.2 ⟨x,d,rfl⟩);rwa [B8] at this⟩
 have v:=BE A
 have C:=H.heap k H.I5 _ v
 refine⟨⟨H.G9,λβ j x d=>?_,λx d y o r=>?_,H.ext,λx d=>?_,λi D=>?_,H.os,H.tape,H.output,?_,λb E s G=>?_,?_⟩,q⟩
 ·have h1:=q β j;obtain⟨y,o,rfl⟩:=Bf.1 d;have m:=H.heap β h1 y o;by_cases n:y.1=l
  ·have:(y.1==l)=true:=by simpa using n
   simp only[this,ko];rw[p β h1];have I:β y.1=k l:=by rw[h1.2 y o,n]
   rw[I] at m ⊢;unfold Bk at m ⊢;exact setRow_heap w (k l) _ row _ _ m
  ·have:(y.1==l)=false:=by simpa using n
   simp only[this,im,jx];refine m.same (KK w _ _ _ ?_);rw[h1.2 y o];intro f;exact n (H.inj y o (l,t,cs) v f)
 ·obtain⟨u,g,rfl⟩:=Bf.1 d;obtain⟨J,z,rfl⟩:=Bf.1 o;rw[B8,B8] at r ⊢;exact H.inj u g J z r
 ·obtain⟨u,g,rfl⟩:=Bf.1 d;rw[B8];exact H.new u g
 ·obtain⟨x,d,rfl⟩:=H.AU i D;exact⟨_,Bf.2 ⟨x,d,rfl⟩,B8 x⟩
 ·rw[setRow_size];exact H.size
 ·rw[KK w _ _ _ ?_,H.Wc b E s G];intro f;rcases H.new _ v with h1|h1
  ·have K:=H.ext _ h1;exact s _ h1 (by rw[←K,f])
  ·simp only at h1;omega
 ·refine Iu H.rY (by rw[setRow_size];exact Nat.le_refl _) λF a b=>⟨λc L=>KK w _ _ _ λf=>a _ v (by simp only;rw[←f];exact L),λx d=>?_⟩;obtain⟨u,g,rfl⟩:=Bf.1 d;rw[B8];exact a u g
def CS.Ar(H:CS e B k ph h w){l:Nat}{t:TypeId}{cs cs':List SC}(K:Ee l h=some (t,cs)){row:Array Value}(q:∀β,GL k h β->Yp e β cs'=row)
  (C:Bk w' (k l) t row)(o:w.grownBy w' (some (k l))):CS e B k ph (KL l cs' h) w'/\∀β,GL k (KL l cs' h) β->GL k h β:=by
 have r:∀ β,GL k (KL l cs' h) β→GL k h β:=fun β m=>⟨m.1,fun x f=>by
  have:=m.2 _ (Bf.2 ⟨x,f,rfl⟩);rwa [B8] at this⟩
 have A:=BE K
 have s:=H.heap k H.I5 _ A
 refine⟨⟨H.G9,λβ m x f=>?_,λx f y p u=>?_,H.ext,λx f=>?_,λi L=>?_,o.os.trans H.os,o.tape.trans H.tape,o.output.trans H.output,gb H.size o.size,λb I v M=>?_,?_⟩,r⟩
 ·have h1:=r β m;obtain⟨y,p,rfl⟩:=Bf.1 f;have g:=H.heap β h1 y p;by_cases n:y.1=l
  ·have:(y.1==l)=true:=by simpa using n
   simp only[this,ko];rw[q β h1];have N:β y.1=k l:=by rw[h1.2 y p,n]
   rw[N] at g ⊢;have O:y.2.1=t:=by
    unfold Bk at g s;rw[s] at g;injection g with D;injection D with _ E;exact E.symm
   rw[O];exact C
  ·have:(y.1==l)=false:=by simpa using n
   simp only[this,im,jx];refine g.grown o ?_;rw[h1.2 y p];intro d;exact n (H.inj y p (l,t,cs) A (mc d))
 ·obtain⟨z,j,rfl⟩:=Bf.1 f;obtain⟨P,G,rfl⟩:=Bf.1 p;rw[B8,B8] at u ⊢;exact H.inj z j P G u
 ·obtain⟨z,j,rfl⟩:=Bf.1 f;rw[B8];exact H.new z j
 ·obtain⟨x,f,rfl⟩:=H.AU i L;exact⟨_,Bf.2 ⟨x,f,rfl⟩,B8 x⟩
 ·rw[o.block b (ib I H.size) (λd=>?_),H.Wc b I v M];have d:=mc d;rcases H.new _ A with h1|h1
  ·have Q:=H.ext _ h1;exact v _ h1 (by rw[←Q,d])
  ·simp only at h1;omega
 ·refine Iu H.rY o.size λF a b=>⟨λc J=>o.block c (b c J) λd=>a _ A (by rw[←mc d];exact J),λx f=>?_⟩;obtain⟨z,j,rfl⟩:=Bf.1 f;rw[B8];exact a z j
structure Fx(Φ:Hg)(j:Nat)(F:Nat->Prop)(g:Option Nat)(w w':World):Prop where
 os:w'.os=w.os
 tape:w'.tape=w.tape
 output:w'.output=w.output
 size:w.heap.size<=w'.heap.size
 Wc:∀b,b<w.heap.size->some b≠g->¬F b->w'.heap[b]?=w.heap[b]?
 fin:∃F':Nat->Prop,Φ.P j w' F'/\(∀b,F' b->F b\/w.heap.size<=b)/\∀b,F' b->b<w'.heap.size
def CS.eff(H:CS e B k ph h w){F:Nat->Prop}(f2:∀x∈h,¬F (k x.1))(f4:∀b,F b->B.F b\/B.w.heap.size<=b){j:Nat}(O:Fx B.Φ j F none w w'):CS e B k j h w':=by
 obtain⟨n,o,l,p⟩:=O.fin;refine⟨H.G9,λm a x c=>?_,H.inj,H.ext,H.new,H.AU,O.os.trans H.os,O.tape.trans H.tape,O.output.trans H.output,gb H.size O.size,λb d g f=>?_,n,o,λx c f=>?_,p,λb d=>?_⟩
 ·refine(H.heap m a x c).same (O.Wc _ (H.heap m a x c).lt Zs ?_);rw[a.2 x c];exact f2 x c
 ·rw[O.Wc b (ib d H.size) Zs λi=>by rcases f4 b i with h1|h1;exact f h1;omega,H.Wc b d g f]
 ·rcases l _ f with h1|h1
  ·exact f2 x c h1
  ·have:=H.lt c;omega
 ·rcases l b d with h1|h1
  ·exact f4 b h1
  ·exact db (gb H.size h1)
def CS.effG(H:CS e B k ph h w){F:Nat->Prop}(f2:∀x∈h,¬F (k x.1))(f4:∀b,F b->B.F b\/B.w.heap.size<=b){j:Nat}{l:Nat}{t:TypeId}{cs cs':List SC}(K:Ee l h=some (t,cs))
  {row:Array Value}(o:∀β,GL k h β->Yp e β cs'=row)(A:Bk w' (k l) t row)(O:Fx B.Φ j F (some (k l)) w w'):CS e B k j (KL l cs' h) w'/\∀β,GL k (KL l cs' h) β->GL k h β:=by
 have p:∀ β,GL k (KL l cs' h) β→GL k h β:=fun β g=>⟨g.1,fun x d=>by
  have:=g.2 _ (Bf.2 ⟨x,d,rfl⟩);rwa [B8] at this⟩
 have C:=BE K
 have q:=H.heap k H.I5 _ C
 obtain⟨L,M,J,N⟩:=O.fin
 refine⟨⟨H.G9,λβ g x d=>?_,λx d y n r=>?_,H.ext,λx d=>?_,λi P=>?_,O.os.trans H.os,O.tape.trans H.tape,O.output.trans H.output,gb H.size O.size,λb z s u=>?_,L,M,λx d u=>?_,N,λb z=>?_⟩,p⟩
 ·have h1:=p β g;obtain⟨y,n,rfl⟩:=Bf.1 d;have a:=H.heap β h1 y n;by_cases m:y.1=l
  ·have:(y.1==l)=true:=by simpa using m
   simp only[this,ko];rw[o β h1];have Q:β y.1=k l:=by rw[h1.2 y n,m]
   rw[Q] at a ⊢;have R:y.2.1=t:=by
    unfold Bk at a q;rw[q] at a;injection a with D;injection D with _ E;exact E.symm
   rw[R];exact A
  ·have:(y.1==l)=false:=by simpa using m
   simp only[this,im,jx];refine a.same (O.Wc _ a.lt ?_ ?_)
   ·rw[h1.2 y n];intro f;exact m (H.inj y n (l,t,cs) C (mc f))
   ·rw[h1.2 y n];exact f2 y n
 ·obtain⟨v,c,rfl⟩:=Bf.1 d;obtain⟨S,G,rfl⟩:=Bf.1 n;rw[B8,B8] at r ⊢;exact H.inj v c S G r
 ·obtain⟨v,c,rfl⟩:=Bf.1 d;rw[B8];exact H.new v c
 ·obtain⟨x,d,rfl⟩:=H.AU i P;exact⟨_,Bf.2 ⟨x,d,rfl⟩,B8 x⟩
 ·rw[O.Wc b (ib z H.size) (λf=>?_) λI=>by rcases f4 b I with h1|h1;exact u h1;omega,H.Wc b z s u];have f:=mc f;rcases H.new _ C with h1|h1
  ·have T:=H.ext _ h1;exact s _ h1 (by rw[←T,f])
  ·simp only at h1;omega
 ·obtain⟨v,c,rfl⟩:=Bf.1 d;rw[B8] at u;rcases J _ u with h1|h1
  ·exact f2 v c h1
  ·have:=H.lt c;omega
 ·rcases J b z with h1|h1
  ·exact f4 b h1
  ·exact db (gb H.size h1)
end
