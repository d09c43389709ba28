/- Core: SymL. -/
import Derived.Test.YtaipogljokblkaaGreatDoorW04
import Derived.LoopN
import Derived.Test.YtaipogljokblkaaGreatDoorW01
set_option linter.all false
set_option maxRecDepth 100000
set_option maxHeartbeats 8000000
namespace Go.Proofs.YtaipogljokblkaaGreatDoor
open Go Go.RowKit
set_option linter.unusedSimpArgs false
set_option linter.unusedVariables false
set_option linter.unusedSectionVars false
section
variable{e:Env}{β k:Nat->Nat}
theorem B5{l:Nat}:∀{ls:List Nat},Fs l ls=true↔l∈ls
 |[]=>by simp[Fs]
 |x::r=>by
  simp only[Fs,Bool.or_eq_true,beq_iff_eq,B5 (ls:=r),List.mem_cons];constructor
  ·rintro(h|h)
   ·exact Or.inl h.symm
   ·exact Or.inr h
  ·rintro(h|h)
   ·exact Or.inl h.symm
   ·exact Or.inr h
structure Alike(ls:List Nat)(β k:Nat->Nat):Prop where
 ev1:∀g,β (2*g)=g
 ev2:∀g,k (2*g)=g
 on:∀l∈ls,β l=k l
theorem Alike.at_{ls:List Nat}(h:Alike ls β k){l:Nat}(hl:(l%2==0||Fs l ls)=true):β l=k l:=by
 simp only[Bool.or_eq_true,beq_iff_eq,B5] at hl;rcases hl with hl|hl
 ·obtain⟨g,rfl⟩:∃g,l=2*g:=⟨l/2,by omega⟩;rw[h.ev1,h.ev2]
 ·exact h.on l hl
theorem SB{ls:List Nat}(h:Alike ls β k){x:SC}(hx:okC ls x=true):x.den e β=x.den e k:=by
 cases x<;>first|rfl|(simp only[okC] at hx;simp only[SC.den,h.at_ hx])
theorem EE{ls:List Nat}(h:Alike ls β k):∀{l:List SC},Jt ls l=true->Ym e β l=Ym e k l:=by
 intro l hl;unfold Ym;congr 1;induction l with
 |nil=>rfl
 |cons x r ih=>
  simp only[Jt,Bool.and_eq_true] at hl;simp only[List.map_cons,SB h hl.1,ih hl.2]
theorem aH{ls:List Nat}(h:Alike ls β k):∀{l:List (Bool × List SC)},okP ls l=true->l.map (SP e β)=l.map (SP e k)
 |[],_=>rfl
 |(b,cs)::r,hl=>by
  simp only[okP,Bool.and_eq_true] at hl;simp only[List.map_cons,aH h hl.2];congr 1;unfold SP;cases b with
  |true=>simp only[if_true,EE h hl.1]
  |false=>
   simp only[Bool.false_eq_true,if_false];cases cs with
   |nil=>rfl
   |cons x s=>
    have:=hl.1;simp only[Jt,Bool.and_eq_true] at this;exact SB h this.1
theorem FB{ls:List Nat}(h:Alike ls β k){v:SV}(hv:Jc ls v=true):v.den e β=v.den e k:=by
 cases v with
 |c x=>exact SB h hv
 |agg l=>simp only[SV.den,EE h hv]
 |Jj l=>simp only[SV.den,aH h hv]
theorem Lp{ls:List Nat}:∀{h:Yk},QO ls h=true->∀x∈h,Jt ls x.2.2=true
 |[],_,x,hx=>by cases hx
 |y::r,h,x,hx=>by
  simp only[QO,Bool.and_eq_true] at h;rcases List.mem_cons.1 hx with rfl|hx
  ·exact h.1
  ·exact Lp h.2 x hx
theorem Ka{ls:List Nat}{x:Nat × TypeId × List SC}:∀{h:Yk},x∈QU ls h->x∈h
 |[],hx=>by cases hx
 |y::r,hx=>by
  unfold QU at hx;split at hx
  ·rcases List.mem_cons.1 hx with rfl|hx
   ·simp
   ·exact List.mem_cons_of_mem _ (Ka hx)
  ·exact List.mem_cons_of_mem _ (Ka hx)
theorem LR{ls:List Nat}:∀{r:List Nat},rB ls r=true->∀l∈r,l∈ls
 |[],_,l,hl=>by cases hl
 |x::r,h,l,hl=>by
  simp only[rB,Bool.and_eq_true] at h;rcases List.mem_cons.1 hl with rfl|hl
  ·exact B5.1 h.1
  ·exact LR h.2 l hl
theorem pQ{A1:Yk}{v:SV}{h h2:Yk}(hg:gcS A1 v h=some h2):(∀x∈h2,x∈h)/\(∀l∈Yi A1,l∈Yi h2)/\∃ls,(∀l∈ls,l∈Yi h2)/\Jc ls v=true/\∀x∈h2,Jt ls x.2.2=true:=by
 unfold gcS at hg;simp only at hg;split at hg
 ·rename_i hc;cases hg;simp only[Bool.and_eq_true] at hc;exact⟨λx hx=>Ka hx,LR hc.2,Yi A1,LR hc.2,hc.1.1,Lp hc.1.2⟩
 ·split at hg
  ·rename_i hc;cases hg;simp only[Bool.and_eq_true] at hc;exact⟨λx hx=>Ka hx,LR hc.2,_,λl hl=>hl,hc.1.1,Lp hc.1.2⟩
  ·cases hg
end
section
variable{P:Program}{e:Env}{B:Tf}{k:Nat->Nat}{st:St}{a:Act}{w:World}
theorem Cp.gc{h h2:Yk}{ph:Nat}{A1:Yk}{v:SV}(H:Cp e B k ph h w)(hB:B.lab=Yi A1)(hg:gcS A1 v h=some h2):
  Cp e B k ph h2 w/\∀β,Gu k h2 β->v.den e β=v.den e k:=by
 obtain⟨h1,h3,ls,h4,h5,h6⟩:=pQ hg
 have al:∀ β,Gu k h2 β→Alike ls β k:=fun β hβ=>⟨hβ.1,H.Gn,fun l hl=>by
  obtain⟨x,hx,rfl⟩:=Bd.1 (h4 l hl);exact hβ.2 x hx⟩
 refine⟨⟨H.Gn,λβ hβ x hx=>?_,λx hx y hy=>H.inj x (h1 x hx) y (h1 y hy),H.ext,λx hx=>H.new x (h1 x hx),λl hl=>Bd.1 (h3 l (hB▸hl)),H.os,H.tape,H.output,H.size,H.Va,Ib H.oC (Nat.le_refl _) λF a _=>⟨λ_ _=>rfl,λx hx=>a x (h1 x hx)⟩⟩,λβ hβ=>FB (al β hβ) h5⟩
 have hk:=H.heap k H.Iq x (h1 x hx)
 rw[hβ.2 x hx,EE (al β hβ) (h6 x hx)]
 exact hk
def Su(tmps:Array Value):ResultVar->Sem Value
 |.tmp t=>pure (tmps.getD t undef)
 |.cell x t=>do loadVar t (←asAddr (tmps.getD x undef))
theorem ZZ{r:ResultVar}{v:SV}(I:Inv e B k st a w)(h:Sv P st r=some v):(Su a.tmps r).run P w=.ok (v.den e k) w:=by
 unfold Sv at h;unfold Su;cases r with
 |tmp t=>
  simp only[Option.some.injEq] at h;subst h;simp only[Sem.run_pure];rw[I.f.tmps k I.Iq t]
 |cell x t=>
  simp only at h;split at h
  ·rename_i l i hx;split at h
   ·rename_i ty cs hl;have h1:a.tmps.getD x undef=.pointer (some ⟨k l,i,none⟩):=by rw[I.f.tmps k I.Iq x,hx];rfl
    simp only[h1,asAddr,Sem.run_bind,Sem.run_pure,Result.andThen_ok];exact Na (I.h.heap k I.Iq _ (B9 hl)) h
   ·cases h
  ·cases h
theorem qP{v:SV}{p:Bool × List SC}(h:v.comp=some p):SP e k p=v.den e k:=by
 cases v<;>cases h<;>rfl
theorem aA(I:Inv e B k st a w):∀{l:List ResultVar} {ps:List (Bool × List SC)},Ms P st l=some ps->
  (l.mapM (Su a.tmps)).run P w=.ok (ps.map (SP e k)) w
 |[],ps,h=>by cases h;simp
 |r::rs,ps,h=>by
  unfold Ms at h;split at h
  ·rename_i v l hv hl;split at h
   ·rename_i p hp;cases h;rw[List.mapM_cons];simp only[Sem.run_bind,ZZ I hv,Result.andThen_ok,aA I hl,Sem.run_pure,List.map_cons,qP hp]
   ·cases h
  ·cases h
theorem tT{fn:Func}{v:SV}(I:Inv e B k st a w)(h:tU P fn st=some v):(results fn a.tmps).run P w=.ok (v.den e k) w:=by
 have h0:results fn a.tmps = (do
   let vs ←fn.results.mapM (Su a.tmps)
   pure (if h:vs.size=1 then vs[0] else .tuple vs)):=by
  unfold results
  congr 1
 rw[h0,Array.mapM_eq_mapM_toList];unfold tU at h;split at h
 ·rename_i r hr;rw[hr];have h1:=ZZ I h;simp only[List.mapM_cons,List.mapM_nil];simp only[Sem.run_bind,Sem.run_map,h1,Result.andThen_ok,Sem.run_pure];rfl
 ·rename_i hr;split at h
  ·rename_i l hl;cases h;have h1:=aA I hl;simp only[Sem.run_bind,Sem.run_map,h1,Result.andThen_ok,Sem.run_pure];have hlen:∀{l':List ResultVar} {ps},Ms P st l'=some ps->ps.length=l'.length:=by
    intro l';induction l' with
    |nil=>intro ps h;cases h;rfl
    |cons r rs ih=>
     intro ps h;unfold Ms at h;split at h
     ·rename_i hl2;split at h
      ·cases h;simp[ih hl2]
      ·cases h
     ·cases h
   have h2:=hlen hl;have h3:(l.map (SP e k)).toArray.size≠1:=by
    simp only[List.size_toArray,List.length_map,h2];intro h4;match hq:fn.results.toList with
    |[]=>rw[hq] at h4;cases h4
    |[r]=>exact hr r hq
    |_::_::_=>rw[hq] at h4;simp at h4
   rw[dif_neg h3];rfl
  ·cases h
end
def exOf:Ex->Exit
 |.normal=>.normal
 |.exit i=>.exit i
 |.ret=>.ret
def Ru(P:Program)(S:List Xu)(n:Nat):Nat->List SV->St->Xz (SV × St):=λf args s=>(exec P S n (.call f args) s).bind λr=>.leaf r.2
def half(i:Nat):Nat:=i/2
def LW(P:Program)(e:Env)(s:Xu):Prop:=
 if s.self then ∀g w,Bk w g s.ty (Ym e half s.cells)->∀args':Array Value,args'=(Value.pointer (some ⟨g,0,none⟩)::s.rest.map (SV.den e half)).toArray->(callFunc s.f args').run P w=.ok (.enter s.f args') w/\
  Calls P s.f args' w λen w'=>en=.returned (s.out.den e half)/\Bk w' g s.ty (Ym e half s.Ej)/\w.grownBy w' (some g)
 else ∀w,∀args':Array Value,args'=(s.rest.map (SV.den e half)).toArray->(callFunc s.f args').run P w=.ok (.enter s.f args') w/\
  Calls P s.f args' w λen w'=>en=.returned (s.out.den e half)/\Below w.heap.size w w'
def EffOk(P:Program)(e:Env)(Φ:GL)(s:Xu):Prop:=
 (∀q,SC.bool q∈s.cells->q.den e=true)->∀w F,Φ.P ((s.ty-1)%100) w F->(∀b,F b->b<w.heap.size)->∀args':Array Value,args'=(s.rest.map (SV.den e half)).toArray->
  AL P s.f args' w λen w'=>en=.returned (s.out.den e half)/\ES Φ ((s.ty-1)/100) F none w w'
def EffGOk(P:Program)(e:Env)(Φ:GL)(s:Xu)(n:Nat):Prop:=
 ∀g w F,Bk w g s.ty (Ym e half s.cells)->Φ.P ((n-1)%100) w F->¬F g->(∀b,F b->b<w.heap.size)->∀args':Array Value,args'=(Value.pointer (some ⟨g,n/10000,none⟩)::s.rest.map (SV.den e half)).toArray->
  (callFunc s.f args').run P w=.ok (.enter s.f args') w/\
  Calls P s.f args' w λen w'=>en=.returned (s.out.den e half)/\Bk w' g s.ty (Ym e half s.Ej.dropLast)/\ES Φ ((n-1)%10000/100) F (some g) w w'
def EQ(P:Program)(e:Env)(Φ:GL)(s:Xu):Prop:=
 match Gx s with
 |some n=>EffGOk P e Φ s n
 |none=>if !s.self&&!(s.ty==0) then EffOk P e Φ s else LW P e s
def Dv(P:Program)(e:Env)(Φ:GL)(S:List Xu):Prop:=∀s∈S,EQ P e Φ s
def Hk(S:List Xu):Bool:=S.all λs=>(Gx s).isNone&&(s.self||s.ty==0)
def El(P:Program)(e:Env)(S:List Xu):Prop:=∀s∈S,LW P e s
theorem El.vR{P:Program}{e:Env}{Φ:GL}{S:List Xu}(h:El P e S)(hp:Hk S=true):Dv P e Φ S:=λs hs=>by
 have h1:=List.all_eq_true.1 hp s hs;simp only[Bool.and_eq_true,Option.isNone_iff_eq_none,Bool.or_eq_true] at h1;unfold EQ;rw[h1.1];simp only;rw[if_neg (by rcases h1.2 with h2|h2<;>simp[h2])];exact h s hs
def rK(P:Program)(e:Env)(Φ:GL)(S:List Xu)(n:Nat):Prop:=
 ∀c st x v st',(exec P S n (.code c) st).B8 e=some (x,v,st')->∀B k a w,B.Φ=Φ->Inv e B k st a w->c.wp P (λy a' w'=>y=exOf x/\∃k',Inv e B k' st' a' w') a w
def rJ(P:Program)(e:Env)(Φ:GL)(S:List Xu)(n:Nat):Prop:=
 ∀c st x v st',(exec P S n (.code (.loop c)) st).B8 e=some (x,v,st')->∀B k a w,B.Φ=Φ->Inv e B k st a w->Code.rounds P c (λy a' w'=>y=exOf x/\∃k',Inv e B k' st' a' w') n a w
section
variable{P:Program}{e:Env}{Φ:GL}{S:List Xu}
theorem OU{f:Nat}{ty:TypeId}{cs:List SC}{rest:List SV}{s:Xu}:∀{S:List Xu},aT f ty cs rest S=some s->
  s∈S/\s.self=true/\¬f=Dy/\Gx s=none/\s.f=f/\s.ty=ty/\cs=s.cells/\rest=s.rest/\Jc [] s.out=true/\Jt [] s.cells=true/\Jt [] s.Ej=true/\∀v∈s.rest,Jc [] v=true
 |[],h=>by cases h
 |x::r,h=>by
  unfold aT at h;split at h
  ·rename_i hc;cases h;simp only[Bool.and_eq_true,beq_iff_eq,List.all_eq_true,Option.isNone_iff_eq_none,Bool.not_eq_true',beq_eq_false_iff_ne,ne_eq] at hc;obtain⟨⟨⟨⟨⟨⟨⟨⟨⟨⟨h0,hnf⟩,h9⟩,h1⟩,h2⟩,h3⟩,h4⟩,h5⟩,h6⟩,h7⟩,h8⟩:=hc;exact⟨by simp,h0,hnf,h9,h1,h2,Cd (λ_ _=>SC.BQ) h3,Cd (λ_ _=>SV.BQ) h4,h5,h6,h7,h8⟩
  ·obtain⟨h1,h2⟩:=OU h;exact⟨List.mem_cons_of_mem _ h1,h2⟩
theorem OV{f:Nat}{args:List SV}{v:SV}:∀{S:List Xu},aU f args S=some v->
  ∃s∈S,s.self=false/\¬f=Dy/\s.ty=0/\s.f=f/\args=s.rest/\v=s.out/\Jc [] s.out=true/\∀u∈s.rest,Jc [] u=true
 |[],h=>by cases h
 |x::r,h=>by
  unfold aU at h;split at h
  ·rename_i hc;cases h;simp only[Bool.and_eq_true,beq_iff_eq,List.all_eq_true,Bool.not_eq_true',beq_eq_false_iff_ne,ne_eq] at hc;obtain⟨⟨⟨⟨⟨⟨h0,hnf⟩,h5⟩,h1⟩,h2⟩,h3⟩,h4⟩:=hc;exact⟨x,by simp,h0,hnf,h5,h1,Cd (λ_ _=>SV.BQ) h2,rfl,h3,h4⟩
  ·obtain⟨s,h1,h2⟩:=OV h;exact⟨s,List.mem_cons_of_mem _ h1,h2⟩
theorem Of{s:Xu}(h:s.self=false):Gx s=none:=by
 unfold Gx;split
 ·rw[if_neg (by simp[h])]
 ·rfl
theorem gX{e:Env}{a:FV}(hs:AV e a){q:BT}(h:holds a (.bool q)=true):q.den e=true:=by
 simp only[holds,decide_eq_true_eq] at h;rw[←Es hs,h];rfl
theorem OW{a:FV}{f ph:Nat}{args:List SV}{v:SV}{j:Nat}:∀{S:List Xu},aX a f ph args S=some (v,j)->
  ∃s∈S,(∀c∈s.cells,holds a c=true)/\s.self=false/\(s.ty==0)=false/\s.f=f/\(s.ty-1)%100=ph/\j=(s.ty-1)/100/\args=s.rest/\v=s.out/\Jc [] s.out=true/\∀u∈s.rest,Jc [] u=true
 |[],h=>by cases h
 |x::r,h=>by
  unfold aX at h;split at h
  ·rename_i hc;cases h;simp only[Bool.and_eq_true,beq_iff_eq,List.all_eq_true,Bool.not_eq_true'] at hc;obtain⟨⟨⟨⟨⟨⟨⟨hq,h0⟩,h1⟩,h2⟩,h3⟩,h4⟩,h5⟩,h6⟩:=hc;exact⟨x,by simp,hq,h0,h1,h2,h3,rfl,Cd (λ_ _=>SV.BQ) h4,rfl,h5,h6⟩
  ·obtain⟨s,h1,h2⟩:=OW h;exact⟨s,List.mem_cons_of_mem _ h1,h2⟩
theorem KH{f ph off:Nat}{ty:TypeId}{cs:List SC}{rest:List SV}{s:Xu}{j:Nat}:∀{S:List Xu},Vc f ph off ty cs rest S=some (s,j)->
  ∃n,s∈S/\Gx s=some n/\s.self=true/\¬f=Dy/\s.f=f/\s.ty=ty/\cs=s.cells/\rest=s.rest/\Jc [] s.out=true/\Jt [] s.cells=true/\Jt [] s.Ej.dropLast=true/\(∀v∈s.rest,Jc [] v=true)/\(n-1)%100=ph/\n/10000=off/\j=(n-1)%10000/100
 |[],h=>by cases h
 |x::r,h=>by
  unfold Vc at h;split at h
  ·rename_i n hn;split at h
   ·rename_i hc;cases h;simp only[Bool.and_eq_true,beq_iff_eq,List.all_eq_true,Bool.not_eq_true',beq_eq_false_iff_ne,ne_eq] at hc;obtain⟨⟨⟨⟨⟨⟨⟨⟨⟨⟨⟨h0,hnf⟩,h1⟩,h2⟩,h3⟩,h4⟩,h5⟩,h6⟩,h7⟩,h8⟩,h9⟩,h10⟩:=hc;exact⟨n,by simp,hn,h0,hnf,h1,h2,Cd (λ_ _=>SC.BQ) h3,Cd (λ_ _=>SV.BQ) h4,h5,h6,h7,h8,h9,h10,rfl⟩
   ·obtain⟨n,h1,h2⟩:=KH h;exact⟨n,List.mem_cons_of_mem _ h1,h2⟩
  ·obtain⟨n,h1,h2⟩:=KH h;exact⟨n,List.mem_cons_of_mem _ h1,h2⟩
theorem tD(hS:Dv P e Φ S){f:Nat}{args:List SV}{s:St}{r:SV × St}(h:yO S f args s=some r){k:Nat->Nat}{w:World}{F:Nat->Prop}(H:Cp e ⟨Yi s.hp,k,w,F,Φ⟩ k s.ph s.hp w)(hs:AV e s.BY)
  {args':Array Value}(hargs:∀β,Gu k s.hp β->args'=(args.map (SV.den e β)).toArray):
  AL P f args' w (JN e Φ F k s w r.1 r.2):=by
 have al:∀β,Gu k s.hp β->Alike [] β half:=λβ hβ=>⟨hβ.1,λg=>by simp[half],λ_ h=>by cases h⟩
 unfold yO at h
 split at h
 ·rename_i l rest;split at h
  ·rename_i ty cs hl;split at h
   ·rename_i u hu;cases h;obtain ⟨h1,h0,hnf,ht0,rfl,rfl,rfl,rfl,h6,h7,h8,h9⟩:=OU hu;have hb:=H.heap k H.Iq _ (B9 hl);simp only at hb;rw [EE (al k H.Iq) h7] at hb;have ha:=hargs k H.Iq;have hu0:=hS u h1;unfold EQ at hu0;rw [ht0] at hu0;simp only at hu0;rw [if_neg (by simp [h0])] at hu0;unfold LW at hu0;rw [if_pos h0] at hu0;obtain ⟨hcf,hcalls⟩:=hu0 (k l) w hb args' (by
     rw[ha];simp only[List.map_cons];congr 1;congr 1;exact List.map_congr_left λv hv=>FB (al k H.Iq) (h9 v hv))
    refine AL.fn hnf ⟨hcf,hcalls.mono λen w' hpost=>?_⟩;obtain⟨rfl,hb',hg⟩:=hpost;obtain⟨H',hag⟩:=H.Ah hl (row:=Ym e half u.Ej) (λβ hβ=>EE (al β hβ) h8) hb' hg;exact⟨k,H',hs,λβ hβ=>by rw[FB (al β (hag β hβ)) h6]⟩
   ·cases h
  ·cases h
 ·cases h
theorem tC(hS:Dv P e Φ S){f:Nat}{args:List SV}{s:St}{r:SV × St}(h:yN S f args s=some r){k:Nat->Nat}{w:World}{F:Nat->Prop}(H:Cp e ⟨Yi s.hp,k,w,F,Φ⟩ k s.ph s.hp w)(hs:AV e s.BY)
  {args':Array Value}(hargs:∀β,Gu k s.hp β->args'=(args.map (SV.den e β)).toArray):
  AL P f args' w (JN e Φ F k s w r.1 r.2):=by
 have al:∀β,Gu k s.hp β->Alike [] β half:=λβ hβ=>⟨hβ.1,λg=>by simp[half],λ_ h=>by cases h⟩
 unfold yN at h
 split at h
 ·rename_i l off rest;split at h
  ·rename_i ty cs hl;split at h
   ·rename_i u j hu;cases h;obtain ⟨n,h1,hn,h0,hnf,rfl,rfl,rfl,rfl,h6,h7,h8,h9,h10,h11,rfl⟩:=KH hu;have hb:=H.heap k H.Iq _ (B9 hl);simp only at hb;rw [EE (al k H.Iq) h7] at hb;have ha:=hargs k H.Iq;have hu0:=hS u h1;unfold EQ at hu0;rw [hn] at hu0;simp only at hu0;obtain ⟨F1,f1,f2,f3,f4⟩:=H.oC;rw [← h10] at f1;obtain ⟨hcf,hcalls⟩:=hu0 (k l) w F1 hb f1 (f2 _ (B9 hl)) f3 args' (by
     rw[ha,h11];simp only[List.map_cons];congr 1;congr 1;exact List.map_congr_left λv hv=>FB (al k H.Iq) (h9 v hv))
    refine AL.fn hnf ⟨hcf,hcalls.mono λen w' hpost=>?_⟩;obtain⟨rfl,hb',O⟩:=hpost;obtain⟨H',hag⟩:=H.effG f2 f4 hl (row:=Ym e half u.Ej.dropLast) (λβ hβ=>EE (al β hβ) h8) hb' O;refine⟨k,?_,hs,λβ hβ=>by rw[FB (al β (hag β hβ)) h6]⟩;have e1:St.ph {s with hp:=K9 l u.Ej.dropLast s.hp,nx:=M6 ((n-1)%10000/100) s.nx}=(n-1)%10000/100:=Lz _ _;rw[e1];exact H'
   ·cases h
  ·cases h
 ·cases h
theorem yL(hS:Dv P e Φ S){f:Nat}{args:List SV}{s:St}{r:SV × St}(h:yM S f args s=some r){k:Nat->Nat}{w:World}{F:Nat->Prop}(H:Cp e ⟨Yi s.hp,k,w,F,Φ⟩ k s.ph s.hp w)(hs:AV e s.BY)
  {args':Array Value}(hargs:∀β,Gu k s.hp β->args'=(args.map (SV.den e β)).toArray):
  AL P f args' w (JN e Φ F k s w r.1 r.2):=by
 have al:∀β,Gu k s.hp β->Alike [] β half:=λβ hβ=>⟨hβ.1,λg=>by simp[half],λ_ h=>by cases h⟩
 unfold yM at h
 split at h
 ·rename_i v hv;cases h;obtain⟨u,h1,h2,hnf,h20,rfl,rfl,rfl,h6,h9⟩:=OV hv;have hu:=hS u h1;unfold EQ at hu;have hn:Gx u=none:=Of h2
  ·rw [hn] at hu;simp only at hu;rw [if_neg (by simp [h20])] at hu;unfold LW at hu;rw [if_neg (by rw [h2];simp)] at hu;obtain ⟨hcf,hcalls⟩:=hu w args' (by
    rw[hargs k H.Iq];congr 1;exact List.map_congr_left λv hv=>FB (al k H.Iq) (h9 v hv))
   refine AL.fn hnf ⟨hcf,hcalls.mono λen w' hpost=>?_⟩;obtain⟨rfl,hb⟩:=hpost;refine⟨k,⟨H.Gn,λβ hβ x hx=>(H.heap β hβ x hx).Ad hb,H.inj,H.ext,H.new,H.A1,hb.os,hb.tape,hb.output,hb.size,λb hb' _ _=>hb.block b hb',Ib H.oC hb.size λF a b=>⟨λc hc=>hb.block c (b c hc),a⟩⟩,hs,λβ hβ=>by rw[FB (al β hβ) h6]⟩
 ·split at h
  ·rename_i v j hv;cases h;obtain⟨u,h1,hq,h2,h20,rfl,h3,rfl,rfl,rfl,h6,h9⟩:=OW hv;have hu:=hS u h1;unfold EQ at hu;have hn:Gx u=none:=Of h2
   ·rw [hn] at hu;simp only at hu;rw [if_pos (by simp [h2,h20])] at hu;obtain ⟨F1,f1,f2,f3,f4⟩:=H.oC;rw [← h3] at f1;have hen:=hu (fun q hm=>gX hs (hq _ hm)) w F1 f1 f3 args' (by
     rw[hargs k H.Iq];congr 1;exact List.map_congr_left λv hv=>FB (al k H.Iq) (h9 v hv))
    refine hen.mono λen w' hpost=>?_;obtain⟨rfl,O⟩:=hpost;refine⟨k,?_,hs,λβ hβ=>by rw[FB (al β hβ) h6]⟩;have e1:St.ph {s with nx:=M6 ((u.ty-1)/100) s.nx}=(u.ty-1)/100:=Lz _ _;rw[e1];exact H.eff f2 f4 O
  ·split at h
   ·rename_i hv;cases h;exact tC hS hv H hs hargs
   ·exact tD hS h H hs hargs
theorem qU(hm:P.follows .mixedOrders=true)(hS:Dv P e Φ S){n:Nat}(ih:rK P e Φ S n):KP P e Φ (Ru P S (n+1)):=by
 intro f args s v s' h k w F H hs args' hargs;unfold Ru at h;rw[BG] at h;obtain⟨⟨x,v1,s1⟩,h1,h2⟩:=Option.bind_eq_some_iff.1 h;simp only[Xz.B8,Option.some.injEq,Prod.mk.injEq] at h2;obtain⟨rfl,rfl⟩:=h2;unfold exec at h1;split at h1
 ·
  rename_i r hr;simp only[Xz.B8,Option.some.injEq,Prod.mk.injEq] at h1;obtain⟨rfl,rfl,rfl⟩:=h1;exact yL hS hr H hs hargs
 split at h1
 ·simp[Xz.B8] at h1
 rename_i hnf;split at h1
 ·simp[Xz.B8] at h1
 ·rename_i fn hf;split at h1
  ·simp[Xz.B8] at h1
  ·rename_i hname;split at h1
   ·simp[Xz.B8] at h1
   ·rename_i c hb;rw[BG] at h1;obtain⟨⟨y,v2,s2⟩,h3,h4⟩:=Option.bind_eq_some_iff.1 h1;have hcf:(callFunc f args').run P w=.ok (.enter f args') w:=by
     unfold callFunc;simp only[Sem.run_bind,run_program,Result.andThen_ok,hf];rw[if_neg hname,if_neg (by simp[hb])];rfl
    refine AL.fn hnf ⟨hcf,calls_of_wp hf hb ?_⟩;have I0:Inv e ⟨Yi s.hp,k,w,F,Φ⟩ k {s with fr:=Px 0 args [],nx:=M6 s.ph (s.nx+100),sz:=fn.ntmps} {tmps:=args'++Array.replicate (fn.ntmps-args'.size) undef,defers:=[]} w:=by
     have e1:St.ph {s with fr:=Px 0 args [],nx:=M6 s.ph (s.nx+100),sz:=fn.ntmps}=s.ph:=Lz _ _;refine⟨by rw[e1];exact H,⟨rfl,by simp;omega,λβ hβ t=>?_⟩,hs⟩;rw[OP args 0 [] t (λ_ _=>rfl),if_pos (Nat.zero_le _),Nat.sub_zero];have ha:=hargs β hβ;rw[Array.getD_eq_getD_getElem?,Array.getElem?_append];have hsz:args'.size=args.length:=by rw[ha];simp
     split
     ·rename_i hlt;rw[ha];simp only[List.getElem?_toArray,List.getElem?_map];rw[hsz] at hlt;rw[List.getElem?_eq_getElem hlt];simp[hlt]
     ·rename_i hlt;rw[hsz] at hlt;rw[List.getD_eq_getElem?_getD,List.getElem?_eq_none Zo];rw[Array.getElem?_replicate];split<;>rfl
    refine wp_mono (ih c _ y v2 s2 h3 _ _ _ _ rfl I0) fun z a' w' hz=>?_;obtain ⟨rfl,k',I'⟩:=hz;have fin:∀ (hx:(match tU P fn s2 with
      |none=>(Xz.fail "results":Xz (Ex × SV × St))
      |some v=>match gcS s.hp v s2.hp with
       |none=>.fail "what is left"
       |some h=>.leaf (.normal,v,{fr:=s.fr,hp:=h,BY:=s2.BY,nx:=M6 s2.ph s.nx,sz:=s.sz})).B8 e=some (x,v1,s1)),
      a'.defers=[]/\∃v,(results fn a'.tmps).run P w'=.ok v w'/\JN e Φ F k s w v1 s1 (.returned v) w':=by
     intro hx
     split at hx
     ·simp[Xz.B8] at hx
     ·rename_i vr hres;split at hx
      ·simp[Xz.B8] at hx
      ·rename_i h2 hgc;simp only[Xz.B8,Option.some.injEq,Prod.mk.injEq] at hx;obtain⟨rfl,rfl,rfl⟩:=hx;obtain⟨G1,G2⟩:=I'.h.gc rfl hgc;have e1:St.ph {fr:=s.fr,hp:=h2,BY:=s2.BY,nx:=M6 s2.ph s.nx,sz:=s.sz}=s2.ph:=Lz _ _;exact⟨I'.f.defers,_,tT I' hres,k',by rw[e1];exact G1,I'.BY,λβ hβ=>by rw[G2 β hβ]⟩
    cases y with
    |normal=>exact fin h4
    |ret=>exact fin h4
    |exit i=>simp[Xz.B8] at h4
theorem Pa(hm:P.follows .mixedOrders=true)(hS:Dv P e Φ S):∀n,rK P e Φ S n/\rJ P e Φ S n/\KP P e Φ (Ru P S n)
 |0=>by
  refine⟨λc st x v st' h=>?_,λc st x v st' h=>?_,λf args s v s' h=>?_⟩
  ·simp[exec,Xz.B8] at h
  ·simp[exec,Xz.B8] at h
  ·unfold Ru at h;simp[exec,Xz.B8,Xz.bind] at h
 |n+1=>by
  obtain⟨ihc,ihl,ihf⟩:=Pa hm hS n;have hloop:rJ P e Φ S (n+1):=by
   intro c st x v st' h B k a w hΦ I;unfold exec at h;simp only at h;rw[BG] at h;obtain⟨⟨y,v1,s1⟩,h1,h2⟩:=Option.bind_eq_some_iff.1 h;rw[rounds_succ];refine wp_mono (ihc c st y v1 s1 h1 B k a w hΦ I) λz a' w' hz=>?_;obtain⟨rfl,k',I'⟩:=hz;cases y with
   |normal=>exact ihl c s1 x v st' h2 B k' a' w' hΦ I'
   |exit i=>
    simp only[Xz.B8,Option.some.injEq,Prod.mk.injEq] at h2;obtain⟨rfl,rfl,rfl⟩:=h2;exact⟨rfl,k',I'⟩
   |ret=>
    simp only[Xz.B8,Option.some.injEq,Prod.mk.injEq] at h2;obtain⟨rfl,rfl,rfl⟩:=h2;exact⟨rfl,k',I'⟩
  refine⟨?_,hloop,qU hm hS ihc⟩;intro c st x v st' h B k a w hΦ I;cases c with
  |skip=>
   simp only[exec,Xz.B8,Option.some.injEq,Prod.mk.injEq] at h;obtain⟨rfl,rfl,rfl⟩:=h;exact wp_skip ⟨rfl,k,I⟩
  |label l=>
   simp only[exec,Xz.B8,Option.some.injEq,Prod.mk.injEq] at h;obtain⟨rfl,rfl,rfl⟩:=h;exact wp_label ⟨rfl,k,I⟩
  |ret=>
   simp only[exec,Xz.B8,Option.some.injEq,Prod.mk.injEq] at h;obtain⟨rfl,rfl,rfl⟩:=h;exact wp_ret ⟨rfl,k,I⟩
  |exit i=>
   simp only[exec,Xz.B8,Option.some.injEq,Prod.mk.injEq] at h;obtain⟨rfl,rfl,rfl⟩:=h;exact wp_exit ⟨rfl,k,I⟩
  |seq c1 c2=>
   unfold exec at h;simp only at h;rw[BG] at h;obtain⟨⟨y,v1,s1⟩,h1,h2⟩:=Option.bind_eq_some_iff.1 h;refine wp_seq (wp_mono (ihc c1 st y v1 s1 h1 B k a w hΦ I) λz a' w' hz=>?_);obtain⟨rfl,k',I'⟩:=hz;cases y with
   |normal=>exact ihc c2 s1 x v st' h2 B k' a' w' hΦ I'
   |exit i=>
    simp only[Xz.B8,Option.some.injEq,Prod.mk.injEq] at h2;obtain⟨rfl,rfl,rfl⟩:=h2;exact⟨rfl,k',I'⟩
   |ret=>
    simp only[Xz.B8,Option.some.injEq,Prod.mk.injEq] at h2;obtain⟨rfl,rfl,rfl⟩:=h2;exact⟨rfl,k',I'⟩
  |cond q c1 c2=>
   unfold exec at h;simp only at h;split at h
   ·rename_i b hb;have hev:a.eval q=.bool (b.den e):=by rw[I.VN I.Iq,hb];rfl
    have hk:=Es I.BY b;refine wp_cond hev ?_;rw[←hk];split at h
    ·rename_i hq;rw[hq];exact ihc c1 st x v st' h B k a w hΦ I
    ·rename_i hq;rw[hq];exact ihc c2 st x v st' h B k a w hΦ I
    ·rename_i q' _ _ hq;simp only[Xz.B8] at h;cases hb2:(known st.BY b).den e with
     |true=>rw[hb2] at h;exact ihc c1 _ x v st' h B k a w hΦ (I.NL hb2)
     |false=>rw[hb2] at h;exact ihc c2 _ x v st' h B k a w hΦ (I.NL hb2)
   ·simp[Xz.B8] at h
  |block i c1=>
   unfold exec at h;simp only at h;rw[BG] at h;obtain⟨⟨y,v1,s1⟩,h1,h2⟩:=Option.bind_eq_some_iff.1 h;refine wp_block (wp_mono (ihc c1 st y v1 s1 h1 B k a w hΦ I) λz a' w' hz=>?_);obtain⟨rfl,k',I'⟩:=hz;cases y with
   |normal=>
    simp only[Xz.B8,Option.some.injEq,Prod.mk.injEq] at h2;obtain⟨rfl,rfl,rfl⟩:=h2;exact⟨rfl,k',I'⟩
   |exit j=>
    simp only at h2;simp only[exOf,Exit.inBlock];split at h2
    ·rename_i hj;simp only[Xz.B8,Option.some.injEq,Prod.mk.injEq] at h2;obtain⟨rfl,rfl,rfl⟩:=h2;rw[if_pos hj];exact⟨rfl,k',I'⟩
    ·rename_i hj;simp only[Xz.B8,Option.some.injEq,Prod.mk.injEq] at h2;obtain⟨rfl,rfl,rfl⟩:=h2;rw[if_neg hj];exact⟨rfl,k',I'⟩
   |ret=>
    simp only[Xz.B8,Option.some.injEq,Prod.mk.injEq] at h2;obtain⟨rfl,rfl,rfl⟩:=h2;exact⟨rfl,k',I'⟩
  |loop c1=>exact wp_loop_rounds (n+1) (hloop c1 st x v st' h B k a w hΦ I)
  |region id ops draw=>
   unfold exec at h;simp only at h;cases draw with
   |true=>
    simp only at h;rw[BG] at h;obtain⟨s1,h1,h2⟩:=Option.bind_eq_some_iff.1 h;simp only[Xz.B8,Option.some.injEq,Prod.mk.injEq] at h2;obtain⟨rfl,rfl,rfl⟩:=h2;exact wp_mono (Xl hm (hΦ▸ihf) h1 I id) λz a' w' hz=>hz
   |false=>
    simp only at h;rw[BG] at h;obtain⟨s1,h1,h2⟩:=Option.bind_eq_some_iff.1 h;simp only[Xz.B8,Option.some.injEq,Prod.mk.injEq] at h2;obtain⟨rfl,rfl,rfl⟩:=h2;exact wp_region_list (Oq (hΦ▸ihf) (λk' a' w' I'=>⟨rfl,k',I'.bump⟩) ops.toList 0 st k a w h1 I)
  |rangeFunc f params assign body=>simp[exec,Xz.B8] at h
  |scope c1=>simp[exec,Xz.B8] at h
  |goto l=>simp[exec,Xz.B8] at h
  |refuse why=>simp[exec,Xz.B8] at h
end
end Go.Proofs.YtaipogljokblkaaGreatDoor
