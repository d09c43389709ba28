/- Core: SymL. -/
import Derived.Test.YtaipogljokblkaaGreatDoorE04
import Derived.LoopN
import Derived.Test.YtaipogljokblkaaGreatDoorE01
set_option linter.all false
set_option maxRecDepth 100000
set_option maxHeartbeats 8000000
namespace Go.Proofs.YtaipogljokblkaaGreatDoor
open Go Go.RowKit
set_option linter.unusedSimpArgs false
set_option linter.unusedVariables false
set_option linter.unusedSectionVars false
section
variable{e:Env}{β k:Nat->Nat}
theorem Bw{l:Nat}:∀{ls:List Nat},Fa l ls=true↔l∈ls
 |[]=>by simp[Fa]
 |x::r=>by
  simp only[Fa,Bool.or_eq_true,beq_iff_eq,Bw (ls:=r),List.mem_cons];constructor
  ·rintro(h|h)
   ·exact Or.inl h.symm
   ·exact Or.inr h
  ·rintro(h|h)
   ·exact Or.inl h.symm
   ·exact Or.inr h
structure Alike(ls:List Nat)(β k:Nat->Nat):Prop where
 ev1:∀g,β (2*g)=g
 ev2:∀g,k (2*g)=g
 on:∀l∈ls,β l=k l
theorem Alike.at_{ls:List Nat}(h:Alike ls β k){l:Nat}(hl:(l%2==0||Fa l ls)=true):β l=k l:=by
 simp only[Bool.or_eq_true,beq_iff_eq,Bw] at hl;rcases hl with hl|hl
 ·obtain⟨g,rfl⟩:∃g,l=2*g:=⟨l/2,by omega⟩;rw[h.ev1,h.ev2]
 ·exact h.on l hl
theorem RG{ls:List Nat}(h:Alike ls β k){x:SC}(hx:okC ls x=true):x.den e β=x.den e k:=by
 cases x<;>first|rfl|(simp only[okC] at hx;simp only[SC.den,h.at_ hx])
theorem E0{ls:List Nat}(h:Alike ls β k):∀{l:List SC},Jg ls l=true->Yj e β l=Yj e k l:=by
 intro l hl;unfold Yj;congr 1;induction l with
 |nil=>rfl
 |cons x r ih=>
  simp only[Jg,Bool.and_eq_true] at hl;simp only[List.map_cons,RG h hl.1,ih hl.2]
theorem Z2{ls:List Nat}(h:Alike ls β k):∀{l:List (Bool × List SC)},okP ls l=true->l.map (RZ e β)=l.map (RZ e k)
 |[],_=>rfl
 |(b,cs)::r,hl=>by
  simp only[okP,Bool.and_eq_true] at hl;simp only[List.map_cons,Z2 h hl.2];congr 1;unfold RZ;cases b with
  |true=>simp only[if_true,E0 h hl.1]
  |false=>
   simp only[Bool.false_eq_true,if_false];cases cs with
   |nil=>rfl
   |cons x s=>
    have:=hl.1;simp only[Jg,Bool.and_eq_true] at this;exact RG h this.1
theorem Fq{ls:List Nat}(h:Alike ls β k){v:SV}(hv:IN ls v=true):v.den e β=v.den e k:=by
 cases v with
 |c x=>exact RG h hv
 |agg l=>simp only[SV.den,E0 h hv]
 |IU l=>simp only[SV.den,Z2 h hv]
theorem KR{ls:List Nat}:∀{h:Yh},PU ls h=true->∀x∈h,Jg ls x.2.2=true
 |[],_,x,hx=>by cases hx
 |y::r,h,x,hx=>by
  simp only[PU,Bool.and_eq_true] at h;rcases List.mem_cons.1 hx with rfl|hx
  ·exact h.1
  ·exact KR h.2 x hx
theorem JN{ls:List Nat}{x:Nat × TypeId × List SC}:∀{h:Yh},x∈Qf ls h->x∈h
 |[],hx=>by cases hx
 |y::r,hx=>by
  unfold Qf at hx;split at hx
  ·rcases List.mem_cons.1 hx with rfl|hx
   ·simp
   ·exact List.mem_cons_of_mem _ (JN hx)
  ·exact List.mem_cons_of_mem _ (JN hx)
theorem Lj{ls:List Nat}:∀{r:List Nat},qH ls r=true->∀l∈r,l∈ls
 |[],_,l,hl=>by cases hl
 |x::r,h,l,hl=>by
  simp only[qH,Bool.and_eq_true] at h;rcases List.mem_cons.1 hl with rfl|hl
  ·exact Bw.1 h.1
  ·exact Lj h.2 l hl
theorem oM{Bb:Yh}{v:SV}{h h2:Yh}(hg:gcS Bb v h=some h2):(∀x∈h2,x∈h)/\(∀l∈Yg Bb,l∈Yg h2)/\∃ls,(∀l∈ls,l∈Yg h2)/\IN ls v=true/\∀x∈h2,Jg ls x.2.2=true:=by
 unfold gcS at hg;simp only at hg;split at hg
 ·rename_i hc;cases hg;simp only[Bool.and_eq_true] at hc;exact⟨λx hx=>JN hx,Lj hc.2,Yg Bb,Lj hc.2,hc.1.1,KR hc.1.2⟩
 ·split at hg
  ·rename_i hc;cases hg;simp only[Bool.and_eq_true] at hc;exact⟨λx hx=>JN hx,Lj hc.2,_,λl hl=>hl,hc.1.1,KR hc.1.2⟩
  ·cases hg
end
section
variable{P:Program}{e:Env}{B:Sr}{k:Nat->Nat}{st:St}{a:Act}{w:World}
theorem Cm.gc{h h2:Yh}{ph:Nat}{Bb:Yh}{v:SV}(H:Cm e B k ph h w)(hB:B.lab=Yg Bb)(hg:gcS Bb v h=some h2):
  Cm e B k ph h2 w/\∀β,Gm k h2 β->v.den e β=v.den e k:=by
 obtain⟨h1,h3,ls,h4,h5,h6⟩:=oM hg
 have al:∀ β,Gm k h2 β→Alike ls β k:=fun β hβ=>⟨hβ.1,H.Gd,fun l hl=>by
  obtain⟨x,hx,rfl⟩:=Bc.1 (h4 l hl);exact hβ.2 x hx⟩
 refine⟨⟨H.Gd,λβ hβ x hx=>?_,λx hx y hy=>H.inj x (h1 x hx) y (h1 y hy),H.ext,λx hx=>H.new x (h1 x hx),λl hl=>Bc.1 (h3 l (hB▸hl)),H.os,H.tape,H.output,H.size,H.JW,Hz H.mY (Nat.le_refl _) λF a _=>⟨λ_ _=>rfl,λx hx=>a x (h1 x hx)⟩⟩,λβ hβ=>Fq (al β hβ) h5⟩
 have hk:=H.heap k H.Ig x (h1 x hx)
 rw[hβ.2 x hx,E0 (al β hβ) (h6 x hx)]
 exact hk
def Rx(tmps:Array Value):ResultVar->Sem Value
 |.tmp t=>pure (tmps.getD t undef)
 |.cell x t=>do loadVar t (←asAddr (tmps.getD x undef))
theorem Zu{r:ResultVar}{v:SV}(I:Inv e B k st a w)(h:Ry P st r=some v):(Rx a.tmps r).run P w=.ok (v.den e k) w:=by
 unfold Ry at h;unfold Rx;cases r with
 |tmp t=>
  simp only[Option.some.injEq] at h;subst h;simp only[Sem.run_pure];rw[I.f.tmps k I.Ig t]
 |cell x t=>
  simp only at h;split at h
  ·rename_i l i hx;split at h
   ·rename_i ty cs hl;have h1:a.tmps.getD x undef=.pointer (some ⟨k l,i,none⟩):=by rw[I.f.tmps k I.Ig x,hx];rfl
    simp only[h1,asAddr,Sem.run_bind,Sem.run_pure,Result.andThen_ok];exact Mu (I.h.heap k I.Ig _ (Bz hl)) h
   ·cases h
  ·cases h
theorem pG{v:SV}{p:Bool × List SC}(h:v.comp=some p):RZ e k p=v.den e k:=by
 cases v<;>cases h<;>rfl
theorem Zv(I:Inv e B k st a w):∀{l:List ResultVar} {ps:List (Bool × List SC)},LA P st l=some ps->
  (l.mapM (Rx a.tmps)).run P w=.ok (ps.map (RZ e k)) w
 |[],ps,h=>by cases h;simp
 |r::rs,ps,h=>by
  unfold LA at h;split at h
  ·rename_i v l hv hl;split at h
   ·rename_i p hp;cases h;rw[List.mapM_cons];simp only[Sem.run_bind,Zu I hv,Result.andThen_ok,Zv I hl,Sem.run_pure,List.map_cons,pG hp]
   ·cases h
  ·cases h
theorem tG{fn:Func}{v:SV}(I:Inv e B k st a w)(h:tH P fn st=some v):(results fn a.tmps).run P w=.ok (v.den e k) w:=by
 have h0:results fn a.tmps = (do
   let vs ←fn.results.mapM (Rx a.tmps)
   pure (if h:vs.size=1 then vs[0] else .tuple vs)):=by
  unfold results
  congr 1
 rw[h0,Array.mapM_eq_mapM_toList];unfold tH at h;split at h
 ·rename_i r hr;rw[hr];have h1:=Zu I h;simp only[List.mapM_cons,List.mapM_nil];simp only[Sem.run_bind,Sem.run_map,h1,Result.andThen_ok,Sem.run_pure];rfl
 ·rename_i hr;split at h
  ·rename_i l hl;cases h;have h1:=Zv I hl;simp only[Sem.run_bind,Sem.run_map,h1,Result.andThen_ok,Sem.run_pure];have hlen:∀{l':List ResultVar} {ps},LA P st l'=some ps->ps.length=l'.length:=by
    intro l';induction l' with
    |nil=>intro ps h;cases h;rfl
    |cons r rs ih=>
     intro ps h;unfold LA at h;split at h
     ·rename_i hl2;split at h
      ·cases h;simp[ih hl2]
      ·cases h
     ·cases h
   have h2:=hlen hl;have h3:(l.map (RZ e k)).toArray.size≠1:=by
    simp only[List.size_toArray,List.length_map,h2];intro h4;match hq:fn.results.toList with
    |[]=>rw[hq] at h4;cases h4
    |[r]=>exact hr r hq
    |_::_::_=>rw[hq] at h4;simp at h4
   rw[dif_neg h3];rfl
  ·cases h
end
def exOf:Ex->Exit
 |.normal=>.normal
 |.exit i=>.exit i
 |.ret=>.ret
def Q5(P:Program)(S:List Xv)(n:Nat):Nat->List SV->St->Xz (SV × St):=λf args s=>(exec P S n (.call f args) s).bind λr=>.leaf r.2
def half(i:Nat):Nat:=i/2
def Lp(P:Program)(e:Env)(s:Xv):Prop:=
 if s.self then ∀g w,Bk w g s.ty (Yj e half s.cells)->∀args':Array Value,args'=(Value.pointer (some ⟨g,0,none⟩)::s.rest.map (SV.den e half)).toArray->(callFunc s.f args').run P w=.ok (.enter s.f args') w/\
  Calls P s.f args' w λen w'=>en=.returned (s.out.den e half)/\Bk w' g s.ty (Yj e half s.DZ)/\w.grownBy w' (some g)
 else ∀w,∀args':Array Value,args'=(s.rest.map (SV.den e half)).toArray->(callFunc s.f args').run P w=.ok (.enter s.f args') w/\
  Calls P s.f args' w λen w'=>en=.returned (s.out.den e half)/\Below w.heap.size w w'
def EffOk(P:Program)(e:Env)(Φ:GF)(s:Xv):Prop:=
 (∀q,SC.bool q∈s.cells->q.den e=true)->∀w F,Φ.P ((s.ty-1)%100) w F->(∀b,F b->b<w.heap.size)->∀args':Array Value,args'=(s.rest.map (SV.den e half)).toArray->
  AI P s.f args' w λen w'=>en=.returned (s.out.den e half)/\EH Φ ((s.ty-1)/100) F none w w'
def EffGOk(P:Program)(e:Env)(Φ:GF)(s:Xv)(n:Nat):Prop:=
 ∀g w F,Bk w g s.ty (Yj e half s.cells)->Φ.P ((n-1)%100) w F->¬F g->(∀b,F b->b<w.heap.size)->∀args':Array Value,args'=(Value.pointer (some ⟨g,n/10000,none⟩)::s.rest.map (SV.den e half)).toArray->
  (callFunc s.f args').run P w=.ok (.enter s.f args') w/\
  Calls P s.f args' w λen w'=>en=.returned (s.out.den e half)/\Bk w' g s.ty (Yj e half s.DZ.dropLast)/\EH Φ ((n-1)%10000/100) F (some g) w w'
def EG(P:Program)(e:Env)(Φ:GF)(s:Xv):Prop:=
 match Gr s with
 |some n=>EffGOk P e Φ s n
 |none=>if !s.self&&!(s.ty==0) then EffOk P e Φ s else Lp P e s
def Di(P:Program)(e:Env)(Φ:GF)(S:List Xv):Prop:=∀s∈S,EG P e Φ s
def Hg(S:List Xv):Bool:=S.all λs=>(Gr s).isNone&&(s.self||s.ty==0)
def Eb(P:Program)(e:Env)(S:List Xv):Prop:=∀s∈S,Lp P e s
theorem Eb.vE{P:Program}{e:Env}{Φ:GF}{S:List Xv}(h:Eb P e S)(hp:Hg S=true):Di P e Φ S:=λs hs=>by
 have h1:=List.all_eq_true.1 hp s hs;simp only[Bool.and_eq_true,Option.isNone_iff_eq_none,Bool.or_eq_true] at h1;unfold EG;rw[h1.1];simp only;rw[if_neg (by rcases h1.2 with h2|h2<;>simp[h2])];exact h s hs
def qY(P:Program)(e:Env)(Φ:GF)(S:List Xv)(n:Nat):Prop:=
 ∀c st x v st',(exec P S n (.code c) st).By e=some (x,v,st')->∀B k a w,B.Φ=Φ->Inv e B k st a w->c.wp P (λy a' w'=>y=exOf x/\∃k',Inv e B k' st' a' w') a w
def qV(P:Program)(e:Env)(Φ:GF)(S:List Xv)(n:Nat):Prop:=
 ∀c st x v st',(exec P S n (.code (.loop c)) st).By e=some (x,v,st')->∀B k a w,B.Φ=Φ->Inv e B k st a w->Code.rounds P c (λy a' w'=>y=exOf x/\∃k',Inv e B k' st' a' w') n a w
section
variable{P:Program}{e:Env}{Φ:GF}{S:List Xv}
theorem Oh{f:Nat}{ty:TypeId}{cs:List SC}{rest:List SV}{s:Xv}:∀{S:List Xv},ZM f ty cs rest S=some s->
  s∈S/\s.self=true/\¬f=Dl/\Gr s=none/\s.f=f/\s.ty=ty/\cs=s.cells/\rest=s.rest/\IN [] s.out=true/\Jg [] s.cells=true/\Jg [] s.DZ=true/\∀v∈s.rest,IN [] v=true
 |[],h=>by cases h
 |x::r,h=>by
  unfold ZM at h;split at h
  ·rename_i hc;cases h;simp only[Bool.and_eq_true,beq_iff_eq,List.all_eq_true,Option.isNone_iff_eq_none,Bool.not_eq_true',beq_eq_false_iff_ne,ne_eq] at hc;obtain⟨⟨⟨⟨⟨⟨⟨⟨⟨⟨h0,hnf⟩,h9⟩,h1⟩,h2⟩,h3⟩,h4⟩,h5⟩,h6⟩,h7⟩,h8⟩:=hc;exact⟨by simp,h0,hnf,h9,h1,h2,BS (λ_ _=>SC.BG) h3,BS (λ_ _=>SV.BG) h4,h5,h6,h7,h8⟩
  ·obtain⟨h1,h2⟩:=Oh h;exact⟨List.mem_cons_of_mem _ h1,h2⟩
theorem Oi{f:Nat}{args:List SV}{v:SV}:∀{S:List Xv},ZN f args S=some v->
  ∃s∈S,s.self=false/\¬f=Dl/\s.ty=0/\s.f=f/\args=s.rest/\v=s.out/\IN [] s.out=true/\∀u∈s.rest,IN [] u=true
 |[],h=>by cases h
 |x::r,h=>by
  unfold ZN at h;split at h
  ·rename_i hc;cases h;simp only[Bool.and_eq_true,beq_iff_eq,List.all_eq_true,Bool.not_eq_true',beq_eq_false_iff_ne,ne_eq] at hc;obtain⟨⟨⟨⟨⟨⟨h0,hnf⟩,h5⟩,h1⟩,h2⟩,h3⟩,h4⟩:=hc;exact⟨x,by simp,h0,hnf,h5,h1,BS (λ_ _=>SV.BG) h2,rfl,h3,h4⟩
  ·obtain⟨s,h1,h2⟩:=Oi h;exact⟨s,List.mem_cons_of_mem _ h1,h2⟩
theorem Ns{s:Xv}(h:s.self=false):Gr s=none:=by
 unfold Gr;split
 ·rw[if_neg (by simp[h])]
 ·rfl
theorem fQ{e:Env}{a:FH}(hs:AR e a){q:BT}(h:holds a (.bool q)=true):q.den e=true:=by
 simp only[holds,decide_eq_true_eq] at h;rw[←Ei hs,h];rfl
theorem Oj{a:FH}{f ph:Nat}{args:List SV}{v:SV}{j:Nat}:∀{S:List Xv},ZP a f ph args S=some (v,j)->
  ∃s∈S,(∀c∈s.cells,holds a c=true)/\s.self=false/\(s.ty==0)=false/\s.f=f/\(s.ty-1)%100=ph/\j=(s.ty-1)/100/\args=s.rest/\v=s.out/\IN [] s.out=true/\∀u∈s.rest,IN [] u=true
 |[],h=>by cases h
 |x::r,h=>by
  unfold ZP at h;split at h
  ·rename_i hc;cases h;simp only[Bool.and_eq_true,beq_iff_eq,List.all_eq_true,Bool.not_eq_true'] at hc;obtain⟨⟨⟨⟨⟨⟨⟨hq,h0⟩,h1⟩,h2⟩,h3⟩,h4⟩,h5⟩,h6⟩:=hc;exact⟨x,by simp,hq,h0,h1,h2,h3,rfl,BS (λ_ _=>SV.BG) h4,rfl,h5,h6⟩
  ·obtain⟨s,h1,h2⟩:=Oj h;exact⟨s,List.mem_cons_of_mem _ h1,h2⟩
theorem Kv{f ph off:Nat}{ty:TypeId}{cs:List SC}{rest:List SV}{s:Xv}{j:Nat}:∀{S:List Xv},U1 f ph off ty cs rest S=some (s,j)->
  ∃n,s∈S/\Gr s=some n/\s.self=true/\¬f=Dl/\s.f=f/\s.ty=ty/\cs=s.cells/\rest=s.rest/\IN [] s.out=true/\Jg [] s.cells=true/\Jg [] s.DZ.dropLast=true/\(∀v∈s.rest,IN [] v=true)/\(n-1)%100=ph/\n/10000=off/\j=(n-1)%10000/100
 |[],h=>by cases h
 |x::r,h=>by
  unfold U1 at h;split at h
  ·rename_i n hn;split at h
   ·rename_i hc;cases h;simp only[Bool.and_eq_true,beq_iff_eq,List.all_eq_true,Bool.not_eq_true',beq_eq_false_iff_ne,ne_eq] at hc;obtain⟨⟨⟨⟨⟨⟨⟨⟨⟨⟨⟨h0,hnf⟩,h1⟩,h2⟩,h3⟩,h4⟩,h5⟩,h6⟩,h7⟩,h8⟩,h9⟩,h10⟩:=hc;exact⟨n,by simp,hn,h0,hnf,h1,h2,BS (λ_ _=>SC.BG) h3,BS (λ_ _=>SV.BG) h4,h5,h6,h7,h8,h9,h10,rfl⟩
   ·obtain⟨n,h1,h2⟩:=Kv h;exact⟨n,List.mem_cons_of_mem _ h1,h2⟩
  ·obtain⟨n,h1,h2⟩:=Kv h;exact⟨n,List.mem_cons_of_mem _ h1,h2⟩
theorem sO(hS:Di P e Φ S){f:Nat}{args:List SV}{s:St}{r:SV × St}(h:yF S f args s=some r){k:Nat->Nat}{w:World}{F:Nat->Prop}(H:Cm e ⟨Yg s.hp,k,w,F,Φ⟩ k s.ph s.hp w)(hs:AR e s.BM)
  {args':Array Value}(hargs:∀β,Gm k s.hp β->args'=(args.map (SV.den e β)).toArray):
  AI P f args' w (J9 e Φ F k s w r.1 r.2):=by
 have al:∀β,Gm k s.hp β->Alike [] β half:=λβ hβ=>⟨hβ.1,λg=>by simp[half],λ_ h=>by cases h⟩
 unfold yF at h
 split at h
 ·rename_i l rest;split at h
  ·rename_i ty cs hl;split at h
   ·rename_i u hu;cases h;obtain ⟨h1,h0,hnf,ht0,rfl,rfl,rfl,rfl,h6,h7,h8,h9⟩:=Oh hu;have hb:=H.heap k H.Ig _ (Bz hl);simp only at hb;rw [E0 (al k H.Ig) h7] at hb;have ha:=hargs k H.Ig;have hu0:=hS u h1;unfold EG at hu0;rw [ht0] at hu0;simp only at hu0;rw [if_neg (by simp [h0])] at hu0;unfold Lp at hu0;rw [if_pos h0] at hu0;obtain ⟨hcf,hcalls⟩:=hu0 (k l) w hb args' (by
     rw[ha];simp only[List.map_cons];congr 1;congr 1;exact List.map_congr_left λv hv=>Fq (al k H.Ig) (h9 v hv))
    refine AI.fn hnf ⟨hcf,hcalls.mono λen w' hpost=>?_⟩;obtain⟨rfl,hb',hg⟩:=hpost;obtain⟨H',hag⟩:=H.Ap hl (row:=Yj e half u.DZ) (λβ hβ=>E0 (al β hβ) h8) hb' hg;exact⟨k,H',hs,λβ hβ=>by rw[Fq (al β (hag β hβ)) h6]⟩
   ·cases h
  ·cases h
 ·cases h
theorem sN(hS:Di P e Φ S){f:Nat}{args:List SV}{s:St}{r:SV × St}(h:yE S f args s=some r){k:Nat->Nat}{w:World}{F:Nat->Prop}(H:Cm e ⟨Yg s.hp,k,w,F,Φ⟩ k s.ph s.hp w)(hs:AR e s.BM)
  {args':Array Value}(hargs:∀β,Gm k s.hp β->args'=(args.map (SV.den e β)).toArray):
  AI P f args' w (J9 e Φ F k s w r.1 r.2):=by
 have al:∀β,Gm k s.hp β->Alike [] β half:=λβ hβ=>⟨hβ.1,λg=>by simp[half],λ_ h=>by cases h⟩
 unfold yE at h
 split at h
 ·rename_i l off rest;split at h
  ·rename_i ty cs hl;split at h
   ·rename_i u j hu;cases h;obtain ⟨n,h1,hn,h0,hnf,rfl,rfl,rfl,rfl,h6,h7,h8,h9,h10,h11,rfl⟩:=Kv hu;have hb:=H.heap k H.Ig _ (Bz hl);simp only at hb;rw [E0 (al k H.Ig) h7] at hb;have ha:=hargs k H.Ig;have hu0:=hS u h1;unfold EG at hu0;rw [hn] at hu0;simp only at hu0;obtain ⟨F1,f1,f2,f3,f4⟩:=H.mY;rw [← h10] at f1;obtain ⟨hcf,hcalls⟩:=hu0 (k l) w F1 hb f1 (f2 _ (Bz hl)) f3 args' (by
     rw[ha,h11];simp only[List.map_cons];congr 1;congr 1;exact List.map_congr_left λv hv=>Fq (al k H.Ig) (h9 v hv))
    refine AI.fn hnf ⟨hcf,hcalls.mono λen w' hpost=>?_⟩;obtain⟨rfl,hb',O⟩:=hpost;obtain⟨H',hag⟩:=H.effG f2 f4 hl (row:=Yj e half u.DZ.dropLast) (λβ hβ=>E0 (al β hβ) h8) hb' O;refine⟨k,?_,hs,λβ hβ=>by rw[Fq (al β (hag β hβ)) h6]⟩;have e1:St.ph {s with hp:=Km l u.DZ.dropLast s.hp,nx:=LO ((n-1)%10000/100) s.nx}=(n-1)%10000/100:=KV _ _;rw[e1];exact H'
   ·cases h
  ·cases h
 ·cases h
theorem yC(hS:Di P e Φ S){f:Nat}{args:List SV}{s:St}{r:SV × St}(h:yD S f args s=some r){k:Nat->Nat}{w:World}{F:Nat->Prop}(H:Cm e ⟨Yg s.hp,k,w,F,Φ⟩ k s.ph s.hp w)(hs:AR e s.BM)
  {args':Array Value}(hargs:∀β,Gm k s.hp β->args'=(args.map (SV.den e β)).toArray):
  AI P f args' w (J9 e Φ F k s w r.1 r.2):=by
 have al:∀β,Gm k s.hp β->Alike [] β half:=λβ hβ=>⟨hβ.1,λg=>by simp[half],λ_ h=>by cases h⟩
 unfold yD at h
 split at h
 ·rename_i v hv;cases h;obtain⟨u,h1,h2,hnf,h20,rfl,rfl,rfl,h6,h9⟩:=Oi hv;have hu:=hS u h1;unfold EG at hu;have hn:Gr u=none:=Ns h2
  ·rw [hn] at hu;simp only at hu;rw [if_neg (by simp [h20])] at hu;unfold Lp at hu;rw [if_neg (by rw [h2];simp)] at hu;obtain ⟨hcf,hcalls⟩:=hu w args' (by
    rw[hargs k H.Ig];congr 1;exact List.map_congr_left λv hv=>Fq (al k H.Ig) (h9 v hv))
   refine AI.fn hnf ⟨hcf,hcalls.mono λen w' hpost=>?_⟩;obtain⟨rfl,hb⟩:=hpost;refine⟨k,⟨H.Gd,λβ hβ x hx=>(H.heap β hβ x hx).Ac hb,H.inj,H.ext,H.new,H.Bb,hb.os,hb.tape,hb.output,hb.size,λb hb' _ _=>hb.block b hb',Hz H.mY hb.size λF a b=>⟨λc hc=>hb.block c (b c hc),a⟩⟩,hs,λβ hβ=>by rw[Fq (al β hβ) h6]⟩
 ·split at h
  ·rename_i v j hv;cases h;obtain⟨u,h1,hq,h2,h20,rfl,h3,rfl,rfl,rfl,h6,h9⟩:=Oj hv;have hu:=hS u h1;unfold EG at hu;have hn:Gr u=none:=Ns h2
   ·rw [hn] at hu;simp only at hu;rw [if_pos (by simp [h2,h20])] at hu;obtain ⟨F1,f1,f2,f3,f4⟩:=H.mY;rw [← h3] at f1;have hen:=hu (fun q hm=>fQ hs (hq _ hm)) w F1 f1 f3 args' (by
     rw[hargs k H.Ig];congr 1;exact List.map_congr_left λv hv=>Fq (al k H.Ig) (h9 v hv))
    refine hen.mono λen w' hpost=>?_;obtain⟨rfl,O⟩:=hpost;refine⟨k,?_,hs,λβ hβ=>by rw[Fq (al β hβ) h6]⟩;have e1:St.ph {s with nx:=LO ((u.ty-1)/100) s.nx}=(u.ty-1)/100:=KV _ _;rw[e1];exact H.eff f2 f4 O
  ·split at h
   ·rename_i hv;cases h;exact sN hS hv H hs hargs
   ·exact sO hS h H hs hargs
theorem pQ(hm:P.follows .mixedOrders=true)(hS:Di P e Φ S){n:Nat}(ih:qY P e Φ S n):Kz P e Φ (Q5 P S (n+1)):=by
 intro f args s v s' h k w F H hs args' hargs;unfold Q5 at h;rw[B7] at h;obtain⟨⟨x,v1,s1⟩,h1,h2⟩:=Option.bind_eq_some_iff.1 h;simp only[Xz.By,Option.some.injEq,Prod.mk.injEq] at h2;obtain⟨rfl,rfl⟩:=h2;unfold exec at h1;split at h1
 ·
  rename_i r hr;simp only[Xz.By,Option.some.injEq,Prod.mk.injEq] at h1;obtain⟨rfl,rfl,rfl⟩:=h1;exact yC hS hr H hs hargs
 split at h1
 ·simp[Xz.By] at h1
 rename_i hnf;split at h1
 ·simp[Xz.By] at h1
 ·rename_i fn hf;split at h1
  ·simp[Xz.By] at h1
  ·rename_i hname;split at h1
   ·simp[Xz.By] at h1
   ·rename_i c hb;rw[B7] at h1;obtain⟨⟨y,v2,s2⟩,h3,h4⟩:=Option.bind_eq_some_iff.1 h1;have hcf:(callFunc f args').run P w=.ok (.enter f args') w:=by
     unfold callFunc;simp only[Sem.run_bind,run_program,Result.andThen_ok,hf];rw[if_neg hname,if_neg (by simp[hb])];rfl
    refine AI.fn hnf ⟨hcf,calls_of_wp hf hb ?_⟩;have I0:Inv e ⟨Yg s.hp,k,w,F,Φ⟩ k {s with fr:=OA 0 args [],nx:=LO s.ph (s.nx+100),sz:=fn.ntmps} {tmps:=args'++Array.replicate (fn.ntmps-args'.size) undef,defers:=[]} w:=by
     have e1:St.ph {s with fr:=OA 0 args [],nx:=LO s.ph (s.nx+100),sz:=fn.ntmps}=s.ph:=KV _ _;refine⟨by rw[e1];exact H,⟨rfl,by simp;omega,λβ hβ t=>?_⟩,hs⟩;rw[Oc args 0 [] t (λ_ _=>rfl),if_pos (Nat.zero_le _),Nat.sub_zero];have ha:=hargs β hβ;rw[Array.getD_eq_getD_getElem?,Array.getElem?_append];have hsz:args'.size=args.length:=by rw[ha];simp
     split
     ·rename_i hlt;rw[ha];simp only[List.getElem?_toArray,List.getElem?_map];rw[hsz] at hlt;rw[List.getElem?_eq_getElem hlt];simp[hlt]
     ·rename_i hlt;rw[hsz] at hlt;rw[List.getD_eq_getElem?_getD,List.getElem?_eq_none Zo];rw[Array.getElem?_replicate];split<;>rfl
    refine wp_mono (ih c _ y v2 s2 h3 _ _ _ _ rfl I0) fun z a' w' hz=>?_;obtain ⟨rfl,k',I'⟩:=hz;have fin:∀ (hx:(match tH P fn s2 with
      |none=>(Xz.fail "results":Xz (Ex × SV × St))
      |some v=>match gcS s.hp v s2.hp with
       |none=>.fail "what is left"
       |some h=>.leaf (.normal,v,{fr:=s.fr,hp:=h,BM:=s2.BM,nx:=LO s2.ph s.nx,sz:=s.sz})).By e=some (x,v1,s1)),
      a'.defers=[]/\∃v,(results fn a'.tmps).run P w'=.ok v w'/\J9 e Φ F k s w v1 s1 (.returned v) w':=by
     intro hx
     split at hx
     ·simp[Xz.By] at hx
     ·rename_i vr hres;split at hx
      ·simp[Xz.By] at hx
      ·rename_i h2 hgc;simp only[Xz.By,Option.some.injEq,Prod.mk.injEq] at hx;obtain⟨rfl,rfl,rfl⟩:=hx;obtain⟨G1,G2⟩:=I'.h.gc rfl hgc;have e1:St.ph {fr:=s.fr,hp:=h2,BM:=s2.BM,nx:=LO s2.ph s.nx,sz:=s.sz}=s2.ph:=KV _ _;exact⟨I'.f.defers,_,tG I' hres,k',by rw[e1];exact G1,I'.BM,λβ hβ=>by rw[G2 β hβ]⟩
    cases y with
    |normal=>exact fin h4
    |ret=>exact fin h4
    |exit i=>simp[Xz.By] at h4
theorem Oq(hm:P.follows .mixedOrders=true)(hS:Di P e Φ S):∀n,qY P e Φ S n/\qV P e Φ S n/\Kz P e Φ (Q5 P S n)
 |0=>by
  refine⟨λc st x v st' h=>?_,λc st x v st' h=>?_,λf args s v s' h=>?_⟩
  ·simp[exec,Xz.By] at h
  ·simp[exec,Xz.By] at h
  ·unfold Q5 at h;simp[exec,Xz.By,Xz.bind] at h
 |n+1=>by
  obtain⟨ihc,ihl,ihf⟩:=Oq hm hS n;have hloop:qV P e Φ S (n+1):=by
   intro c st x v st' h B k a w hΦ I;unfold exec at h;simp only at h;rw[B7] at h;obtain⟨⟨y,v1,s1⟩,h1,h2⟩:=Option.bind_eq_some_iff.1 h;rw[rounds_succ];refine wp_mono (ihc c st y v1 s1 h1 B k a w hΦ I) λz a' w' hz=>?_;obtain⟨rfl,k',I'⟩:=hz;cases y with
   |normal=>exact ihl c s1 x v st' h2 B k' a' w' hΦ I'
   |exit i=>
    simp only[Xz.By,Option.some.injEq,Prod.mk.injEq] at h2;obtain⟨rfl,rfl,rfl⟩:=h2;exact⟨rfl,k',I'⟩
   |ret=>
    simp only[Xz.By,Option.some.injEq,Prod.mk.injEq] at h2;obtain⟨rfl,rfl,rfl⟩:=h2;exact⟨rfl,k',I'⟩
  refine⟨?_,hloop,pQ hm hS ihc⟩;intro c st x v st' h B k a w hΦ I;cases c with
  |skip=>
   simp only[exec,Xz.By,Option.some.injEq,Prod.mk.injEq] at h;obtain⟨rfl,rfl,rfl⟩:=h;exact wp_skip ⟨rfl,k,I⟩
  |label l=>
   simp only[exec,Xz.By,Option.some.injEq,Prod.mk.injEq] at h;obtain⟨rfl,rfl,rfl⟩:=h;exact wp_label ⟨rfl,k,I⟩
  |ret=>
   simp only[exec,Xz.By,Option.some.injEq,Prod.mk.injEq] at h;obtain⟨rfl,rfl,rfl⟩:=h;exact wp_ret ⟨rfl,k,I⟩
  |exit i=>
   simp only[exec,Xz.By,Option.some.injEq,Prod.mk.injEq] at h;obtain⟨rfl,rfl,rfl⟩:=h;exact wp_exit ⟨rfl,k,I⟩
  |seq c1 c2=>
   unfold exec at h;simp only at h;rw[B7] at h;obtain⟨⟨y,v1,s1⟩,h1,h2⟩:=Option.bind_eq_some_iff.1 h;refine wp_seq (wp_mono (ihc c1 st y v1 s1 h1 B k a w hΦ I) λz a' w' hz=>?_);obtain⟨rfl,k',I'⟩:=hz;cases y with
   |normal=>exact ihc c2 s1 x v st' h2 B k' a' w' hΦ I'
   |exit i=>
    simp only[Xz.By,Option.some.injEq,Prod.mk.injEq] at h2;obtain⟨rfl,rfl,rfl⟩:=h2;exact⟨rfl,k',I'⟩
   |ret=>
    simp only[Xz.By,Option.some.injEq,Prod.mk.injEq] at h2;obtain⟨rfl,rfl,rfl⟩:=h2;exact⟨rfl,k',I'⟩
  |cond q c1 c2=>
   unfold exec at h;simp only at h;split at h
   ·rename_i b hb;have hev:a.eval q=.bool (b.den e):=by rw[I.Vi I.Ig,hb];rfl
    have hk:=Ei I.BM b;refine wp_cond hev ?_;rw[←hk];split at h
    ·rename_i hq;rw[hq];exact ihc c1 st x v st' h B k a w hΦ I
    ·rename_i hq;rw[hq];exact ihc c2 st x v st' h B k a w hΦ I
    ·rename_i q' _ _ hq;simp only[Xz.By] at h;cases hb2:(known st.BM b).den e with
     |true=>rw[hb2] at h;exact ihc c1 _ x v st' h B k a w hΦ (I.Na hb2)
     |false=>rw[hb2] at h;exact ihc c2 _ x v st' h B k a w hΦ (I.Na hb2)
   ·simp[Xz.By] at h
  |block i c1=>
   unfold exec at h;simp only at h;rw[B7] at h;obtain⟨⟨y,v1,s1⟩,h1,h2⟩:=Option.bind_eq_some_iff.1 h;refine wp_block (wp_mono (ihc c1 st y v1 s1 h1 B k a w hΦ I) λz a' w' hz=>?_);obtain⟨rfl,k',I'⟩:=hz;cases y with
   |normal=>
    simp only[Xz.By,Option.some.injEq,Prod.mk.injEq] at h2;obtain⟨rfl,rfl,rfl⟩:=h2;exact⟨rfl,k',I'⟩
   |exit j=>
    simp only at h2;simp only[exOf,Exit.inBlock];split at h2
    ·rename_i hj;simp only[Xz.By,Option.some.injEq,Prod.mk.injEq] at h2;obtain⟨rfl,rfl,rfl⟩:=h2;rw[if_pos hj];exact⟨rfl,k',I'⟩
    ·rename_i hj;simp only[Xz.By,Option.some.injEq,Prod.mk.injEq] at h2;obtain⟨rfl,rfl,rfl⟩:=h2;rw[if_neg hj];exact⟨rfl,k',I'⟩
   |ret=>
    simp only[Xz.By,Option.some.injEq,Prod.mk.injEq] at h2;obtain⟨rfl,rfl,rfl⟩:=h2;exact⟨rfl,k',I'⟩
  |loop c1=>exact wp_loop_rounds (n+1) (hloop c1 st x v st' h B k a w hΦ I)
  |region id ops draw=>
   unfold exec at h;simp only at h;cases draw with
   |true=>
    simp only at h;rw[B7] at h;obtain⟨s1,h1,h2⟩:=Option.bind_eq_some_iff.1 h;simp only[Xz.By,Option.some.injEq,Prod.mk.injEq] at h2;obtain⟨rfl,rfl,rfl⟩:=h2;exact wp_mono (Wk hm (hΦ▸ihf) h1 I id) λz a' w' hz=>hz
   |false=>
    simp only at h;rw[B7] at h;obtain⟨s1,h1,h2⟩:=Option.bind_eq_some_iff.1 h;simp only[Xz.By,Option.some.injEq,Prod.mk.injEq] at h2;obtain⟨rfl,rfl,rfl⟩:=h2;exact wp_region_list (Nz (hΦ▸ihf) (λk' a' w' I'=>⟨rfl,k',I'.bump⟩) ops.toList 0 st k a w h1 I)
  |rangeFunc f params assign body=>simp[exec,Xz.By] at h
  |scope c1=>simp[exec,Xz.By] at h
  |goto l=>simp[exec,Xz.By] at h
  |refuse why=>simp[exec,Xz.By] at h
end
end Go.Proofs.YtaipogljokblkaaGreatDoor
