/- Core: SymG, SymH, SymI, SymJ, SymK. -/
import Derived.Test.YtaipogljokblkaaGreatDoorE03
import Derived.Test.YtaipogljokblkaaGreatDoorE01
set_option linter.all false
set_option maxRecDepth 100000
set_option maxHeartbeats 8000000
namespace Go.Proofs.YtaipogljokblkaaGreatDoor
open Go Go.RowKit
set_option linter.unusedSimpArgs false
set_option linter.unusedVariables false
set_option linter.unusedSectionVars false
structure FInv(e:Env)(k:Nat->Nat)(st:St)(a:Act):Prop where
 defers:a.defers=[]
 sz:st.sz<=a.tmps.size
 tmps:∀β,Gm k st.hp β->∀t,a.tmps.getD t undef=(Hk t st.fr).den e β
structure Inv(e:Env)(B:Sr)(k:Nat->Nat)(st:St)(a:Act)(w:World):Prop where
 h:Cm e B k st.ph st.hp w
 f:FInv e k st a
 BM:AR e st.BM
def J9(e:Env)(Φ:GF)(F:Nat->Prop)(k:Nat->Nat)(s:St)(w:World)(v:SV)(s':St)(en:Ending)(w':World):Prop:=
 ∃k',Cm e ⟨Yg s.hp,k,w,F,Φ⟩ k' s'.ph s'.hp w'/\AR e s'.BM/\∀β,Gm k' s'.hp β->en=.returned (v.den e β)
def AI(P:Program)(f:Nat)(args:Array Value)(w:World)(Q:Ending->World->Prop):Prop:=
 if f=Dl then ∃recv f' a',args[0]?=some recv/\(callMethod recv "Next" (args.extract 1 args.size)).run P w=.ok (.enter f' a') w/\Calls P f' a' w Q
 else(callFunc f args).run P w=.ok (.enter f args) w/\Calls P f args w Q
theorem AI.fn{P:Program}{f:Nat}{args:Array Value}{w:World}{Q:Ending->World->Prop}(hf:¬f=Dl)(h:(callFunc f args).run P w=.ok (.enter f args) w/\Calls P f args w Q):AI P f args w Q:=by
 unfold AI;rw[if_neg hf];exact h
theorem AI.mono{P:Program}{f:Nat}{args:Array Value}{w:World}{Q R:Ending->World->Prop}(h:AI P f args w Q)(hq:∀en w',Q en w'->R en w'):AI P f args w R:=by
 unfold AI at h ⊢;split at h
 ·rename_i hf;obtain⟨recv,f',a',h1,h2,h3⟩:=h;rw[if_pos hf];exact⟨recv,f',a',h1,h2,h3.mono hq⟩
 ·rename_i hf;rw[if_neg hf];exact⟨h.1,h.2.mono hq⟩
def Kz(P:Program)(e:Env)(Φ:GF)(callf:Nat->List SV->St->Xz (SV × St)):Prop:=
 ∀f args s v s',(callf f args s).By e=some (v,s')->∀k w F,Cm e ⟨Yg s.hp,k,w,F,Φ⟩ k s.ph s.hp w->AR e s.BM->
  ∀args',(∀β,Gm k s.hp β->args'=(args.map (SV.den e β)).toArray)->
   AI P f args' w (J9 e Φ F k s w v s')
theorem B7{α β:Type}{e:Env}:∀(t:Xz α) (f:α->Xz β),(t.bind f).By e=(t.By e).bind λa=>(f a).By e
 |.leaf a,f=>rfl
 |.br b t u,f=>by
  simp only[Xz.bind,Xz.By];cases b.den e
  ·exact B7 u f
  ·exact B7 t f
 |.fail _,f=>rfl
section
variable{P:Program}{e:Env}{B:Sr}{k:Nat->Nat}{st:St}{a:Act}{w:World}
theorem Inv.Vi(I:Inv e B k st a w){β:Nat->Nat}(hβ:Gm k st.hp β):Evs e β a st.fr:=evs_of hβ.1 (I.f.tmps β hβ)
theorem Inv.Ig(I:Inv e B k st a w):Gm k st.hp k:=I.h.Ig
theorem mB(a:Act)(d:Nat)(u:Value)(t:Nat)(h:d<a.tmps.size):(a.put (some d) u).tmps.getD t undef=if t=d then u else a.tmps.getD t undef:=by
 simp only[Act.put,Array.getD_eq_getD_getElem?,Array.getElem?_setIfInBounds];by_cases ht:d=t
 ·subst ht;simp[h]
 ·simp[ht,Ne.symm ht]
theorem Inv.put{k':Nat->Nat}{hp':Yh}{w':World}{asm':FH}{nx':Nat}(I:Inv e B k st a w)(H:Cm e B k' (nx'/rA) hp' w')(hs:AR e asm')(hag:∀β,Gm k' hp' β->Gm k st.hp β)
  {dst:Option Nat}(hd:∀d,dst=some d->d<st.sz){v:SV}{u:Value}(hu:∀β,Gm k' hp' β->u=v.den e β):
  Inv e B k' (Dc dst v {st with hp:=hp',BM:=asm',nx:=nx'}) (a.put dst u) w':=by
 cases dst with
 |none=>
  exact⟨H,⟨I.f.defers,I.f.sz,λβ hβ t=>I.f.tmps β (hag β hβ) t⟩,hs⟩
 |some d=>
  have hd':=hd d rfl
  refine⟨H,⟨I.f.defers,?_,λβ hβ t=>?_⟩,hs⟩
  ·simp only[Dc,Act.put];rw[Array.size_setIfInBounds];exact I.f.sz
  ·rw[mB a d u t (Nat.lt_of_lt_of_le hd' I.f.sz)];simp only[Dc];rw[Qn];split
   ·exact hu β hβ
   ·exact I.f.tmps β (hag β hβ) t
theorem KS{o:Oper}(h:okD o st=true):∀d,o.dst=some d->d<st.sz:=by
 intro d hd;simp only[okD,hd] at h;simpa using h
theorem LQ{ops:Array Oper}{o:Oper}{g:BT}(I:Inv e B k st a w)(h:NZ ops o st=some g):Region.wanted o (yielded ops a.tmps)=g.den e:=by
 unfold NZ at h;unfold Region.wanted;split at h
 ·rename_i hg;cases h;simp[hg,BT.den]
 ·rename_i j want hg;simp only[hg];split at h
  ·rename_i d hd;split at h
   ·rename_i b hb;have h1:a.tmps.getD d undef=.bool (b.den e):=by rw[I.f.tmps k I.Ig d,hb];rfl
    have h2:a.tmps[d]?=some (.bool (b.den e)):=by
     rw[Array.getD_eq_getD_getElem?] at h1;cases hx:a.tmps[d]? with
     |none=>rw[hx] at h1;simp[undef] at h1
     |some x=>rw[hx] at h1;simp at h1;rw[h1]
    have h3:yielded ops a.tmps j=some (b.den e):=by
     unfold yielded;rw[hd];simp[h2]
    rw[h3];cases h;cases want
    ·simp only[Bool.false_eq_true,if_false];rw[BT.Ek,Ei I.BM];cases b.den e<;>rfl
    ·simp only[if_true];rw[Ei I.BM];cases b.den e<;>rfl
   ·cases h
  ·cases h
theorem Mu{t:TypeId}{g i:Nat}{ty:TypeId}{cs:List SC}{v:SV}{β:Nat->Nat}(hb:Bk w g ty (Yj e β cs))(h:NH P t cs i=some v):(loadVar t ⟨g,i,none⟩).run P w=.ok (v.den e β) w:=by
 unfold NH at h;split at h
 ·rename_i inf ha hi;split at h
  ·rename_i hle;cases h;have h1:=run_loadCells_list (P:=P) w ⟨g,i,none⟩ (((cs.drop i).take inf.size).map (SC.den e β)) (fun j u hu=>by
    rw[Addr.add_lit,hb.cell,Le];simp only[List.getElem?_map,List.getElem?_take,List.getElem?_drop] at hu;split at hu
    ·exact hu
    ·cases hu)
   rw[show(List.map (SC.den e β) (List.take inf.size (List.drop i cs))).length=inf.size by simp;omega] at h1;simp only[loadVar,Sem.run_bind,Hv ha,Result.andThen_ok,if_true,Hu hi,h1];rfl
  ·cases h
 ·rename_i inf ha hi;split at h
  ·rename_i x hx;split at h
   ·cases h;simp only[loadVar,Sem.run_bind,Hv ha,Result.andThen_ok,Bool.false_eq_true,if_false];have h1:w.cell? ⟨g,i,none⟩=some (x.den e β):=by rw[hb.cell,Le,hx];rfl
    simp[load,Sem.run,h1,SV.den]
   ·cases h
  ·cases h
 ·cases h
end
section
variable{P:Program}{e:Env}{B:Sr}{k:Nat->Nat}{st st':St}{a:Act}{w:World}{callf:Nat->List SV->St->Xz (SV × St)}{K:Act->World->Prop}{Q:Exit->Act->World->Prop}
theorem RF{x y:Value}{w:World}(h:(Result.ok (Next.value x) w:Result Next)=.ok (.value y) w):x=y:=by
 injection h with h1;injection h1
theorem Zt{x y:Value}(h:Ending.returned x=.returned y):x=y:=by injection h
theorem bk_inj{w:World}{g:Nat}{t u:TypeId}{x y:Array Value}(h:Bk w g t x)(h':Bk w g u y):x=y:=by
 unfold Bk at h h';rw[h] at h';injection h' with h1;injection h1
theorem Ho{o:Oper}{v:Value}{w':World}(hr:(execOp a.eval o).run P w=.ok (.value v) w')(h:K (a.put o.dst v) w'):o.wp P a w K Q:=by
 unfold Oper.wp;rw[hr];exact h
theorem iJ{o:Oper}{w':World}(hr:(execOp a.eval o).run P w=.ok .skip w')(h:K (a.put o.dst undef) w'):o.wp P a w K Q:=by
 unfold Oper.wp;rw[hr];exact h
theorem LP{dst:Option Nat}{i:Tm}{l o size:Nat}:∀{js:List Nat} {st st':St},(fP dst i l o size js st).By e=some st'->AR e st.BM->
  ∃j∈js,i.den e=(j:Int)/\∃asm',AR e asm'/\st'=Dc dst (.c (.ptr l (o+j*size))) {st with BM:=asm'}
 |[],st,st',h,_=>by simp[fP,Xz.By] at h
 |j::r,st,st',h,hs=>by
  have hk:=Ei hs (BT.Um i (.lit (j:Int)));rw[BT.HY] at hk;unfold fP at h;split at h
  ·rename_i hq;rw[hq] at hk;simp only[Xz.By,Option.some.injEq] at h;subst h;simp only[BT.den,Tm.den] at hk;exact⟨j,by simp,by simpa using hk.symm,st.BM,hs,rfl⟩
  ·obtain⟨j',h1,h2⟩:=LP h hs;exact⟨j',List.mem_cons_of_mem _ h1,h2⟩
  ·simp only[Xz.By] at h;cases hb:(known st.BM (BT.Um i (.lit (j:Int)))).den e with
   |true=>
    rw[hb] at h;simp only[Option.some.injEq] at h;subst h;rw[hb] at hk;simp only[Tm.den] at hk;exact⟨j,by simp,by simpa using hk.symm,_,Gf hs hb,rfl⟩
   |false=>
    rw[hb] at h;obtain⟨j',h1,h2,asm',h3,h4⟩:=LP h (Gf hs hb);exact⟨j',List.mem_cons_of_mem _ h1,h2,asm',h3,h4⟩
theorem N0(hc:Kz P e B.Φ callf){lab:Nat}{o:Oper}(h:(Wb P callf lab o st).By e=some st')(hlab:lab%2=1)(hd:okD o st=true)(I:Inv e B k st a w)
  (hK:∀k' a' w',Inv e B k' st' a' w'->K a' w'):o.wp P a w K Q:=by
 have hd:=KS hd
 unfold Wb at h
 split at h
 ·rename_i v hv;simp only[Xz.By,Option.some.injEq] at h;subst h;refine Ho (pure_run hv I.BM (I.Vi I.Ig) rfl) (hK k _ _ (I.put I.h I.BM (λβ h=>h) hd (λβ hβ=>?_)));have h1:=pure_run (P:=P) (w:=w) hv I.BM (I.Vi I.Ig) rfl;have h2:=pure_run (P:=P) (w:=w) hv I.BM (I.Vi hβ) rfl;exact RF (h1.symm.trans h2)
 ·skip;split at h
  ·
   rename_i t x ix ho;split at h
   ·rename_i len el l of i hu hx hix;split at h
    ·rename_i inf hinf;obtain⟨j,hj,hij,asm',hs',rfl⟩:=LP h I.BM;have hlt:j<len:=List.mem_range.1 hj;have hrun:∀β,Gm k st.hp β->(execOp a.eval o).run P w=.ok (.value (.pointer (some ⟨β l,of+j*inf.size,none⟩))) w:=λβ hβ=>by
      have h1:=Dw (I.Vi hβ) hx;simp only[SV.den,SC.den] at h1;have h2:=Dw (I.Vi hβ) hix;simp only[SV.den,SC.den,hij] at h2;unfold execOp;rw[ho];simp only[h1,h2,Instr.indexAt,asIntOf,Sem.run_bind,Sem.run_pure,Result.andThen_ok,run_underlying hu,Instr.sureAddr];rw[if_pos ⟨by omega,by omega⟩];simp only[Sem.run_bind,Hu hinf,Result.andThen_ok,Sem.run_pure,Addr.add,Int.toNat_natCast];split
      ·rename_i h0;simp[h0]
      ·rfl
     refine Ho (hrun k I.Ig) (hK k _ _ (I.put I.h hs' (λβ h=>h) hd (λβ hβ=>?_)));exact RF ((hrun k I.Ig).symm.trans (hrun β hβ))
    ·simp[Xz.By] at h
   ·simp[Xz.By] at h
  ·
   rename_i t x ho;split at h
   ·rename_i l i hx;split at h
    ·rename_i ty cs hl;split at h
     ·rename_i v hv;simp only[Xz.By,Option.some.injEq] at h;subst h;have hrun:∀β,Gm k st.hp β->(execOp a.eval o).run P w=.ok (.value (v.den e β)) w:=λβ hβ=>by
       have h1:=Dw (I.Vi hβ) hx;simp only[SV.den,SC.den] at h1;have hb:=I.h.heap β hβ _ (Bz hl);unfold execOp;rw[ho];simp only[Sem.run_bind,h1,Instr.loadAt,Instr.sureAddr,Sem.run_pure,Result.andThen_ok,Mu hb hv]
      refine Ho (hrun k I.Ig) (hK k _ _ (I.put I.h I.BM (λβ h=>h) hd (λβ hβ=>?_)));exact RF ((hrun k I.Ig).symm.trans (hrun β hβ))
     ·simp[Xz.By] at h
    ·simp[Xz.By] at h
   ·simp[Xz.By] at h
  ·
   rename_i t ho;split at h
   ·rename_i z hz hl;split at h
    ·rename_i cs hcs;simp only[Xz.By,Option.some.injEq] at h;subst h;obtain⟨inf,hi,hz⟩:=Option.bind_eq_some_iff.1 hz;have hcells:∀β,z.cells=Yj e β cs:=λβ=>by rw[←JR e β hcs,Mz]
     obtain⟨H',hag⟩:=I.h.alloc hlab hl (t:=t) (cs:=cs) (row:=z.cells) (λβ _=>(hcells β).symm);have hr:(execOp a.eval o).run P w=.ok (.value (.pointer (some ⟨w.heap.size,0,none⟩))) (w.alloc (.cells z.cells t)):=by
      unfold execOp;rw[ho];simp[Instr.alloc,zeroValue,typeInfo,hi,hz,newVar,newRow,newObj,Sem.run]
     exact Ho hr (hK _ _ _ (I.put H' I.BM (λβ h=>(hag β h).1) hd (λβ hβ=>by simp[SV.den,SC.den,(hag β hβ).2])))
    ·simp[Xz.By] at h
   ·simp[Xz.By] at h
  ·
   rename_i t x ho;split at h
   ·rename_i cs hcs hl;simp only[Xz.By,Option.some.injEq] at h;subst h;have hcells:∀β,Gm k st.hp β->(a.eval x).cells=Yj e β cs:=λβ hβ=>by rw[I.Vi hβ];exact JR e β hcs
    obtain⟨H',hag⟩:=I.h.alloc hlab hl (t:=t) (cs:=cs) (row:=(a.eval x).cells) (λβ hβ=>(hcells β hβ).symm);have hr:(execOp a.eval o).run P w=.ok (.value (.pointer (some ⟨w.heap.size,0,none⟩))) (w.alloc (.cells (a.eval x).cells t)):=by
     unfold execOp;rw[ho];simp[Instr.box,newVar,newRow,newObj,Sem.run]
    exact Ho hr (hK _ _ _ (I.put H' I.BM (λβ h=>(hag β h).1) hd (λβ hβ=>by simp[SV.den,SC.den,(hag β hβ).2])))
   ·simp[Xz.By] at h
  ·
   rename_i t x y ho;split at h
   ·rename_i l i vs inf hx hvs hi;split at h
    ·rename_i ty cs hl;split at h
     ·rename_i hcond;obtain⟨hsz,hfit,hone⟩:=hcond;simp only[Xz.By,Option.some.injEq] at h;subst h;have hcells:∀β,Gm k st.hp β->(a.eval y).cells=Yj e β vs:=λβ hβ=>by rw[I.Vi hβ];exact JR e β hvs
      have hb:=I.h.heap k I.Ig _ (Bz hl);have hp:=Dw (I.Vi I.Ig) hx;simp only[SV.den,SC.den] at hp;have hrow:∀β,Gm k st.hp β->Yj e β (splice cs i vs)=Yj e k (splice cs i vs):=λβ hβ=>by
       have h1:=I.h.heap β hβ _ (Bz hl);rw[hβ.2 _ (Bz hl)] at h1;have h2:Yj e β cs=Yj e k cs:=bk_inj h1 hb;have h3:Yj e β vs=Yj e k vs:=by rw[←hcells β hβ,←hcells k I.Ig]
       rw[GU,GU,h2,h3]
      obtain⟨H',hag⟩:=I.h.store hl hrow;have hr:(execOp a.eval o).run P w=.ok .skip (w.setRow (k l) (Yj e k (splice cs i vs))):=by
       unfold execOp;rw[ho];have hst:=run_storeCells_at (P:=P) (k l) i ty ((Yj e k vs).toList) 0 (Yj e k cs) w hb (by simp[Ia,GS];omega) (oX e k hone);simp only[Nat.add_zero] at hst;rw[GU];have hlen:(Yj e k vs).toList.length=vs.length:=by simp[GS]
       rw[hlen] at hst;simp only[Sem.run_bind,hp,Instr.storeAt,Instr.sureAddr,Sem.run_pure,Result.andThen_ok,storeVar,Hu hi,hcells k I.Ig,Ia];rw[if_neg (by simp[hsz])];rw[hst];rfl
      exact iJ hr (hK _ _ _ (I.put H' I.BM hag hd (λβ hβ=>rfl)))
     ·simp[Xz.By] at h
    ·simp[Xz.By] at h
   ·simp[Xz.By] at h
  ·
   rename_i c ho;split at h
   ·rename_i f hcal;split at h
    ·simp[Xz.By] at h
    rename_i hnf;rw [B7] at h;obtain ⟨⟨v,s'⟩,hsel,h⟩:=Option.bind_eq_some_iff.1 h;simp only [Xz.By,Option.some.injEq] at h;subst h;obtain ⟨F,hst,hF⟩:=I.h.start;have hen0:=hc f _ st v s' hsel k w F hst I.BM (c.args.map a.eval) (fun β hβ=>by
     apply Array.toList_inj.1;simp only[Array.toList_map,List.map_map];exact List.map_congr_left λx _=>I.Vi hβ x)
    unfold AI at hen0;rw[if_neg hnf] at hen0;obtain⟨hcf,hcalls⟩:=hen0;have hr:(execOp a.eval o).run P w=.ok (.enter f (c.args.map a.eval)) w:=by
     unfold execOp;rw[ho];simp only[Sem.run_bind,resolve,hcal,Act.eval,Deferred.ofValue,Sem.run_pure,Result.andThen_ok,invoke];rw[show(#[]:Array Value)++Array.map (λx=>a.eval x) c.args++#[]=c.args.map a.eval by simp];exact hcf
    unfold Oper.wp;rw [hr];simp only [Oper.upon];refine hcalls.mono fun en w' hpost=>?_;obtain ⟨k',H',hs',hen⟩:=hpost;have H2:=I.h.trans hF H';have hag:∀ β,Gm k' s'.hp β→Gm k st.hp β:=fun β hβ=>⟨hβ.1,fun x hx=>by
     obtain⟨y,hy,hyx⟩:=H'.Bb x.1 (Bc.2 ⟨x,hx,rfl⟩);rw[←hyx,hβ.2 y hy,hyx];exact H'.ext x.1 (Bc.2 ⟨x,hx,rfl⟩)⟩
    have h0:=hen k' H'.Ig;subst h0;refine hK k' _ _ (I.put H2 hs' hag hd (λβ hβ=>?_));exact Zt (hen β hβ)
   ·
    rename_i t name hcal;split at h
    ·rename_i hname;subst hname;rw [B7] at h;obtain ⟨⟨v,s'⟩,hsel,h⟩:=Option.bind_eq_some_iff.1 h;simp only [Xz.By,Option.some.injEq] at h;subst h;obtain ⟨F,hst,hF⟩:=I.h.start;have hen0:=hc Dl _ st v s' hsel k w F hst I.BM (#[a.eval t]++c.args.map a.eval) (fun β hβ=>by
      apply Array.toList_inj.1;simp only[Array.toList_map,Array.toList_append,List.map_map,List.map_cons,List.cons_append,List.nil_append];rw[I.Vi hβ t];congr 1;exact List.map_congr_left λx _=>I.Vi hβ x)
     unfold AI at hen0;rw[if_pos rfl] at hen0;obtain⟨recv,f',a',hrecv,hcm,hcalls⟩:=hen0;have hr:(execOp a.eval o).run P w=.ok (.enter f' a') w:=by
      unfold execOp;rw[ho];simp only[Sem.run_bind,resolve,hcal,Sem.run_pure,Result.andThen_ok,invoke,hrecv];simpa only[Array.append_empty] using hcm
     unfold Oper.wp;rw [hr];simp only [Oper.upon];refine hcalls.mono fun en w' hpost=>?_;obtain ⟨k',H',hs',hen⟩:=hpost;have H2:=I.h.trans hF H';have hag:∀ β,Gm k' s'.hp β→Gm k st.hp β:=fun β hβ=>⟨hβ.1,fun x hx=>by
      obtain⟨y,hy,hyx⟩:=H'.Bb x.1 (Bc.2 ⟨x,hx,rfl⟩);rw[←hyx,hβ.2 y hy,hyx];exact H'.ext x.1 (Bc.2 ⟨x,hx,rfl⟩)⟩
     have h0:=hen k' H'.Ig;subst h0;refine hK k' _ _ (I.put H2 hs' hag hd (λβ hβ=>?_));exact Zt (hen β hβ)
    ·simp[Xz.By] at h
   ·
    rename_i hcal;split at h
    ·rename_i i n el hargs hty;split at h
     ·rename_i hk;simp only[Xz.By,Option.some.injEq] at h;subst h;have hge:0<=n.den e:=by
       have h1:=Ei I.BM (.le (.lit 0) n);rw[hk] at h1;exact of_decide_eq_true h1.symm
      obtain⟨t,ht,hu⟩:=Option.bind_eq_some_iff.1 hty;have hrun:(execOp a.eval o).run P w=.ok (.value (.int .i64 (n.den e))) w:=by
       have hx:(c.args.map a.eval).toList=[Value.slice (ZJ (e.val i)).1 (n.den e).toNat (ZJ (e.val i)).2]:=by
        rw[Array.toList_map];have h2:=congrArg (List.map (SV.den e k)) hargs;simp only[List.map_map,List.map_cons,List.map_nil,SV.den,SC.den] at h2;rw[←h2];exact List.map_congr_left λy _=>I.Vi I.Ig y
       have hx2:c.args.map a.eval=#[Value.slice (ZJ (e.val i)).1 (n.den e).toNat (ZJ (e.val i)).2]:=Array.toList_inj.1 hx;have hgo:goInt (n.den e).toNat=.int .i64 (n.den e):=by
        show Value.int .i64 (((n.den e).toNat:Nat):Int)=_;rw[Int.toNat_of_nonneg hge]
       unfold execOp;rw[ho];simp only[Sem.run_bind,resolve,hcal,Act.eval,Sem.run_pure,Result.andThen_ok,invoke];simp[hx2,builtin,Builtin.len_,ht,run_underlying hu,show max (n.den e) 0=n.den e from by omega,goInt]
      exact Ho hrun (hK k _ _ (I.put I.h I.BM (λβ h=>h) hd (λβ hβ=>rfl)))
     ·simp[Xz.By] at h
    ·simp[Xz.By] at h
   ·simp[Xz.By] at h
  ·simp[Xz.By] at h
end
section
variable{P:Program}{e:Env}{B:Sr}{k:Nat->Nat}{st st':St}{a:Act}{w:World}{callf:Nat->List SV->St->Xz (SV × St)}{K:Act->World->Prop}{Q:Exit->Act->World->Prop}
theorem Inv.Na(I:Inv e B k st a w){b:BT}{v:Bool}(h:b.den e=v):Inv e B k {st with BM:=IC b v st.BM} a w:=
 ⟨I.h,⟨I.f.defers,I.f.sz,I.f.tmps⟩,Gf I.BM h⟩
theorem KV(j n:Nat):LO j n/rA=j:=by
 unfold LO rA;omega
theorem Inv.bump (I:Inv e B k st a w):Inv e B k (bump st) a w:=⟨by
 have h:=I.h;have e1:(_root_.Go.Proofs.YtaipogljokblkaaGreatDoor.bump st).ph=st.ph:=KV _ _;rw[e1];exact h,⟨I.f.defers,I.f.sz,I.f.tmps⟩,I.BM⟩
theorem Inv.drew(I:Inv e B k st a w):Inv e B k st a w.drew:=⟨I.h.drew,I.f,I.BM⟩
theorem Ml(hc:Kz P e B.Φ callf){ops:Array Oper}{lab:Nat}{o:Oper}(h:(Nw P callf ops lab o st).By e=some st')(hlab:lab%2=1)(I:Inv e B k st a w)
  (hK:∀k' a' w',Inv e B k' st' a' w'->K a' w'):if Region.wanted o (yielded ops a.tmps)=true then o.wp P a w K Q else K (a.put o.dst undef) w:=by
 unfold Nw at h
 split at h
 ·simp[Xz.By] at h
 ·rename_i hd;have hd:okD o st=true:=by simpa using hd
  split at h
  ·simp[Xz.By] at h
  ·rename_i hg;rw[LQ I hg];simp only[BT.den,if_true];exact N0 hc h hlab hd I hK
  ·rename_i hg;rw[LQ I hg];simp only[Xz.By,Option.some.injEq] at h;subst h;simp only[BT.den,Bool.false_eq_true,if_false];exact hK k _ _ (I.put I.h I.BM (λβ h=>h) (KS hd) (λβ _=>rfl))
  ·rename_i g _ _ hg;rw[LQ I hg];simp only[Xz.By] at h;cases hb:g.den e with
   |true=>
    rw[hb] at h;simp only[if_true];exact N0 hc h hlab hd (I.Na hb) hK
   |false=>
    rw[hb] at h;simp only[Option.some.injEq] at h;subst h;simp only[Bool.false_eq_true,if_false];have I':=I.Na hb;exact hK k _ _ (I'.put I'.h I'.BM (λβ h=>h) (KS hd) (λβ _=>rfl))
theorem Nz(hc:Kz P e B.Φ callf){ops:Array Oper}(hQ:∀k' a' w',Inv e B k' st' a' w'->Q .normal a' w'):∀(rest:List Oper) (j:Nat) (st:St) (k:Nat->Nat) (a:Act) (w:World),
  (kZ P callf ops rest j st).By e=some st'->Inv e B k st a w->wpList P ops Q rest a w
 |[],j,st,k,a,w,h,I=>by
  simp only[kZ,Xz.By,Option.some.injEq] at h;subst h;exact hQ k a w I
 |o::rest,j,st,k,a,w,h,I=>by
  simp only[kZ] at h;rw[B7] at h;obtain⟨s1,h1,h2⟩:=Option.bind_eq_some_iff.1 h;have:=Ml (Q:=Q) (K:=wpList P ops Q rest) hc h1 Zo I (λk' a' w' I'=>Nz hc hQ rest (j+1) s1 k' a' w' h2 I');unfold wpList;split
  ·rename_i hw;rw[if_pos hw] at this;exact Or.inl this
  ·rename_i hw;rw[if_neg hw] at this;exact this
end
theorem nU{a b:Value}(h:nW a b=true):a=b:=by
 unfold nW at h;split at h<;>first
  |rfl
  |(simp at h;done)
  |(simp only[Bool.and_eq_true,decide_eq_true_eq] at h;rw[h.1,h.2];done)
  |(simp only[beq_iff_eq] at h;rw[h];done)
  |(simp only[decide_eq_true_eq] at h;rw[h];done)
  |(simp only[Bool.and_eq_true,beq_iff_eq] at h;rw[Array.eq_empty_of_size_eq_zero h.1,Array.eq_empty_of_size_eq_zero h.2];done)
theorem SC.BG{x y:SC}(h:x.same y=true):x=y:=by
 unfold SC.same at h;split at h<;>first
  |(rw[nU h];done)
  |(simp only[decide_eq_true_eq] at h;rw[h];done)
  |(simp only[Bool.and_eq_true,decide_eq_true_eq] at h;rw[h.1,h.2];done)
  |(simp only[Bool.and_eq_true,decide_eq_true_eq] at h;rw[h.1.1,h.1.2,h.2];done)
  |(simp at h;done)
theorem BS{α:Type}{f:α->α->Bool}(hf:∀x y,f x y=true->x=y):∀{l m:List α},Ey f l m=true->l=m
 |[],[],_=>rfl
 |x::r,y::s,h=>by
  simp only[Ey,Bool.and_eq_true] at h;rw[hf x y h.1,BS hf h.2]
 |[],_::_,h=>by simp[Ey] at h
 |_::_,[],h=>by simp[Ey] at h
theorem SV.BG{x y:SV}(h:x.same y=true):x=y:=by
 unfold SV.same at h;split at h
 ·rw[SC.BG h]
 ·rw[BS (λ_ _=>SC.BG) h]
 ·rw [BS (fun p q hpq=>by
   simp only[Bool.and_eq_true,beq_iff_eq] at hpq;exact Prod.ext hpq.1 (BS (λ_ _=>SC.BG) hpq.2)) h]
 ·simp at h
theorem St.BG{s t:St}(h:s.same t=true):s=t:=by
 obtain ⟨a1,a2,a3,a4,a5⟩:=s;obtain ⟨b1,b2,b3,b4,b5⟩:=t;simp only [St.same,Bool.and_eq_true,decide_eq_true_eq] at h;obtain ⟨⟨⟨⟨h1,h2⟩,h3⟩,h4⟩,h5⟩:=h;rw [BS (fun p q hpq=>by
   simp only[Bool.and_eq_true,decide_eq_true_eq] at hpq
   exact Prod.ext hpq.1 (SV.BG hpq.2)) h1,
  BS (fun p q hpq=>by
   simp only[Bool.and_eq_true,decide_eq_true_eq] at hpq;exact Prod.ext hpq.1.1 (Prod.ext hpq.1.2 (BS (λ_ _=>SC.BG) hpq.2))) h2,
  BS (λp q hpq=>by simpa using hpq) h3,h4,h5]
theorem Xz.BG:∀{x y:Xz St},x.same y=true->x=y
 |.leaf s,.leaf t,h=>by rw[St.BG h]
 |.br b x y,.br c u v,h=>by
  simp only[Xz.same,Bool.and_eq_true,decide_eq_true_eq] at h;rw[h.1.1,Xz.BG h.1.2,Xz.BG h.2]
 |.leaf _,.br _ _ _,h=>by simp[Xz.same] at h
 |.leaf _,.fail _,h=>by simp[Xz.same] at h
 |.br _ _ _,.leaf _,h=>by simp[Xz.same] at h
 |.br _ _ _,.fail _,h=>by simp[Xz.same] at h
 |.fail _,.leaf _,h=>by simp[Xz.same] at h
 |.fail _,.br _ _ _,h=>by simp[Xz.same] at h
 |.fail _,.fail _,h=>by simp[Xz.same] at h
def O9(n L:Nat):Array Bool:=((List.range n).map λi=>L.testBit i).toArray
theorem hU(n:Nat):O9 n 0=Array.replicate n false:=by
 unfold O9;rw[show(λi=>Nat.testBit 0 i)=Function.const Nat false from funext λi=>by simp,List.map_const];simp
theorem J6(n L i:Nat)(d:Bool):(O9 n L).getD i d=if i<n then L.testBit i else d:=by
 unfold O9;by_cases h:i<n
 ·simp[h,Array.getD_eq_getD_getElem?]
 ·simp[h,Array.getD_eq_getD_getElem?]
theorem Mk(L i j:Nat):(L|||(1<<<i)).testBit j=(L.testBit j||decide (i=j)):=by
 rw[Nat.testBit_or,Nat.one_shiftLeft,Nat.testBit_two_pow]
theorem UT(n L i:Nat):(O9 n L).setIfInBounds i true=O9 n (L|||(1<<<i)):=by
 unfold O9;apply Array.ext_getElem?;intro j;rw[Array.getElem?_setIfInBounds];simp only[List.getElem?_toArray,List.getElem?_map,List.size_toArray,List.length_map,List.length_range];by_cases h:i=j
 ·subst h;by_cases hn:i<n
  ·simp[hn,Mk]
  ·simp[hn]
 ·simp only[h,if_false];by_cases hn:j<n
  ·rw[List.getElem?_range hn];simp only[Option.map_some,Mk];simp[h]
  ·simp[hn]
theorem bit_lt{n L i:Nat}(hL:L<2^n)(hi:i<n):L|||(1<<<i)<2^n:=by
 rw[Nat.one_shiftLeft];exact Nat.or_lt_two_pow hL (Nat.pow_lt_pow_right Zo hi)
theorem YY(m L:Nat):((m&&& L)==m)=true↔∀k,m.testBit k=true->L.testBit k=true:=by
 rw[beq_iff_eq];constructor
 ·intro h k hk;rw[←h,Nat.testBit_and,Bool.and_eq_true] at hk;exact hk.2
 ·intro h;apply Nat.eq_of_testBit_eq;intro k;rw[Nat.testBit_and];cases hm:m.testBit k with
  |false=>simp
  |true=>simp[h k hm]
theorem Sw(m L:Nat):((m&&& L)==0)=true↔∀k,m.testBit k=true->L.testBit k=false:=by
 rw[beq_iff_eq];constructor
 ·intro h k hk;have:=congrArg (λx=>x.testBit k) h;simpa [Nat.testBit_and,hk] using this
 ·intro h;apply Nat.eq_of_testBit_eq;intro k;rw[Nat.testBit_and];cases hm:m.testBit k with
  |false=>simp
  |true=>simp[h k hm]
theorem Fg:∀(l:List Edge) (k:Nat),(NC l).testBit k=true↔∃e∈l,Region.binds .any e=true/\e.on=k
 |[],k=>by simp[NC]
 |e::r,k=>by
  have ih:=Fg r k;unfold NC;split
  ·rename_i hb;rw[Nat.testBit_or,Bool.or_eq_true,ih,Nat.one_shiftLeft,Nat.testBit_two_pow];simp only[decide_eq_true_eq,List.mem_cons];constructor
   ·rintro(rfl|⟨x,hx,h⟩)
    ·exact⟨e,Or.inl rfl,hb,rfl⟩
    ·exact⟨x,Or.inr hx,h⟩
   ·rintro⟨x,rfl|hx,h⟩
    ·exact Or.inl h.2
    ·exact Or.inr ⟨x,hx,h⟩
  ·rename_i hb;rw[ih];simp only[List.mem_cons];constructor
   ·rintro⟨x,hx,h⟩;exact⟨x,Or.inr hx,h⟩
   ·rintro⟨x,rfl|hx,h⟩
    ·exact absurd h.1 hb
    ·exact⟨x,hx,h⟩
theorem Hc:∀(l:List Nat) (k:Nat),(Mt l).testBit k=true↔k∈l
 |[],k=>by simp[Mt]
 |t::r,k=>by
  unfold Mt;rw[Nat.testBit_or,Bool.or_eq_true,Hc r k,Nat.one_shiftLeft,Nat.testBit_two_pow];simp[eq_comm]
section
variable{ops:Array Oper}
theorem Gj:∀(l:List Oper) (i:Nat),(EJ ops l)[i]?=(l[i]?).map λo=>⟨NC o.after.toList,Mt (o.looksAt ops),U9 o.dst,KN o.op&&o.guard.isNone⟩
 |[],i=>by simp[EJ]
 |o::r,0=>by simp[EJ]
 |o::r,i+1=>by simp[EJ,Gj r i]
theorem Iy(L:Nat):∀(inf:List YJ) (i j:Nat),j∈Hf L inf i↔∃x,i<=j/\inf[j-i]?=some x/\L.testBit j=false/\((x.pred&&& L)==x.pred)=true
 |[],i,j=>by simp[Hf]
 |x::r,i,j=>by
  have ih:=Iy L r (i+1) j;have step:(∃y,i+1<=j/\r[j-(i+1)]?=some y/\L.testBit j=false/\((y.pred&&& L)==y.pred)=true)↔(∃y,i<=j/\j≠i/\(x::r)[j-i]?=some y/\L.testBit j=false/\((y.pred&&& L)==y.pred)=true):=by
   constructor
   ·rintro⟨y,h1,h2,h3⟩;refine⟨y,by omega,by omega,?_,h3⟩;rw[show j-i=(j-(i+1))+1 by omega];simpa using h2
   ·rintro⟨y,h1,h0,h2,h3⟩;refine⟨y,by omega,?_,h3⟩;rw[show j-i=(j-(i+1))+1 by omega] at h2;simpa using h2
  unfold Hf;split
  ·rename_i hc;simp only[Bool.and_eq_true,Bool.not_eq_true'] at hc;rw[List.mem_cons,ih,step];constructor
   ·rintro(rfl|⟨y,h1,_,h2⟩)
    ·exact⟨x,Nat.le_refl _,by simp,hc.1,hc.2⟩
    ·exact⟨y,h1,h2⟩
   ·rintro⟨y,h1,h2⟩;by_cases hji:j=i
    ·exact Or.inl hji
    ·exact Or.inr ⟨y,h1,hji,h2⟩
  ·rename_i hc;rw[ih,step];constructor
   ·rintro⟨y,h1,_,h2⟩;exact⟨y,h1,h2⟩
   ·rintro⟨y,h1,h2,h3,h4⟩;by_cases hji:j=i
    ·subst hji;simp only[Nat.sub_self,List.getElem?_cons_zero,Option.some.injEq] at h2;subst h2;exact absurd (by simp only[Bool.and_eq_true,Bool.not_eq_true'];exact⟨h3,h4⟩) hc
    ·exact⟨y,h1,hji,h2,h3,h4⟩
theorem JF{L:Nat}(hL:L<2^ops.size)(j:Nat):j∈Region.ready .any ops (O9 ops.size L)↔j∈Hf L (EJ ops ops.toList) 0:=by
 rw[mem_ready,Iy];simp only[Nat.zero_le,Nat.sub_zero,true_and,Gj,Array.getElem?_toList];have hbit:∀i,ops.size<=i->L.testBit i=false:=λi hi=>Nat.testBit_lt_two_pow (Nat.lt_of_lt_of_le hL (Nat.pow_le_pow_right Zo hi));constructor
 ·rintro⟨h1,o,ho,h2⟩;have hlt:j<ops.size:=(Array.getElem?_eq_some_iff.1 ho).1;rw[J6,if_pos hlt] at h1;refine⟨_,by rw[ho];rfl,h1,(YY _ _).2 λk hk=>?_⟩;obtain⟨e,he,hb,rfl⟩:=(Fg _ _).1 hk;have h3:=h2 e (Array.mem_toList_iff.1 he) hb;rw[J6] at h3;split at h3
  ·exact h3
  ·cases h3
 ·rintro⟨x,hx,h1,h2⟩;cases ho:ops[j]? with
  |none=>rw[ho] at hx;cases hx
  |some o=>
   have hlt:j<ops.size:=(Array.getElem?_eq_some_iff.1 ho).1;rw[ho] at hx;cases hx;refine⟨by rw[J6,if_pos hlt];exact h1,o,rfl,λe he hb=>?_⟩;have h3:=(YY _ _).1 h2 e.on ((Fg _ _).2 ⟨e,Array.mem_toList_iff.2 he,hb,rfl⟩);rw[J6];split
   ·exact h3
   ·rename_i hn;rw[hbit e.on Zo] at h3;cases h3
theorem Oe{L i:Nat}{xi:YJ}:∀(inf:List YJ) (j0:Nat),Uy L i xi inf j0=true->∀j y,j0<=j->inf[j-j0]?=some y->
  j=i\/L.testBit j=true\/y.pred.testBit i=true\/(((xi.dst&&& (y.look|||y.dst))==0)=true/\((y.dst&&& xi.look)==0)=true)
 |[],j0,_,j,y,_,h=>by simp at h
 |z::r,j0,h,j,y,hj,hy=>by
  simp only[Uy,Bool.and_eq_true] at h;by_cases h0:j=j0
  ·subst h0;simp only[Nat.sub_self,List.getElem?_cons_zero,Option.some.injEq] at hy;subst hy;have h1:=h.1;simp only[Bool.or_eq_true,Bool.and_eq_true,beq_iff_eq] at h1;rcases h1 with((h1|h1)|h1)|h1
   ·exact Or.inl h1
   ·exact Or.inr (Or.inl h1)
   ·exact Or.inr (Or.inr (Or.inl h1))
   ·exact Or.inr (Or.inr (Or.inr (by simpa using h1)))
  ·refine Oe r (j0+1) h.2 j y Zo ?_;rw[show j-j0=(j-(j0+1))+1 by omega] at hy;simpa using hy
theorem Ot{d:Option Nat}{k:Nat}:(U9 d).testBit k=true↔d=some k:=by
 cases d with
 |none=>simp[U9]
 |some d=>simp only[U9,Nat.one_shiftLeft,Nat.testBit_two_pow];simp
theorem qG{x y:Oper}(h1:((U9 x.dst&&& (Mt (y.looksAt ops)|||U9 y.dst))==0)=true)(h2:((U9 y.dst&&& Mt (x.looksAt ops))==0)=true):x.apart ops y=true:=by
 unfold Oper.apart;rw[Bool.and_eq_true];constructor
 ·cases hx:x.dst with
  |none=>rfl
  |some d=>
   rw[hx] at h1;have h3:=(Sw _ _).1 h1 d (Ot.2 rfl);rw[Nat.testBit_or,Bool.or_eq_false_iff] at h3;simp only[Bool.and_eq_true,Bool.not_eq_true',bne_iff_ne,ne_eq];constructor
   ·cases hc:(y.looksAt ops).contains d with
    |false=>rfl
    |true=>
     have:=(Hc (y.looksAt ops) d).2 (by simpa using hc);rw[this] at h3;cases h3.1
   ·intro hy;have:=Ot.2 hy;rw[this] at h3;cases h3.2
 ·cases hy:y.dst with
  |none=>rfl
  |some d=>
   rw[hy] at h2;have h3:=(Sw _ _).1 h2 d (Ot.2 rfl);simp only[Bool.not_eq_true'];cases hc:(x.looksAt ops).contains d with
   |false=>rfl
   |true=>
    have:=(Hc (x.looksAt ops) d).2 (by simpa using hc);rw[this] at h3;cases h3
theorem Jf{L:Nat}{inf:List YJ}:∀(r:List YJ) (i0 i:Nat),ND L inf r i0=some i->∃x,i0<=i/\r[i-i0]?=some x/\x.plain=true/\L.testBit i=false/\((x.pred&&& L)==x.pred)=true/\Uy L i x inf 0=true
 |[],i0,i,h=>by cases h
 |x::r,i0,i,h=>by
  unfold ND at h;split at h
  ·rename_i hc;cases h;simp only[Bool.and_eq_true,Bool.not_eq_true'] at hc;exact⟨x,Nat.le_refl _,by simp,hc.1.1.1,hc.1.1.2,hc.1.2,hc.2⟩
  ·obtain⟨y,h1,h2,h3⟩:=Jf r (i0+1) i h;refine⟨y,by omega,?_,h3⟩;rw[show i-i0=(i-(i0+1))+1 by omega];simpa using h2
end
def OP(e:Env)(B:Sr)(st:St):Exit->Act->World->Prop:=λx a w=>x=.normal/\∃k,Inv e B k st a w
section
variable{P:Program}{e:Env}{B:Sr}{callf:Nat->List SV->St->Xz (SV × St)}{ops:Array Oper}
theorem KZ{inf:List YJ}:∀{nds ss:List Node},MY P callf ops inf nds=some ss->
  (∀nd∈nds,FK inf nd.1≠[]/\∀i∈FK inf nd.1,Sg P callf ops nd i∈ss)/\∀s∈ss,∃nd∈nds,∃i∈FK inf nd.1,s=Sg P callf ops nd i
 |[],ss,h=>by cases h;exact⟨λ_ h=>absurd h Zs,λ_ h=>absurd h Zs⟩
 |nd::r,ss,h=>by
  unfold MY at h;split at h
  ·cases h
  ·rename_i p ps hp;split at h
   ·rename_i l hl;cases h;obtain⟨ih1,ih2⟩:=KZ hl;refine⟨λx hx=>?_,λs hs=>?_⟩
    ·rcases List.mem_cons.1 hx with rfl|hx
     ·rw[hp];exact⟨by simp,λi hi=>List.mem_append.2 (Or.inl (List.mem_map.2 ⟨i,hi,rfl⟩))⟩
     ·exact⟨(ih1 x hx).1,λi hi=>List.mem_append.2 (Or.inr ((ih1 x hx).2 i hi))⟩
    ·rcases List.mem_append.1 hs with hs|hs
     ·obtain⟨i,hi,rfl⟩:=List.mem_map.1 hs;exact⟨nd,by simp,i,by rw[hp];exact hi,rfl⟩
     ·obtain⟨x,hx,i,hi,e1⟩:=ih2 s hs;exact⟨x,by simp[hx],i,hi,e1⟩
   ·cases h
theorem Qo{L:Nat}{T:Xz St}:∀{BN:List Node},ZO L BN=some T->(L,T)∈BN
 |[],h=>by cases h
 |n::r,h=>by
  unfold ZO at h;split at h
  ·rename_i hn;cases h;simp only[beq_iff_eq] at hn;subst hn;simp
  ·exact List.mem_cons_of_mem _ (Qo h)
theorem Jh:∀{ss BN ns:List Node},NN ss BN=some ns->(∀s∈ss,s∈ns)/\(∀s∈BN,s∈ns)/\∀n∈ns,n∈ss\/n∈BN
 |[],BN,ns,h=>by cases h;exact⟨λ_ h=>absurd h Zs,λs h=>h,λn h=>Or.inr h⟩
 |s::r,BN,ns,h=>by
  unfold NN at h;split at h
  ·rename_i T hT;split at h
   ·rename_i hsame;obtain⟨h1,h2,h3⟩:=Jh h;have hs:s∈BN:=by
     have:=Qo hT;rw[←Xz.BG hsame] at this;exact this
    refine⟨λx hx=>?_,h2,λn hn=>?_⟩
    ·rcases List.mem_cons.1 hx with rfl|hx
     ·exact h2 _ hs
     ·exact h1 x hx
    ·rcases h3 n hn with h|h
     ·exact Or.inl (List.mem_cons_of_mem _ h)
     ·exact Or.inr h
   ·cases h
  ·obtain⟨h1,h2,h3⟩:=Jh h;refine⟨λx hx=>?_,λx hx=>h2 x (List.mem_cons_of_mem _ hx),λn hn=>?_⟩
   ·rcases List.mem_cons.1 hx with rfl|hx
    ·exact h2 _ Zs
    ·exact h1 x hx
   ·rcases h3 n hn with h|h
    ·exact Or.inl (List.mem_cons_of_mem _ h)
    ·rcases List.mem_cons.1 h with rfl|h
     ·exact Or.inl Zs
     ·exact Or.inr h
theorem Ua{L i:Nat}(h:i∈FK (EJ ops ops.toList) L):i<ops.size:=by
 have key:∀x,(EJ ops ops.toList)[i]?=some x->i<ops.size:=λx hx=>by
  rw[Gj,Array.getElem?_toList] at hx;cases ho:ops[i]? with
  |none=>rw[ho] at hx;cases hx
  |some o=>exact(Array.getElem?_eq_some_iff.1 ho).1
 unfold FK at h;split at h
 ·rename_i j hj;rw[List.mem_singleton] at h;subst h;obtain⟨x,_,hx,_⟩:=Jf _ _ _ hj;exact key x (by simpa using hx)
 ·obtain⟨x,_,hx,_⟩:=(Iy _ _ _ _).1 h;exact key x (by simpa using hx)
theorem nD{fr:Vk}{s:FH}{op:Op}(h:KN op=true)(hn:PJ P fr s op=none){lab:Nat}{o:Oper}(ho:o.op=op){st:St}(hf:st.fr=fr)(hs:st.BM=s):∃why,Wb P callf lab o st=.fail why:=by
 unfold Wb;rw[ho,hf,hs,hn];cases op<;>first|(cases h;done)|exact⟨_,rfl⟩
theorem eF{st st':St}{lab:Nat}{o:Oper}(h:(Nw P callf ops lab o st).By e=some st')(hp:KN o.op=true)(hg:o.guard=none):
  okD o st=true/\∃v,PJ P st.fr st.BM o.op=some v/\st'=Dc o.dst v st:=by
 unfold Nw at h
 split at h
 ·simp[Xz.By] at h
 ·rename_i hd;have hg':NZ ops o st=some (.lit true):=by unfold NZ;rw[hg]
  rw[hg'] at h;simp only at h;refine⟨by simpa using hd,?_⟩;cases hv:PJ P st.fr st.BM o.op with
  |none=>
   obtain⟨why,hw⟩:=nD (callf:=callf) hp hv (lab:=lab) (o:=o) rfl (st:=st) rfl rfl;rw[hw] at h;simp[Xz.By] at h
  |some v=>
   unfold Wb at h;rw[hv] at h;simp only[Xz.By,Option.some.injEq] at h;exact⟨v,rfl,h.symm⟩
theorem Q6(hc:Kz P e B.Φ callf)(hsel:Region.noSelect ops=true):∀(m:Nat) (nds:List Node) (T:Xz St) (stF:St),pY P callf ops (EJ ops ops.toList) m nds=some T->T.By e=some stF->
  (∀nd∈nds,nd.1<2^ops.size)->∀nd∈nds,∃st,nd.2.By e=some st/\∀k a w,Inv e B k st a w->wpAny P .any ops (OP e B stF) m (O9 ops.size nd.1) a w
 |0,nds,T,stF,h,hT,hb,nd,hnd=>by
  unfold pY at h;split at h
  ·rename_i L T';split at h
   ·rename_i hr;cases h;rw[List.mem_singleton] at hnd;subst hnd;refine⟨stF,hT,λk a w I=>⟨?_,rfl,k,I⟩⟩;apply List.eq_nil_iff_forall_not_mem.2;intro j hj;have:=(JF (hb _ Zs) j).1 hj;rw[hr] at this;cases this
   ·cases h
  ·cases h
 |m+1,nds,T,stF,h,hT,hb,nd,hnd=>by
  unfold pY at h;split at h
  ·rename_i ss hss;split at h
   ·rename_i ns hns;obtain⟨e1,e2⟩:=KZ hss;obtain⟨m1,_,m3⟩:=Jh hns;have hbn:∀n∈ns,n.1<2^ops.size:=λn hn=>by
     rcases m3 n hn with h1|h1
     ·obtain⟨x,hx,i,hi,rfl⟩:=e2 n h1;exact bit_lt (hb x hx) (Ua hi)
     ·cases h1
    have ih:=Q6 hc hsel m ns T stF h hT hbn;obtain⟨hne,hpk⟩:=e1 nd hnd;have each:∀i∈FK (EJ ops ops.toList) nd.1,∃st o st',nd.2.By e=some st/\ops[i]?=some o/\(Nw P callf ops (2*(st.nx%rA+i)+1) o st).By e=some st'/\
      ∀k a w,Inv e B k st' a w->wpAny P .any ops (OP e B stF) m (O9 ops.size (nd.1|||(1<<<i))) a w:=λi hi=>by
     obtain⟨st',hs',hw⟩:=ih _ (m1 _ (hpk i hi))
     simp only[Sg] at hs' hw
     rw[B7] at hs'
     obtain⟨st,h1,h2⟩:=Option.bind_eq_some_iff.1 hs'
     have hlt:=Ua hi
     have ho:ops[i]?=some ops[i]:=Array.getElem?_eq_getElem hlt
     rw[ho] at h2
     exact⟨st,ops[i],st',h1,ho,h2,hw⟩
    obtain⟨p,hp⟩:∃p,p∈FK (EJ ops ops.toList) nd.1:=by
     cases hq:FK (EJ ops ops.toList) nd.1 with
     |nil=>exact absurd hq hne
     |cons p ps=>exact⟨p,by simp⟩
    obtain⟨st,o,st',hst,ho,hstep,hnext⟩:=each p hp;refine⟨st,hst,λk a w I=>?_⟩;cases hpl:ND nd.1 (EJ ops ops.toList) (EJ ops ops.toList) 0 with
    |some i=>
     have hpi:p=i:=by
      unfold FK at hp;rw[hpl] at hp;simpa using hp
     subst hpi;obtain⟨x,_,hx,hplain,hbit,hpred,hfree⟩:=Jf _ _ _ hpl;simp only[Nat.sub_zero,Gj,Array.getElem?_toList,ho,Option.map_some,Option.some.injEq] at hx;subst hx;simp only[Bool.and_eq_true,Option.isNone_iff_eq_none] at hplain;obtain⟨hd,v,hv,rfl⟩:=eF hstep hplain.1 hplain.2;have hrun:∀w',(execOp a.eval o).run P w'=.ok (.value (v.den e k)) w':=λw'=>pure_run hv I.BM (I.Vi I.Ig) rfl;have hreadyM:p∈Hf nd.1 (EJ ops ops.toList) 0:=(Iy _ _ _ _).2 ⟨_,Nat.zero_le _,by simp only[Nat.sub_zero,Gj,Array.getElem?_toList,ho,Option.map_some],hbit,hpred⟩;have hw:Region.wanted o (yielded ops a.tmps)=true:=by unfold Region.wanted;rw[hplain.2]
     refine wpAny_first (v:=v.den e k) ho (Region.noSelect_spec hsel) (λc a w hq=>by cases hq.1) m _ a w (λj oj hoj hji hun hno=>?_) ((JF (hb nd hnd) p).2 hreadyM) (Or.inl ⟨hw,λw'=>hrun w'⟩) ?_
     ·have hlt:j<ops.size:=(Array.getElem?_eq_some_iff.1 hoj).1;rw[J6,if_pos hlt] at hun;rcases Oe _ _ hfree j _ (Nat.zero_le _) (by simp only[Nat.sub_zero,Gj,Array.getElem?_toList,hoj,Option.map_some];rfl) with h1|h1|h1|h1
      ·exact absurd h1 hji
      ·rw[hun] at h1;cases h1
      ·obtain⟨ed,he,hbd,hon⟩:=(Fg _ _).1 h1;exact absurd hon (hno ed (Array.mem_toList_iff.1 he) hbd)
      ·exact qG h1.1 h1.2
     ·rw[UT];refine hnext k _ _ (I.put I.h I.BM (λβ h=>h) (KS hd) (λβ hβ=>?_));have h2:=pure_run (P:=P) (w:=w) hv I.BM (I.Vi hβ) rfl;exact RF ((hrun w).symm.trans h2)
    |none=>
     have hpm:FK (EJ ops ops.toList) nd.1=Hf nd.1 (EJ ops ops.toList) 0:=by unfold FK;rw[hpl]
     refine⟨λh0=>?_,λi hi=>?_⟩
     ·rw[hpm] at hp;have:=(JF (hb nd hnd) p).2 hp;rw[h0] at this;cases this
     ·have hi':=(JF (hb nd hnd) i).1 hi;rw[←hpm] at hi';obtain⟨s1,o1,s2,hs1,ho1,hstep1,hnext1⟩:=each i hi';rw[hst] at hs1;cases hs1;rw[UT];have:=Ml (Q:=OP e B stF) (K:=wpAny P .any ops (OP e B stF) m (O9 ops.size (nd.1|||(1<<<i)))) hc hstep1 Zo I hnext1;unfold wpOp;rw[ho1];simp only;split
      ·rename_i hw;rw[if_pos hw] at this;exact Or.inl this
      ·rename_i hw;rw[if_neg hw] at this;exact this
   ·cases h
  ·cases h
theorem Wk(hm:P.follows .mixedOrders=true)(hc:Kz P e B.Φ callf){st st':St}(h:(yR P callf ops st).By e=some st'){k:Nat->Nat}{a:Act}{w:World}(I:Inv e B k st a w)(id:Nat):
  (Code.region id ops true).wp P (OP e B st') a w:=by
 unfold yR at h
 split at h
 ·rename_i hsel;split at h
  ·rename_i T hT;rw[B7] at h;obtain⟨s1,h1,h2⟩:=Option.bind_eq_some_iff.1 h;simp only[Xz.By,Option.some.injEq] at h2;subst h2;obtain⟨st0,h0,hw⟩:=Q6 (B:=B) hc hsel _ _ _ _ hT h1 (λnd hnd=>by have h9:=List.mem_singleton.1 hnd;rw[h9];exact Nat.two_pow_pos _) (0,.leaf st) Zs;simp only[Xz.By,Option.some.injEq] at h0;subst h0;have h3:=hw k a w.drew I.drew;rw[hU] at h3;exact wp_mono (wp_region_any hm h3) λx a w hx=>⟨hx.1,by obtain⟨k,I⟩:=hx.2;exact⟨k,I.bump⟩⟩
  ·simp[Xz.By] at h
 ·simp[Xz.By] at h
end
end Go.Proofs.YtaipogljokblkaaGreatDoor
