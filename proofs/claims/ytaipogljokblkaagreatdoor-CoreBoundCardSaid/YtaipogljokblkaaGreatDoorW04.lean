/- Core: SymG, SymH, SymI, SymJ, SymK. -/
import Derived.Test.YtaipogljokblkaaGreatDoorW03
import Derived.Test.YtaipogljokblkaaGreatDoorW01
set_option linter.all false
set_option maxRecDepth 100000
set_option maxHeartbeats 8000000
namespace Go.Proofs.YtaipogljokblkaaGreatDoor
open Go Go.RowKit
set_option linter.unusedSimpArgs false
set_option linter.unusedVariables false
set_option linter.unusedSectionVars false
structure FInv(e:Env)(k:Nat->Nat)(st:St)(a:Act):Prop where
 defers:a.defers=[]
 sz:st.sz<=a.tmps.size
 tmps:∀β,Gu k st.hp β->∀t,a.tmps.getD t undef=(Ho t st.fr).den e β
structure Inv(e:Env)(B:Tf)(k:Nat->Nat)(st:St)(a:Act)(w:World):Prop where
 h:Cp e B k st.ph st.hp w
 f:FInv e k st a
 BY:AV e st.BY
def JN(e:Env)(Φ:GL)(F:Nat->Prop)(k:Nat->Nat)(s:St)(w:World)(v:SV)(s':St)(en:Ending)(w':World):Prop:=
 ∃k',Cp e ⟨Yi s.hp,k,w,F,Φ⟩ k' s'.ph s'.hp w'/\AV e s'.BY/\∀β,Gu k' s'.hp β->en=.returned (v.den e β)
def AL(P:Program)(f:Nat)(args:Array Value)(w:World)(Q:Ending->World->Prop):Prop:=
 if f=Dy then ∃recv f' a',args[0]?=some recv/\(callMethod recv "Next" (args.extract 1 args.size)).run P w=.ok (.enter f' a') w/\Calls P f' a' w Q
 else(callFunc f args).run P w=.ok (.enter f args) w/\Calls P f args w Q
theorem AL.fn{P:Program}{f:Nat}{args:Array Value}{w:World}{Q:Ending->World->Prop}(hf:¬f=Dy)(h:(callFunc f args).run P w=.ok (.enter f args) w/\Calls P f args w Q):AL P f args w Q:=by
 unfold AL;rw[if_neg hf];exact h
theorem AL.mono{P:Program}{f:Nat}{args:Array Value}{w:World}{Q R:Ending->World->Prop}(h:AL P f args w Q)(hq:∀en w',Q en w'->R en w'):AL P f args w R:=by
 unfold AL at h ⊢;split at h
 ·rename_i hf;obtain⟨recv,f',a',h1,h2,h3⟩:=h;rw[if_pos hf];exact⟨recv,f',a',h1,h2,h3.mono hq⟩
 ·rename_i hf;rw[if_neg hf];exact⟨h.1,h.2.mono hq⟩
def KP(P:Program)(e:Env)(Φ:GL)(callf:Nat->List SV->St->Xz (SV × St)):Prop:=
 ∀f args s v s',(callf f args s).B8 e=some (v,s')->∀k w F,Cp e ⟨Yi s.hp,k,w,F,Φ⟩ k s.ph s.hp w->AV e s.BY->
  ∀args',(∀β,Gu k s.hp β->args'=(args.map (SV.den e β)).toArray)->
   AL P f args' w (JN e Φ F k s w v s')
theorem BG{α β:Type}{e:Env}:∀(t:Xz α) (f:α->Xz β),(t.bind f).B8 e=(t.B8 e).bind λa=>(f a).B8 e
 |.leaf a,f=>rfl
 |.br b t u,f=>by
  simp only[Xz.bind,Xz.B8];cases b.den e
  ·exact BG u f
  ·exact BG t f
 |.fail _,f=>rfl
section
variable{P:Program}{e:Env}{B:Tf}{k:Nat->Nat}{st:St}{a:Act}{w:World}
theorem Inv.VN(I:Inv e B k st a w){β:Nat->Nat}(hβ:Gu k st.hp β):Evs e β a st.fr:=evs_of hβ.1 (I.f.tmps β hβ)
theorem Inv.Iq(I:Inv e B k st a w):Gu k st.hp k:=I.h.Iq
theorem nH(a:Act)(d:Nat)(u:Value)(t:Nat)(h:d<a.tmps.size):(a.put (some d) u).tmps.getD t undef=if t=d then u else a.tmps.getD t undef:=by
 simp only[Act.put,Array.getD_eq_getD_getElem?,Array.getElem?_setIfInBounds];by_cases ht:d=t
 ·subst ht;simp[h]
 ·simp[ht,Ne.symm ht]
theorem Inv.put{k':Nat->Nat}{hp':Yk}{w':World}{asm':FV}{nx':Nat}(I:Inv e B k st a w)(H:Cp e B k' (nx'/rO) hp' w')(hs:AV e asm')(hag:∀β,Gu k' hp' β->Gu k st.hp β)
  {dst:Option Nat}(hd:∀d,dst=some d->d<st.sz){v:SV}{u:Value}(hu:∀β,Gu k' hp' β->u=v.den e β):
  Inv e B k' (DY dst v {st with hp:=hp',BY:=asm',nx:=nx'}) (a.put dst u) w':=by
 cases dst with
 |none=>
  exact⟨H,⟨I.f.defers,I.f.sz,λβ hβ t=>I.f.tmps β (hag β hβ) t⟩,hs⟩
 |some d=>
  have hd':=hd d rfl
  refine⟨H,⟨I.f.defers,?_,λβ hβ t=>?_⟩,hs⟩
  ·simp only[DY,Act.put];rw[Array.size_setIfInBounds];exact I.f.sz
  ·rw[nH a d u t (Nat.lt_of_lt_of_le hd' I.f.sz)];simp only[DY];rw[Rf];split
   ·exact hu β hβ
   ·exact I.f.tmps β (hag β hβ) t
theorem Lq{o:Oper}(h:okD o st=true):∀d,o.dst=some d->d<st.sz:=by
 intro d hd;simp only[okD,hd] at h;simpa using h
theorem M9{ops:Array Oper}{o:Oper}{g:BT}(I:Inv e B k st a w)(h:OM ops o st=some g):Region.wanted o (yielded ops a.tmps)=g.den e:=by
 unfold OM at h;unfold Region.wanted;split at h
 ·rename_i hg;cases h;simp[hg,BT.den]
 ·rename_i j want hg;simp only[hg];split at h
  ·rename_i d hd;split at h
   ·rename_i b hb;have h1:a.tmps.getD d undef=.bool (b.den e):=by rw[I.f.tmps k I.Iq d,hb];rfl
    have h2:a.tmps[d]?=some (.bool (b.den e)):=by
     rw[Array.getD_eq_getD_getElem?] at h1;cases hx:a.tmps[d]? with
     |none=>rw[hx] at h1;simp[undef] at h1
     |some x=>rw[hx] at h1;simp at h1;rw[h1]
    have h3:yielded ops a.tmps j=some (b.den e):=by
     unfold yielded;rw[hd];simp[h2]
    rw[h3];cases h;cases want
    ·simp only[Bool.false_eq_true,if_false];rw[BT.Eu,Es I.BY];cases b.den e<;>rfl
    ·simp only[if_true];rw[Es I.BY];cases b.den e<;>rfl
   ·cases h
  ·cases h
theorem Na{t:TypeId}{g i:Nat}{ty:TypeId}{cs:List SC}{v:SV}{β:Nat->Nat}(hb:Bk w g ty (Ym e β cs))(h:O3 P t cs i=some v):(loadVar t ⟨g,i,none⟩).run P w=.ok (v.den e β) w:=by
 unfold O3 at h;split at h
 ·rename_i inf ha hi;split at h
  ·rename_i hle;cases h;have h1:=run_loadCells_list (P:=P) w ⟨g,i,none⟩ (((cs.drop i).take inf.size).map (SC.den e β)) (fun j u hu=>by
    rw[Addr.add_lit,hb.cell,LG];simp only[List.getElem?_map,List.getElem?_take,List.getElem?_drop] at hu;split at hu
    ·exact hu
    ·cases hu)
   rw[show(List.map (SC.den e β) (List.take inf.size (List.drop i cs))).length=inf.size by simp;omega] at h1;simp only[loadVar,Sem.run_bind,HJ ha,Result.andThen_ok,if_true,Hz hi,h1];rfl
  ·cases h
 ·rename_i inf ha hi;split at h
  ·rename_i x hx;split at h
   ·cases h;simp only[loadVar,Sem.run_bind,HJ ha,Result.andThen_ok,Bool.false_eq_true,if_false];have h1:w.cell? ⟨g,i,none⟩=some (x.den e β):=by rw[hb.cell,LG,hx];rfl
    simp[load,Sem.run,h1,SV.den]
   ·cases h
  ·cases h
 ·cases h
end
section
variable{P:Program}{e:Env}{B:Tf}{k:Nat->Nat}{st st':St}{a:Act}{w:World}{callf:Nat->List SV->St->Xz (SV × St)}{K:Act->World->Prop}{Q:Exit->Act->World->Prop}
theorem SA{x y:Value}{w:World}(h:(Result.ok (Next.value x) w:Result Next)=.ok (.value y) w):x=y:=by
 injection h with h1;injection h1
theorem ZY{x y:Value}(h:Ending.returned x=.returned y):x=y:=by injection h
theorem bk_inj{w:World}{g:Nat}{t u:TypeId}{x y:Array Value}(h:Bk w g t x)(h':Bk w g u y):x=y:=by
 unfold Bk at h h';rw[h] at h';injection h' with h1;injection h1
theorem Hs{o:Oper}{v:Value}{w':World}(hr:(execOp a.eval o).run P w=.ok (.value v) w')(h:K (a.put o.dst v) w'):o.wp P a w K Q:=by
 unfold Oper.wp;rw[hr];exact h
theorem jM{o:Oper}{w':World}(hr:(execOp a.eval o).run P w=.ok .skip w')(h:K (a.put o.dst undef) w'):o.wp P a w K Q:=by
 unfold Oper.wp;rw[hr];exact h
theorem M7{dst:Option Nat}{i:Tm}{l o size:Nat}:∀{js:List Nat} {st st':St},(gW dst i l o size js st).B8 e=some st'->AV e st.BY->
  ∃j∈js,i.den e=(j:Int)/\∃asm',AV e asm'/\st'=DY dst (.c (.ptr l (o+j*size))) {st with BY:=asm'}
 |[],st,st',h,_=>by simp[gW,Xz.B8] at h
 |j::r,st,st',h,hs=>by
  have hk:=Es hs (BT.UR i (.lit (j:Int)));rw[BT.Ik] at hk;unfold gW at h;split at h
  ·rename_i hq;rw[hq] at hk;simp only[Xz.B8,Option.some.injEq] at h;subst h;simp only[BT.den,Tm.den] at hk;exact⟨j,by simp,by simpa using hk.symm,st.BY,hs,rfl⟩
  ·obtain⟨j',h1,h2⟩:=M7 h hs;exact⟨j',List.mem_cons_of_mem _ h1,h2⟩
  ·simp only[Xz.B8] at h;cases hb:(known st.BY (BT.UR i (.lit (j:Int)))).den e with
   |true=>
    rw[hb] at h;simp only[Option.some.injEq] at h;subst h;rw[hb] at hk;simp only[Tm.den] at hk;exact⟨j,by simp,by simpa using hk.symm,_,Gq hs hb,rfl⟩
   |false=>
    rw[hb] at h;obtain⟨j',h1,h2,asm',h3,h4⟩:=M7 h (Gq hs hb);exact⟨j',List.mem_cons_of_mem _ h1,h2,asm',h3,h4⟩
theorem Ot(hc:KP P e B.Φ callf){lab:Nat}{o:Oper}(h:(WN P callf lab o st).B8 e=some st')(hlab:lab%2=1)(hd:okD o st=true)(I:Inv e B k st a w)
  (hK:∀k' a' w',Inv e B k' st' a' w'->K a' w'):o.wp P a w K Q:=by
 have hd:=Lq hd
 unfold WN at h
 split at h
 ·rename_i v hv;simp only[Xz.B8,Option.some.injEq] at h;subst h;refine Hs (pure_run hv I.BY (I.VN I.Iq) rfl) (hK k _ _ (I.put I.h I.BY (λβ h=>h) hd (λβ hβ=>?_)));have h1:=pure_run (P:=P) (w:=w) hv I.BY (I.VN I.Iq) rfl;have h2:=pure_run (P:=P) (w:=w) hv I.BY (I.VN hβ) rfl;exact SA (h1.symm.trans h2)
 ·skip;split at h
  ·
   rename_i t x ix ho;split at h
   ·rename_i len el l of i hu hx hix;split at h
    ·rename_i inf hinf;obtain⟨j,hj,hij,asm',hs',rfl⟩:=M7 h I.BY;have hlt:j<len:=List.mem_range.1 hj;have hrun:∀β,Gu k st.hp β->(execOp a.eval o).run P w=.ok (.value (.pointer (some ⟨β l,of+j*inf.size,none⟩))) w:=λβ hβ=>by
      have h1:=DC (I.VN hβ) hx;simp only[SV.den,SC.den] at h1;have h2:=DC (I.VN hβ) hix;simp only[SV.den,SC.den,hij] at h2;unfold execOp;rw[ho];simp only[h1,h2,Instr.indexAt,asIntOf,Sem.run_bind,Sem.run_pure,Result.andThen_ok,run_underlying hu,Instr.sureAddr];rw[if_pos ⟨by omega,by omega⟩];simp only[Sem.run_bind,Hz hinf,Result.andThen_ok,Sem.run_pure,Addr.add,Int.toNat_natCast];split
      ·rename_i h0;simp[h0]
      ·rfl
     refine Hs (hrun k I.Iq) (hK k _ _ (I.put I.h hs' (λβ h=>h) hd (λβ hβ=>?_)));exact SA ((hrun k I.Iq).symm.trans (hrun β hβ))
    ·simp[Xz.B8] at h
   ·simp[Xz.B8] at h
  ·
   rename_i t x ho;split at h
   ·rename_i l i hx;split at h
    ·rename_i ty cs hl;split at h
     ·rename_i v hv;simp only[Xz.B8,Option.some.injEq] at h;subst h;have hrun:∀β,Gu k st.hp β->(execOp a.eval o).run P w=.ok (.value (v.den e β)) w:=λβ hβ=>by
       have h1:=DC (I.VN hβ) hx;simp only[SV.den,SC.den] at h1;have hb:=I.h.heap β hβ _ (B9 hl);unfold execOp;rw[ho];simp only[Sem.run_bind,h1,Instr.loadAt,Instr.sureAddr,Sem.run_pure,Result.andThen_ok,Na hb hv]
      refine Hs (hrun k I.Iq) (hK k _ _ (I.put I.h I.BY (λβ h=>h) hd (λβ hβ=>?_)));exact SA ((hrun k I.Iq).symm.trans (hrun β hβ))
     ·simp[Xz.B8] at h
    ·simp[Xz.B8] at h
   ·simp[Xz.B8] at h
  ·
   rename_i t ho;split at h
   ·rename_i z hz hl;split at h
    ·rename_i cs hcs;simp only[Xz.B8,Option.some.injEq] at h;subst h;obtain⟨inf,hi,hz⟩:=Option.bind_eq_some_iff.1 hz;have hcells:∀β,z.cells=Ym e β cs:=λβ=>by rw[←Kd e β hcs,Nf]
     obtain⟨H',hag⟩:=I.h.alloc hlab hl (t:=t) (cs:=cs) (row:=z.cells) (λβ _=>(hcells β).symm);have hr:(execOp a.eval o).run P w=.ok (.value (.pointer (some ⟨w.heap.size,0,none⟩))) (w.alloc (.cells z.cells t)):=by
      unfold execOp;rw[ho];simp[Instr.alloc,zeroValue,typeInfo,hi,hz,newVar,newRow,newObj,Sem.run]
     exact Hs hr (hK _ _ _ (I.put H' I.BY (λβ h=>(hag β h).1) hd (λβ hβ=>by simp[SV.den,SC.den,(hag β hβ).2])))
    ·simp[Xz.B8] at h
   ·simp[Xz.B8] at h
  ·
   rename_i t x ho;split at h
   ·rename_i cs hcs hl;simp only[Xz.B8,Option.some.injEq] at h;subst h;have hcells:∀β,Gu k st.hp β->(a.eval x).cells=Ym e β cs:=λβ hβ=>by rw[I.VN hβ];exact Kd e β hcs
    obtain⟨H',hag⟩:=I.h.alloc hlab hl (t:=t) (cs:=cs) (row:=(a.eval x).cells) (λβ hβ=>(hcells β hβ).symm);have hr:(execOp a.eval o).run P w=.ok (.value (.pointer (some ⟨w.heap.size,0,none⟩))) (w.alloc (.cells (a.eval x).cells t)):=by
     unfold execOp;rw[ho];simp[Instr.box,newVar,newRow,newObj,Sem.run]
    exact Hs hr (hK _ _ _ (I.put H' I.BY (λβ h=>(hag β h).1) hd (λβ hβ=>by simp[SV.den,SC.den,(hag β hβ).2])))
   ·simp[Xz.B8] at h
  ·
   rename_i t x y ho;split at h
   ·rename_i l i vs inf hx hvs hi;split at h
    ·rename_i ty cs hl;split at h
     ·rename_i hcond;obtain⟨hsz,hfit,hone⟩:=hcond;simp only[Xz.B8,Option.some.injEq] at h;subst h;have hcells:∀β,Gu k st.hp β->(a.eval y).cells=Ym e β vs:=λβ hβ=>by rw[I.VN hβ];exact Kd e β hvs
      have hb:=I.h.heap k I.Iq _ (B9 hl);have hp:=DC (I.VN I.Iq) hx;simp only[SV.den,SC.den] at hp;have hrow:∀β,Gu k st.hp β->Ym e β (splice cs i vs)=Ym e k (splice cs i vs):=λβ hβ=>by
       have h1:=I.h.heap β hβ _ (B9 hl);rw[hβ.2 _ (B9 hl)] at h1;have h2:Ym e β cs=Ym e k cs:=bk_inj h1 hb;have h3:Ym e β vs=Ym e k vs:=by rw[←hcells β hβ,←hcells k I.Iq]
       rw[GW,GW,h2,h3]
      obtain⟨H',hag⟩:=I.h.store hl hrow;have hr:(execOp a.eval o).run P w=.ok .skip (w.setRow (k l) (Ym e k (splice cs i vs))):=by
       unfold execOp;rw[ho];have hst:=run_storeCells_at (P:=P) (k l) i ty ((Ym e k vs).toList) 0 (Ym e k cs) w hb (by simp[Il,GV];omega) (qL e k hone);simp only[Nat.add_zero] at hst;rw[GW];have hlen:(Ym e k vs).toList.length=vs.length:=by simp[GV]
       rw[hlen] at hst;simp only[Sem.run_bind,hp,Instr.storeAt,Instr.sureAddr,Sem.run_pure,Result.andThen_ok,storeVar,Hz hi,hcells k I.Iq,Il];rw[if_neg (by simp[hsz])];rw[hst];rfl
      exact jM hr (hK _ _ _ (I.put H' I.BY hag hd (λβ hβ=>rfl)))
     ·simp[Xz.B8] at h
    ·simp[Xz.B8] at h
   ·simp[Xz.B8] at h
  ·
   rename_i c ho;split at h
   ·rename_i f hcal;split at h
    ·simp[Xz.B8] at h
    rename_i hnf;rw [BG] at h;obtain ⟨⟨v,s'⟩,hsel,h⟩:=Option.bind_eq_some_iff.1 h;simp only [Xz.B8,Option.some.injEq] at h;subst h;obtain ⟨F,hst,hF⟩:=I.h.start;have hen0:=hc f _ st v s' hsel k w F hst I.BY (c.args.map a.eval) (fun β hβ=>by
     apply Array.toList_inj.1;simp only[Array.toList_map,List.map_map];exact List.map_congr_left λx _=>I.VN hβ x)
    unfold AL at hen0;rw[if_neg hnf] at hen0;obtain⟨hcf,hcalls⟩:=hen0;have hr:(execOp a.eval o).run P w=.ok (.enter f (c.args.map a.eval)) w:=by
     unfold execOp;rw[ho];simp only[Sem.run_bind,resolve,hcal,Act.eval,Deferred.ofValue,Sem.run_pure,Result.andThen_ok,invoke];rw[show(#[]:Array Value)++Array.map (λx=>a.eval x) c.args++#[]=c.args.map a.eval by simp];exact hcf
    unfold Oper.wp;rw [hr];simp only [Oper.upon];refine hcalls.mono fun en w' hpost=>?_;obtain ⟨k',H',hs',hen⟩:=hpost;have H2:=I.h.trans hF H';have hag:∀ β,Gu k' s'.hp β→Gu k st.hp β:=fun β hβ=>⟨hβ.1,fun x hx=>by
     obtain⟨y,hy,hyx⟩:=H'.A1 x.1 (Bd.2 ⟨x,hx,rfl⟩);rw[←hyx,hβ.2 y hy,hyx];exact H'.ext x.1 (Bd.2 ⟨x,hx,rfl⟩)⟩
    have h0:=hen k' H'.Iq;subst h0;refine hK k' _ _ (I.put H2 hs' hag hd (λβ hβ=>?_));exact ZY (hen β hβ)
   ·
    rename_i t name hcal;split at h
    ·rename_i hname;subst hname;rw [BG] at h;obtain ⟨⟨v,s'⟩,hsel,h⟩:=Option.bind_eq_some_iff.1 h;simp only [Xz.B8,Option.some.injEq] at h;subst h;obtain ⟨F,hst,hF⟩:=I.h.start;have hen0:=hc Dy _ st v s' hsel k w F hst I.BY (#[a.eval t]++c.args.map a.eval) (fun β hβ=>by
      apply Array.toList_inj.1;simp only[Array.toList_map,Array.toList_append,List.map_map,List.map_cons,List.cons_append,List.nil_append];rw[I.VN hβ t];congr 1;exact List.map_congr_left λx _=>I.VN hβ x)
     unfold AL at hen0;rw[if_pos rfl] at hen0;obtain⟨recv,f',a',hrecv,hcm,hcalls⟩:=hen0;have hr:(execOp a.eval o).run P w=.ok (.enter f' a') w:=by
      unfold execOp;rw[ho];simp only[Sem.run_bind,resolve,hcal,Sem.run_pure,Result.andThen_ok,invoke,hrecv];simpa only[Array.append_empty] using hcm
     unfold Oper.wp;rw [hr];simp only [Oper.upon];refine hcalls.mono fun en w' hpost=>?_;obtain ⟨k',H',hs',hen⟩:=hpost;have H2:=I.h.trans hF H';have hag:∀ β,Gu k' s'.hp β→Gu k st.hp β:=fun β hβ=>⟨hβ.1,fun x hx=>by
      obtain⟨y,hy,hyx⟩:=H'.A1 x.1 (Bd.2 ⟨x,hx,rfl⟩);rw[←hyx,hβ.2 y hy,hyx];exact H'.ext x.1 (Bd.2 ⟨x,hx,rfl⟩)⟩
     have h0:=hen k' H'.Iq;subst h0;refine hK k' _ _ (I.put H2 hs' hag hd (λβ hβ=>?_));exact ZY (hen β hβ)
    ·simp[Xz.B8] at h
   ·
    rename_i hcal;split at h
    ·rename_i i n el hargs hty;split at h
     ·rename_i hk;simp only[Xz.B8,Option.some.injEq] at h;subst h;have hge:0<=n.den e:=by
       have h1:=Es I.BY (.le (.lit 0) n);rw[hk] at h1;exact of_decide_eq_true h1.symm
      obtain⟨t,ht,hu⟩:=Option.bind_eq_some_iff.1 hty;have hrun:(execOp a.eval o).run P w=.ok (.value (.int .i64 (n.den e))) w:=by
       have hx:(c.args.map a.eval).toList=[Value.slice (jJ (e.val i)).1 (n.den e).toNat (jJ (e.val i)).2]:=by
        rw[Array.toList_map];have h2:=congrArg (List.map (SV.den e k)) hargs;simp only[List.map_map,List.map_cons,List.map_nil,SV.den,SC.den] at h2;rw[←h2];exact List.map_congr_left λy _=>I.VN I.Iq y
       have hx2:c.args.map a.eval=#[Value.slice (jJ (e.val i)).1 (n.den e).toNat (jJ (e.val i)).2]:=Array.toList_inj.1 hx;have hgo:goInt (n.den e).toNat=.int .i64 (n.den e):=by
        show Value.int .i64 (((n.den e).toNat:Nat):Int)=_;rw[Int.toNat_of_nonneg hge]
       unfold execOp;rw[ho];simp only[Sem.run_bind,resolve,hcal,Act.eval,Sem.run_pure,Result.andThen_ok,invoke];simp[hx2,builtin,Builtin.len_,ht,run_underlying hu,show max (n.den e) 0=n.den e from by omega,goInt]
      exact Hs hrun (hK k _ _ (I.put I.h I.BY (λβ h=>h) hd (λβ hβ=>rfl)))
     ·simp[Xz.B8] at h
    ·simp[Xz.B8] at h
   ·simp[Xz.B8] at h
  ·simp[Xz.B8] at h
end
section
variable{P:Program}{e:Env}{B:Tf}{k:Nat->Nat}{st st':St}{a:Act}{w:World}{callf:Nat->List SV->St->Xz (SV × St)}{K:Act->World->Prop}{Q:Exit->Act->World->Prop}
theorem Inv.NL(I:Inv e B k st a w){b:BT}{v:Bool}(h:b.den e=v):Inv e B k {st with BY:=IM b v st.BY} a w:=
 ⟨I.h,⟨I.f.defers,I.f.sz,I.f.tmps⟩,Gq I.BY h⟩
theorem Lz(j n:Nat):M6 j n/rO=j:=by
 unfold M6 rO;omega
theorem Inv.bump (I:Inv e B k st a w):Inv e B k (bump st) a w:=⟨by
 have h:=I.h;have e1:(_root_.Go.Proofs.YtaipogljokblkaaGreatDoor.bump st).ph=st.ph:=Lz _ _;rw[e1];exact h,⟨I.f.defers,I.f.sz,I.f.tmps⟩,I.BY⟩
theorem Inv.drew(I:Inv e B k st a w):Inv e B k st a w.drew:=⟨I.h.drew,I.f,I.BY⟩
theorem MS(hc:KP P e B.Φ callf){ops:Array Oper}{lab:Nat}{o:Oper}(h:(Ol P callf ops lab o st).B8 e=some st')(hlab:lab%2=1)(I:Inv e B k st a w)
  (hK:∀k' a' w',Inv e B k' st' a' w'->K a' w'):if Region.wanted o (yielded ops a.tmps)=true then o.wp P a w K Q else K (a.put o.dst undef) w:=by
 unfold Ol at h
 split at h
 ·simp[Xz.B8] at h
 ·rename_i hd;have hd:okD o st=true:=by simpa using hd
  split at h
  ·simp[Xz.B8] at h
  ·rename_i hg;rw[M9 I hg];simp only[BT.den,if_true];exact Ot hc h hlab hd I hK
  ·rename_i hg;rw[M9 I hg];simp only[Xz.B8,Option.some.injEq] at h;subst h;simp only[BT.den,Bool.false_eq_true,if_false];exact hK k _ _ (I.put I.h I.BY (λβ h=>h) (Lq hd) (λβ _=>rfl))
  ·rename_i g _ _ hg;rw[M9 I hg];simp only[Xz.B8] at h;cases hb:g.den e with
   |true=>
    rw[hb] at h;simp only[if_true];exact Ot hc h hlab hd (I.NL hb) hK
   |false=>
    rw[hb] at h;simp only[Option.some.injEq] at h;subst h;simp only[Bool.false_eq_true,if_false];have I':=I.NL hb;exact hK k _ _ (I'.put I'.h I'.BY (λβ h=>h) (Lq hd) (λβ _=>rfl))
theorem Oq(hc:KP P e B.Φ callf){ops:Array Oper}(hQ:∀k' a' w',Inv e B k' st' a' w'->Q .normal a' w'):∀(rest:List Oper) (j:Nat) (st:St) (k:Nat->Nat) (a:Act) (w:World),
  (mC P callf ops rest j st).B8 e=some st'->Inv e B k st a w->wpList P ops Q rest a w
 |[],j,st,k,a,w,h,I=>by
  simp only[mC,Xz.B8,Option.some.injEq] at h;subst h;exact hQ k a w I
 |o::rest,j,st,k,a,w,h,I=>by
  simp only[mC] at h;rw[BG] at h;obtain⟨s1,h1,h2⟩:=Option.bind_eq_some_iff.1 h;have:=MS (Q:=Q) (K:=wpList P ops Q rest) hc h1 Zo I (λk' a' w' I'=>Oq hc hQ rest (j+1) s1 k' a' w' h2 I');unfold wpList;split
  ·rename_i hw;rw[if_pos hw] at this;exact Or.inl this
  ·rename_i hw;rw[if_neg hw] at this;exact this
end
theorem oU{a b:Value}(h:oV a b=true):a=b:=by
 unfold oV at h;split at h<;>first
  |rfl
  |(simp at h;done)
  |(simp only[Bool.and_eq_true,decide_eq_true_eq] at h;rw[h.1,h.2];done)
  |(simp only[beq_iff_eq] at h;rw[h];done)
  |(simp only[decide_eq_true_eq] at h;rw[h];done)
  |(simp only[Bool.and_eq_true,beq_iff_eq] at h;rw[Array.eq_empty_of_size_eq_zero h.1,Array.eq_empty_of_size_eq_zero h.2];done)
theorem SC.BQ{x y:SC}(h:x.same y=true):x=y:=by
 unfold SC.same at h;split at h<;>first
  |(rw[oU h];done)
  |(simp only[decide_eq_true_eq] at h;rw[h];done)
  |(simp only[Bool.and_eq_true,decide_eq_true_eq] at h;rw[h.1,h.2];done)
  |(simp only[Bool.and_eq_true,decide_eq_true_eq] at h;rw[h.1.1,h.1.2,h.2];done)
  |(simp at h;done)
theorem Cd{α:Type}{f:α->α->Bool}(hf:∀x y,f x y=true->x=y):∀{l m:List α},E8 f l m=true->l=m
 |[],[],_=>rfl
 |x::r,y::s,h=>by
  simp only[E8,Bool.and_eq_true] at h;rw[hf x y h.1,Cd hf h.2]
 |[],_::_,h=>by simp[E8] at h
 |_::_,[],h=>by simp[E8] at h
theorem SV.BQ{x y:SV}(h:x.same y=true):x=y:=by
 unfold SV.same at h;split at h
 ·rw[SC.BQ h]
 ·rw[Cd (λ_ _=>SC.BQ) h]
 ·rw [Cd (fun p q hpq=>by
   simp only[Bool.and_eq_true,beq_iff_eq] at hpq;exact Prod.ext hpq.1 (Cd (λ_ _=>SC.BQ) hpq.2)) h]
 ·simp at h
theorem St.BQ{s t:St}(h:s.same t=true):s=t:=by
 obtain ⟨a1,a2,a3,a4,a5⟩:=s;obtain ⟨b1,b2,b3,b4,b5⟩:=t;simp only [St.same,Bool.and_eq_true,decide_eq_true_eq] at h;obtain ⟨⟨⟨⟨h1,h2⟩,h3⟩,h4⟩,h5⟩:=h;rw [Cd (fun p q hpq=>by
   simp only[Bool.and_eq_true,decide_eq_true_eq] at hpq
   exact Prod.ext hpq.1 (SV.BQ hpq.2)) h1,
  Cd (fun p q hpq=>by
   simp only[Bool.and_eq_true,decide_eq_true_eq] at hpq;exact Prod.ext hpq.1.1 (Prod.ext hpq.1.2 (Cd (λ_ _=>SC.BQ) hpq.2))) h2,
  Cd (λp q hpq=>by simpa using hpq) h3,h4,h5]
theorem Xz.BQ:∀{x y:Xz St},x.same y=true->x=y
 |.leaf s,.leaf t,h=>by rw[St.BQ h]
 |.br b x y,.br c u v,h=>by
  simp only[Xz.same,Bool.and_eq_true,decide_eq_true_eq] at h;rw[h.1.1,Xz.BQ h.1.2,Xz.BQ h.2]
 |.leaf _,.br _ _ _,h=>by simp[Xz.same] at h
 |.leaf _,.fail _,h=>by simp[Xz.same] at h
 |.br _ _ _,.leaf _,h=>by simp[Xz.same] at h
 |.br _ _ _,.fail _,h=>by simp[Xz.same] at h
 |.fail _,.leaf _,h=>by simp[Xz.same] at h
 |.fail _,.br _ _ _,h=>by simp[Xz.same] at h
 |.fail _,.fail _,h=>by simp[Xz.same] at h
def Pw(n L:Nat):Array Bool:=((List.range n).map λi=>L.testBit i).toArray
theorem iZ(n:Nat):Pw n 0=Array.replicate n false:=by
 unfold Pw;rw[show(λi=>Nat.testBit 0 i)=Function.const Nat false from funext λi=>by simp,List.map_const];simp
theorem JE(n L i:Nat)(d:Bool):(Pw n L).getD i d=if i<n then L.testBit i else d:=by
 unfold Pw;by_cases h:i<n
 ·simp[h,Array.getD_eq_getD_getElem?]
 ·simp[h,Array.getD_eq_getD_getElem?]
theorem MQ(L i j:Nat):(L|||(1<<<i)).testBit j=(L.testBit j||decide (i=j)):=by
 rw[Nat.testBit_or,Nat.one_shiftLeft,Nat.testBit_two_pow]
theorem V6(n L i:Nat):(Pw n L).setIfInBounds i true=Pw n (L|||(1<<<i)):=by
 unfold Pw;apply Array.ext_getElem?;intro j;rw[Array.getElem?_setIfInBounds];simp only[List.getElem?_toArray,List.getElem?_map,List.size_toArray,List.length_map,List.length_range];by_cases h:i=j
 ·subst h;by_cases hn:i<n
  ·simp[hn,MQ]
  ·simp[hn]
 ·simp only[h,if_false];by_cases hn:j<n
  ·rw[List.getElem?_range hn];simp only[Option.map_some,MQ];simp[h]
  ·simp[hn]
theorem bit_lt{n L i:Nat}(hL:L<2^n)(hi:i<n):L|||(1<<<i)<2^n:=by
 rw[Nat.one_shiftLeft];exact Nat.or_lt_two_pow hL (Nat.pow_lt_pow_right Zo hi)
theorem ZO(m L:Nat):((m&&& L)==m)=true↔∀k,m.testBit k=true->L.testBit k=true:=by
 rw[beq_iff_eq];constructor
 ·intro h k hk;rw[←h,Nat.testBit_and,Bool.and_eq_true] at hk;exact hk.2
 ·intro h;apply Nat.eq_of_testBit_eq;intro k;rw[Nat.testBit_and];cases hm:m.testBit k with
  |false=>simp
  |true=>simp[h k hm]
theorem Tj(m L:Nat):((m&&& L)==0)=true↔∀k,m.testBit k=true->L.testBit k=false:=by
 rw[beq_iff_eq];constructor
 ·intro h k hk;have:=congrArg (λx=>x.testBit k) h;simpa [Nat.testBit_and,hk] using this
 ·intro h;apply Nat.eq_of_testBit_eq;intro k;rw[Nat.testBit_and];cases hm:m.testBit k with
  |false=>simp
  |true=>simp[h k hm]
theorem Fz:∀(l:List Edge) (k:Nat),(O0 l).testBit k=true↔∃e∈l,Region.binds .any e=true/\e.on=k
 |[],k=>by simp[O0]
 |e::r,k=>by
  have ih:=Fz r k;unfold O0;split
  ·rename_i hb;rw[Nat.testBit_or,Bool.or_eq_true,ih,Nat.one_shiftLeft,Nat.testBit_two_pow];simp only[decide_eq_true_eq,List.mem_cons];constructor
   ·rintro(rfl|⟨x,hx,h⟩)
    ·exact⟨e,Or.inl rfl,hb,rfl⟩
    ·exact⟨x,Or.inr hx,h⟩
   ·rintro⟨x,rfl|hx,h⟩
    ·exact Or.inl h.2
    ·exact Or.inr ⟨x,hx,h⟩
  ·rename_i hb;rw[ih];simp only[List.mem_cons];constructor
   ·rintro⟨x,hx,h⟩;exact⟨x,Or.inr hx,h⟩
   ·rintro⟨x,rfl|hx,h⟩
    ·exact absurd h.1 hb
    ·exact⟨x,hx,h⟩
theorem Hh:∀(l:List Nat) (k:Nat),(MZ l).testBit k=true↔k∈l
 |[],k=>by simp[MZ]
 |t::r,k=>by
  unfold MZ;rw[Nat.testBit_or,Bool.or_eq_true,Hh r k,Nat.one_shiftLeft,Nat.testBit_two_pow];simp[eq_comm]
section
variable{ops:Array Oper}
theorem Gs:∀(l:List Oper) (i:Nat),(EU ops l)[i]?=(l[i]?).map λo=>⟨O0 o.after.toList,MZ (o.looksAt ops),Vj o.dst,Lj o.op&&o.guard.isNone⟩
 |[],i=>by simp[EU]
 |o::r,0=>by simp[EU]
 |o::r,i+1=>by simp[EU,Gs r i]
theorem I8(L:Nat):∀(inf:List Zx) (i j:Nat),j∈Hj L inf i↔∃x,i<=j/\inf[j-i]?=some x/\L.testBit j=false/\((x.pred&&& L)==x.pred)=true
 |[],i,j=>by simp[Hj]
 |x::r,i,j=>by
  have ih:=I8 L r (i+1) j;have step:(∃y,i+1<=j/\r[j-(i+1)]?=some y/\L.testBit j=false/\((y.pred&&& L)==y.pred)=true)↔(∃y,i<=j/\j≠i/\(x::r)[j-i]?=some y/\L.testBit j=false/\((y.pred&&& L)==y.pred)=true):=by
   constructor
   ·rintro⟨y,h1,h2,h3⟩;refine⟨y,by omega,by omega,?_,h3⟩;rw[show j-i=(j-(i+1))+1 by omega];simpa using h2
   ·rintro⟨y,h1,h0,h2,h3⟩;refine⟨y,by omega,?_,h3⟩;rw[show j-i=(j-(i+1))+1 by omega] at h2;simpa using h2
  unfold Hj;split
  ·rename_i hc;simp only[Bool.and_eq_true,Bool.not_eq_true'] at hc;rw[List.mem_cons,ih,step];constructor
   ·rintro(rfl|⟨y,h1,_,h2⟩)
    ·exact⟨x,Nat.le_refl _,by simp,hc.1,hc.2⟩
    ·exact⟨y,h1,h2⟩
   ·rintro⟨y,h1,h2⟩;by_cases hji:j=i
    ·exact Or.inl hji
    ·exact Or.inr ⟨y,h1,hji,h2⟩
  ·rename_i hc;rw[ih,step];constructor
   ·rintro⟨y,h1,_,h2⟩;exact⟨y,h1,h2⟩
   ·rintro⟨y,h1,h2,h3,h4⟩;by_cases hji:j=i
    ·subst hji;simp only[Nat.sub_self,List.getElem?_cons_zero,Option.some.injEq] at h2;subst h2;exact absurd (by simp only[Bool.and_eq_true,Bool.not_eq_true'];exact⟨h3,h4⟩) hc
    ·exact⟨y,h1,hji,h2,h3,h4⟩
theorem JU{L:Nat}(hL:L<2^ops.size)(j:Nat):j∈Region.ready .any ops (Pw ops.size L)↔j∈Hj L (EU ops ops.toList) 0:=by
 rw[mem_ready,I8];simp only[Nat.zero_le,Nat.sub_zero,true_and,Gs,Array.getElem?_toList];have hbit:∀i,ops.size<=i->L.testBit i=false:=λi hi=>Nat.testBit_lt_two_pow (Nat.lt_of_lt_of_le hL (Nat.pow_le_pow_right Zo hi));constructor
 ·rintro⟨h1,o,ho,h2⟩;have hlt:j<ops.size:=(Array.getElem?_eq_some_iff.1 ho).1;rw[JE,if_pos hlt] at h1;refine⟨_,by rw[ho];rfl,h1,(ZO _ _).2 λk hk=>?_⟩;obtain⟨e,he,hb,rfl⟩:=(Fz _ _).1 hk;have h3:=h2 e (Array.mem_toList_iff.1 he) hb;rw[JE] at h3;split at h3
  ·exact h3
  ·cases h3
 ·rintro⟨x,hx,h1,h2⟩;cases ho:ops[j]? with
  |none=>rw[ho] at hx;cases hx
  |some o=>
   have hlt:j<ops.size:=(Array.getElem?_eq_some_iff.1 ho).1;rw[ho] at hx;cases hx;refine⟨by rw[JE,if_pos hlt];exact h1,o,rfl,λe he hb=>?_⟩;have h3:=(ZO _ _).1 h2 e.on ((Fz _ _).2 ⟨e,Array.mem_toList_iff.2 he,hb,rfl⟩);rw[JE];split
   ·exact h3
   ·rename_i hn;rw[hbit e.on Zo] at h3;cases h3
theorem OT{L i:Nat}{xi:Zx}:∀(inf:List Zx) (j0:Nat),Vb L i xi inf j0=true->∀j y,j0<=j->inf[j-j0]?=some y->
  j=i\/L.testBit j=true\/y.pred.testBit i=true\/(((xi.dst&&& (y.look|||y.dst))==0)=true/\((y.dst&&& xi.look)==0)=true)
 |[],j0,_,j,y,_,h=>by simp at h
 |z::r,j0,h,j,y,hj,hy=>by
  simp only[Vb,Bool.and_eq_true] at h;by_cases h0:j=j0
  ·subst h0;simp only[Nat.sub_self,List.getElem?_cons_zero,Option.some.injEq] at hy;subst hy;have h1:=h.1;simp only[Bool.or_eq_true,Bool.and_eq_true,beq_iff_eq] at h1;rcases h1 with((h1|h1)|h1)|h1
   ·exact Or.inl h1
   ·exact Or.inr (Or.inl h1)
   ·exact Or.inr (Or.inr (Or.inl h1))
   ·exact Or.inr (Or.inr (Or.inr (by simpa using h1)))
  ·refine OT r (j0+1) h.2 j y Zo ?_;rw[show j-j0=(j-(j0+1))+1 by omega] at hy;simpa using hy
theorem Pb{d:Option Nat}{k:Nat}:(Vj d).testBit k=true↔d=some k:=by
 cases d with
 |none=>simp[Vj]
 |some d=>simp only[Vj,Nat.one_shiftLeft,Nat.testBit_two_pow];simp
theorem rA{x y:Oper}(h1:((Vj x.dst&&& (MZ (y.looksAt ops)|||Vj y.dst))==0)=true)(h2:((Vj y.dst&&& MZ (x.looksAt ops))==0)=true):x.apart ops y=true:=by
 unfold Oper.apart;rw[Bool.and_eq_true];constructor
 ·cases hx:x.dst with
  |none=>rfl
  |some d=>
   rw[hx] at h1;have h3:=(Tj _ _).1 h1 d (Pb.2 rfl);rw[Nat.testBit_or,Bool.or_eq_false_iff] at h3;simp only[Bool.and_eq_true,Bool.not_eq_true',bne_iff_ne,ne_eq];constructor
   ·cases hc:(y.looksAt ops).contains d with
    |false=>rfl
    |true=>
     have:=(Hh (y.looksAt ops) d).2 (by simpa using hc);rw[this] at h3;cases h3.1
   ·intro hy;have:=Pb.2 hy;rw[this] at h3;cases h3.2
 ·cases hy:y.dst with
  |none=>rfl
  |some d=>
   rw[hy] at h2;have h3:=(Tj _ _).1 h2 d (Pb.2 rfl);simp only[Bool.not_eq_true'];cases hc:(x.looksAt ops).contains d with
   |false=>rfl
   |true=>
    have:=(Hh (x.looksAt ops) d).2 (by simpa using hc);rw[this] at h3;cases h3
theorem Js{L:Nat}{inf:List Zx}:∀(r:List Zx) (i0 i:Nat),O1 L inf r i0=some i->∃x,i0<=i/\r[i-i0]?=some x/\x.plain=true/\L.testBit i=false/\((x.pred&&& L)==x.pred)=true/\Vb L i x inf 0=true
 |[],i0,i,h=>by cases h
 |x::r,i0,i,h=>by
  unfold O1 at h;split at h
  ·rename_i hc;cases h;simp only[Bool.and_eq_true,Bool.not_eq_true'] at hc;exact⟨x,Nat.le_refl _,by simp,hc.1.1.1,hc.1.1.2,hc.1.2,hc.2⟩
  ·obtain⟨y,h1,h2,h3⟩:=Js r (i0+1) i h;refine⟨y,by omega,?_,h3⟩;rw[show i-i0=(i-(i0+1))+1 by omega];simpa using h2
end
def PV(e:Env)(B:Tf)(st:St):Exit->Act->World->Prop:=λx a w=>x=.normal/\∃k,Inv e B k st a w
section
variable{P:Program}{e:Env}{B:Tf}{callf:Nat->List SV->St->Xz (SV × St)}{ops:Array Oper}
theorem LA{inf:List Zx}:∀{nds ss:List Node},NJ P callf ops inf nds=some ss->
  (∀nd∈nds,FX inf nd.1≠[]/\∀i∈FX inf nd.1,SW P callf ops nd i∈ss)/\∀s∈ss,∃nd∈nds,∃i∈FX inf nd.1,s=SW P callf ops nd i
 |[],ss,h=>by cases h;exact⟨λ_ h=>absurd h Zs,λ_ h=>absurd h Zs⟩
 |nd::r,ss,h=>by
  unfold NJ at h;split at h
  ·cases h
  ·rename_i p ps hp;split at h
   ·rename_i l hl;cases h;obtain⟨ih1,ih2⟩:=LA hl;refine⟨λx hx=>?_,λs hs=>?_⟩
    ·rcases List.mem_cons.1 hx with rfl|hx
     ·rw[hp];exact⟨by simp,λi hi=>List.mem_append.2 (Or.inl (List.mem_map.2 ⟨i,hi,rfl⟩))⟩
     ·exact⟨(ih1 x hx).1,λi hi=>List.mem_append.2 (Or.inr ((ih1 x hx).2 i hi))⟩
    ·rcases List.mem_append.1 hs with hs|hs
     ·obtain⟨i,hi,rfl⟩:=List.mem_map.1 hs;exact⟨nd,by simp,i,by rw[hp];exact hi,rfl⟩
     ·obtain⟨x,hx,i,hi,e1⟩:=ih2 s hs;exact⟨x,by simp[hx],i,hi,e1⟩
   ·cases h
theorem Rg{L:Nat}{T:Xz St}:∀{AY:List Node},aV L AY=some T->(L,T)∈AY
 |[],h=>by cases h
 |n::r,h=>by
  unfold aV at h;split at h
  ·rename_i hn;cases h;simp only[beq_iff_eq] at hn;subst hn;simp
  ·exact List.mem_cons_of_mem _ (Rg h)
theorem Ju:∀{ss AY ns:List Node},O8 ss AY=some ns->(∀s∈ss,s∈ns)/\(∀s∈AY,s∈ns)/\∀n∈ns,n∈ss\/n∈AY
 |[],AY,ns,h=>by cases h;exact⟨λ_ h=>absurd h Zs,λs h=>h,λn h=>Or.inr h⟩
 |s::r,AY,ns,h=>by
  unfold O8 at h;split at h
  ·rename_i T hT;split at h
   ·rename_i hsame;obtain⟨h1,h2,h3⟩:=Ju h;have hs:s∈AY:=by
     have:=Rg hT;rw[←Xz.BQ hsame] at this;exact this
    refine⟨λx hx=>?_,h2,λn hn=>?_⟩
    ·rcases List.mem_cons.1 hx with rfl|hx
     ·exact h2 _ hs
     ·exact h1 x hx
    ·rcases h3 n hn with h|h
     ·exact Or.inl (List.mem_cons_of_mem _ h)
     ·exact Or.inr h
   ·cases h
  ·obtain⟨h1,h2,h3⟩:=Ju h;refine⟨λx hx=>?_,λx hx=>h2 x (List.mem_cons_of_mem _ hx),λn hn=>?_⟩
   ·rcases List.mem_cons.1 hx with rfl|hx
    ·exact h2 _ Zs
    ·exact h1 x hx
   ·rcases h3 n hn with h|h
    ·exact Or.inl (List.mem_cons_of_mem _ h)
    ·rcases List.mem_cons.1 h with rfl|h
     ·exact Or.inl Zs
     ·exact Or.inr h
theorem UD{L i:Nat}(h:i∈FX (EU ops ops.toList) L):i<ops.size:=by
 have key:∀x,(EU ops ops.toList)[i]?=some x->i<ops.size:=λx hx=>by
  rw[Gs,Array.getElem?_toList] at hx;cases ho:ops[i]? with
  |none=>rw[ho] at hx;cases hx
  |some o=>exact(Array.getElem?_eq_some_iff.1 ho).1
 unfold FX at h;split at h
 ·rename_i j hj;rw[List.mem_singleton] at h;subst h;obtain⟨x,_,hx,_⟩:=Js _ _ _ hj;exact key x (by simpa using hx)
 ·obtain⟨x,_,hx,_⟩:=(I8 _ _ _ _).1 h;exact key x (by simpa using hx)
theorem oE{fr:VQ}{s:FV}{op:Op}(h:Lj op=true)(hn:QG P fr s op=none){lab:Nat}{o:Oper}(ho:o.op=op){st:St}(hf:st.fr=fr)(hs:st.BY=s):∃why,WN P callf lab o st=.fail why:=by
 unfold WN;rw[ho,hf,hs,hn];cases op<;>first|(cases h;done)|exact⟨_,rfl⟩
theorem fP{st st':St}{lab:Nat}{o:Oper}(h:(Ol P callf ops lab o st).B8 e=some st')(hp:Lj o.op=true)(hg:o.guard=none):
  okD o st=true/\∃v,QG P st.fr st.BY o.op=some v/\st'=DY o.dst v st:=by
 unfold Ol at h
 split at h
 ·simp[Xz.B8] at h
 ·rename_i hd;have hg':OM ops o st=some (.lit true):=by unfold OM;rw[hg]
  rw[hg'] at h;simp only at h;refine⟨by simpa using hd,?_⟩;cases hv:QG P st.fr st.BY o.op with
  |none=>
   obtain⟨why,hw⟩:=oE (callf:=callf) hp hv (lab:=lab) (o:=o) rfl (st:=st) rfl rfl;rw[hw] at h;simp[Xz.B8] at h
  |some v=>
   unfold WN at h;rw[hv] at h;simp only[Xz.B8,Option.some.injEq] at h;exact⟨v,rfl,h.symm⟩
theorem Rv(hc:KP P e B.Φ callf)(hsel:Region.noSelect ops=true):∀(m:Nat) (nds:List Node) (T:Xz St) (stF:St),qX P callf ops (EU ops ops.toList) m nds=some T->T.B8 e=some stF->
  (∀nd∈nds,nd.1<2^ops.size)->∀nd∈nds,∃st,nd.2.B8 e=some st/\∀k a w,Inv e B k st a w->wpAny P .any ops (PV e B stF) m (Pw ops.size nd.1) a w
 |0,nds,T,stF,h,hT,hb,nd,hnd=>by
  unfold qX at h;split at h
  ·rename_i L T';split at h
   ·rename_i hr;cases h;rw[List.mem_singleton] at hnd;subst hnd;refine⟨stF,hT,λk a w I=>⟨?_,rfl,k,I⟩⟩;apply List.eq_nil_iff_forall_not_mem.2;intro j hj;have:=(JU (hb _ Zs) j).1 hj;rw[hr] at this;cases this
   ·cases h
  ·cases h
 |m+1,nds,T,stF,h,hT,hb,nd,hnd=>by
  unfold qX at h;split at h
  ·rename_i ss hss;split at h
   ·rename_i ns hns;obtain⟨e1,e2⟩:=LA hss;obtain⟨m1,_,m3⟩:=Ju hns;have hbn:∀n∈ns,n.1<2^ops.size:=λn hn=>by
     rcases m3 n hn with h1|h1
     ·obtain⟨x,hx,i,hi,rfl⟩:=e2 n h1;exact bit_lt (hb x hx) (UD hi)
     ·cases h1
    have ih:=Rv hc hsel m ns T stF h hT hbn;obtain⟨hne,hpk⟩:=e1 nd hnd;have each:∀i∈FX (EU ops ops.toList) nd.1,∃st o st',nd.2.B8 e=some st/\ops[i]?=some o/\(Ol P callf ops (2*(st.nx%rO+i)+1) o st).B8 e=some st'/\
      ∀k a w,Inv e B k st' a w->wpAny P .any ops (PV e B stF) m (Pw ops.size (nd.1|||(1<<<i))) a w:=λi hi=>by
     obtain⟨st',hs',hw⟩:=ih _ (m1 _ (hpk i hi))
     simp only[SW] at hs' hw
     rw[BG] at hs'
     obtain⟨st,h1,h2⟩:=Option.bind_eq_some_iff.1 hs'
     have hlt:=UD hi
     have ho:ops[i]?=some ops[i]:=Array.getElem?_eq_getElem hlt
     rw[ho] at h2
     exact⟨st,ops[i],st',h1,ho,h2,hw⟩
    obtain⟨p,hp⟩:∃p,p∈FX (EU ops ops.toList) nd.1:=by
     cases hq:FX (EU ops ops.toList) nd.1 with
     |nil=>exact absurd hq hne
     |cons p ps=>exact⟨p,by simp⟩
    obtain⟨st,o,st',hst,ho,hstep,hnext⟩:=each p hp;refine⟨st,hst,λk a w I=>?_⟩;cases hpl:O1 nd.1 (EU ops ops.toList) (EU ops ops.toList) 0 with
    |some i=>
     have hpi:p=i:=by
      unfold FX at hp;rw[hpl] at hp;simpa using hp
     subst hpi;obtain⟨x,_,hx,hplain,hbit,hpred,hfree⟩:=Js _ _ _ hpl;simp only[Nat.sub_zero,Gs,Array.getElem?_toList,ho,Option.map_some,Option.some.injEq] at hx;subst hx;simp only[Bool.and_eq_true,Option.isNone_iff_eq_none] at hplain;obtain⟨hd,v,hv,rfl⟩:=fP hstep hplain.1 hplain.2;have hrun:∀w',(execOp a.eval o).run P w'=.ok (.value (v.den e k)) w':=λw'=>pure_run hv I.BY (I.VN I.Iq) rfl;have hreadyM:p∈Hj nd.1 (EU ops ops.toList) 0:=(I8 _ _ _ _).2 ⟨_,Nat.zero_le _,by simp only[Nat.sub_zero,Gs,Array.getElem?_toList,ho,Option.map_some],hbit,hpred⟩;have hw:Region.wanted o (yielded ops a.tmps)=true:=by unfold Region.wanted;rw[hplain.2]
     refine wpAny_first (v:=v.den e k) ho (Region.noSelect_spec hsel) (λc a w hq=>by cases hq.1) m _ a w (λj oj hoj hji hun hno=>?_) ((JU (hb nd hnd) p).2 hreadyM) (Or.inl ⟨hw,λw'=>hrun w'⟩) ?_
     ·have hlt:j<ops.size:=(Array.getElem?_eq_some_iff.1 hoj).1;rw[JE,if_pos hlt] at hun;rcases OT _ _ hfree j _ (Nat.zero_le _) (by simp only[Nat.sub_zero,Gs,Array.getElem?_toList,hoj,Option.map_some];rfl) with h1|h1|h1|h1
      ·exact absurd h1 hji
      ·rw[hun] at h1;cases h1
      ·obtain⟨ed,he,hbd,hon⟩:=(Fz _ _).1 h1;exact absurd hon (hno ed (Array.mem_toList_iff.1 he) hbd)
      ·exact rA h1.1 h1.2
     ·rw[V6];refine hnext k _ _ (I.put I.h I.BY (λβ h=>h) (Lq hd) (λβ hβ=>?_));have h2:=pure_run (P:=P) (w:=w) hv I.BY (I.VN hβ) rfl;exact SA ((hrun w).symm.trans h2)
    |none=>
     have hpm:FX (EU ops ops.toList) nd.1=Hj nd.1 (EU ops ops.toList) 0:=by unfold FX;rw[hpl]
     refine⟨λh0=>?_,λi hi=>?_⟩
     ·rw[hpm] at hp;have:=(JU (hb nd hnd) p).2 hp;rw[h0] at this;cases this
     ·have hi':=(JU (hb nd hnd) i).1 hi;rw[←hpm] at hi';obtain⟨s1,o1,s2,hs1,ho1,hstep1,hnext1⟩:=each i hi';rw[hst] at hs1;cases hs1;rw[V6];have:=MS (Q:=PV e B stF) (K:=wpAny P .any ops (PV e B stF) m (Pw ops.size (nd.1|||(1<<<i)))) hc hstep1 Zo I hnext1;unfold wpOp;rw[ho1];simp only;split
      ·rename_i hw;rw[if_pos hw] at this;exact Or.inl this
      ·rename_i hw;rw[if_neg hw] at this;exact this
   ·cases h
  ·cases h
theorem Xl(hm:P.follows .mixedOrders=true)(hc:KP P e B.Φ callf){st st':St}(h:(zA P callf ops st).B8 e=some st'){k:Nat->Nat}{a:Act}{w:World}(I:Inv e B k st a w)(id:Nat):
  (Code.region id ops true).wp P (PV e B st') a w:=by
 unfold zA at h
 split at h
 ·rename_i hsel;split at h
  ·rename_i T hT;rw[BG] at h;obtain⟨s1,h1,h2⟩:=Option.bind_eq_some_iff.1 h;simp only[Xz.B8,Option.some.injEq] at h2;subst h2;obtain⟨st0,h0,hw⟩:=Rv (B:=B) hc hsel _ _ _ _ hT h1 (λnd hnd=>by have h9:=List.mem_singleton.1 hnd;rw[h9];exact Nat.two_pow_pos _) (0,.leaf st) Zs;simp only[Xz.B8,Option.some.injEq] at h0;subst h0;have h3:=hw k a w.drew I.drew;rw[iZ] at h3;exact wp_mono (wp_region_any hm h3) λx a w hx=>⟨hx.1,by obtain⟨k,I⟩:=hx.2;exact⟨k,I.bump⟩⟩
  ·simp[Xz.B8] at h
 ·simp[Xz.B8] at h
end
end Go.Proofs.YtaipogljokblkaaGreatDoor
