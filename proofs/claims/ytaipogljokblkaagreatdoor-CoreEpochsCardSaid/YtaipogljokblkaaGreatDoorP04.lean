/- Core: SymG, SymH, SymI, SymJ, SymK. -/
import Derived.Test.YtaipogljokblkaaGreatDoorP03
set_option linter.all false
set_option maxRecDepth 100000
set_option maxHeartbeats 8000000
namespace Go.Proofs.YtaipogljokblkaaGreatDoor
open Go Go.RowKit
structure FInv(e:Env)(k:Nat->Nat)(st:St)(a:Act):Prop where
 defers:a.defers=[]
 sz:st.sz<=a.tmps.size
 tmps:∀β,GL k st.hp β->∀t,a.tmps.getD t undef=(HU t st.fr).den e β
structure Inv(e:Env)(B:TZ)(k:Nat->Nat)(st:St)(a:Act)(w:World):Prop where
 h:CS e B k st.ph st.hp w
 f:FInv e k st a
 Co:Bd e st.Co
def JZ(e:Env)(Φ:Hg)(F:Nat->Prop)(k:Nat->Nat)(s:St)(w:World)(v:SV)(b:St)(f:Ending)(w':World):Prop:=
 ∃c,CS e ⟨Ym s.hp,k,w,F,Φ⟩ c b.ph b.hp w'/\Bd e b.Co/\∀d,GL c b.hp d->f=.returned (v.den e d)
def AY(P:Program)(f:Nat)(args:Array Value)(w:World)(Q:Ending->World->Prop):Prop:=
 if f=DG then ∃b c d,args[0]?=some b/\(callMethod b "Next" (args.extract 1 args.size)).run P w=.ok (.enter c d) w/\Calls P c d w Q
 else(callFunc f args).run P w=.ok (.enter f args) w/\Calls P f args w Q
def AY.fn{P:Program}{f:Nat}{args:Array Value}{w:World}{Q:Ending->World->Prop}(b:¬f=DG)(h:(callFunc f args).run P w=.ok (.enter f args) w/\Calls P f args w Q):AY P f args w Q:=by
 unfold AY;rw[fw b];exact h
def AY.mono{P:Program}{f:Nat}{args:Array Value}{w:World}{Q R:Ending->World->Prop}(h:AY P f args w Q)(d:∀g w',Q g w'->R g w'):AY P f args w R:=by
 unfold AY at h ⊢;split at h
 ·rename_i c;obtain⟨b,i,j,l,m,n⟩:=h;rw[ga c];exact⟨b,i,j,l,m,n.mono d⟩
 ·rename_i c;rw[fw c];exact⟨h.1,h.2.mono d⟩
def Lb(P:Program)(e:Env)(Φ:Hg)(callf:Nat->List SV->St->Yd (SV × St)):Prop:=
 ∀f args s v c,(callf f args s).BD e=some (v,c)->∀k w F,CS e ⟨Ym s.hp,k,w,F,Φ⟩ k s.ph s.hp w->Bd e s.Co->
  ∀b,(∀d,GL k s.hp d->b=(args.map (SV.den e d)).toArray)->
   AY P f b w (JZ e Φ F k s w v c)
def BQ{c β:Type}{e:Env}:∀(t:Yd c) (f:c->Yd β),(t.bind f).BD e=(t.BD e).bind λa=>(f a).BD e
 |.leaf a,f=>rfl
 |.br b t u,f=>by
  simp only[Yd.bind,Yd.BD];cases b.den e
  ·exact BQ u f
  ·exact BQ t f
 |.fail _,f=>rfl
section
variable{P:Program}{e:Env}{B:TZ}{k:Nat->Nat}{st:St}{a:Act}{w:World}
def Inv.WZ(I:Inv e B k st a w){β:Nat->Nat}(b:GL k st.hp β):Evs e β a st.fr:=ye b.1 (I.f.tmps β b)
def Inv.I5(I:Inv e B k st a w):GL k st.hp k:=I.h.I5
def rE(a:Act)(d:Nat)(u:Value)(t:Nat)(h:d<a.tmps.size):(a.put (some d) u).tmps.getD t undef=if t=d then u else a.tmps.getD t undef:=by
 simp only[Act.put,kn,n4];by_cases b:d=t
 ·subst b;simp[h]
 ·simp[b,Ne.symm b]
def Inv.put{k':Nat->Nat}{hp':Heap}{w':World}{g:Gj}{h:Nat}(I:Inv e B k st a w)(H:CS e B k' (h/vW) hp' w')(l:Bd e g)(i:∀β,GL k' hp' β->GL k st.hp β)
  {b:Option Nat}(m:∀d,b=some d->d<st.sz){v:SV}{u:Value}(n:∀β,GL k' hp' β->u=v.den e β):
  Inv e B k' (EW b v {st with hp:=hp',Co:=g,nx:=h}) (a.put b u) w':=by
 cases b with
 |none=>
  exact⟨H,⟨I.f.defers,I.f.sz,λβ c t=>I.f.tmps β (i β c) t⟩,l⟩
 |some d=>
  have j:=m d rfl
  refine⟨H,⟨I.f.defers,?_,λβ c t=>?_⟩,l⟩
  ·simp only[EW,Act.put];rw[Array.size_setIfInBounds];exact I.f.sz
  ·rw[rE a d u t (ib j I.f.sz)];simp only[EW];rw[RD];split
   ·exact n β c
   ·exact I.f.tmps β (i β c) t
def L7{o:Oper}(h:zd o st=true):∀d,o.dst=some d->d<st.sz:=by
 intro d b;simp only[zd,b] at h;simpa using h
def MM{c:Array Oper}{o:Oper}{g:BT}(I:Inv e B k st a w)(h:Pj c o st=some g):Region.wanted o (yielded c a.tmps)=g.den e:=by
 unfold Pj at h;unfold Region.wanted;split at h
 ·rename_i m;cases h;simp[m,BT.den]
 ·rename_i j l m;simp only[m];split at h
  ·rename_i d p;split at h
   ·rename_i b q;have i:a.tmps.getD d undef=.bool (b.den e):=by rw[I.f.tmps k I.I5 d,q];rfl
    have r:a.tmps[d]?=some (.bool (b.den e)):=by
     rw[kn] at i;cases n:a.tmps[d]? with
     |none=>rw[n] at i;simp[undef] at i
     |some x=>rw[n] at i;simp at i;rw[i]
    have s:yielded c a.tmps j=some (b.den e):=by
     unfold yielded;rw[p];simp[r]
    rw[s];cases h;cases l
    ·simp only[im,jx];rw[BT.EH,EC I.Co];cases b.den e<;>rfl
    ·simp only[ko];rw[EC I.Co];cases b.den e<;>rfl
   ·cases h
  ·cases h
def Np{t:TypeId}{g i:Nat}{m:TypeId}{cs:List SC}{v:SV}{β:Nat->Nat}(f:Bk w g m (Yp e β cs))(h:OM P t cs i=some v):(loadVar t ⟨g,i,none⟩).run P w=.ok (v.den e β) w:=by
 unfold OM at h;split at h
 ·rename_i b ha l;split at h
  ·rename_i n;cases h;have c:=run_loadCells_list (P:=P) w ⟨g,i,none⟩ (((cs.drop i).take b.size).map (SC.den e β)) (fun j u d=>by
    rw[nj,f.cell,LS];simp only[kf,List.getElem?_take,List.getElem?_drop] at d;split at d
    ·exact d
    ·cases d)
   rw[show(List.map (SC.den e β) (List.take b.size (List.drop i cs))).length=b.size by simp;omega] at c;simp only[loadVar,ig,Ir ha,ia,ko,Iq l,c];rfl
  ·cases h
 ·rename_i b ha l;split at h
  ·rename_i x o;split at h
   ·cases h;simp only[loadVar,ig,Ir ha,ia,im,jx];have c:w.cell? ⟨g,i,none⟩=some (x.den e β):=by rw[f.cell,LS,o];rfl
    simp[load,Sem.run,c,SV.den]
   ·cases h
  ·cases h
 ·cases h
end
section
variable{P:Program}{e:Env}{B:TZ}{k:Nat->Nat}{st st':St}{a:Act}{w:World}{callf:Nat->List SV->St->Yd (SV × St)}{K:Act->World->Prop}{Q:Exit->Act->World->Prop}
def Tg{x y:Value}{w:World}(h:(Result.ok (Next.value x) w:Result Next)=.ok (.value y) w):x=y:=by
 injection h with b;injection b
def cT{x y:Value}(h:Ending.returned x=.returned y):x=y:=by injection h
def yk{w:World}{g:Nat}{t u:TypeId}{x y:Array Value}(h:Bk w g t x)(h':Bk w g u y):x=y:=by
 unfold Bk at h h';rw[h] at h';injection h' with b;injection b
def Ii{o:Oper}{v:Value}{w':World}(b:(execOp a.eval o).run P w=.ok (.value v) w')(h:K (a.put o.dst v) w'):o.wp P a w K Q:=by
 unfold Oper.wp;rw[b];exact h
def mV{o:Oper}{w':World}(b:(execOp a.eval o).run P w=.ok .skip w')(h:K (a.put o.dst undef) w'):o.wp P a w K Q:=by
 unfold Oper.wp;rw[b];exact h
def ML{f:Option Nat}{i:Tm}{l o size:Nat}:∀{s:List Nat} {st st':St},(kV f i l o size s st).BD e=some st'->Bd e st.Co->
  ∃j∈s,i.den e=(j:Int)/\∃b,Bd e b/\st'=EW f (.c (.ptr l (o+j*size))) {st with Co:=b}
 |[],st,st',h,_=>by simp[kV,Yd.BD] at h
 |j::r,st,st',h,g=>by
  have d:=EC g (BT.VQ i (.lit (j:Int)));rw[BT.Iz] at d;unfold kV at h;split at h
  ·rename_i t;rw[t] at d;simp only[Yd.BD,gu] at h;subst h;simp only[BT.den,Tm.den] at d;exact⟨j,by simp,by simpa using d.symm,st.Co,g,rfl⟩
  ·obtain⟨n,p,q⟩:=ML h g;exact⟨n,gq _ p,q⟩
  ·simp only[Yd.BD] at h;cases m:(known st.Co (BT.VQ i (.lit (j:Int)))).den e with
   |true=>
    rw[m] at h;simp only[gu] at h;subst h;rw[m] at d;simp only[Tm.den] at d;exact⟨j,by simp,by simpa using d.symm,_,GC g m,rfl⟩
   |false=>
    rw[m] at h;obtain⟨n,p,q,b,u,v⟩:=ML h (GC g m);exact⟨n,gq _ p,q,b,u,v⟩
def O5(hc:Lb P e B.Φ callf){lab:Nat}{o:Oper}(h:(YY P callf lab o st).BD e=some st')(U:lab%2=1)(J:zd o st=true)(I:Inv e B k st a w)
  (R:∀k' a' w',Inv e B k' st' a' w'->K a' w'):o.wp P a w K Q:=by
 have J:=L7 J
 unfold YY at h
 split at h
 ·rename_i v hv;simp only[Yd.BD,gu] at h;subst h;refine Ii (pure_run hv I.Co (I.WZ I.I5) rfl) (R k _ _ (I.put I.h I.Co (λd h=>h) J (λd b=>?_)));have E:=pure_run (P:=P) (w:=w) hv I.Co (I.WZ I.I5) rfl;have S:=pure_run (P:=P) (w:=w) hv I.Co (I.WZ b) rfl;exact Tg (E.symm.trans S)
 ·skip;split at h
  ·
   rename_i t x ix G;split at h
   ·rename_i ag el l of i hu H ah;split at h
    ·rename_i V ab;obtain⟨j,hj,ai,au,Cc,rfl⟩:=ML h I.Co;have ax:j<ag:=jt.1 hj;have m:∀d,GL k st.hp d->(execOp a.eval o).run P w=.ok (.value (.pointer (some ⟨d l,of+j*V.size,none⟩))) w:=λd b=>by
      have E:=DN (I.WZ b) H;simp only[SV.den,SC.den] at E;have S:=DN (I.WZ b) ah;simp only[SV.den,SC.den,ai] at S;unfold execOp;rw[G];simp only[E,S,Instr.indexAt,asIntOf,ig,ji,ia,kz hu,Instr.sureAddr];rw[ga ⟨Zo,Zo⟩];simp only[ig,Iq ab,ia,ji,Addr.add,kq];split
      ·rename_i h0;simp[h0]
      ·rfl
     refine Ii (m k I.I5) (R k _ _ (I.put I.h Cc (λd h=>h) J (λd b=>?_)));exact Tg ((m k I.I5).symm.trans (m d b))
    ·simp[Yd.BD] at h
   ·simp[Yd.BD] at h
  ·
   rename_i t x G;split at h
   ·rename_i l i H;split at h
    ·rename_i ty u O;split at h
     ·rename_i v hv;simp only[Yd.BD,gu] at h;subst h;have m:∀d,GL k st.hp d->(execOp a.eval o).run P w=.ok (.value (v.den e d)) w:=λd b=>by
       have E:=DN (I.WZ b) H;simp only[SV.den,SC.den] at E;have hb:=I.h.heap d b _ (BE O);unfold execOp;rw[G];simp only[ig,E,Instr.loadAt,Instr.sureAddr,ji,ia,Np hb hv]
      refine Ii (m k I.I5) (R k _ _ (I.put I.h I.Co (λd h=>h) J (λd b=>?_)));exact Tg ((m k I.I5).symm.trans (m d b))
     ·simp[Yd.BD] at h
    ·simp[Yd.BD] at h
   ·simp[Yd.BD] at h
  ·
   rename_i t G;split at h
   ·rename_i z hz O;split at h
    ·rename_i u W;simp only[Yd.BD,gu] at h;subst h;obtain⟨V,hi,hz⟩:=io.1 hz;have g:∀d,z.cells=Yp e d u:=λd=>by rw[←Kw e d W,Nu]
     obtain⟨A,p⟩:=I.h.alloc U O (t:=t) (cs:=u) (row:=z.cells) (λd _=>(g d).symm);have T:(execOp a.eval o).run P w=.ok (.value (.pointer (some ⟨w.heap.size,0,none⟩))) (w.alloc (.cells z.cells t)):=by
      unfold execOp;rw[G];simp[Instr.alloc,zeroValue,typeInfo,hi,hz,newVar,newRow,newObj,Sem.run]
     exact Ii T (R _ _ _ (I.put A I.Co (λd h=>(p d h).1) J (λd b=>by simp[SV.den,SC.den,(p d b).2])))
    ·simp[Yd.BD] at h
   ·simp[Yd.BD] at h
  ·
   rename_i t x G;split at h
   ·rename_i u W O;simp only[Yd.BD,gu] at h;subst h;have g:∀d,GL k st.hp d->(a.eval x).cells=Yp e d u:=λd b=>by rw[I.WZ b];exact Kw e d W
    obtain⟨A,p⟩:=I.h.alloc U O (t:=t) (cs:=u) (row:=(a.eval x).cells) (λd b=>(g d b).symm);have T:(execOp a.eval o).run P w=.ok (.value (.pointer (some ⟨w.heap.size,0,none⟩))) (w.alloc (.cells (a.eval x).cells t)):=by
     unfold execOp;rw[G];simp[Instr.box,newVar,newRow,newObj,Sem.run]
    exact Ii T (R _ _ _ (I.put A I.Co (λd h=>(p d h).1) J (λd b=>by simp[SV.den,SC.den,(p d b).2])))
   ·simp[Yd.BD] at h
  ·
   rename_i t x y G;split at h
   ·rename_i l i vs V H ak hi;split at h
    ·rename_i ty u O;split at h
     ·rename_i X;obtain⟨al,av,ad⟩:=X;simp only[Yd.BD,gu] at h;subst h;have g:∀d,GL k st.hp d->(a.eval y).cells=Yp e d vs:=λd b=>by rw[I.WZ b];exact Kw e d ak
      have hb:=I.h.heap k I.I5 _ (BE O);have hp:=DN (I.WZ I.I5) H;simp only[SV.den,SC.den] at hp;have ae:∀d,GL k st.hp d->Yp e d (splice u i vs)=Yp e k (splice u i vs):=λd b=>by
       have E:=I.h.heap d b _ (BE O);rw[b.2 _ (BE O)] at E;have S:Yp e d u=Yp e k u:=yk E hb;have h3:Yp e d vs=Yp e k vs:=by rw[←g d b,←g k I.I5]
       rw[Hr,Hr,S,h3]
      obtain⟨A,p⟩:=I.h.store O ae;have T:(execOp a.eval o).run P w=.ok .skip (w.setRow (k l) (Yp e k (splice u i vs))):=by
       unfold execOp;rw[G];have C:=p8 (P:=P) (k l) i ty ((Yp e k vs).toList) 0 (Yp e k u) w hb (by simp[I1,Hq];omega) (uB e k ad);simp only[l9] at C;rw[Hr];have af:(Yp e k vs).toList.length=vs.length:=by simp[Hq]
       rw[af] at C;simp only[ig,hp,Instr.storeAt,Instr.sureAddr,ji,ia,storeVar,Iq hi,g k I.I5,I1];rw[fw (by simp[al])];rw[C];rfl
      exact mV T (R _ _ _ (I.put A I.Co p J (λd b=>rfl)))
     ·simp[Yd.BD] at h
    ·simp[Yd.BD] at h
   ·simp[Yd.BD] at h
  ·
   rename_i c G;split at h
   ·rename_i f s;split at h
    ·simp[Yd.BD] at h
    rename_i am;rw [BQ] at h;obtain ⟨⟨v,s'⟩,L,h⟩:=io.1 h;simp only [Yd.BD,gu] at h;subst h;obtain ⟨F,C,hF⟩:=I.h.start;have q:=hc f _ st v s' L k w F C I.Co (c.args.map a.eval) (fun d b=>by
     apply kx.1;simp only[ou,pd];exact jl λx _=>I.WZ b x)
    unfold AY at q;rw[fw am] at q;obtain⟨an,r⟩:=q;have T:(execOp a.eval o).run P w=.ok (.enter f (c.args.map a.eval)) w:=by
     unfold execOp;rw[G];simp only[ig,resolve,s,Act.eval,Deferred.ofValue,ji,ia,invoke];rw[show(#[]:Array Value)++Array.map (λx=>a.eval x) c.args++#[]=c.args.map a.eval by simp];exact an
    unfold Oper.wp;rw [T];simp only [Oper.upon];refine r.mono fun en w' D=>?_;obtain ⟨k',A,Cc,M⟩:=D;have H2:=I.h.trans hF A;have p:∀ d,GL k' s'.hp d→GL k st.hp d:=fun d b=>⟨b.1,fun x H=>by
     obtain⟨y,hy,N⟩:=A.AU x.1 (Bn.2 ⟨x,H,rfl⟩);rw[←N,b.2 y hy,N];exact A.ext x.1 (Bn.2 ⟨x,H,rfl⟩)⟩
    have h0:=M k' A.I5;subst h0;refine R k' _ _ (I.put H2 Cc p J (λd b=>?_));exact cT (M d b)
   ·
    rename_i t name s;split at h
    ·rename_i Y;subst Y;rw [BQ] at h;obtain ⟨⟨v,s'⟩,L,h⟩:=io.1 h;simp only [Yd.BD,gu] at h;subst h;obtain ⟨F,C,hF⟩:=I.h.start;have q:=hc DG _ st v s' L k w F C I.Co (#[a.eval t]++c.args.map a.eval) (fun d b=>by
      apply kx.1;simp only[ou,Array.toList_append,pd,jj,ot,nV];rw[I.WZ b t];congr 1;exact jl λx _=>I.WZ b x)
     unfold AY at q;rw[ga rfl] at q;obtain⟨aw,f',a',Z,ao,r⟩:=q;have T:(execOp a.eval o).run P w=.ok (.enter f' a') w:=by
      unfold execOp;rw[G];simp only[ig,resolve,s,ji,ia,invoke,Z];simpa only[Array.append_empty] using ao
     unfold Oper.wp;rw [T];simp only [Oper.upon];refine r.mono fun en w' D=>?_;obtain ⟨k',A,Cc,M⟩:=D;have H2:=I.h.trans hF A;have p:∀ d,GL k' s'.hp d→GL k st.hp d:=fun d b=>⟨b.1,fun x H=>by
      obtain⟨y,hy,N⟩:=A.AU x.1 (Bn.2 ⟨x,H,rfl⟩);rw[←N,b.2 y hy,N];exact A.ext x.1 (Bn.2 ⟨x,H,rfl⟩)⟩
     have h0:=M k' A.I5;subst h0;refine R k' _ _ (I.put H2 Cc p J (λd b=>?_));exact cT (M d b)
    ·simp[Yd.BD] at h
   ·
    rename_i s;split at h
    ·rename_i i n el aa ap;split at h
     ·rename_i hk;simp only[Yd.BD,gu] at h;subst h;have aq:0<=n.den e:=by
       have E:=EC I.Co (.le (.lit 0) n);rw[hk] at E;exact iz E.symm
      obtain⟨t,ht,hu⟩:=io.1 ap;have m:(execOp a.eval o).run P w=.ok (.value (.int .i64 (n.den e))) w:=by
       have H:(c.args.map a.eval).toList=[Value.slice (WY (e.val i)).1 (n.den e).toNat (WY (e.val i)).2]:=by
        rw[ou];have S:=iy (List.map (SV.den e k)) aa;simp only[pd,jj,List.map_nil,SV.den,SC.den] at S;rw[←S];exact jl λy _=>I.WZ I.I5 y
       have ar:c.args.map a.eval=#[Value.slice (WY (e.val i)).1 (n.den e).toNat (WY (e.val i)).2]:=kx.1 H;have ay:goInt (n.den e).toNat=.int .i64 (n.den e):=by
        show Value.int .i64 (((n.den e).toNat:Nat):Int)=_;rw[jm aq]
       unfold execOp;rw[G];simp only[ig,resolve,s,Act.eval,ji,ia,invoke];simp[ar,builtin,Builtin.len_,ht,kz hu,show max (n.den e) 0=n.den e from Zo,goInt]
      exact Ii m (R k _ _ (I.put I.h I.Co (λd h=>h) J (λd b=>rfl)))
     ·simp[Yd.BD] at h
    ·simp[Yd.BD] at h
   ·simp[Yd.BD] at h
  ·simp[Yd.BD] at h
end
section
variable{P:Program}{e:Env}{B:TZ}{k:Nat->Nat}{st st':St}{a:Act}{w:World}{callf:Nat->List SV->St->Yd (SV × St)}{K:Act->World->Prop}{Q:Exit->Act->World->Prop}
def Inv.NX(I:Inv e B k st a w){b:BT}{v:Bool}(h:b.den e=v):Inv e B k {st with Co:=IZ b v st.Co} a w:=
 ⟨I.h,⟨I.f.defers,I.f.sz,I.f.tmps⟩,GC I.Co h⟩
def LJ(j n:Nat):MK j n/vW=j:=by
 unfold MK vW;omega
def Inv.bump (I:Inv e B k st a w):Inv e B k (bump st) a w:=⟨by
 have h:=I.h;have b:(_root_.Go.Proofs.YtaipogljokblkaaGreatDoor.bump st).ph=st.ph:=LJ _ _;rw[b];exact h,⟨I.f.defers,I.f.sz,I.f.tmps⟩,I.Co⟩
def Inv.drew(I:Inv e B k st a w):Inv e B k st a w.drew:=⟨I.h.drew,I.f,I.Co⟩
def Nj(n:Lb P e B.Φ callf){d:Array Oper}{lab:Nat}{o:Oper}(h:(Oz P callf d lab o st).BD e=some st')(b:lab%2=1)(I:Inv e B k st a w)
  (i:∀k' p w',Inv e B k' st' p w'->K p w'):if Region.wanted o (yielded d a.tmps)=true then o.wp P a w K Q else K (a.put o.dst undef) w:=by
 unfold Oz at h
 split at h
 ·simp[Yd.BD] at h
 ·rename_i c;have c:zd o st=true:=by simpa using c
  split at h
  ·simp[Yd.BD] at h
  ·rename_i f;rw[MM I f];simp only[BT.den,ko];exact O5 n h b c I i
  ·rename_i f;rw[MM I f];simp only[Yd.BD,gu] at h;subst h;simp only[BT.den,im,jx];exact i k _ _ (I.put I.h I.Co (λl h=>h) (L7 c) (λl _=>rfl))
  ·rename_i g _ _ f;rw[MM I f];simp only[Yd.BD] at h;cases j:g.den e with
   |true=>
    rw[j] at h;simp only[ko];exact O5 n h b c (I.NX j) i
   |false=>
    rw[j] at h;simp only[gu] at h;subst h;simp only[im,jx];have m:=I.NX j;exact i k _ _ (m.put m.h m.Co (λl h=>h) (L7 c) (λl _=>rfl))
def O4(f:Lb P e B.Φ callf){b:Array Oper}(g:∀k' c w',Inv e B k' st' c w'->Q .normal c w'):∀(rest:List Oper) (j:Nat) (st:St) (k:Nat->Nat) (a:Act) (w:World),
  (pQ P callf b rest j st).BD e=some st'->Inv e B k st a w->wpList P b Q rest a w
 |[],j,st,k,a,w,h,I=>by
  simp only[pQ,Yd.BD,gu] at h;subst h;exact g k a w I
 |o::rest,j,st,k,a,w,h,I=>by
  simp only[pQ] at h;rw[BQ] at h;obtain⟨i,l,m⟩:=io.1 h;have:=Nj (Q:=Q) (K:=wpList P b Q rest) f l Zo I (λk' c w' n=>O4 f g rest (j+1) i k' c w' m n);unfold wpList;split
  ·rename_i d;rw[ga d] at this;exact fq this
  ·rename_i d;rw[fw d] at this;exact this
end
def sU{a b:Value}(h:sV a b=true):a=b:=by
 unfold sV at h;split at h<;>first
  |rfl
  |(simp at h;done)
  |(simp only[gm,jh] at h;rw[h.1,h.2];done)
  |(simp only[jn] at h;rw[h];done)
  |(simp only[jh] at h;rw[h];done)
  |(simp only[gm,jn] at h;rw[s8 h.1,s8 h.2];done)
def SC.Ch{x y:SC}(h:x.same y=true):x=y:=by
 unfold SC.same at h;split at h<;>first
  |(rw[sU h];done)
  |(simp only[jh] at h;rw[h];done)
  |(simp only[gm,jh] at h;rw[h.1,h.2];done)
  |(simp only[gm,jh] at h;rw[h.1.1,h.1.2,h.2];done)
  |(simp at h;done)
def Ct{b:Type}{f:b->b->Bool}(c:∀x y,f x y=true->x=y):∀{l m:List b},EV f l m=true->l=m
 |[],[],_=>rfl
 |x::r,y::s,h=>by
  simp only[EV,gm] at h;rw[c x y h.1,Ct c h.2]
 |[],_::_,h=>by simp[EV] at h
 |_::_,[],h=>by simp[EV] at h
def SV.Ch{x y:SV}(h:x.same y=true):x=y:=by
 unfold SV.same at h;split at h
 ·rw[SC.Ch h]
 ·rw[Ct (λ_ _=>SC.Ch) h]
 ·rw [Ct (fun p q b=>by
   simp only[gm,jn] at b;exact pn b.1 (Ct (λ_ _=>SC.Ch) b.2)) h]
 ·simp at h
def St.Ch{s t:St}(h:s.same t=true):s=t:=by
 obtain ⟨j,l,m,n,o⟩:=s;obtain ⟨r,u,v,x,y⟩:=t;simp only [St.same,gm,jh] at h;obtain ⟨⟨⟨⟨c,d⟩,f⟩,g⟩,i⟩:=h;rw [Ct (fun p q b=>by
   simp only[gm,jh] at b
   exact pn b.1 (SV.Ch b.2)) c,
  Ct (fun p q b=>by
   simp only[gm,jh] at b;exact pn b.1.1 (pn b.1.2 (Ct (λ_ _=>SC.Ch) b.2))) d,
  Ct (λp q b=>by simpa using b) f,g,i]
def Yd.Ch:∀{x y:Yd St},x.same y=true->x=y
 |.leaf s,.leaf t,h=>by rw[St.Ch h]
 |.br b x y,.br c u v,h=>by
  simp only[Yd.same,gm,jh] at h;rw[h.1.1,Yd.Ch h.1.2,Yd.Ch h.2]
 |.leaf _,.br _ _ _,h=>by simp[Yd.same] at h
 |.leaf _,.fail _,h=>by simp[Yd.same] at h
 |.br _ _ _,.leaf _,h=>by simp[Yd.same] at h
 |.br _ _ _,.fail _,h=>by simp[Yd.same] at h
 |.fail _,.leaf _,h=>by simp[Yd.same] at h
 |.fail _,.br _ _ _,h=>by simp[Yd.same] at h
 |.fail _,.fail _,h=>by simp[Yd.same] at h
def PU(n L:Nat):Array Bool:=((List.range n).map λi=>L.testBit i).toArray
def mA(n:Nat):PU n 0=Array.replicate n false:=by
 unfold PU;rw[show(λi=>Nat.testBit 0 i)=Function.const Nat false from funext λi=>by simp,List.map_const];simp
def JU(n L i:Nat)(d:Bool):(PU n L).getD i d=if i<n then L.testBit i else d:=by
 unfold PU;by_cases h:i<n
 ·simp[h,kn]
 ·simp[h,kn]
def Ni(L i j:Nat):(L|||(1<<<i)).testBit j=(L.testBit j||decide (i=j)):=by
 rw[pq,mz,n5]
def WG(n L i:Nat):(PU n L).setIfInBounds i true=PU n (L|||(1<<<i)):=by
 unfold PU;apply p5;intro j;rw[n4];simp only[lu,kf,List.size_toArray,List.length_map,m9];by_cases h:i=j
 ·subst h;by_cases a:i<n
  ·simp[a,Ni]
  ·simp[a]
 ·simp only[h,jx];by_cases a:j<n
  ·rw[List.getElem?_range a];simp only[j5,Ni];simp[h]
  ·simp[a]
def yl{n L i:Nat}(a:L<2^n)(b:i<n):L|||(1<<<i)<2^n:=by
 rw[mz];exact Nat.or_lt_two_pow a (Nat.pow_lt_pow_right Zo b)
def cK(m L:Nat):((m&&& L)==m)=true↔∀k,m.testBit k=true->L.testBit k=true:=by
 rw[jn];constructor
 ·intro h k a;rw[←h,pf,gm] at a;exact a.2
 ·intro h;apply Nat.eq_of_testBit_eq;intro k;rw[pf];cases b:m.testBit k with
  |false=>simp
  |true=>simp[h k b]
def Uc(m L:Nat):((m&&& L)==0)=true↔∀k,m.testBit k=true->L.testBit k=false:=by
 rw[jn];constructor
 ·intro h k a;have:=iy (λx=>x.testBit k) h;simpa [pf,a] using this
 ·intro h;apply Nat.eq_of_testBit_eq;intro k;rw[pf];cases b:m.testBit k with
  |false=>simp
  |true=>simp[h k b]
def FL:∀(l:List Edge) (k:Nat),(OJ l).testBit k=true↔∃e∈l,Region.binds .any e=true/\e.on=k
 |[],k=>by simp[OJ]
 |e::r,k=>by
  have c:=FL r k;unfold OJ;split
  ·rename_i b;rw[pq,ka,c,mz,n5];simp only[jh,gf];constructor
   ·rintro(rfl|⟨x,a,h⟩)
    ·exact⟨e,fq rfl,b,rfl⟩
    ·exact⟨x,db a,h⟩
   ·rintro⟨x,rfl|a,h⟩
    ·exact fq h.2
    ·exact db ⟨x,a,h⟩
  ·rename_i b;rw[c];simp only[gf];constructor
   ·rintro⟨x,a,h⟩;exact⟨x,db a,h⟩
   ·rintro⟨x,rfl|a,h⟩
    ·exact absurd h.1 b
    ·exact⟨x,a,h⟩
def Hw:∀(l:List Nat) (k:Nat),(No l).testBit k=true↔k∈l
 |[],k=>by simp[No]
 |t::r,k=>by
  unfold No;rw[pq,ka,Hw r k,mz,n5];simp[eq_comm]
section
variable{ops:Array Oper}
def GJ:∀(l:List Oper) (i:Nat),(F3 ops l)[i]?=(l[i]?).map λo=>⟨OJ o.after.toList,No (o.looksAt ops),Wm o.dst,L3 o.op&&o.guard.isNone⟩
 |[],i=>by simp[F3]
 |o::r,0=>by simp[F3]
 |o::r,i+1=>by simp[F3,GJ r i]
def IM(L:Nat):∀(e:List bW) (i j:Nat),j∈Hy L e i↔∃x,i<=j/\e[j-i]?=some x/\L.testBit j=false/\((x.pred&&& L)==x.pred)=true
 |[],i,j=>by simp[Hy]
 |x::r,i,j=>by
  have g:=IM L r (i+1) j;have step:(∃y,i+1<=j/\r[j-(i+1)]?=some y/\L.testBit j=false/\((y.pred&&& L)==y.pred)=true)↔(∃y,i<=j/\j≠i/\(x::r)[j-i]?=some y/\L.testBit j=false/\((y.pred&&& L)==y.pred)=true):=by
   constructor
   ·rintro⟨y,c,a,d⟩;refine⟨y,Zo,Zo,?_,d⟩;rw[show j-i=(j-(i+1))+1 by omega];simpa using a
   ·rintro⟨y,c,k,a,d⟩;refine⟨y,Zo,?_,d⟩;rw[show j-i=(j-(i+1))+1 by omega] at a;simpa using a
  unfold Hy;split
  ·rename_i f;simp only[gm,jp] at f;rw[gf,g,step];constructor
   ·rintro(rfl|⟨y,c,_,a⟩)
    ·exact⟨x,Nat.le_refl _,by simp,f.1,f.2⟩
    ·exact⟨y,c,a⟩
   ·rintro⟨y,c,a⟩;by_cases b:j=i
    ·exact fq b
    ·exact db ⟨y,c,b,a⟩
  ·rename_i f;rw[g,step];constructor
   ·rintro⟨y,c,_,a⟩;exact⟨y,c,a⟩
   ·rintro⟨y,c,a,d,h⟩;by_cases b:j=i
    ·subst b;simp only[p9,List.getElem?_cons_zero,gu] at a;subst a;exact absurd (by simp only[gm,jp];exact⟨d,h⟩) f
    ·exact⟨y,c,b,a,d,h⟩
def Kj{L:Nat}(n:L<2^ops.size)(j:Nat):j∈Region.ready .any ops (PU ops.size L)↔j∈Hy L (F3 ops ops.toList) 0:=by
 rw[mem_ready,IM];simp only[ie,ox,true_and,GJ,ku];have d:∀i,ops.size<=i->L.testBit i=false:=λi p=>Nat.testBit_lt_two_pow (ib n (Nat.pow_le_pow_right Zo p));constructor
 ·rintro⟨f,o,c,h⟩;have b:j<ops.size:=(mj.1 c).1;rw[JU,ga b] at f;refine⟨_,by rw[c];rfl,f,(cK _ _).2 λk q=>?_⟩;obtain⟨e,l,m,rfl⟩:=(FL _ _).1 q;have a:=h e (py.1 l) m;rw[JU] at a;split at a
  ·exact a
  ·cases a
 ·rintro⟨x,g,f,h⟩;cases c:ops[j]? with
  |none=>rw[c] at g;cases g
  |some o=>
   have b:j<ops.size:=(mj.1 c).1;rw[c] at g;cases g;refine⟨by rw[JU,ga b];exact f,o,rfl,λe l m=>?_⟩;have a:=(cK _ _).1 h e.on ((FL _ _).2 ⟨e,py.2 l,m,rfl⟩);rw[JU];split
   ·exact a
   ·rename_i r;rw[d e.on Zo] at a;cases a
def Pq{L i:Nat}{d:bW}:∀(b:List bW) (a:Nat),Wd L i d b a=true->∀j y,a<=j->b[j-a]?=some y->
  j=i\/L.testBit j=true\/y.pred.testBit i=true\/(((d.dst&&& (y.look|||y.dst))==0)=true/\((y.dst&&& d.look)==0)=true)
 |[],a,_,j,y,_,h=>by simp at h
 |z::r,a,h,j,y,f,c=>by
  simp only[Wd,gm] at h;by_cases e:j=a
  ·subst e;simp only[p9,List.getElem?_cons_zero,gu] at c;subst c;have h1:=h.1;simp only[ka,gm,jn] at h1;rcases h1 with((h1|h1)|h1)|h1
   ·exact fq h1
   ·exact db (fq h1)
   ·exact d2 (fq h1)
   ·exact d2 (db (by simpa using h1))
  ·refine Pq r (a+1) h.2 j y Zo ?_;rw[show j-a=(j-(a+1))+1 by omega] at c;simpa using c
def P0{d:Option Nat}{k:Nat}:(Wm d).testBit k=true↔d=some k:=by
 cases d with
 |none=>simp[Wm]
 |some d=>simp only[Wm,mz,n5];simp
def uY{x y:Oper}(e:((Wm x.dst&&& (No (y.looksAt ops)|||Wm y.dst))==0)=true)(f:((Wm y.dst&&& No (x.looksAt ops))==0)=true):x.apart ops y=true:=by
 unfold Oper.apart;rw[gm];constructor
 ·cases g:x.dst with
  |none=>rfl
  |some d=>
   rw[g] at e;have a:=(Uc _ _).1 e d (P0.2 rfl);rw[pq,nw] at a;simp only[gm,jp,bne_iff_ne,ne_eq];constructor
   ·cases b:(y.looksAt ops).contains d with
    |false=>rfl
    |true=>
     have:=(Hw (y.looksAt ops) d).2 (by simpa using b);rw[this] at a;cases a.1
   ·intro c;have:=P0.2 c;rw[this] at a;cases a.2
 ·cases c:y.dst with
  |none=>rfl
  |some d=>
   rw[c] at f;have a:=(Uc _ _).1 f d (P0.2 rfl);simp only[jp];cases b:(x.looksAt ops).contains d with
   |false=>rfl
   |true=>
    have:=(Hw (x.looksAt ops) d).2 (by simpa using b);rw[this] at a;cases a
def J3{L:Nat}{b:List bW}:∀(r:List bW) (a i:Nat),OK L b r a=some i->∃x,a<=i/\r[i-a]?=some x/\x.plain=true/\L.testBit i=false/\((x.pred&&& L)==x.pred)=true/\Wd L i x b 0=true
 |[],a,i,h=>by cases h
 |x::r,a,i,h=>by
  unfold OK at h;split at h
  ·rename_i c;cases h;simp only[gm,jp] at c;exact⟨x,Nat.le_refl _,by simp,c.1.1.1,c.1.1.2,c.1.2,c.2⟩
  ·obtain⟨y,f,d,e⟩:=J3 r (a+1) i h;refine⟨y,Zo,?_,e⟩;rw[show i-a=(i-(a+1))+1 by omega];simpa using d
end
def Qk(e:Env)(B:TZ)(st:St):Exit->Act->World->Prop:=λx a w=>x=.normal/\∃k,Inv e B k st a w
section
variable{P:Program}{e:Env}{B:TZ}{callf:Nat->List SV->St->Yd (SV × St)}{ops:Array Oper}
def LN{a:List bW}:∀{b ss:List Node},NT P callf ops a b=some ss->
  (∀nd∈b,Gl a nd.1≠[]/\∀i∈Gl a nd.1,TI P callf ops nd i∈ss)/\∀s∈ss,∃nd∈b,∃i∈Gl a nd.1,s=TI P callf ops nd i
 |[],ss,h=>by cases h;exact⟨λ_ h=>absurd h Zs,λ_ h=>absurd h Zs⟩
 |nd::r,ss,h=>by
  unfold NT at h;split at h
  ·cases h
  ·rename_i p n j;split at h
   ·rename_i l k;cases h;obtain⟨f,g⟩:=LN k;refine⟨λx d=>?_,λs hs=>?_⟩
    ·rcases gf.1 d with rfl|d
     ·rw[j];exact⟨by simp,λi c=>gy.2 (fq (j7.2 ⟨i,c,rfl⟩))⟩
     ·exact⟨(f x d).1,λi c=>gy.2 (db ((f x d).2 i c))⟩
    ·rcases gy.1 hs with hs|hs
     ·obtain⟨i,c,rfl⟩:=j7.1 hs;exact⟨nd,by simp,i,by rw[j];exact c,rfl⟩
     ·obtain⟨x,d,i,c,m⟩:=g s hs;exact⟨x,by simp[d],i,c,m⟩
   ·cases h
def RE{L:Nat}{T:Yd St}:∀{a:List Node},dX L a=some T->(L,T)∈a
 |[],h=>by cases h
 |n::r,h=>by
  unfold dX at h;split at h
  ·rename_i b;cases h;simp only[jn] at b;subst b;simp
  ·exact gq _ (RE h)
def J6:∀{ss c ns:List Node},OR ss c=some ns->(∀s∈ss,s∈ns)/\(∀s∈c,s∈ns)/\∀n∈ns,n∈ss\/n∈c
 |[],c,ns,h=>by cases h;exact⟨λ_ h=>absurd h Zs,λs h=>h,λn h=>db h⟩
 |s::r,c,ns,h=>by
  unfold OR at h;split at h
  ·rename_i T j;split at h
   ·rename_i b;obtain⟨f,d,g⟩:=J6 h;have k:s∈c:=by
     have:=RE j;rw[←Yd.Ch b] at this;exact this
    refine⟨λx a=>?_,d,λn i=>?_⟩
    ·rcases gf.1 a with rfl|a
     ·exact d _ k
     ·exact f x a
    ·rcases g n i with h|h
     ·exact fq (gq _ h)
     ·exact db h
   ·cases h
  ·obtain⟨f,d,g⟩:=J6 h;refine⟨λx a=>?_,λx a=>d x (gq _ a),λn i=>?_⟩
   ·rcases gf.1 a with rfl|a
    ·exact d _ Zs
    ·exact f x a
   ·rcases g n i with h|h
    ·exact fq (gq _ h)
    ·rcases gf.1 h with rfl|h
     ·exact fq Zs
     ·exact db h
def V5{L i:Nat}(h:i∈Gl (F3 ops ops.toList) L):i<ops.size:=by
 have b:∀x,(F3 ops ops.toList)[i]?=some x->i<ops.size:=λx a=>by
  rw[GJ,ku] at a;cases c:ops[i]? with
  |none=>rw[c] at a;cases a
  |some o=>exact(mj.1 c).1
 unfold Gl at h;split at h
 ·rename_i j d;rw[ft] at h;subst h;obtain⟨x,_,a,_⟩:=J3 _ _ _ d;exact b x (by simpa using a)
 ·obtain⟨x,_,a,_⟩:=(IM _ _ _ _).1 h;exact b x (by simpa using a)
def sA{fr:Xo}{s:Gj}{op:Op}(h:L3 op=true)(b:Rj P fr s op=none){lab:Nat}{o:Oper}(c:o.op=op){st:St}(d:st.fr=fr)(f:st.Co=s):∃a,YY P callf lab o st=.fail a:=by
 unfold YY;rw[c,d,f,b];cases op<;>first|(cases h;done)|exact⟨_,rfl⟩
def jO{st a:St}{lab:Nat}{o:Oper}(h:(Oz P callf ops lab o st).BD e=some a)(c:L3 o.op=true)(d:o.guard=none):
  zd o st=true/\∃v,Rj P st.fr st.Co o.op=some v/\a=EW o.dst v st:=by
 unfold Oz at h
 split at h
 ·simp[Yd.BD] at h
 ·rename_i f;have g:Pj ops o st=some (.lit true):=by unfold Pj;rw[d]
  rw[g] at h;simp only at h;refine⟨by simpa using f,?_⟩;cases b:Rj P st.fr st.Co o.op with
  |none=>
   obtain⟨i,j⟩:=sA (callf:=callf) c b (lab:=lab) (o:=o) rfl (st:=st) rfl rfl;rw[j] at h;simp[Yd.BD] at h
  |some v=>
   unfold YY at h;rw[b] at h;simp only[Yd.BD,gu] at h;exact⟨v,rfl,h.symm⟩
def RW(hc:Lb P e B.Φ callf)(u:Region.noSelect ops=true):∀(m:Nat) (l:List Node) (T:Yd St) (f:St),uS P callf ops (F3 ops ops.toList) m l=some T->T.BD e=some f->
  (∀d∈l,d.1<2^ops.size)->∀d∈l,∃st,d.2.BD e=some st/\∀k a w,Inv e B k st a w->wpAny P .any ops (Qk e B f) m (PU ops.size d.1) a w
 |0,l,T,f,h,hT,J,d,g=>by
  unfold uS at h;split at h
  ·rename_i L T';split at h
   ·rename_i hr;cases h;rw[ft] at g;subst g;refine⟨f,hT,λk a w I=>⟨?_,rfl,k,I⟩⟩;apply s6.2;intro j hj;have:=(Kj (J _ Zs) j).1 hj;rw[hr] at this;cases this
   ·cases h
  ·cases h
 |m+1,l,T,f,h,hT,J,d,g=>by
  unfold uS at h;split at h
  ·rename_i ss aa;split at h
   ·rename_i ns ab;obtain⟨e1,e2⟩:=LN aa;obtain⟨m1,_,m3⟩:=J6 ab;have ad:∀n∈ns,n.1<2^ops.size:=λn hn=>by
     rcases m3 n hn with h1|h1
     ·obtain⟨x,hx,i,M,rfl⟩:=e2 n h1;exact yl (J x hx) (V5 M)
     ·cases h1
    have ih:=RW hc u m ns T f h hT ad;obtain⟨ae,af⟩:=e1 d g;have y:∀i∈Gl (F3 ops ops.toList) d.1,∃st o q,d.2.BD e=some st/\ops[i]?=some o/\(Oz P callf ops (2*(st.nx%vW+i)+1) o st).BD e=some q/\
      ∀k a w,Inv e B k q a w->wpAny P .any ops (Qk e B f) m (PU ops.size (d.1|||(1<<<i))) a w:=λi M=>by
     obtain⟨q,Cc,z⟩:=ih _ (m1 _ (af i M))
     simp only[TI] at Cc z
     rw[BQ] at Cc
     obtain⟨st,h1,h2⟩:=io.1 Cc
     have C:=V5 M
     have N:ops[i]?=some ops[i]:=mn C
     rw[N] at h2
     exact⟨st,ops[i],q,h1,N,h2,z⟩
    obtain⟨p,O⟩:∃p,p∈Gl (F3 ops ops.toList) d.1:=by
     cases hq:Gl (F3 ops ops.toList) d.1 with
     |nil=>exact absurd hq ae
     |cons p ps=>exact⟨p,by simp⟩
    obtain⟨st,o,q,R,N,D,E⟩:=y p O;refine⟨st,R,λk a w I=>?_⟩;cases F:OK d.1 (F3 ops ops.toList) (F3 ops ops.toList) 0 with
    |some i=>
     have ag:p=i:=by
      unfold Gl at O;rw[F] at O;simpa using O
     subst ag;obtain⟨x,_,hx,b,S,G,H⟩:=J3 _ _ _ F;simp only[ox,GJ,ku,N,j5,gu] at hx;subst hx;simp only[gm,om] at b;obtain⟨hd,v,hv,rfl⟩:=jO D b.1 b.2;have A:∀U,(execOp a.eval o).run P U=.ok (.value (v.den e k)) U:=λU=>pure_run hv I.Co (I.WZ I.I5) rfl;have r:p∈Hy d.1 (F3 ops ops.toList) 0:=(IM _ _ _ _).2 ⟨_,ie _,by simp only[ox,GJ,ku,N,j5],S,G⟩;have z:Region.wanted o (yielded ops a.tmps)=true:=by unfold Region.wanted;rw[b.2]
     refine wpAny_first (v:=v.den e k) N (Region.noSelect_spec u) (λc a w hq=>by cases hq.1) m _ a w (λj oj V ah W ai=>?_) ((Kj (J d g) p).2 r) (fq ⟨z,λU=>A U⟩) ?_
     ·have C:j<ops.size:=(mj.1 V).1;rw[JU,ga C] at W;rcases Pq _ _ H j _ (ie _) (by simp only[ox,GJ,ku,V,j5];rfl) with h1|h1|h1|h1
      ·exact absurd h1 ah
      ·rw[W] at h1;cases h1
      ·obtain⟨ed,he,aj,ak⟩:=(FL _ _).1 h1;exact absurd ak (ai ed (py.1 he) aj)
      ·exact uY h1.1 h1.2
     ·rw[WG];refine E k _ _ (I.put I.h I.Co (λβ h=>h) (L7 hd) (λβ al=>?_));have h2:=pure_run (P:=P) (w:=w) hv I.Co (I.WZ al) rfl;exact Tg ((A w).symm.trans h2)
    |none=>
     have X:Gl (F3 ops ops.toList) d.1=Hy d.1 (F3 ops ops.toList) 0:=by unfold Gl;rw[F]
     refine⟨λh0=>?_,λi M=>?_⟩
     ·rw[X] at O;have:=(Kj (J d g) p).2 O;rw[h0] at this;cases this
     ·have Y:=(Kj (J d g) i).1 M;rw[←X] at Y;obtain⟨s1,o1,s2,Z,am,s,t⟩:=y i Y;rw[R] at Z;cases Z;rw[WG];have:=Nj (Q:=Qk e B f) (K:=wpAny P .any ops (Qk e B f) m (PU ops.size (d.1|||(1<<<i)))) hc s Zo I t;unfold wpOp;rw[am];simp only;split
      ·rename_i z;rw[ga z] at this;exact fq this
      ·rename_i z;rw[fw z] at this;exact this
   ·cases h
  ·cases h
def Z9(l:P.follows .mixedOrders=true)(m:Lb P e B.Φ callf){st b:St}(h:(vz P callf ops st).BD e=some b){k:Nat->Nat}{a:Act}{w:World}(I:Inv e B k st a w)(id:Nat):
  (Code.region id ops true).wp P (Qk e B b) a w:=by
 unfold vz at h
 split at h
 ·rename_i c;split at h
  ·rename_i T n;rw[BQ] at h;obtain⟨s,o,f⟩:=io.1 h;simp only[Yd.BD,gu] at f;subst f;obtain⟨p,g,q⟩:=RW (B:=B) m c _ _ _ _ n o (λt d=>by have r:=ft.1 d;rw[r];exact Nat.two_pow_pos _) (0,.leaf st) Zs;simp only[Yd.BD,gu] at g;subst g;have i:=q k a w.drew I.drew;rw[mA] at i;exact wp_mono (wp_region_any l i) λx a w j=>⟨j.1,by obtain⟨k,I⟩:=j.2;exact⟨k,I.bump⟩⟩
  ·simp[Yd.BD] at h
 ·simp[Yd.BD] at h
end
