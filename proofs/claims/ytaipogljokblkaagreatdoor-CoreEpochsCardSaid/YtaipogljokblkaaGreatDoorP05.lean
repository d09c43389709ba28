/- Core: SymL. -/
import Derived.Test.YtaipogljokblkaaGreatDoorP04
import Derived.LoopN
set_option linter.all false
set_option maxRecDepth 100000
set_option maxHeartbeats 8000000
namespace Go.Proofs.YtaipogljokblkaaGreatDoor
open Go Go.RowKit
section
variable{e:Env}{β k:Nat->Nat}
def BA{l:Nat}:∀{ls:List Nat},FH l ls=true↔l∈ls
 |[]=>by simp[FH]
 |x::r=>by
  simp only[FH,ka,jn,BA (ls:=r),gf];constructor
  ·rintro(h|h)
   ·exact fq h.symm
   ·exact db h
  ·rintro(h|h)
   ·exact fq h.symm
   ·exact db h
structure Alike(ls:List Nat)(β k:Nat->Nat):Prop where
 ev1:∀g,β (2*g)=g
 ev2:∀g,k (2*g)=g
 on:∀l∈ls,β l=k l
def Alike.at_{ls:List Nat}(h:Alike ls β k){l:Nat}(b:(l%2==0||FH l ls)=true):β l=k l:=by
 simp only[ka,jn,BA] at b;rcases b with b|b
 ·obtain⟨g,rfl⟩:∃g,l=2*g:=⟨l/2,Zo⟩;rw[h.ev1,h.ev2]
 ·exact h.on l b
def Th{ls:List Nat}(h:Alike ls β k){x:SC}(b:okC ls x=true):x.den e β=x.den e k:=by
 cases x<;>first|rfl|(simp only[okC] at b;simp only[SC.den,h.at_ b])
def Fb{ls:List Nat}(h:Alike ls β k):∀{l:List SC},J5 ls l=true->Yp e β l=Yp e k l:=by
 intro l b;unfold Yp;congr 1;induction l with
 |nil=>rfl
 |cons x r c=>
  simp only[J5,gm] at b;simp only[jj,Th h b.1,c b.2]
def dD{ls:List Nat}(h:Alike ls β k):∀{l:List (Bool × List SC)},okP ls l=true->l.map (T6 e β)=l.map (T6 e k)
 |[],_=>rfl
 |(b,d)::r,c=>by
  simp only[okP,gm] at c;simp only[jj,dD h c.2];congr 1;unfold T6;cases b with
  |true=>simp only[ko,Fb h c.1]
  |false=>
   simp only[im,jx];cases d with
   |nil=>rfl
   |cons x s=>
    have:=c.1;simp only[J5,gm] at this;exact Th h this.1
def FR{ls:List Nat}(h:Alike ls β k){v:SV}(b:Jk ls v=true):v.den e β=v.den e k:=by
 cases v with
 |c x=>exact Th h b
 |agg l=>simp only[SV.den,Fb h b]
 |Jt l=>simp only[SV.den,dD h b]
def L6{ls:List Nat}:∀{h:Heap},Rt ls h=true->∀x∈h,J5 ls x.2.2=true
 |[],_,x,b=>by cases b
 |y::r,h,x,b=>by
  simp only[Rt,gm] at h;rcases gf.1 b with rfl|b
  ·exact h.1
  ·exact L6 h.2 x b
def Ks{ls:List Nat}{x:Nat × TypeId × List SC}:∀{h:Heap},x∈Rz ls h->x∈h
 |[],b=>by cases b
 |y::r,b=>by
  unfold Rz at b;split at b
  ·rcases gf.1 b with rfl|b
   ·simp
   ·exact gq _ (Ks b)
  ·exact gq _ (Ks b)
def Mc{ls:List Nat}:∀{r:List Nat},uZ ls r=true->∀l∈r,l∈ls
 |[],_,l,b=>by cases b
 |x::r,h,l,b=>by
  simp only[uZ,gm] at h;rcases gf.1 b with rfl|b
  ·exact BA.1 h.1
  ·exact Mc h.2 l b
def tO{f:Heap}{v:SV}{h d:Heap}(c:G' f v h=some d):(∀x∈d,x∈h)/\(∀l∈Ym f,l∈Ym d)/\∃ls,(∀l∈ls,l∈Ym d)/\Jk ls v=true/\∀x∈d,J5 ls x.2.2=true:=by
 unfold G' at c;simp only at c;split at c
 ·rename_i b;cases c;simp only[gm] at b;exact⟨λx g=>Ks g,Mc b.2,Ym f,Mc b.2,b.1.1,L6 b.1.2⟩
 ·split at c
  ·rename_i b;cases c;simp only[gm] at b;exact⟨λx g=>Ks g,Mc b.2,_,λl i=>i,b.1.1,L6 b.1.2⟩
  ·cases c
end
section
variable{P:Program}{e:Env}{B:TZ}{k:Nat->Nat}{st:St}{a:Act}{w:World}
def CS.gc{h f:Heap}{ph:Nat}{i:Heap}{v:SV}(H:CS e B k ph h w)(m:B.lab=Ym i)(n:G' i v h=some f):
  CS e B k ph f w/\∀β,GL k f β->v.den e β=v.den e k:=by
 obtain⟨d,o,p,q,r,s⟩:=tO n
 have j:∀ β,GL k f β→Alike p β k:=fun β b=>⟨b.1,H.G9,fun l g=>by
  obtain⟨x,c,rfl⟩:=Bn.1 (q l g);exact b.2 x c⟩
 refine⟨⟨H.G9,λβ b x c=>?_,λx c y t=>H.inj x (d x c) y (d y t),H.ext,λx c=>H.new x (d x c),λl g=>Bn.1 (o l (m▸g)),H.os,H.tape,H.output,H.size,H.Wc,Iu H.rY (Nat.le_refl _) λF a _=>⟨λ_ _=>rfl,λx c=>a x (d x c)⟩⟩,λβ b=>FR (j β b) r⟩
 have u:=H.heap k H.I5 x (d x c)
 rw[b.2 x c,Fb (j β b) (s x c)]
 exact u
def SP(b:Array Value):ResultVar->Sem Value
 |.tmp t=>pure (b.getD t undef)
 |.cell x t=>do loadVar t (←asAddr (b.getD x undef))
def cU{r:ResultVar}{v:SV}(I:Inv e B k st a w)(h:SR P st r=some v):(SP a.tmps r).run P w=.ok (v.den e k) w:=by
 unfold SR at h;unfold SP;cases r with
 |tmp t=>
  simp only[gu] at h;subst h;simp only[ji];rw[I.f.tmps k I.I5 t]
 |cell x t=>
  simp only at h;split at h
  ·rename_i l i b;split at h
   ·rename_i g j c;have d:a.tmps.getD x undef=.pointer (some ⟨k l,i,none⟩):=by rw[I.f.tmps k I.I5 x,b];rfl
    simp only[d,asAddr,ig,ji,ia];exact Np (I.h.heap k I.I5 _ (BE c)) h
   ·cases h
  ·cases h
def uI{v:SV}{p:Bool × List SC}(h:v.comp=some p):T6 e k p=v.den e k:=by
 cases v<;>cases h<;>rfl
def cV(I:Inv e B k st a w):∀{l:List ResultVar} {b:List (Bool × List SC)},M9 P st l=some b->
  (l.mapM (SP a.tmps)).run P w=.ok (b.map (T6 e k)) w
 |[],b,h=>by cases h;simp
 |r::g,b,h=>by
  unfold M9 at h;split at h
  ·rename_i v l c d;split at h
   ·rename_i p f;cases h;rw[List.mapM_cons];simp only[ig,cU I c,ia,cV I d,ji,jj,uI f]
   ·cases h
  ·cases h
def yJ{fn:Func}{v:SV}(I:Inv e B k st a w)(h:yK P fn st=some v):(results fn a.tmps).run P w=.ok (v.den e k) w:=by
 have o:results fn a.tmps = (do
   let vs ←fn.results.mapM (SP a.tmps)
   pure (if h:vs.size=1 then vs[0] else .tuple vs)):=by
  unfold results
  congr 1
 rw[o,Array.mapM_eq_mapM_toList];unfold yK at h;split at h
 ·rename_i r g;rw[g];have i:=cU I h;simp only[List.mapM_cons,List.mapM_nil];simp only[ig,Sem.run_map,i,ia,ji];rfl
 ·rename_i g;split at h
  ·rename_i l n;cases h;have i:=cV I n;simp only[ig,Sem.run_map,i,ia,ji];have b:∀{c:List ResultVar} {d},M9 P st c=some d->d.length=c.length:=by
    intro c;induction c with
    |nil=>intro d h;cases h;rfl
    |cons r t p=>
     intro d h;unfold M9 at h;split at h
     ·rename_i j;split at h
      ·cases h;simp[p j]
      ·cases h
     ·cases h
   have q:=b n;have s:(l.map (T6 e k)).toArray.size≠1:=by
    simp only[List.size_toArray,List.length_map,q];intro f;match m:fn.results.toList with
    |[]=>rw[m] at f;cases f
    |[r]=>exact g r m
    |_::_::_=>rw[m] at f;simp at f
   rw[dif_neg s];rfl
  ·cases h
end
def x9:Ex->Exit
 |.normal=>.normal
 |.exit i=>.exit i
 |.ret=>.ret
def RV(P:Program)(S:List X8)(n:Nat):Nat->List SV->St->Yd (SV × St):=λf args s=>(exec P S n (.call f args) s).bind λr=>.leaf r.2
def half(i:Nat):Nat:=i/2
def Mj(P:Program)(e:Env)(s:X8):Prop:=
 if s.self then ∀g w,Bk w g s.ty (Yp e half s.cells)->∀b:Array Value,b=(Value.pointer (some ⟨g,0,none⟩)::s.rest.map (SV.den e half)).toArray->(callFunc s.f b).run P w=.ok (.enter s.f b) w/\
  Calls P s.f b w λd c=>d=.returned (s.out.den e half)/\Bk c g s.ty (Yp e half s.E4)/\w.grownBy c (some g)
 else ∀w,∀b:Array Value,b=(s.rest.map (SV.den e half)).toArray->(callFunc s.f b).run P w=.ok (.enter s.f b) w/\
  Calls P s.f b w λd c=>d=.returned (s.out.den e half)/\Below w.heap.size w c
def EffOk(P:Program)(e:Env)(Φ:Hg)(s:X8):Prop:=
 (∀q,SC.bool q∈s.cells->q.den e=true)->∀w F,Φ.P ((s.ty-1)%100) w F->(∀b,F b->b<w.heap.size)->∀c:Array Value,c=(s.rest.map (SV.den e half)).toArray->
  AY P s.f c w λd g=>d=.returned (s.out.den e half)/\Fx Φ ((s.ty-1)/100) F none w g
def yy(P:Program)(e:Env)(Φ:Hg)(s:X8)(n:Nat):Prop:=
 ∀g w F,Bk w g s.ty (Yp e half s.cells)->Φ.P ((n-1)%100) w F->¬F g->(∀b,F b->b<w.heap.size)->∀c:Array Value,c=(Value.pointer (some ⟨g,n/10000,none⟩)::s.rest.map (SV.den e half)).toArray->
  (callFunc s.f c).run P w=.ok (.enter s.f c) w/\
  Calls P s.f c w λh d=>h=.returned (s.out.den e half)/\Bk d g s.ty (Yp e half s.E4.dropLast)/\Fx Φ ((n-1)%10000/100) F (some g) w d
def Fs(P:Program)(e:Env)(Φ:Hg)(s:X8):Prop:=
 match GO s with
 |some n=>yy P e Φ s n
 |none=>if !s.self&&!(s.ty==0) then EffOk P e Φ s else Mj P e s
def DE(P:Program)(e:Env)(Φ:Hg)(S:List X8):Prop:=∀s∈S,Fs P e Φ s
def HJ(S:List X8):Bool:=S.all λs=>(GO s).isNone&&(s.self||s.ty==0)
def E5(P:Program)(e:Env)(S:List X8):Prop:=∀s∈S,Mj P e s
def E5.qp{P:Program}{e:Env}{Φ:Hg}{S:List X8}(h:E5 P e S)(d:HJ S=true):DE P e Φ S:=λs c=>by
 have b:=g9.1 d s c;simp only[gm,om,ka] at b;unfold Fs;rw[b.1];simp only;rw[fw (by rcases b.2 with h2|h2<;>simp[h2])];exact h s c
def vS(P:Program)(e:Env)(Φ:Hg)(S:List X8)(n:Nat):Prop:=
 ∀c st x v b,(exec P S n (.code c) st).BD e=some (x,v,b)->∀B k a w,B.Φ=Φ->Inv e B k st a w->c.wp P (λy d f=>y=x9 x/\∃g,Inv e B g b d f) a w
def vP(P:Program)(e:Env)(Φ:Hg)(S:List X8)(n:Nat):Prop:=
 ∀c st x v b,(exec P S n (.code (.loop c)) st).BD e=some (x,v,b)->∀B k a w,B.Φ=Φ->Inv e B k st a w->Code.rounds P c (λy d f=>y=x9 x/\∃g,Inv e B g b d f) n a w
section
variable{P:Program}{e:Env}{Φ:Hg}{S:List X8}
def Pr{f:Nat}{g:TypeId}{cs:List SC}{rest:List SV}{s:X8}:∀{S:List X8},dV f g cs rest S=some s->
  s∈S/\s.self=true/\¬f=DG/\GO s=none/\s.f=f/\s.ty=g/\cs=s.cells/\rest=s.rest/\Jk [] s.out=true/\J5 [] s.cells=true/\J5 [] s.E4=true/\∀v∈s.rest,Jk [] v=true
 |[],h=>by cases h
 |x::r,h=>by
  unfold dV at h;split at h
  ·rename_i i;cases h;simp only[gm,jn,g9,om,jp,lm,ne_eq] at i;obtain⟨⟨⟨⟨⟨⟨⟨⟨⟨⟨j,b⟩,l⟩,c⟩,d⟩,m⟩,n⟩,o⟩,p⟩,q⟩,t⟩:=i;exact⟨by simp,j,b,l,c,d,Ct (λ_ _=>SC.Ch) m,Ct (λ_ _=>SV.Ch) n,o,p,q,t⟩
  ·obtain⟨c,d⟩:=Pr h;exact⟨gq _ c,d⟩
def Ps{f:Nat}{args:List SV}{v:SV}:∀{S:List X8},dW f args S=some v->
  ∃s∈S,s.self=false/\¬f=DG/\s.ty=0/\s.f=f/\args=s.rest/\v=s.out/\Jk [] s.out=true/\∀u∈s.rest,Jk [] u=true
 |[],h=>by cases h
 |x::r,h=>by
  unfold dW at h;split at h
  ·rename_i g;cases h;simp only[gm,jn,g9,jp,lm,ne_eq] at g;obtain⟨⟨⟨⟨⟨⟨i,b⟩,j⟩,c⟩,d⟩,l⟩,m⟩:=g;exact⟨x,by simp,i,b,j,c,Ct (λ_ _=>SV.Ch) d,rfl,l,m⟩
  ·obtain⟨s,c,d⟩:=Ps h;exact⟨s,gq _ c,d⟩
def Ov{s:X8}(h:s.self=false):GO s=none:=by
 unfold GO;split
 ·rw[fw (by simp[h])]
 ·rfl
def kW{e:Env}{a:Gj}(b:Bd e a){q:BT}(h:holds a (.bool q)=true):q.den e=true:=by
 simp only[holds,jh] at h;rw[←EC b,h];rfl
def Pt{a:Gj}{f ph:Nat}{args:List SV}{v:SV}{j:Nat}:∀{S:List X8},dY a f ph args S=some (v,j)->
  ∃s∈S,(∀c∈s.cells,holds a c=true)/\s.self=false/\(s.ty==0)=false/\s.f=f/\(s.ty-1)%100=ph/\j=(s.ty-1)/100/\args=s.rest/\v=s.out/\Jk [] s.out=true/\∀u∈s.rest,Jk [] u=true
 |[],h=>by cases h
 |x::r,h=>by
  unfold dY at h;split at h
  ·rename_i g;cases h;simp only[gm,jn,g9,jp] at g;obtain⟨⟨⟨⟨⟨⟨⟨i,l⟩,b⟩,d⟩,m⟩,n⟩,o⟩,p⟩:=g;exact⟨x,by simp,i,l,b,d,m,rfl,Ct (λ_ _=>SV.Ch) n,rfl,o,p⟩
  ·obtain⟨s,b,d⟩:=Pt h;exact⟨s,gq _ b,d⟩
def KT{f ph b:Nat}{l:TypeId}{cs:List SC}{rest:List SV}{s:X8}{j:Nat}:∀{S:List X8},We f ph b l cs rest S=some (s,j)->
  ∃n,s∈S/\GO s=some n/\s.self=true/\¬f=DG/\s.f=f/\s.ty=l/\cs=s.cells/\rest=s.rest/\Jk [] s.out=true/\J5 [] s.cells=true/\J5 [] s.E4.dropLast=true/\(∀v∈s.rest,Jk [] v=true)/\(n-1)%100=ph/\n/10000=b/\j=(n-1)%10000/100
 |[],h=>by cases h
 |x::r,h=>by
  unfold We at h;split at h
  ·rename_i n o;split at h
   ·rename_i m;cases h;simp only[gm,jn,g9,jp,lm,ne_eq] at m;obtain⟨⟨⟨⟨⟨⟨⟨⟨⟨⟨⟨p,g⟩,c⟩,d⟩,q⟩,t⟩,u⟩,y⟩,z⟩,A⟩,C⟩,i⟩:=m;exact⟨n,by simp,o,p,g,c,d,Ct (λ_ _=>SC.Ch) q,Ct (λ_ _=>SV.Ch) t,u,y,z,A,C,i,rfl⟩
   ·obtain⟨n,c,d⟩:=KT h;exact⟨n,gq _ c,d⟩
  ·obtain⟨n,c,d⟩:=KT h;exact⟨n,gq _ c,d⟩
def xP(C:DE P e Φ S){f:Nat}{args:List SV}{s:St}{r:SV × St}(h:vo S f args s=some r){k:Nat->Nat}{w:World}{F:Nat->Prop}(H:CS e ⟨Ym s.hp,k,w,F,Φ⟩ k s.ph s.hp w)(D:Bd e s.Co)
  {b:Array Value}(j:∀β,GL k s.hp β->b=(args.map (SV.den e β)).toArray):
  AY P f b w (JZ e Φ F k s w r.1 r.2):=by
 have n:∀β,GL k s.hp β->Alike [] β half:=λβ d=>⟨d.1,λg=>by simp[half],λ_ h=>by cases h⟩
 unfold vo at h
 split at h
 ·rename_i l rest;split at h
  ·rename_i R T z;split at h
   ·rename_i u E;cases h;obtain ⟨G,A,o,p,rfl,rfl,rfl,rfl,I,J,K,L⟩:=Pr E;have q:=H.heap k H.I5 _ (BE z);simp only at q;rw [Fb (n k H.I5) J] at q;have ha:=j k H.I5;have c:=C u G;unfold Fs at c;rw [p] at c;simp only at c;rw [fw (by simp [A])] at c;unfold Mj at c;rw [ga A] at c;obtain ⟨t,i⟩:=c (k l) w q b (by
     rw[ha];simp only[jj];congr 1;congr 1;exact jl λv M=>FR (n k H.I5) (L v M))
    refine AY.fn o ⟨t,i.mono λU V m=>?_⟩;obtain⟨rfl,x,N⟩:=m;obtain⟨O,y⟩:=H.Ar z (row:=Yp e half u.E4) (λβ d=>Fb (n β d) K) x N;exact⟨k,O,D,λβ d=>by rw[FR (n β (y β d)) I]⟩
   ·cases h
  ·cases h
 ·cases h
def xO(E:DE P e Φ S){f:Nat}{args:List SV}{s:St}{r:SV × St}(h:vn S f args s=some r){k:Nat->Nat}{w:World}{F:Nat->Prop}(H:CS e ⟨Ym s.hp,k,w,F,Φ⟩ k s.ph s.hp w)(G:Bd e s.Co)
  {b:Array Value}(m:∀β,GL k s.hp β->b=(args.map (SV.den e β)).toArray):
  AY P f b w (JZ e Φ F k s w r.1 r.2):=by
 have p:∀β,GL k s.hp β->Alike [] β half:=λβ c=>⟨c.1,λg=>by simp[half],λ_ h=>by cases h⟩
 unfold vn at h
 split at h
 ·rename_i l I rest;split at h
  ·rename_i Y Z q;split at h
   ·rename_i u j J;cases h;obtain ⟨n,K,L,h0,t,rfl,rfl,rfl,rfl,M,N,Q,R,x,y,rfl⟩:=KT J;have z:=H.heap k H.I5 _ (BE q);simp only at z;rw [Fb (p k H.I5) N] at z;have ha:=m k H.I5;have d:=E u K;unfold Fs at d;rw [L] at d;simp only at d;obtain ⟨T,f1,f2,f3,f4⟩:=H.rY;rw [← x] at f1;obtain ⟨A,i⟩:=d (k l) w T z f1 (f2 _ (BE q)) f3 b (by
     rw[ha,y];simp only[jj];congr 1;congr 1;exact jl λv U=>FR (p k H.I5) (R v U))
    refine AY.fn t ⟨A,i.mono λen w' o=>?_⟩;obtain⟨rfl,C,O⟩:=o;obtain⟨V,D⟩:=H.effG f2 f4 q (row:=Yp e half u.E4.dropLast) (λβ c=>Fb (p β c) Q) C O;refine⟨k,?_,G,λβ c=>by rw[FR (p β (D β c)) M]⟩;have X:St.ph {s with hp:=KL l u.E4.dropLast s.hp,nx:=MK ((n-1)%10000/100) s.nx}=(n-1)%10000/100:=LJ _ _;rw[X];exact V
   ·cases h
  ·cases h
 ·cases h
def vl(C:DE P e Φ S){f:Nat}{args:List SV}{s:St}{r:SV × St}(h:vm S f args s=some r){k:Nat->Nat}{w:World}{F:Nat->Prop}(H:CS e ⟨Ym s.hp,k,w,F,Φ⟩ k s.ph s.hp w)(z:Bd e s.Co)
  {d:Array Value}(i:∀β,GL k s.hp β->d=(args.map (SV.den e β)).toArray):
  AY P f d w (JZ e Φ F k s w r.1 r.2):=by
 have D:∀β,GL k s.hp β->Alike [] β half:=λβ l=>⟨l.1,λg=>by simp[half],λ_ h=>by cases h⟩
 unfold vm at h
 split at h
 ·rename_i v o;cases h;obtain⟨u,E,A,G,y,rfl,rfl,rfl,I,J⟩:=Ps o;have n:=C u E;unfold Fs at n;have K:GO u=none:=Ov A
  ·rw [K] at n;simp only at n;rw [fw (by simp [y])] at n;unfold Mj at n;rw [fw (by rw [A];simp)] at n;obtain ⟨L,p⟩:=n w d (by
    rw[i k H.I5];congr 1;exact jl λv o=>FR (D k H.I5) (J v o))
   refine AY.fn G ⟨L,p.mono λQ R m=>?_⟩;obtain⟨rfl,t⟩:=m;refine⟨k,⟨H.G9,λβ l x T=>(H.heap β l x T).Af t,H.inj,H.ext,H.new,H.AU,t.os,t.tape,t.output,t.size,λb M _ _=>t.block b M,Iu H.rY t.size λF a b=>⟨λc U=>t.block c (b c U),a⟩⟩,z,λβ l=>by rw[FR (D β l) I]⟩
 ·split at h
  ·rename_i v j o;cases h;obtain⟨u,E,V,A,y,rfl,W,rfl,rfl,rfl,I,J⟩:=Pt o;have n:=C u E;unfold Fs at n;have K:GO u=none:=Ov A
   ·rw [K] at n;simp only at n;rw [ga (by simp [A,y])] at n;obtain ⟨X,f1,f2,f3,f4⟩:=H.rY;rw [← W] at f1;have N:=n (fun q Y=>kW z (V _ Y)) w X f1 f3 d (by
     rw[i k H.I5];congr 1;exact jl λv o=>FR (D k H.I5) (J v o))
    refine N.mono λQ R m=>?_;obtain⟨rfl,O⟩:=m;refine⟨k,?_,z,λβ l=>by rw[FR (D β l) I]⟩;have Z:St.ph {s with nx:=MK ((u.ty-1)/100) s.nx}=(u.ty-1)/100:=LJ _ _;rw[Z];exact H.eff f2 f4 O
  ·split at h
   ·rename_i o;cases h;exact xO C o H z i
   ·exact xP C h H z i
def uO(hm:P.follows .mixedOrders=true)(T:DE P e Φ S){n:Nat}(U:vS P e Φ S n):Lb P e Φ (RV P S (n+1)):=by
 intro f args s v s' h k w F H L b g;unfold RV at h;rw[BQ] at h;obtain⟨⟨x,M,N⟩,d,A⟩:=io.1 h;simp only[Yd.BD,gu,jd] at A;obtain⟨rfl,rfl⟩:=A;unfold exec at d;split at d
 ·
  rename_i r V;simp only[Yd.BD,gu,jd] at d;obtain⟨rfl,rfl,rfl⟩:=d;exact vl T V H L g
 split at d
 ·simp[Yd.BD] at d
 rename_i D;split at d
 ·simp[Yd.BD] at d
 ·rename_i fn O;split at d
  ·simp[Yd.BD] at d
  ·rename_i m;split at d
   ·simp[Yd.BD] at d
   ·rename_i c Q;rw[BQ] at d;obtain⟨⟨y,W,l⟩,X,E⟩:=io.1 d;have G:(callFunc f b).run P w=.ok (.enter f b) w:=by
     unfold callFunc;simp only[ig,pm,ia,O];rw[fw m,fw (by simp[Q])];rfl
    refine AY.fn D ⟨G,calls_of_wp O Q ?_⟩;have Y:Inv e ⟨Ym s.hp,k,w,F,Φ⟩ k {s with fr:=PV 0 args [],nx:=MK s.ph (s.nx+100),sz:=fn.ntmps} {tmps:=b++Array.replicate (fn.ntmps-b.size) undef,defers:=[]} w:=by
     have I:St.ph {s with fr:=PV 0 args [],nx:=MK s.ph (s.nx+100),sz:=fn.ntmps}=s.ph:=LJ _ _;refine⟨by rw[I];exact H,⟨rfl,by simp;omega,λβ o t=>?_⟩,L⟩;rw[Pn args 0 [] t (λ_ _=>rfl),ga (ie _),ox];have ha:=g β o;rw[kn,Array.getElem?_append];have q:b.size=args.length:=by rw[ha];simp
     split
     ·rename_i j;rw[ha];simp only[lu,kf];rw[q] at j;rw[gl j];simp[j]
     ·rename_i j;rw[q] at j;rw[List.getD_eq_getElem?_getD,ik Zo];rw[Array.getElem?_replicate];split<;>rfl
    refine wp_mono (U c _ y W l X _ _ _ _ rfl Y) fun z R J Z=>?_;obtain ⟨rfl,k',C⟩:=Z;have fin:∀ (p:(match yK P fn l with
      |none=>(Yd.fail "results":Yd (Ex × SV × St))
      |some v=>match G' s.hp v l.hp with
       |none=>.fail "what is left"
       |some h=>.leaf (.normal,v,{fr:=s.fr,hp:=h,Co:=l.Co,nx:=MK l.ph s.nx,sz:=s.sz})).BD e=some (x,M,N)),
      R.defers=[]/\∃v,(results fn R.tmps).run P J=.ok v J/\JZ e Φ F k s w M N (.returned v) J:=by
     intro p
     split at p
     ·simp[Yd.BD] at p
     ·rename_i vr u;split at p
      ·simp[Yd.BD] at p
      ·rename_i A K;simp only[Yd.BD,gu,jd] at p;obtain⟨rfl,rfl,rfl⟩:=p;obtain⟨G1,G2⟩:=C.h.gc rfl K;have I:St.ph {fr:=s.fr,hp:=A,Co:=l.Co,nx:=MK l.ph s.nx,sz:=s.sz}=l.ph:=LJ _ _;exact⟨C.f.defers,_,yJ C u,k',by rw[I];exact G1,C.Co,λβ o=>by rw[G2 β o]⟩
    cases y with
    |normal=>exact fin E
    |ret=>exact fin E
    |exit i=>simp[Yd.BD] at E
def Py(Q:P.follows .mixedOrders=true)(W:DE P e Φ S):∀n,vS P e Φ S n/\vP P e Φ S n/\Lb P e Φ (RV P S n)
 |0=>by
  refine⟨λc st x v m h=>?_,λc st x v m h=>?_,λf args s v s' h=>?_⟩
  ·simp[exec,Yd.BD] at h
  ·simp[exec,Yd.BD] at h
  ·unfold RV at h;simp[exec,Yd.BD,Yd.bind] at h
 |n+1=>by
  obtain⟨o,R,H⟩:=Py Q W n;have t:vP P e Φ S (n+1):=by
   intro c st x v m h B k a w g I;unfold exec at h;simp only at h;rw[BQ] at h;obtain⟨⟨y,J,u⟩,A,d⟩:=io.1 h;rw[rounds_succ];refine wp_mono (o c st y J u A B k a w g I) λz F G E=>?_;obtain⟨rfl,p,r⟩:=E;cases y with
   |normal=>exact R c u x v m d B p F G g r
   |exit i=>
    simp only[Yd.BD,gu,jd] at d;obtain⟨rfl,rfl,rfl⟩:=d;exact⟨rfl,p,r⟩
   |ret=>
    simp only[Yd.BD,gu,jd] at d;obtain⟨rfl,rfl,rfl⟩:=d;exact⟨rfl,p,r⟩
  refine⟨?_,t,uO Q W o⟩;intro c st x v m h B k a w g I;cases c with
  |skip=>
   simp only[exec,Yd.BD,gu,jd] at h;obtain⟨rfl,rfl,rfl⟩:=h;exact wp_skip ⟨rfl,k,I⟩
  |label l=>
   simp only[exec,Yd.BD,gu,jd] at h;obtain⟨rfl,rfl,rfl⟩:=h;exact wp_label ⟨rfl,k,I⟩
  |ret=>
   simp only[exec,Yd.BD,gu,jd] at h;obtain⟨rfl,rfl,rfl⟩:=h;exact wp_ret ⟨rfl,k,I⟩
  |exit i=>
   simp only[exec,Yd.BD,gu,jd] at h;obtain⟨rfl,rfl,rfl⟩:=h;exact wp_exit ⟨rfl,k,I⟩
  |seq C L=>
   unfold exec at h;simp only at h;rw[BQ] at h;obtain⟨⟨y,J,u⟩,A,d⟩:=io.1 h;refine wp_seq (wp_mono (o C st y J u A B k a w g I) λz F G E=>?_);obtain⟨rfl,p,r⟩:=E;cases y with
   |normal=>exact o L u x v m d B p F G g r
   |exit i=>
    simp only[Yd.BD,gu,jd] at d;obtain⟨rfl,rfl,rfl⟩:=d;exact⟨rfl,p,r⟩
   |ret=>
    simp only[Yd.BD,gu,jd] at d;obtain⟨rfl,rfl,rfl⟩:=d;exact⟨rfl,p,r⟩
  |cond q C L=>
   unfold exec at h;simp only at h;split at h
   ·rename_i b Y;have T:a.eval q=.bool (b.den e):=by rw[I.WZ I.I5,Y];rfl
    have Z:=EC I.Co b;refine wp_cond T ?_;rw[←Z];split at h
    ·rename_i M;rw[M];exact o C st x v m h B k a w g I
    ·rename_i M;rw[M];exact o L st x v m h B k a w g I
    ·rename_i q' _ _ M;simp only[Yd.BD] at h;cases D:(known st.Co b).den e with
     |true=>rw[D] at h;exact o C _ x v m h B k a w g (I.NX D)
     |false=>rw[D] at h;exact o L _ x v m h B k a w g (I.NX D)
   ·simp[Yd.BD] at h
  |block i C=>
   unfold exec at h;simp only at h;rw[BQ] at h;obtain⟨⟨y,J,u⟩,A,d⟩:=io.1 h;refine wp_block (wp_mono (o C st y J u A B k a w g I) λz F G E=>?_);obtain⟨rfl,p,r⟩:=E;cases y with
   |normal=>
    simp only[Yd.BD,gu,jd] at d;obtain⟨rfl,rfl,rfl⟩:=d;exact⟨rfl,p,r⟩
   |exit j=>
    simp only at d;simp only[x9,Exit.inBlock];split at d
    ·rename_i U;simp only[Yd.BD,gu,jd] at d;obtain⟨rfl,rfl,rfl⟩:=d;rw[ga U];exact⟨rfl,p,r⟩
    ·rename_i U;simp only[Yd.BD,gu,jd] at d;obtain⟨rfl,rfl,rfl⟩:=d;rw[fw U];exact⟨rfl,p,r⟩
   |ret=>
    simp only[Yd.BD,gu,jd] at d;obtain⟨rfl,rfl,rfl⟩:=d;exact⟨rfl,p,r⟩
  |loop C=>exact wp_loop_rounds (n+1) (t C st x v m h B k a w g I)
  |region id V K=>
   unfold exec at h;simp only at h;cases K with
   |true=>
    simp only at h;rw[BQ] at h;obtain⟨u,A,d⟩:=io.1 h;simp only[Yd.BD,gu,jd] at d;obtain⟨rfl,rfl,rfl⟩:=d;exact wp_mono (Z9 Q (g▸H) A I id) λz F G E=>E
   |false=>
    simp only at h;rw[BQ] at h;obtain⟨u,A,d⟩:=io.1 h;simp only[Yd.BD,gu,jd] at d;obtain⟨rfl,rfl,rfl⟩:=d;exact wp_region_list (O4 (g▸H) (λp F G r=>⟨rfl,p,r.bump⟩) V.toList 0 st k a w A I)
  |rangeFunc f N O X=>simp[exec,Yd.BD] at h
  |scope C=>simp[exec,Yd.BD] at h
  |goto l=>simp[exec,Yd.BD] at h
  |refuse aa=>simp[exec,Yd.BD] at h
end
