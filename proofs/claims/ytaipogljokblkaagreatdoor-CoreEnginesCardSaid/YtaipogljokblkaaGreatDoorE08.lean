/- Core: Run, Size, Sl, FnC, FnRoot, FnLitanystart, FnVaultstart, FnSteeplestart, FnFits. -/
import Derived.Test.YtaipogljokblkaaGreatDoorE01
import Derived.Deep.AppendSrc
import Derived.Laws.CopyOwn
import Derived.Lib.SliceRun
import Derived.IntWalk
import Derived.WalkKit
import Derived.Laws.AppendOwn
set_option linter.all false
set_option maxRecDepth 100000
set_option maxHeartbeats 8000000
namespace Go.Proofs.YtaipogljokblkaaGreatDoor
open Go Go.RowKit
set_option linter.unusedSimpArgs false
set_option linter.unusedVariables false
set_option linter.unusedSectionVars false
def Own(w:World)(e:TypeId)(sz:Nat)(v:Value)(n:Nat)(xs:List Value):Prop:=
 xs.length = n*sz∧((v = .slice none 0 0∧n = 0) ∨
  ∃g off cap A R,v=.slice (some ⟨g,off,none⟩) n cap/\Bk w g e (A++(xs++R)).toArray/\A.length=off/\n<=cap/\cap<=maxLen/\cap*sz<=xs.length+R.length)
section
variable{w w':World}{e:TypeId}{sz n:Nat}{v:Value}{xs:List Value}
theorem Own.nil:Own w e sz (.slice none 0 0) 0 []:=⟨by simp,.inl ⟨rfl,rfl⟩⟩
theorem Own.lt(h:Own w e sz v n xs){g:Nat}(hg:v.ownBlock=some g):g<w.heap.size:=by
 rcases h.2 with⟨rfl,_⟩|⟨g',off,cap,A,R,rfl,hb,_⟩
 ·cases hg
 ·cases hg;exact hb.lt
theorem Own.kept(h:Own w e sz v n xs)(hb:∀g,v.ownBlock=some g->w'.heap[g]?=w.heap[g]?):Own w' e sz v n xs:=by
 refine⟨h.1,?_⟩;rcases h.2 with h|⟨g,off,cap,A,R,rfl,hk,r⟩
 ·exact .inl h
 ·exact .inr ⟨g,off,cap,A,R,rfl,hk.same (hb g rfl),r⟩
theorem Own.grown{row:Option Nat}(h:Own w e sz v n xs)(hg:w.grownBy w' row)(hne:v.ownBlock=none\/v.ownBlock≠row):Own w' e sz v n xs:=
 h.kept fun g hv=>hg.block g (h.lt hv) (fun e=>by
  rcases hne with h0|h0
  ·rw[hv] at h0;cases h0
  ·exact h0 (hv.trans e))
theorem Own.below(h:Own w e sz v n xs)(hb:Below w.heap.size w w'):Own w' e sz v n xs:=h.kept λg hv=>hb.block g (h.lt hv)
theorem Own.alloc(h:Own w e sz v n xs)(o:Obj):Own (w.alloc o) e sz v n xs:=h.below ((Below.refl _ _).alloc (Nat.le_refl _) _)
theorem Own.drew(h:Own w e sz v n xs):Own w.drew e sz v n xs:=h.kept λ_ _=>rfl
theorem Own.WG{base:Nat}(h:w.ownsRow base e sz v n xs):Own w e sz v n xs:=by
 refine⟨h.1,?_⟩;rcases h.2 with h|⟨g,cap,cur,hv,_,hg,hn,hc,hs,ht⟩
 ·exact .inl h
 ·refine .inr ⟨g,0,cap,[],cur.toList.drop (n*sz),hv,?_,rfl,hn,hc,?_⟩
  ·unfold Bk;rw[hg,←ht];simp
  ·have h1:=h.1;simp;omega
theorem Cc{g off cap:Nat}(h:Own w e sz (.slice (some ⟨g,off,none⟩) n cap) n xs):∀j u,xs[j]?=some u->w.cell? ⟨g,off+j,none⟩=some u:=by
 rcases h.2 with⟨h,_⟩|⟨g',off',cap',A,R,hv,hk,rfl,_⟩
 ·cases h
 ·cases hv;intro j u hu;rw[hk.cell];have hj:j<xs.length:=by
   rcases Nat.lt_or_ge j xs.length with h'|h'
   ·exact h'
   ·rw[List.getElem?_eq_none h'] at hu;cases hu
  simp only[List.getElem?_toArray];rw[List.getElem?_append_right Zo,List.getElem?_append_left Zo];simpa using hu
end
section
variable{P:Program}
theorem OY(w:World)(t e ty:TypeId)(z:Value)(ht:P.underlying t=some (.slice e))(hv:∀w,(zeroValue e).run P w=.ok z w)(h1:∀u∈(Builtin.zeroCells z.cells 1).toList,u.oneCell'=true)
  (g o c:Nat)(cur:Array Value)(tt:TypeId)(hg:w.heap[g]?=some (.cells cur tt (0,0)))(hfit:o+z.cells.size<=cur.size):
  (Builtin.clear_ #[t] ty #[.slice (some ⟨g,o,none⟩) 1 c]).run P w=.ok (.tuple #[]) (w.setRow g (cur.toList.take o++(Builtin.zeroCells z.cells 1).toList++cur.toList.drop (o+z.cells.size)).toArray):=by
 have hz:(Builtin.zeroCells z.cells 1).toList.length=z.cells.size:=by rw[Array.length_toList,size_zeroCells];simp
 have hst:=run_storeCells_at P g o tt (Builtin.zeroCells z.cells 1).toList 0 cur w hg (by rw[hz];simpa using hfit) h1
 simp only[Nat.add_zero] at hst
 rw[hz] at hst
 simp[Builtin.clear_,run_underlying ht,hv,hst]
theorem FV(w:World)(t ty e:TypeId)(i:TypeInfo)(ht:P.underlying t=some (.slice e))(hi:P.info? e=some i)
  (g off sLen sCap:Nat)(cur:Array Value)(tt:TypeId)(hg:w.heap[g]?=some (.cells cur tt (0,0)))
  (a:Addr)(m c:Nat)(news:List Value)(hl:news.length=m*i.size)(hnews:∀j u,news[j]?=some u->w.cell? (a.add j)=some u)(h1:∀u∈news,u.oneCell'=true)
  (hroom:sLen+m<=sCap)(hfit:off+sLen*i.size+news.length<=cur.size):
  (Builtin.append_ #[t,t] ty #[.slice (some ⟨g,off,none⟩) sLen sCap,.slice (some a) m c]).run P w=
   .ok (.slice (some ⟨g,off,none⟩) (sLen+m) sCap) (w.setRow g (cur.toList.take (off+sLen*i.size)++news++cur.toList.drop (off+sLen*i.size+news.length)).toArray):=by
 have hf:=run_firstCells_some (P:=P) w i.size m a m c news hl hnews
 have hst:=run_storeCells_at P g (off+sLen*i.size) tt news 0 cur w hg (by simpa using hfit) h1
 simp only[Nat.add_zero] at hst
 simp[Builtin.append_,run_underlying ht,sizeOf,typeInfo,hi,Builtin.lenOf,hroom,hf,Addr.add_lit,hst]
def Em(w:World)(v v':Value):Prop:=∀g,v'.ownBlock=some g->v.ownBlock=some g\/w.heap.size<=g
theorem take_add{α:Type}(A B:List α)(n:Nat):(A++B).take (A.length+n)=A++B.take n:=List.take_length_add_append n
theorem FA{α:Type}(A B:List α)(n:Nat):(A++B).drop (A.length+n)=B.drop n:=List.drop_length_add_append n
theorem G7(w:World)(g:Nat)(cs:Array Value):w.grownBy (w.setRow g cs) (some g):=
 ⟨rfl,rfl,rfl,by simp,λk _ hk=>setRow_other w g k _ (λe=>hk (by simp[e]))⟩
theorem RV(w:World)(row:Option Nat):w.grownBy w row:=⟨rfl,rfl,rfl,Nat.le_refl _,λ_ _ _=>rfl⟩
theorem Uu{w w':World}(h:w.grownBy w' none)(row:Option Nat):w.grownBy w' row:=⟨h.os,h.tape,h.output,h.size,λk hk _=>h.block k hk Zs⟩
theorem Hj{w w1 w2:World}{row:Option Nat}(h:w.grownBy w1 row)(h':w1.grownBy w2 row):w.grownBy w2 row:=
 ⟨h'.os.trans h.os,h'.tape.trans h.tape,h'.output.trans h.output,Nat.le_trans h.size h'.size,λk hk hr=>(h'.block k (Nat.lt_of_lt_of_le hk h.size) hr).trans (h.block k hk hr)⟩
theorem RW{w w1:World}{row:Option Nat}(h:w.drew.grownBy w1 row):w.grownBy w1 row:=⟨h.os,h.tape,h.output,h.size,h.block⟩
theorem Bk.row{w:World}{g:Nat}{t:TypeId}{cs cs':Array Value}(h:Bk w g t cs):Bk (w.setRow g cs') g t cs':=setRow_heap w g cs cs' t (0,0) h
theorem WD(w:World)(t ty e:TypeId)(i:TypeInfo)(z:Value)(sz bytes:Nat)(ht:P.underlying t=some (.slice e))(hi:P.info? e=some i)(hz:i.zero=some z)
  (hsize:i.size=sz)(hby:i.bytes=bytes)(hzs:z.cells.size=sz)(hsz:0<sz)(v:Value)(n:Nat)(xs:List Value)(h:Own w e sz v n xs)
  (a:Addr)(m c:Nat)(news:List Value)(hl:news.length=m*sz)(hnews:∀j u,news[j]?=some u->w.cell? (a.add j)=some u)(h1:∀u∈news,u.oneCell'=true)(hm:0<m)
  (b1:n+m<=maxLen)(b2:(n+m)*bytes<=140737488355328):
  ∃v' w',(Builtin.append_ #[t,t] ty #[v,.slice (some a) m c]).run P w=.ok v' w'/\Own w' e sz v' (n+m) (xs++news)/\w.grownBy w' v.ownBlock/\Em w v v':=by
 have fr:∀{v':Value} {w':World} {k:Nat} {ys:List Value},w'.ownsRow w.heap.size e sz v' k ys->Em w v v':=λ{v' w' k ys} ho g hg=>by
  rcases ho.2 with⟨rfl,_⟩|⟨g',cap,cur,rfl,hb,_⟩
  ·cases hg
  ·cases hg;exact Or.inr hb
 rcases h.2 with⟨rfl,rfl⟩|⟨g,off,cap,A,R,rfl,hk,rfl,hn,hc,hs⟩
 ·obtain rfl:xs=[]:=List.eq_nil_of_length_eq_zero (by simpa using h.1);obtain⟨v',w',hr,ho,hg,_⟩:=run_append_own (P:=P) w w.heap.size t ty e i z sz bytes ht hi hz hsize hby hzs hsz (.slice none 0 0) 0 [] (World.ownsRow_nil w _ e sz) a m c news hl hnews h1 b1 b2 (Nat.le_refl _);exact⟨v',w',hr,Own.WG ho,hg,fr ho⟩
 ·by_cases hroom:n+m<=cap
  ·have hx:=h.1;have hle:(n+m)*sz<=cap*sz:=Nat.mul_le_mul_right _ hroom;rw[Nat.add_mul] at hle;have hfit:A.length+n*sz+news.length<=(A++(xs++R)).toArray.size:=by simp;omega
   subst hsize;have hr:=FV (P:=P) w t ty e i ht hi g A.length n cap _ e hk a m c news hl hnews h1 hroom hfit;refine⟨_,_,hr,⟨by rw[List.length_append,hx,hl,Nat.add_mul],.inr ⟨g,A.length,cap,A,R.drop (m*i.size),rfl,?_,rfl,hroom,hc,?_⟩⟩,G7 _ _ _,λg' hg'=>Or.inl hg'⟩
   ·have hk':=hk.row (cs':=(((A++(xs++R)).toArray.toList.take (A.length+n*i.size))++news++((A++(xs++R)).toArray.toList.drop (A.length+n*i.size+news.length))).toArray);have e1:((A++(xs++R)).toArray.toList.take (A.length+n*i.size))++news++((A++(xs++R)).toArray.toList.drop (A.length+n*i.size+news.length))=A++(xs++news++R.drop (m*i.size)):=by
     rw[←hx,←hl];show(A++(xs++R)).take (A.length+xs.length)++news++(A++(xs++R)).drop (A.length+xs.length+news.length)=_;rw[Nat.add_assoc,take_add,FA,FA,List.take_left']
     ·simp
     ·rfl
    rw[e1] at hk';rw[e1];exact hk'
   ·simp;omega
  ·obtain⟨v',w',hr,ho,hg⟩:=run_append_arg_grows (P:=P) w t ty e i z sz bytes ht hi hz hsize hby hzs hsz ⟨g,A.length,none⟩ n cap xs h.1 (λj u hj=>by rw[Addr.add_lit];exact Cc h j u hj) a m c news hl hnews Zo b1 b2;exact⟨v',w',hr,Own.WG ho,Uu hg _,fr ho⟩
section
variable{w w':World}{ops:Array Oper}{rest:List Oper}{o:Oper}{a:Act}{Q:Exit->Act->World->Prop}
theorem Ya(hgd:o.guard=none)(s x:Operand)(t tx:TypeId)(vs vx v:Value)(hop:o.op=.call {callee:=.builtin .append,args:=#[s,x],argTypes:=#[t,tx]})(hs:a.eval s=vs)(hx:a.eval x=vx)
  (hrun:(Builtin.append_ #[t,tx] o.type #[vs,vx]).run P w=.ok v w')(h:wpList P ops Q rest (a.put o.dst v) w'):wpList P ops Q (o::rest) a w:=
 wpList_plain hgd λK hK=>by
  unfold Oper.wp;simp[execOp,hop,resolve,invoke,builtin,hs,hx,hrun,Result.andThen];exact hK _ _ h
theorem Hp(hgd:o.guard=none)(s:Operand)(t:TypeId)(vs v:Value)(hop:o.op=.call {callee:=.builtin .clear,args:=#[s],argTypes:=#[t]})(hs:a.eval s=vs)
  (hrun:(Builtin.clear_ #[t] o.type #[vs]).run P w=.ok v w')(h:wpList P ops Q rest (a.put o.dst v) w'):wpList P ops Q (o::rest) a w:=
 wpList_plain hgd λK hK=>by
  unfold Oper.wp;simp[execOp,hop,resolve,invoke,builtin,hs,hrun,Result.andThen];exact hK _ _ h
end
end
@[go_sem] theorem size_le {n m:Nat} (h:n<m):n<=m:=Nat.le_of_lt h
@[go_sem] theorem size_lt_add {n m k:Nat} (h:n<m):n<m+k:=Nat.lt_of_lt_of_le h (Nat.le_add_right _ _)
@[go_sem] theorem size_le_add {n m k:Nat} (h:n<=m):n<=m+k:=Nat.le_trans h (Nat.le_add_right _ _)
def Y5(l:List Int):List Value:=l.map (Value.int .i64)
def Sl(w:World)(B sz:Nat)(A:Option Addr)(n:Nat)(xs:List Value):Prop:=
 xs.length=n*sz/\(0<n->∃b off,A=some ⟨b,off,none⟩/\b<B/\∀j u,xs[j]?=some u->w.cell? ⟨b,off+j,none⟩=some u)
section
variable{w w':World}{B B' sz n:Nat}{A:Option Addr}{xs:List Value}
theorem Sl.none_:Sl w B sz A 0 []:=⟨by simp,λh=>absurd h Zo⟩
theorem Sl.AG(h:Sl w B sz A n xs)(hk:∀b o,b<B->w'.cell? ⟨b,o,none⟩=w.cell? ⟨b,o,none⟩):Sl w' B sz A n xs:=
 ⟨h.1,fun hn=>by
  obtain⟨b,off,e,hb,hc⟩:=h.2 hn;exact⟨b,off,e,hb,λj u hu=>(hk _ _ hb).trans (hc j u hu)⟩⟩
theorem Sl.more(h:Sl w B sz A n xs)(hB:B<=B'):Sl w B' sz A n xs:=
 ⟨h.1,fun hn=>by
  obtain⟨b,off,e,hb,hc⟩:=h.2 hn;exact⟨b,off,e,by omega,hc⟩⟩
theorem Sl.below(h:Sl w B sz A n xs)(hb:Below B w w'):Sl w' B sz A n xs:=h.AG λb o hp=>hb.cell (p:=⟨b,o,none⟩) hp
theorem Sl.Sc{C:Nat}(h:Sl w B sz A n xs)(hb:Below C w w')(hBC:B<=C):Sl w' B sz A n xs:=h.below (hb.mono hBC)
theorem Sl.WH{base:Nat}{e:TypeId}{c:Nat}(h:w.ownsRow base e sz (.slice A n c) n xs):Sl w w.heap.size sz A n xs:=by
 refine⟨h.1,λhn=>?_⟩;obtain⟨g,cap,hv,_,hlt⟩:=h.form hn;have hA:A=some ⟨g,0,none⟩:=by injection hv
 subst hA;have hc:=h.cells (g:=g) rfl;refine⟨g,0,rfl,hlt,λj u hu=>?_⟩;have:=hc j u hu;simp only[Addr.add] at this;split at this
 ·rename_i h0;subst h0;simpa using this
 ·simpa using this
end
theorem CY(l:List Int):(Y5 l).length=l.length:=by simp[Y5]
theorem Ku(l:List Int)(i:Nat)(h:i<l.length):(Y5 l)[i]?=some (.int .i64 l[i]):=by simp[Y5,h]
theorem Sl.pick{w:World}{B:Nat}{A:Option Addr}{l:List Int}(h:Sl w B 1 A l.length (Y5 l)){i:Nat}(hi:i<l.length):
  ∃b off,A=some ⟨b,off,none⟩/\b<B/\w.cell? ⟨b,off+i,none⟩=some (.int .i64 l[i]):=by
 obtain⟨b,off,e,hb,hc⟩:=h.2 Zo
 exact⟨b,off,e,hb,hc i _ (Ku l i hi)⟩
theorem Sl.up{w w':World}{sz n:Nat}{A:Option Addr}{xs:List Value}(h:Sl w w.heap.size sz A n xs)(hb:Below w.heap.size w w'):Sl w' w'.heap.size sz A n xs:=(h.below hb).more hb.size
end Go.Proofs.YtaipogljokblkaaGreatDoor
namespace Go.Proofs.YtaipogljokblkaaGreatDoor.Fn
open Go Go.RowKit
def EO(st:Int)(o:K5):Prop:=
 (st=1/\o.key=0/\o.Ah=0/\((o.kind=1/\0<=o.val/\o.val<=1073741824)\/((o.kind=2\/o.kind=3)/\o.val=0)))\/
 (st=2/\o.key=0/\o.Ah=0/\((o.kind=4/\0<=o.val/\o.val<=1073741824)\/(o.kind=5/\o.val=0)))\/
 ((st=3\/st=4)/\0<=o.key/\o.key<=255/\o.Ah=0/\((o.kind=6/\0<=o.val/\o.val<=1073741824)\/((o.kind=7\/o.kind=8)/\o.val=0)))\/
 (st=5/\0<=o.key/\o.key<=255/\((o.kind=6/\0<=o.val/\o.val<=1073741824/\1<=o.Ah/\o.Ah<=3)\/((o.kind=7\/o.kind=8)/\o.val=0/\o.Ah=0)))
instance(st:Int)(o:K5):Decidable (EO st o):=by unfold EO;infer_instance
def F6(st:Int)(o:K5):Bool:=decide (EO st o)
def Jv(o:K5):Prop:=0<=o.key/\o.key<=255/\((o.kind=6/\0<=o.val/\o.val<=1073741824/\0<=o.Ah/\o.Ah<=3)\/((o.kind=7\/o.kind=8)/\o.val=0/\o.Ah=0))
instance(o:K5):Decidable (Jv o):=by unfold Jv;infer_instance
def LR(o:K5):Bool:=decide (Jv o)
theorem Dv(o:K5):LR o=true↔Jv o:=by simp[LR]
theorem Bj(st:Int)(o:K5):F6 st o=true↔EO st o:=by simp[F6]
theorem G3(o:K5)(w:World):
  Calls Tryz.prog 69 #[o.v] w (MH (LR o) w):=by
 obtain⟨kind,key,val,Ah⟩:=o
 simp only[K5.v]
 go_enter Tryz.func69,Tryz.ntmps69
 go_wp2
 all_goals
  go_ret
  refine⟨CO ?_,vB⟩
  rw[Bool.eq_iff_iff,Dv,Jv]
  simp at*
  omega
theorem Ed(n:Int)(T:TypeId)(u:Value)(w:World):
  Calls Tryz.prog 31 #[.int .i64 n,.iface T u] w λe w'=>
   e=.returned (.iface 143 (.pointer (some ⟨w.heap.size,0,none⟩)))/\w.alloc (.cells #[.int .i64 n,.iface T u] 145)=w':=by
 go_enter Tryz.func31,Tryz.ntmps31
 go_wp2
 go_ret
 exact⟨rfl,rfl⟩
def Ky(ok:Bool)(w:World)(e:Ending)(w':World):Prop:=
 (∃v er,e=.returned (.tuple #[v,er])/\(if ok then er=.nilIface else ∃T p,er=.iface T (.pointer (some p))))/\Below w.heap.size w w'
theorem Gv{ok:Bool}{w w':World}{v:Value}(h:ok=true)(hb:Below w.heap.size w w'):Ky ok w (.returned (.tuple #[v,.nilIface])) w':=
 ⟨⟨_,_,rfl,by rw[if_pos h]⟩,hb⟩
theorem Hx{ok:Bool}{w w':World}{v:Value}{T:TypeId}{p:Addr}(h:ok=false)(hb:Below w.heap.size w w'):Ky ok w (.returned (.tuple #[v,.iface T (.pointer (some p))])) w':=
 ⟨⟨_,_,rfl,by rw[h];exact⟨_,_,rfl⟩⟩,hb⟩
theorem Pe(o:K5)(w:World)(T:TypeId)(u:Value)(hE:w.cell? ⟨0,0,none⟩=some (.iface T u)):
  Calls Tryz.prog 48 #[o.v] w (Ky (F6 1 o) w):=by
 obtain⟨kind,key,val,Ah⟩:=o
 simp only[K5.v]
 have hlt:=World.block_lt_of_cell? w _ hE
 go_enter Tryz.func48,Tryz.ntmps48
 go_wp2_with (go_at_call 31;refine(Ed _ _ _ _).mono ?_;rintro e w' ⟨rfl,rfl⟩)
 all_goals
  go_ret2
  first
   |(refine Gv ?_ vB;simp at*;rw[Bj,EO];simp;omega)
   |(refine Hx ?_ vB;simp at*;rw[Bool.eq_false_iff,Ne,Bj,EO];simp;omega)
theorem LV(o:K5)(w:World)(T:TypeId)(u:Value)(hE:w.cell? ⟨0,0,none⟩=some (.iface T u)):
  Calls Tryz.prog 49 #[o.v] w (Ky (F6 2 o) w):=by
 obtain⟨kind,key,val,Ah⟩:=o
 simp only[K5.v]
 have hlt:=World.block_lt_of_cell? w _ hE
 go_enter Tryz.func49,Tryz.ntmps49
 go_wp2_with (go_at_call 31;refine(Ed _ _ _ _).mono ?_;rintro e w' ⟨rfl,rfl⟩)
 all_goals
  go_ret2
  first
   |(refine Gv ?_ vB;simp at*;rw[Bj,EO];simp;omega)
   |(refine Hx ?_ vB;simp at*;rw[Bool.eq_false_iff,Ne,Bj,EO];simp;omega)
end Go.Proofs.YtaipogljokblkaaGreatDoor.Fn
namespace Go.Proofs.YtaipogljokblkaaGreatDoor.Fn
open Go Go.RowKit
theorem Po(n:Int)(w:World)(h0:0<=n)(h1:n<24):
  Calls Tryz.prog 14 #[.int .i64 n] w λe w'=>e=.returned (.tuple #[.agg #[.int .i64 0,.int .i64 0,.int .i64 n],.nilIface])/\
   w.alloc (.cells #[.int .i64 0,.int .i64 0,.int .i64 n] 54)=w':=by
 go_enter Tryz.func14,Tryz.ntmps14
 go_wp2
 go_returns
 exact⟨by simp,rfl⟩
def qS(w:World)(e:Ending)(w':World):Prop:=(∃p,e=.returned (.pointer p))/\Below w.heap.size w w'
theorem NP(a b c k:Int)(o:K5)(w:World):
  Calls Tryz.prog 70 #[.agg #[.int .i64 a,.int .i64 b,.int .i64 c],.int .i64 k,o.v] w (qS w):=by
 obtain⟨kind,key,val,Ah⟩:=o
 simp only[K5.v]
 go_enter Tryz.func70,Tryz.ntmps70
 go_wp2
 all_goals
  go_ret
  exact⟨⟨_,rfl⟩,vB⟩
end Go.Proofs.YtaipogljokblkaaGreatDoor.Fn
namespace Go.Proofs.YtaipogljokblkaaGreatDoor.Fn
open Go Go.RowKit
theorem ME(o:K5)(w:World)(T:TypeId)(u:Value)(hE:w.cell? ⟨0,0,none⟩=some (.iface T u)):
  Calls Tryz.prog 50 #[o.v] w (Ky (F6 3 o) w):=by
 obtain⟨kind,key,val,Ah⟩:=o
 simp only[K5.v]
 have hlt:=World.block_lt_of_cell? w _ hE
 simp at hlt
 cases hg:LR ⟨kind,key,val,Ah⟩
 all_goals
  have hg':=hg
  first|rw[Bool.eq_false_iff,Ne,Dv,Jv] at hg'|rw[Dv,Jv] at hg'
  simp at hg'
  have HG:=Zh hg';clear hg'
  go_enter Tryz.func50,Tryz.ntmps50
  go_wp2_with (first|(go_at_call 69;refine(G3 ⟨kind,key,val,Ah⟩ _).mono ?_;rintro e w1 ⟨rfl,hb1⟩;obtain⟨hc1,hf1⟩:=M7 hb1;have hz1:w.heap.size<w1.heap.size:=(by have h:=hb1.size;simp at h;omega))|(go_at_call 31;refine(Ed _ _ _ _).mono ?_;rintro e w' ⟨rfl,rfl⟩)|(go_at_call 14;refine(Po _ _ Zo Zo).mono ?_;rintro e w' ⟨rfl,rfl⟩)|(go_at_call 70;refine(NP _ _ _ _ ⟨kind,key,val,Ah⟩ _).mono ?_;rintro e w2 ⟨⟨p2,rfl⟩,hb2⟩))
  all_goals
   go_ret2
   have hg':=HG.out
   have hB:Below w.heap.size w w1:=((Below.refl _ _).alloc (Nat.le_refl _) _).trans (hb1.mono Zs)
   have hsz:w.heap.size<=w1.heap.size:=Zo
   try (have hB2:Below w.heap.size w w2:=((hB.alloc hsz _).alloc (by simp;omega) _).trans (hb2.mono (by simp;omega)))
   try clear hb2
   clear hc1 hf1 hb1
   first
    |(refine Gv ?_ vB;clear hB;(try clear hB2);(try simp at*);rw[Bj,EO];simp;omega)
    |(refine Hx ?_ vB;clear hB;(try simp at*);rw[Bool.eq_false_iff,Ne,Bj,EO];simp;omega)
end Go.Proofs.YtaipogljokblkaaGreatDoor.Fn
namespace Go.Proofs.YtaipogljokblkaaGreatDoor.Fn
open Go Go.RowKit
theorem Nj(o:K5)(w:World)(T:TypeId)(u:Value)(hE:w.cell? ⟨0,0,none⟩=some (.iface T u)):
  Calls Tryz.prog 51 #[o.v] w (Ky (F6 4 o) w):=by
 obtain⟨kind,key,val,Ah⟩:=o
 simp only[K5.v]
 have hlt:=World.block_lt_of_cell? w _ hE
 simp at hlt
 cases hg:LR ⟨kind,key,val,Ah⟩
 all_goals
  have hg':=hg
  first|rw[Bool.eq_false_iff,Ne,Dv,Jv] at hg'|rw[Dv,Jv] at hg'
  simp at hg'
  have HG:=Zh hg';clear hg'
  go_enter Tryz.func51,Tryz.ntmps51
  go_wp2_with (first|(go_at_call 69;refine(G3 ⟨kind,key,val,Ah⟩ _).mono ?_;rintro e w1 ⟨rfl,hb1⟩;obtain⟨hc1,hf1⟩:=M7 hb1;have hz1:w.heap.size<w1.heap.size:=(by have h:=hb1.size;simp at h;omega))|(go_at_call 31;refine(Ed _ _ _ _).mono ?_;rintro e w' ⟨rfl,rfl⟩))
  all_goals
   go_ret2
   have hg':=HG.out
   have hB:Below w.heap.size w w1:=((Below.refl _ _).alloc (Nat.le_refl _) _).trans (hb1.mono Zs)
   have hsz:w.heap.size<=w1.heap.size:=Zo
   clear hc1 hf1 hb1
   first
    |(refine Gv ?_ vB;clear hB;(try simp at*);rw[Bj,EO];simp;omega)
    |(refine Hx ?_ vB;clear hB;(try simp at*);rw[Bool.eq_false_iff,Ne,Bj,EO];simp;omega)
end Go.Proofs.YtaipogljokblkaaGreatDoor.Fn
namespace Go.Proofs.YtaipogljokblkaaGreatDoor.Fn
open Go Go.RowKit
theorem L4(o:K5)(w:World)(T:TypeId)(u:Value)(hE:w.cell? ⟨0,0,none⟩=some (.iface T u)):
  Calls Tryz.prog 52 #[o.v] w (Ky (F6 5 o) w):=by
 obtain⟨kind,key,val,Ah⟩:=o
 simp only[K5.v]
 have hlt:=World.block_lt_of_cell? w _ hE
 simp at hlt
 cases hg:LR ⟨kind,key,val,Ah⟩
 all_goals
  have hg':=hg
  first|rw[Bool.eq_false_iff,Ne,Dv,Jv] at hg'|rw[Dv,Jv] at hg'
  simp at hg'
  have HG:=Zh hg';clear hg'
  go_enter Tryz.func52,Tryz.ntmps52
  go_wp2_with (first|(go_at_call 69;refine(G3 ⟨kind,key,val,Ah⟩ _).mono ?_;rintro e w1 ⟨rfl,hb1⟩;obtain⟨hc1,hf1⟩:=M7 hb1;have hz1:w.heap.size<w1.heap.size:=(by have h:=hb1.size;simp at h;omega))|(go_at_call 31;refine(Ed _ _ _ _).mono ?_;rintro e w' ⟨rfl,rfl⟩))
  all_goals
   go_ret2
   have hg':=HG.out
   have hB:Below w.heap.size w w1:=((Below.refl _ _).alloc (Nat.le_refl _) _).trans (hb1.mono Zs)
   have hsz:w.heap.size<=w1.heap.size:=Zo
   clear hc1 hf1 hb1
   first
    |(refine Gv ?_ vB;clear hB;(try simp at*);rw[Bj,EO];simp;omega)
    |(refine Hx ?_ vB;clear hB;(try simp at*);rw[Bool.eq_false_iff,Ne,Bj,EO];simp;omega)
end Go.Proofs.YtaipogljokblkaaGreatDoor.Fn
namespace Go.Proofs.YtaipogljokblkaaGreatDoor.Fn
open Go Go.RowKit
theorem La{ok:Bool}{er:Value}(h:if ok then er=.nilIface else ∃T p,er=.iface T (.pointer (some p)))(w:World):
  (binOp .eql 28 er .nilIface).run Tryz.prog w=.ok (.bool ok) w:=by
 cases ok
 ·obtain⟨T,p,rfl⟩:=(by simpa using h:∃T p,er=.iface T (.pointer (some p)));simp[go_sem]
 ·obtain rfl:er=.nilIface:=by simpa using h
  simp[go_sem]
theorem Lb{ok:Bool}{er:Value}(h:if ok then er=.nilIface else ∃T p,er=.iface T (.pointer (some p)))(x:Operand)(w:World):
  (eqGuard .eql 28 x (.const .nilIface) er .nilIface).run Tryz.prog w=.ok () w:=by
 cases ok
 ·obtain⟨T,p,rfl⟩:=(by simpa using h:∃T p,er=.iface T (.pointer (some p)));simp[go_sem]
 ·obtain rfl:er=.nilIface:=by simpa using h
  simp[go_sem]
theorem U0(st:Int)(o:K5)(w:World)(T:TypeId)(u:Value)(hE:w.cell? ⟨0,0,none⟩=some (.iface T u)):
  Calls Tryz.prog 25 #[.int .i64 st,o.v] w (MH (F6 st o) w):=by
 have hlt:=World.block_lt_of_cell? w _ hE
 simp at hlt
 obtain⟨kind,key,val,Ah⟩:=o
 simp only[K5.v]
 have hE1:∀o:Obj,(w.alloc o).cell? ⟨0,0,none⟩=some (.iface T u):=λo=>(World.cell?_alloc_lt w o _ hlt).trans hE
 go_enter Tryz.func25,Tryz.ntmps25
 go_wp2_with (first|(go_at_call 48;refine(Pe ⟨kind,key,val,Ah⟩ _ T u (hE1 _)).mono ?_;rintro e w1 ⟨⟨v1,er,rfl,her⟩,hb1⟩;have hq:=La her;have hqg:=Lb her)|(go_at_call 49;refine(LV ⟨kind,key,val,Ah⟩ _ T u (hE1 _)).mono ?_;rintro e w1 ⟨⟨v1,er,rfl,her⟩,hb1⟩;have hq:=La her;have hqg:=Lb her)|(go_at_call 50;refine(ME ⟨kind,key,val,Ah⟩ _ T u (hE1 _)).mono ?_;rintro e w1 ⟨⟨v1,er,rfl,her⟩,hb1⟩;have hq:=La her;have hqg:=Lb her)|(go_at_call 51;refine(Nj ⟨kind,key,val,Ah⟩ _ T u (hE1 _)).mono ?_;rintro e w1 ⟨⟨v1,er,rfl,her⟩,hb1⟩;have hq:=La her;have hqg:=Lb her)|(go_at_call 52;refine(L4 ⟨kind,key,val,Ah⟩ _ T u (hE1 _)).mono ?_;rintro e w1 ⟨⟨v1,er,rfl,her⟩,hb1⟩;have hq:=La her;have hqg:=Lb her))
 all_goals try go_ret
 rotate_right
 ·have hf:F6 st ⟨kind,key,val,Ah⟩=false:=by rw[Bool.eq_false_iff,Ne,Bj,EO];simp at*;omega
  exact⟨by rw[hf];rfl,vB⟩
 all_goals
  have hst:st=1\/st=2\/st=3\/st=4\/st=5:=by simp at*;omega
  rcases hst with rfl|rfl|rfl|rfl|rfl
  all_goals first
   |(exfalso;clear hb1 her hq hqg hE hE1;simp at*;done)
   |exact⟨rfl,((Below.refl _ _).alloc (Nat.le_refl _) _).trans (hb1.mono Zs)⟩
end Go.Proofs.YtaipogljokblkaaGreatDoor.Fn
