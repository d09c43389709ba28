/- Core: DcA, QK, DcB. -/
import Derived.Test.YtaipogljokblkaaGreatDoorE08
import Derived.Test.YtaipogljokblkaaGreatDoorE01
import Derived.Test.YtaipogljokblkaaGreatDoorE39
import Derived.Test.YtaipogljokblkaaGreatDoorE38
import Derived.KernelRfl
import Derived.Deep.AppendLies
set_option linter.all false
set_option maxRecDepth 100000
set_option maxHeartbeats 8000000
namespace Go.Proofs.YtaipogljokblkaaGreatDoor.Fn
open Go Go.RowKit
set_option linter.unusedSimpArgs false
set_option linter.unusedVariables false
set_option linter.unusedSectionVars false
theorem nE(s:ByteArray)(k:Nat)(p:Addr)(w:World)(hc:w.cell? p=some (.string (rest s k)))(hf:w.frozen? p=false):
  Calls Tryz.prog 28 #[.pointer (some p)] w λe w'=>e=.returned (.int .i64 (JS s k))/\w.setCell p (.string (rest s (k+1)))=w':=by
 by_cases h:k<s.size
 ·have h1:0<(rest s k).size:=by rw[L7];omega
  have hh:=dU s k h h1;have hst:=dT s k;generalize hr:rest s k=r at*;generalize hr':rest s (k+1)=r' at*;have hne:r.toList.isEmpty=false:=IH h1;have H1:=Zh hh;clear hh;have H2:=Zh hst;clear hst;clear hr hr';go_enter Tryz.func28,Tryz.ntmps28;go_wp2;go_ret;exact⟨tE (by rw[←H1.out];exact iP _),by rw[H2.out]⟩
 ·have hb:JS s k=0:=by unfold JS;rw[dif_neg h]
  have he:rest s (k+1)=rest s k:=by rw[It s k Zo,It s (k+1) Zo]
  rw[he,Rr hc,hb];have h0:=It s k Zo;rw[h0] at hc;clear he hb h0;go_enter Tryz.func28,Tryz.ntmps28;go_wp2;go_ret;exact⟨rfl,rfl⟩
def FN(st kind x y:Int):K5:=
 if kind=1\/kind=4 then⟨kind,0,256*x+y,0⟩
 else if kind=6 then⟨kind,x,y,if st=5 then y%3+1 else 0⟩
 else if kind=7\/kind=8 then⟨kind,x,0,0⟩
 else⟨kind,0,0,0⟩
theorem oO(st kind x y:Int)(w:World)(hx0:0<=x)(hx1:x<=255)(hy0:0<=y)(hy1:y<=255):
  Calls Tryz.prog 30 #[.int .i64 st,.int .i64 kind,.int .i64 x,.int .i64 y] w (RetV (FN st kind x y).v w):=by
 go_enter Tryz.func30,Tryz.ntmps30
 go_wp2
 all_goals
  go_returns
  refine⟨?_,by go_grown⟩
  simp_all [FN,K5.v]
def B6(st:Int):List Int:=if st=1 then[1,2,3] else if st=2 then[4,5] else if 3<=st/\st<=5 then[6,7,8] else[]
theorem fL(st:Int)(w:World)(h1:1<=st)(h5:st<=5):
  Calls Tryz.prog 29 #[.int .i64 st] w λe w'=>e=.returned (.slice (some ⟨w.heap.size,0,none⟩) (B6 st).length (B6 st).length)/\
   w.alloc (.cells ((B6 st).map (Value.int .i64)).toArray 3)=w':=by
 go_enter Tryz.func29,Tryz.ntmps29
 go_wp2
 all_goals
  go_returns
  simp_all [B6]
structure Dj where
 Cj:Int
 op:K5
 deriving DecidableEq
structure wK where
 st:Int
 en:Int
 th:Int
 sl:Int
 no:Int
 ops:List Dj
 Mr:List Int
 deriving DecidableEq
def Dj.cells(t:Dj):List Value:=[.int .i64 t.Cj,.int .i64 t.op.kind,.int .i64 t.op.key,.int .i64 t.op.val,.int .i64 t.op.Ah]
def Dp(l:List Dj):List Value:=l.flatMap Dj.cells
def Y5(l:List Int):List Value:=l.map (Value.int .i64)
def Sl(w:World)(B sz:Nat)(A:Option Addr)(n:Nat)(xs:List Value):Prop:=
 xs.length=n*sz/\(0<n->∃b off,A=some ⟨b,off,none⟩/\b<B/\∀j u,xs[j]?=some u->w.cell? ⟨b,off+j,none⟩=some u)
section
variable{w w':World}{B B' sz n:Nat}{A:Option Addr}{xs:List Value}
theorem Sl.none_:Sl w B sz A 0 []:=⟨by simp,λh=>absurd h Zo⟩
theorem Sl.AG(h:Sl w B sz A n xs)(hk:∀b o,b<B->w'.cell? ⟨b,o,none⟩=w.cell? ⟨b,o,none⟩):Sl w' B sz A n xs:=
 ⟨h.1,fun hn=>by
  obtain⟨b,off,e,hb,hc⟩:=h.2 hn;exact⟨b,off,e,hb,λj u hu=>(hk _ _ hb).trans (hc j u hu)⟩⟩
theorem Sl.more(h:Sl w B sz A n xs)(hB:B<=B'):Sl w B' sz A n xs:=
 ⟨h.1,fun hn=>by
  obtain⟨b,off,e,hb,hc⟩:=h.2 hn;exact⟨b,off,e,by omega,hc⟩⟩
theorem Sl.below(h:Sl w B sz A n xs)(hb:Below B w w'):Sl w' B sz A n xs:=h.AG λb o hp=>hb.cell (p:=⟨b,o,none⟩) hp
theorem Sl.Sc{C:Nat}(h:Sl w B sz A n xs)(hb:Below C w w')(hBC:B<=C):Sl w' B sz A n xs:=h.below (hb.mono hBC)
theorem Sl.WH{base:Nat}{e:TypeId}{c:Nat}(h:w.ownsRow base e sz (.slice A n c) n xs):Sl w w.heap.size sz A n xs:=by
 refine⟨h.1,λhn=>?_⟩;obtain⟨g,cap,hv,_,hlt⟩:=h.form hn;have hA:A=some ⟨g,0,none⟩:=by injection hv
 subst hA;have hc:=h.cells (g:=g) rfl;refine⟨g,0,rfl,hlt,λj u hu=>?_⟩;have:=hc j u hu;simp only[Addr.add] at this;split at this
 ·rename_i h0;subst h0;simpa using this
 ·simpa using this
end
theorem CY(l:List Int):(Y5 l).length=l.length:=by simp[Y5]
theorem Ku(l:List Int)(i:Nat)(h:i<l.length):(Y5 l)[i]?=some (.int .i64 l[i]):=by simp[Y5,h]
theorem VN(l:List Dj):∀(i:Nat) (_:i<l.length) (j:Nat),j<5->(Dp l)[i*5+j]?=(l[i]).cells[j]?:=by
 induction l with
 |nil=>intro i h;simp at h
 |cons a l ih=>
  intro i h j hj;have ha:(Dj.cells a).length=5:=rfl;cases i with
  |zero=>
   simp only[Dp,List.flatMap_cons,Nat.zero_mul,Nat.zero_add,List.getElem_cons_zero];rw[List.getElem?_append_left Zo]
  |succ i=>
   simp only[Dp,List.flatMap_cons,List.getElem_cons_succ];rw[List.getElem?_append_right Zo,ha,show(i+1)*5+j-5=i*5+j from by omega];exact ih i (by simpa using h) j hj
theorem Sl.pick{w:World}{B:Nat}{A:Option Addr}{l:List Int}(h:Sl w B 1 A l.length (Y5 l)){i:Nat}(hi:i<l.length):
  ∃b off,A=some ⟨b,off,none⟩/\b<B/\w.cell? ⟨b,off+i,none⟩=some (.int .i64 l[i]):=by
 obtain⟨b,off,e,hb,hc⟩:=h.2 Zo
 exact⟨b,off,e,hb,hc i _ (Ku l i hi)⟩
theorem Sl.yB{w:World}{B:Nat}{A:Option Addr}{l:List Dj}(h:Sl w B 5 A l.length (Dp l)){i:Nat}(hi:i<l.length):
  ∃b off,A=some ⟨b,off,none⟩/\b<B/\w.cell? ⟨b,off+i*5,none⟩=some (.int .i64 l[i].Cj)/\w.cell? ⟨b,off+i*5+1,none⟩=some (.int .i64 l[i].op.kind)/\
   w.cell? ⟨b,off+i*5+2,none⟩=some (.int .i64 l[i].op.key)/\w.cell? ⟨b,off+i*5+3,none⟩=some (.int .i64 l[i].op.val)/\w.cell? ⟨b,off+i*5+4,none⟩=some (.int .i64 l[i].op.Ah):=by
 obtain⟨b,off,e,hb,hc⟩:=h.2 Zo
 have g:=VN l i hi
 exact⟨b,off,e,hb,hc _ _ (g 0 Zo),hc _ _ (g 1 Zo),hc _ _ (g 2 Zo),hc _ _ (g 3 Zo),hc _ _ (g 4 Zo)⟩
def wK.v(x:wK)(A:Option Addr)(c:Nat)(A':Option Addr)(c':Nat):Value:=
 .agg #[.int .i64 x.st,.int .i64 x.en,.int .i64 x.th,.int .i64 x.sl,.int .i64 x.no,.slice A x.ops.length c,.slice A' x.Mr.length c']
end Go.Proofs.YtaipogljokblkaaGreatDoor.Fn
namespace Go.Proofs.YtaipogljokblkaaGreatDoor
open Go Go.RowKit
def oI(o:Fn.K5):A3:=⟨o.kind,o.key,o.val,o.Ah⟩
def Ai.put(P:Ai)(t:Fn.Dj):Ai:=
 match P.A8[t.Cj.toNat]? with
 |some T=>P.queue t.Cj.toNat T (oI t.op)
 |none=>P
def Ai.fill(P:Ai)(l:List Fn.Dj):Ai:=l.foldl Ai.put P
structure OO(st:Int)(n k:Nat)(P:Ai):Prop where
 s:P.st=st
 z:P.A8.length=n
 b:P.Ao=[]
 t:∀(i:Nat) (T:MT),P.A8[i]?=some T->0<=T.Cw/\T.Cw<=k/\T.queue.length<=k
theorem OO.put{st:Int}{n k:Nat}{P:Ai}(h:OO st n k P)(t:Fn.Dj):OO st n (k+1) (P.put t):=by
 unfold Ai.put;cases hT:P.A8[t.Cj.toNat]? with
 |none=>exact⟨h.s,h.z,h.b,λi T hi=>by have:=h.t i T hi;omega⟩
 |some T=>
  refine⟨h.s,?_,h.b,λi T' hi=>?_⟩
  ·show(P.A8.set _ _).length=n;rw[List.length_set];exact h.z
  ·have hi:(P.A8.set t.Cj.toNat {T with queue:=T.queue++[oI t.op],Cw:=T.Cw+1})[i]?=some T':=hi;have hk:=Bd hT;by_cases e:t.Cj.toNat=i
   ·subst e;rw[List.getElem?_set_self hk] at hi;injection hi with hi;subst hi;have:=h.t _ _ hT;simp;omega
   ·rw[List.getElem?_set_ne e] at hi;have:=h.t i T' hi;omega
theorem Qp(P:Ai)(l:List Fn.Dj)(k:Nat)(h:k<l.length):P.fill (l.take (k+1))=(P.fill (l.take k)).put l[k]:=by
 unfold Ai.fill;rw[List.take_add_one,List.getElem?_eq_getElem h,Option.toList_some,List.foldl_append];rfl
theorem OO.fill{st:Int}{n:Nat}{P:Ai}(h:OO st n 0 P)(l:List Fn.Dj):∀k,k<=l.length->OO st n k (P.fill (l.take k)):=by
 intro k;induction k with
 |zero=>intro _;exact h
 |succ k ih=>
  intro hk;rw[Qp P l k hk];exact(ih Zo).put _
theorem WW(st eng most:Int)(n ns:Nat):OO st n 0 (Ai.fresh st eng most n ns n):=
 ⟨rfl,Ai.LS _ _ _ _ _ _,rfl,fun i T hi=>by
  unfold Ai.fresh at hi;simp only at hi;rw[List.getElem?_map] at hi;cases hr:(List.range n)[i]? with
  |none=>rw[hr] at hi;cases hi
  |some j=>rw[hr] at hi;injection hi with hi;subst hi;exact⟨Int.le_refl _,Int.le_refl _,Nat.le_refl _⟩⟩
structure xI(w wr:World)(st eng most:Int)(n ns gp gh:Nat)(ops:List Fn.Dj)(x:Array Value)(k:Nat):Prop where
 p:∃tv bv ro Fh Ft lab,Er wr gp gh ((Ai.fresh st eng most n ns n).fill (ops.take k)) tv bv ro Fh Ft lab/\∀b,lab b<1000->w.heap.size<b
 c:Bk wr w.heap.size 47 x
 b:Below w.heap.size w wr
 e:AQ wr
theorem xI.below{w wr wr':World}{st eng most:Int}{n ns gp gh:Nat}{ops:List Fn.Dj}{x:Array Value}{k:Nat}(h:xI w wr st eng most n ns gp gh ops x k)(hb:Below wr.heap.size wr wr'):xI w wr' st eng most n ns gp gh ops x k:=by
 obtain⟨tv,bv,ro,Fh,Ft,lab,hp,hl⟩:=h.p;exact⟨⟨tv,bv,ro,Fh,Ft,lab,hp.below hb,hl⟩,h.c.Ac hb,h.b.trans (hb.mono h.b.size),h.e.below hb⟩
theorem xI.next{w wr wr':World}{st eng most:Int}{n ns gp gh:Nat}{ops:List Fn.Dj}{x:Array Value}{k:Nat}{lab:Nat->Nat}(h:xI w wr st eng most n ns gp gh ops x k)(h40:7<=w.heap.size)(hl:∀b,lab b<1000->w.heap.size<b)(hr:PaR wr gp gh ((Ai.fresh st eng most n ns n).fill (ops.take (k+1))) lab wr'):xI w wr' st eng most n ns gp gh ops x (k+1):=by
 obtain⟨tv,bv,ro,Fh,Ft,lab',hp,hc,hl'⟩:=hr;have hz:=h.b.size;have hcl:=h.c.lt;have Ax:∀b,b<=w.heap.size->b<wr.heap.size->wr'.heap[b]?=wr.heap[b]?:=λb hb h1=>hc.Ax b h1 λh2=>by have:=hl b h2;omega
 exact ⟨⟨tv,bv,ro,Fh,Ft,lab',hp,fun b hb=>(hl' b hb).elim (hl b) fun h'=>by omega⟩,h.c.same (Ax _ (Nat.le_refl _) hcl),
  h.b.trans ⟨hc.os,hc.tape,hc.output,hc.size,λb hb=>Ax b Zo Zo⟩,h.e.low (λb hb=>Ax b Zo Zo) (by have:=hc.size;omega)⟩
theorem gZ(st eng most:Int)(n ns:Nat)(w:World)(he:AQ w)(a0:1<=st)(b0:st<=5)(a1:1<=eng)(b1:eng<=5)(a2:1<=n)(b2:n<=6)(b3:ns<=1024)(a4:1<=most)(b4:most<=64)(hs:st=2\/st=4->1<=ns)
  (ops:List Fn.Dj)(A A':Option Go.Addr)(c c' pn:Nat)(hl:Fn.Sl w w.heap.size 5 A ops.length (Fn.Dp ops))(h64:ops.length<=64)(hok:∀t∈ops,0<=t.Cj/\t.Cj<(n:Int)/\DR st (oI t.op)):
  Calls Tryz.prog 13 #[.agg #[.int .i64 st,.int .i64 eng,.int .i64 (n:Int),.int .i64 (ns:Int),.int .i64 most,.slice A ops.length c,.slice A' pn c']] w λen w'=>∃gp gh tv bv ro Fh Ft lab,en=.returned (.pointer (some ⟨gp,0,none⟩))/\Er w' gp gh ((Ai.fresh st eng most n ns n).fill ops) tv bv ro Fh Ft lab/\Below w.heap.size w w'/\∀b,lab b<1000->w.heap.size<=b:=by
 have hal:=(Below.refl w.heap.size w).alloc (Nat.le_refl _) (.cells #[.int .i64 st,.int .i64 eng,.int .i64 (n:Int),.int .i64 (ns:Int),.int .i64 most,.slice A ops.length c,.slice A' pn c'] 47)
 have HX:=Zh (Bk.at_ (w:=w) (cs:=#[.int .i64 st,.int .i64 eng,.int .i64 (n:Int),.int .i64 (ns:Int),.int .i64 most,.slice A ops.length c,.slice A' pn c']) (t:=47) rfl)
 have HC:=Zh hal
 have HE:=Zh (he.below hal)
 have HS:=Zh hl
 have HO:=Zh hok
 have HI:=Zh ((WW st eng most n ns).fill ops)
 have h40:=he.lt
 have hol:(ops.length:Int)<=64:=Zo
 clear he hal hl hok
 go_enter Tryz.func13,Tryz.ntmps13
 have y0:=HX.out.cell 0;have y1:=HX.out.cell 1;have y2:=HX.out.cell 2;have y3:=HX.out.cell 3;have y4:=HX.out.cell 4
 simp at y0 y1 y2 y3 y4
 go_wp2_with fail
 refine(NI st eng most n ns _ HE.out a0 b0 a1 b1 a2 b2 b3 a4 b4 hs).mono ?_
 rintro e w1 ⟨gp,gh,tv,bv,ro,Fh,Ft,lab,rfl,hp,hb,hlb⟩
 have HB:Hid (xI w w1 st eng most n ns gp gh ops #[.int .i64 st,.int .i64 eng,.int .i64 (n:Int),.int .i64 (ns:Int),.int .i64 most,.slice A ops.length c,.slice A' pn c'] 0):=Zh ⟨⟨tv,bv,ro,Fh,Ft,lab,hp,λb h=>by have:=hlb b h;simp at this;omega⟩,HX.out.Ac hb,HC.out.trans (hb.mono HC.out.size),HE.out.below hb⟩
 clear hp hb hlb HX HC HE y0 y1 y2 y3 y4
 go_wp2_with fail
 go_loopw [5] (λi wr=>∃(k:Nat),k<=ops.length/\i=.int .i64 k/\xI w wr st eng most n ns gp gh ops #[.int .i64 st,.int .i64 eng,.int .i64 (n:Int),.int .i64 (ns:Int),.int .i64 most,.slice A ops.length c,.slice A' pn c'] k) (λi _=>ops.length-(intOf i).toNat)
 case atStart=>exact⟨0,Nat.zero_le _,rfl,HB.out⟩
 case round=>
  obtain⟨k,hk,rfl,L⟩:=hrel
  have HL:=Zh L
  clear L
  have y5:=HL.out.c.cell 5
  simp at y5
  by_cases hlt:k<ops.length
  ·have hlt':(k:Int)<(ops.length:Int):=Zo;obtain⟨b,off,rfl,hbl,_⟩:=HS.out.yB hlt;go_upto_region 7 with(fail);have HL2:=Zh (HL.out.below (Below.refl wr.heap.size wr).drew);clear HL y5;have y5:=HL2.out.c.cell 5;simp at y5;obtain⟨b',off',e',_,e0,e1,e2,e3,e4⟩:=(HS.out.below HL2.out.b).yB hlt;cases e';obtain⟨o1,o2,o3⟩:=HO.out ops[k] (List.getElem_mem hlt);obtain⟨i,hi0⟩:=Int.eq_ofNat_of_zero_le o1;rw[hi0] at e0 o2;have hI:=HI.out k hk;obtain⟨tv,bv,ro,Fh,Ft,lab,hp,hlb⟩:=HL2.out.p;obtain⟨T,hT⟩:∃T,((Ai.fresh st eng most n ns n).fill (ops.take k)).A8[i]?=some T:=⟨_,List.getElem?_eq_getElem (by rw[hI.z];omega)⟩;obtain⟨t1,t2,t3⟩:=hI.t i T hT;have hq:Calls Tryz.prog 9 #[.pointer (some ⟨gp,0,none⟩),.int .i64 (i:Int),.agg #[.int .i64 ops[k].op.kind,.int .i64 ops[k].op.key,.int .i64 ops[k].op.val,.int .i64 ops[k].op.Ah]] _ _:=PI hp HL2.out.e hT (oI ops[k].op) (by rw[hI.s];exact o3) t1 Zo Zo;have hput:((Ai.fresh st eng most n ns n).fill (ops.take k)).queue i T (oI ops[k].op)=(Ai.fresh st eng most n ns n).fill (ops.take (k+1)):=by
    rw[Qp _ _ _ hlt];unfold Ai.put;rw[hi0,Int.toNat_natCast,hT]
   rw[hput] at hq;have HQ:=Zh hlb;clear hput hT t1 t2 t3 hp hlb hI o1 o2 o3;refine X8 (λX=>X.cell? ⟨w.heap.size,5,none⟩=some (.slice (some ⟨b,off,none⟩) ops.length c)/\X.cell? ⟨b,off+k*5,none⟩=some (.int .i64 i)/\X.cell? ⟨b,off+k*5+1,none⟩=some (.int .i64 ops[k].op.kind)/\X.cell? ⟨b,off+k*5+2,none⟩=some (.int .i64 ops[k].op.key)/\X.cell? ⟨b,off+k*5+3,none⟩=some (.int .i64 ops[k].op.val)/\X.cell? ⟨b,off+k*5+4,none⟩=some (.int .i64 ops[k].op.Ah)) 15 Zk ⟨y5,e0,e1,e2,e3,e4⟩ (λhS=>?_);clear y5 e0 e1 e2 e3 e4;generalize wr.drew=w0 at*;((try simp only[ZL]);refine vT (fuel:=2) hS [0,1,2,3,4,5,6,7,8,9,10,11,12] ?_;simp only[Xy,Xr,List.toList_toArray];(repeat (first|go_big_quiet_skip|(go_big_quiet_want;first|(go_big_quiet_op;go_big_quiet_on)|(apply Exists.intro;refine⟨λw' hS'=>?_,?_⟩;(· ((obtain⟨q1,q2,q3,q4,q5,q6⟩:=hS');go_simp;first|done|rfl|exact⟨rfl,rfl⟩));go_big_quiet_on;simp only[ZL]))));refine wpQuiet_nil ?_;(try dsimp only));(refine Xi 13 Zk (λK hK=>?_);simp only[Xr,List.toList_toArray]);go_wp2_with fail;refine hq.mono ?_;rintro e w2 ⟨rfl,hr⟩;have HL3:=Zh (HL2.out.next h40 HQ.out hr);clear hr hq HQ HL2;have y5:=HL3.out.c.cell 5;simp at y5;obtain⟨b',off',e',_,e0,e1,e2,e3,e4⟩:=(HS.out.below HL3.out.b).yB hlt;cases e';rw[hi0] at e0;go_wp2_with fail;refine hK.out _ _ (λ_=>⟨y5,e0,e1,e2,e3,e4⟩) ?_;clear hK hS;have hS:=And.intro y5 (And.intro e0 (And.intro e1 (And.intro e2 (And.intro e3 e4))));clear y5 e0 e1 e2 e3 e4;((try simp only[ZL]);refine vT (fuel:=0) hS [14] ?_;simp only[Xy,Xr,List.toList_toArray];(repeat (first|go_big_quiet_skip|(go_big_quiet_want;first|(go_big_quiet_op;go_big_quiet_on)|(apply Exists.intro;refine⟨λw' hS'=>?_,?_⟩;(· (skip;go_simp;first|done|rfl|exact⟨rfl,rfl⟩));go_big_quiet_on;simp only[ZL]))));refine wpQuiet_nil ?_;(try dsimp only));refine Ye Zk ?_ _;go_wp2_with fail;refine⟨⟨k+1,by omega,by go_num,HL3.out⟩,by simp[intOf];omega⟩
  ·have hke:k=ops.length:=Zo;subst hke;have hlt':¬(ops.length:Int)<(ops.length:Int):=Zo;go_wp2_with fail;go_ret;obtain⟨tv,bv,ro,Fh,Ft,lab,hp,hlb⟩:=HL.out.p;rw[List.take_length] at hp;exact⟨gp,rfl,gh,tv,bv,ro,Fh,Ft,lab,hp,HL.out.b,λb hb=>Nat.le_of_lt (hlb b hb)⟩
end Go.Proofs.YtaipogljokblkaaGreatDoor
namespace Go.Proofs.YtaipogljokblkaaGreatDoor.Fn
open Go Go.RowKit
def Ks(st:Int)(b:Nat):Int:=(B6 st)[b%(B6 st).length]?.getD 0
def QN(s:ByteArray)(st th:Int)(i:Nat):Dj:=
 ⟨(JS s (6+4*i):Int)%th,FN st (Ks st (JS s (7+4*i))) (JS s (8+4*i)) (JS s (9+4*i))⟩
def NF(s:ByteArray)(th:Int)(n i:Nat):Int:=(JS s (6+4*n+i):Int)%th
def DJ(s:ByteArray):Int:=(JS s 0:Int)%5+1
def ZV(s:ByteArray):Int:=(JS s 1:Int)%5+1
def GG(s:ByteArray):Int:=(JS s 2:Int)%6+1
def UE(s:ByteArray):Int:=(JS s 3:Int)
def XH(s:ByteArray):Int:=(JS s 4:Int)%64+1
def dN(s:ByteArray):Nat:=JS s 5%65
def dP(s:ByteArray):Nat:=min (s.size-(6+4*dN s)) 4096
def EB(s:ByteArray)(k:Nat):List Dj:=(List.range k).map (QN s (DJ s) (GG s))
def EA(s:ByteArray)(k:Nat):List Int:=(List.range k).map (NF s (GG s) (dN s))
def dec(s:ByteArray):wK:=⟨DJ s,ZV s,GG s,UE s,XH s,EB s (dN s),EA s (dP s)⟩
def Ls(s:ByteArray)(k b:Nat)(w:World)(e:Ending)(w':World):Prop:=
 e=.returned (.int .i64 (JS s k))/\Bk w' b 85 #[.string (rest s (k+1))]/\w.grownBy w' (some b)/\w'.heap.size=w.heap.size
theorem E3(s:ByteArray)(k b:Nat)(w:World)(h:Bk w b 85 #[.string (rest s k)]):
  Calls Tryz.prog 28 #[.pointer (some ⟨b,0,none⟩)] w (Ls s k b w):=
 (nE s k ⟨b,0,none⟩ w (by rw[h.cell];rfl) (h.free 0)).mono λe w' ⟨he,hw⟩=>by
  subst hw;exact⟨he,by simpa using h.Eo 0 (.string (rest s (k+1))),Xs _ _ _ _,by simp[World.setCell]⟩
structure DW(w wr:World)(s:ByteArray)(k:Nat)(xc:Array Value):Prop where
 o:Bk wr w.heap.size 47 #[.int .i64 0,.int .i64 0,.int .i64 0,.int .i64 0,.int .i64 0,.slice none 0 0,.slice none 0 0]
 r:Bk wr (w.heap.size+1) 85 #[.string (rest s k)]
 x:Bk wr (w.heap.size+2) 47 xc
 below:Below w.heap.size w wr
theorem DW.next{w wr w':World}{s:ByteArray}{k:Nat}{xc:Array Value}{e:Ending}(D:DW w wr s k xc)(h:Ls s k (w.heap.size+1) wr e w'):
  DW w w' s (k+1) xc:=
 ⟨D.o.grown h.2.2.1 Zs,h.2.1,D.x.grown h.2.2.1 Zs,D.below.grown h.2.2.1 D.below.size Zs⟩
theorem DW.Eo{w wr:World}{s:ByteArray}{k:Nat}{xc:Array Value}(D:DW w wr s k xc)(i:Nat)(u:Value):
  DW w (wr.setCell ⟨w.heap.size+2,i,none⟩ u) s k (xc.setIfInBounds i u):=
 ⟨D.o.Ax Zs u,D.r.Ax Zs u,D.x.Eo i u,D.below.setCell Zs u⟩
theorem DW.more{w wr w':World}{s:ByteArray}{k:Nat}{xc:Array Value}(D:DW w wr s k xc)(h:Below wr.heap.size wr w'):DW w w' s k xc:=
 ⟨D.o.Ac h,D.r.Ac h,D.x.Ac h,D.below.trans (h.mono D.below.size)⟩
def DG(s:ByteArray)(v v':Value):Array Value:=#[.int .i64 (DJ s),.int .i64 (ZV s),.int .i64 (GG s),.int .i64 (UE s),.int .i64 (XH s),v,v']
def RR(s:ByteArray):Array Value:=((B6 (DJ s)).map (Value.int .i64)).toArray
structure L1(w wr:World)(s:ByteArray)(kb p k:Nat)(v:Value):Prop where
 d:DW w wr s p (DG s v (.slice none 0 0))
 kk:Bk wr kb 3 (RR s)
 own:wr.ownsRow (kb+1) 91 5 v k (Dp (EB s k))
 kb:w.heap.size+2<kb
theorem DW.drew{w wr:World}{s:ByteArray}{k:Nat}{xc:Array Value}(D:DW w wr s k xc):DW w wr.drew s k xc:=⟨D.o,D.r,D.x,D.below.drew⟩
theorem L1.drew{w wr:World}{s:ByteArray}{kb p k:Nat}{v:Value}(L:L1 w wr s kb p k v):L1 w wr.drew s kb p k v:=⟨L.d.drew,L.kk,L.own,L.kb⟩
theorem L1.next{w wr w':World}{s:ByteArray}{kb p k:Nat}{v:Value}{e:Ending}(L:L1 w wr s kb p k v)(h:Ls s p (w.heap.size+1) wr e w'):L1 w w' s kb (p+1) k v:=
 ⟨L.d.next h,L.kk.grown h.2.2.1 (by have:=L.kb;simp;omega),L.own.kept h.2.2.1 (by
  cases hv:v.ownBlock with
  |none=>simp
  |some g=>right;intro e;have:=(L.own.lt g hv).1;have:=L.kb;simp at e;omega),L.kb⟩
theorem L1.more{w wr w':World}{s:ByteArray}{kb p k:Nat}{v:Value}(L:L1 w wr s kb p k v)(h:Below wr.heap.size wr w'):L1 w w' s kb p k v:=
 ⟨L.d.more h,L.kk.Ac h,eW L.own h,L.kb⟩
theorem L1.th{w wr:World}{s:ByteArray}{kb p k:Nat}{v:Value}(L:L1 w wr s kb p k v):wr.cell? ⟨w.heap.size+1+1,2,none⟩=some (.int .i64 (GG s)):=by
 have:=L.d.x.cell 2;simpa [DG] using this
theorem L1.st{w wr:World}{s:ByteArray}{kb p k:Nat}{v:Value}(L:L1 w wr s kb p k v):wr.cell? ⟨w.heap.size+1+1,0,none⟩=some (.int .i64 (DJ s)):=by
 have:=L.d.x.cell 0;simpa [DG] using this
theorem L1.ops{w wr:World}{s:ByteArray}{kb p k:Nat}{v:Value}(L:L1 w wr s kb p k v):wr.cell? ⟨w.heap.size+1+1,5,none⟩=some v:=by
 have:=L.d.x.cell 5;simpa [DG] using this
theorem L1.kind{w wr:World}{s:ByteArray}{kb p k:Nat}{v:Value}(L:L1 w wr s kb p k v)(b:Nat):wr.cell? ⟨kb,b%(B6 (DJ s)).length,none⟩=some (.int .i64 (Ks (DJ s) b)):=by
 have h:=L.kk.cell (b%(B6 (DJ s)).length);have hst:DJ s=1\/DJ s=2\/DJ s=3\/DJ s=4\/DJ s=5:=by unfold DJ;omega
 rw[h];unfold RR Ks;rcases hst with e|e|e|e|e<;>rw[e]
 ·have:b%3<3:=Nat.mod_lt _ Zo;generalize hc:b%3=c at this;simp[B6,hc];match c,this with
  |0,_=>rfl
  |1,_=>rfl
  |2,_=>rfl
 ·have:b%2<2:=Nat.mod_lt _ Zo;generalize hc:b%2=c at this;simp[B6,hc];match c,this with
  |0,_=>rfl
  |1,_=>rfl
 all_goals
  have:b%3<3:=Nat.mod_lt _ Zo
  generalize hc:b%3=c at this
  simp[B6,hc]
  match c,this with
  |0,_=>rfl
  |1,_=>rfl
  |2,_=>rfl
theorem UD(s:ByteArray)(k:Nat):EB s (k+1)=EB s k++[QN s (DJ s) (GG s) k]:=by
 simp[EB,List.range_succ]
theorem Hl(s:ByteArray)(k:Nat):(EB s k).length=k:=by simp[EB]
theorem OW(a b:List Dj):Dp (a++b)=Dp a++Dp b:=by simp[Dp]
def Nq(s:ByteArray)(p:Nat):Dj:=⟨(JS s p:Int)%GG s,FN (DJ s) (Ks (DJ s) (JS s (p+1))) (JS s (p+1+1)) (JS s (p+1+1+1))⟩
theorem cC(s:ByteArray)(k:Nat):Nq s (6+4*k)=QN s (DJ s) (GG s) k:=by
 unfold Nq QN;rw[show 6+4*k+1=7+4*k from by omega,show 7+4*k+1=8+4*k from by omega,show 8+4*k+1=9+4*k from by omega]
theorem L1.push{w w12 w13:World}{s:ByteArray}{kb p k:Nat}{v v':Value}(L:L1 w w12 s kb p k v)(o:Obj)
  (hown:w13.ownsRow (kb+1) 91 5 v' (k+1) (Dp (EB s k)++(Nq s (6+4*k)).cells))(hg:(w12.alloc o).grownBy w13 v.ownBlock)(hp:p=6+4*k+4):
  L1 w (w13.setCell ⟨w.heap.size+2,5,none⟩ v') s kb (6+4*(k+1)) (k+1) v':=by
 have hkb:=L.kb
 have hne:∀g,g<=kb->some g≠v.ownBlock:=by
  intro g hgk e;have:=(L.own.lt g e.symm).1;omega
 have hs:=L.d.below.size
 have hlt:=L.kk.lt
 have Dx:Bk w13 (w.heap.size+2) 47 (DG s v (.slice none 0 0)):=(L.d.x.alloc o).grown hg (hne _ Zo)
 have D:DW w w13 s p (DG s v (.slice none 0 0)):=
  ⟨(L.d.o.alloc o).grown hg (hne _ Zo),(L.d.r.alloc o).grown hg (hne _ Zo),Dx,
   (L.d.below.alloc hs o).grown hg (by simp;omega) (λg e=>by have:=(L.own.lt g e).1;omega)⟩
 have D2:=D.Eo 5 v'
 have e:(DG s v (.slice none 0 0)).setIfInBounds 5 v'=DG s v' (.slice none 0 0):=rfl
 rw[e] at D2
 refine⟨by rw[show 6+4*(k+1)=p from by omega];exact D2,((L.kk.alloc o).grown hg (hne _ Zo)).Ax (by simp;omega) _,?_,hkb⟩
 have h2:=Y2 hown (a:=⟨w.heap.size+2,5,none⟩) (by simp;omega) v'
 rw[UD,OW,←cC]
 simpa [Dp] using h2
theorem L1.Vl{w w12 w13:World}{s:ByteArray}{kb p k:Nat}{v:Value}(L:L1 w w12 s kb p k v)(o:Obj)(hg:(w12.alloc o).grownBy w13 v.ownBlock):
  w13.cell? ⟨w.heap.size+1+1,5,none⟩=some v/\w13.cell? ⟨w.heap.size+1+1,0,none⟩=some (.int .i64 (DJ s))/\w13.frozen? ⟨w.heap.size+1+1,5,none⟩=false:=by
 have hkb:=L.kb
 have Dx:Bk w13 (w.heap.size+2) 47 (DG s v (.slice none 0 0)):=(L.d.x.alloc o).grown hg (by intro e;have:=(L.own.lt _ e.symm).1;omega)
 exact⟨by have:=Dx.cell 5;simpa [DG] using this,by have:=Dx.cell 0;simpa [DG] using this,Dx.free 5⟩
theorem eX{w:World}{b b':Nat}{e e':TypeId}{sz sz' n n':Nat}{v v':Value}{xs xs':List Value}(h:w.ownsRow b e sz v n xs)(h':w.ownsRow b' e' sz' v' n' xs')(hne:e≠e'):
  v.ownBlock=none\/v.ownBlock≠v'.ownBlock:=by
 rcases h.2 with⟨rfl,_⟩|⟨g,cap,cur,rfl,_,hh,_⟩
 ·left;rfl
 ·right;rcases h'.2 with⟨rfl,_⟩|⟨g',cap',cur',rfl,_,hh',_⟩
  ·simp[Value.ownBlock]
  ·simp only[Value.ownBlock,Option.map_some,ne_eq,Option.some.injEq];intro e1;subst e1;rw[hh] at hh';simp at hh';exact hne hh'.2
structure L2(w wr:World)(s:ByteArray)(kb p j:Nat)(v v':Value):Prop where
 d:DW w wr s p (DG s v v')
 own:wr.ownsRow (kb+1) 91 5 v (dN s) (Dp (EB s (dN s)))
 Uf:wr.ownsRow (kb+1) 3 1 v' j (Y5 (EA s j))
 kl:kb<wr.heap.size
 kb:w.heap.size+2<kb
theorem L1.two{w wr:World}{s:ByteArray}{kb p:Nat}{v:Value}(L:L1 w wr s kb p (dN s) v):L2 w wr s kb p 0 v (.slice none 0 0):=
 ⟨L.d,L.own,⟨rfl,.inl ⟨rfl,rfl⟩⟩,L.kk.lt,L.kb⟩
theorem L2.drew{w wr:World}{s:ByteArray}{kb p j:Nat}{v v':Value}(L:L2 w wr s kb p j v v'):L2 w wr.drew s kb p j v v':=⟨L.d.drew,L.own,L.Uf,L.kl,L.kb⟩
theorem L2.next{w wr w':World}{s:ByteArray}{kb p j:Nat}{v v':Value}{e:Ending}(L:L2 w wr s kb p j v v')(h:Ls s p (w.heap.size+1) wr e w'):L2 w w' s kb (p+1) j v v':=by
 have aux:∀ {e sz n x xs},wr.ownsRow (kb+1) e sz x n xs→w'.ownsRow (kb+1) e sz x n xs:=fun {e sz n x xs} ho=>ho.kept h.2.2.1 (by
  cases hv:x.ownBlock with
  |none=>simp
  |some g=>right;intro e;have:=(ho.lt g hv).1;have:=L.kb;simp at e;omega)
 exact⟨L.d.next h,aux L.own,aux L.Uf,by have:=h.2.2.1.size;have:=L.kl;omega,L.kb⟩
theorem L2.th{w wr:World}{s:ByteArray}{kb p j:Nat}{v v':Value}(L:L2 w wr s kb p j v v'):wr.cell? ⟨w.heap.size+1+1,2,none⟩=some (.int .i64 (GG s)):=by
 have:=L.d.x.cell 2;simpa [DG] using this
theorem L2.Mr{w wr:World}{s:ByteArray}{kb p j:Nat}{v v':Value}(L:L2 w wr s kb p j v v'):wr.cell? ⟨w.heap.size+1+1,6,none⟩=some v':=by
 have:=L.d.x.cell 6;simpa [DG] using this
theorem L2.left{w wr:World}{s:ByteArray}{kb p j:Nat}{v v':Value}(L:L2 w wr s kb p j v v'):wr.cell? ⟨w.heap.size+1,0,none⟩=some (.string (rest s p)):=by
 have:=L.d.r.cell 0;simpa using this
theorem L2.Vl{w w12 w13:World}{s:ByteArray}{kb p j:Nat}{v v':Value}(L:L2 w w12 s kb p j v v')(o:Obj)(hg:(w12.alloc o).grownBy w13 v'.ownBlock):
  w13.cell? ⟨w.heap.size+1+1,6,none⟩=some v'/\w13.cell? ⟨w.heap.size+1+1,2,none⟩=some (.int .i64 (GG s))/\w13.frozen? ⟨w.heap.size+1+1,6,none⟩=false:=by
 have hkb:=L.kb
 have Dx:Bk w13 (w.heap.size+2) 47 (DG s v v'):=(L.d.x.alloc o).grown hg (by intro e;have:=(L.Uf.lt _ e.symm).1;omega)
 exact⟨by have:=Dx.cell 6;simpa [DG] using this,by have:=Dx.cell 2;simpa [DG] using this,Dx.free 6⟩
theorem Pn(s:ByteArray)(j:Nat):EA s (j+1)=EA s j++[NF s (GG s) (dN s) j]:=by
 simp[EA,List.range_succ]
theorem L2.push{w w12 w13:World}{s:ByteArray}{kb p j:Nat}{v v' v'':Value}(L:L2 w w12 s kb p j v v')(o:Obj)
  (hown:w13.ownsRow (kb+1) 3 1 v'' (j+1) (Y5 (EA s j)++[.int .i64 (NF s (GG s) (dN s) j)]))(hg:(w12.alloc o).grownBy w13 v'.ownBlock):
  L2 w (w13.setCell ⟨w.heap.size+2,6,none⟩ v'') s kb p (j+1) v v'':=by
 have hkb:=L.kb
 have hne:∀g,g<=kb->some g≠v'.ownBlock:=by
  intro g hgk e;have:=(L.Uf.lt g e.symm).1;omega
 have hs:=L.d.below.size
 have hlt:=L.kl
 have D:DW w w13 s p (DG s v v'):=
  ⟨(L.d.o.alloc o).grown hg (hne _ Zo),(L.d.r.alloc o).grown hg (hne _ Zo),(L.d.x.alloc o).grown hg (hne _ Zo),
   (L.d.below.alloc hs o).grown hg (by simp;omega) (λg e=>by have:=(L.Uf.lt g e).1;omega)⟩
 have D2:=D.Eo 6 v''
 have e:(DG s v v').setIfInBounds 6 v''=DG s v v'':=rfl
 rw[e] at D2
 have ho:w13.ownsRow (kb+1) 91 5 v (dN s) (Dp (EB s (dN s))):=(L.own.alloc o).kept hg (eX L.own L.Uf Zd)
 refine⟨D2,Y2 ho (a:=⟨w.heap.size+2,6,none⟩) (by simp;omega) v'',?_,?_,hkb⟩
 ·have h2:=Y2 hown (a:=⟨w.heap.size+2,6,none⟩) (by simp;omega) v'';rw[Pn];simpa [Y5] using h2
 ·have:=hg.size;simp[World.setCell] at this ⊢;omega
def Qd(w:World)(b:Nat):Nat:=match w.cell? ⟨b,0,none⟩ with|some (.string t)=>t.size|_=>0
theorem L2.Qd{w wr:World}{s:ByteArray}{kb p j:Nat}{v v':Value}(L:L2 w wr s kb p j v v'):Qd wr (w.heap.size+1)=s.size-p:=by
 unfold Go.Proofs.YtaipogljokblkaaGreatDoor.Fn.Qd;rw[L.left];simp[L7]
theorem PR{w:World}{base:Nat}{e:TypeId}{sz n:Nat}{v:Value}{xs:List Value}(h:w.ownsRow base e sz v n xs):∃A c,v=.slice A n c:=by
 obtain⟨h1,h2⟩:=h;rcases Nat.eq_zero_or_pos n with h0|h0
 ·subst h0;rcases h2 with⟨rfl,_⟩|⟨g,cap,cur,hv,hg,r⟩
  ·exact⟨_,_,rfl⟩
  ·exact⟨_,_,hv⟩
 ·obtain⟨g,cap,hv,_⟩:=World.ownsRow.form (w:=w) (base:=base) (e:=e) (xs:=xs) ⟨h1,h2⟩ h0;exact⟨_,_,hv⟩
def aE(s:ByteArray)(w:World)(e:Ending)(w':World):Prop:=
 ∃A c A' c',e=.returned ((dec s).v A c A' c')/\Sl w' w'.heap.size 5 A (dec s).ops.length (Dp (dec s).ops)/\Sl w' w'.heap.size 1 A' (dec s).Mr.length (Y5 (dec s).Mr)/\
  Below w.heap.size w w'
theorem II(s:ByteArray)(k:Nat):(EA s k).length=k:=by simp[EA]
theorem dec_v(s:ByteArray)(A:Option Addr)(c:Nat)(A':Option Addr)(c':Nat):
  Value.agg #[.int .i64 (DJ s),.int .i64 (ZV s),.int .i64 (GG s),.int .i64 (UE s),.int .i64 (XH s),.slice A (dN s) c,.slice A' (dP s) c']=(dec s).v A c A' c':=by
 simp[wK.v,dec,Hl,II]
theorem L2.out{w wr:World}{s:ByteArray}{kb p:Nat}{A A':Option Addr}{c c':Nat}(M:L2 w wr s kb p (dP s) (.slice A (dN s) c) (.slice A' (dP s) c'))(u0 u1 u2 u3 u4 u5 u6:Value):
  aE s w (.returned (.agg #[.int .i64 (DJ s),.int .i64 (ZV s),.int .i64 (GG s),.int .i64 (UE s),.int .i64 (XH s),.slice A (dN s) c,.slice A' (dP s) c']))
   (((((((wr.setCell ⟨w.heap.size,0,none⟩ u0).setCell ⟨w.heap.size,1,none⟩ u1).setCell ⟨w.heap.size,2,none⟩ u2).setCell ⟨w.heap.size,3,none⟩ u3).setCell ⟨w.heap.size,4,none⟩ u4).setCell ⟨w.heap.size,5,none⟩ u5).setCell ⟨w.heap.size,6,none⟩ u6):=by
 have hk:=M.kb
 have o1:=M.own
 have o2:=M.Uf
 have hb:=M.d.below
 refine⟨A,c,A',c',by rw[dec_v],?_,?_,?_⟩
 ·have q1:∀i,(⟨w.heap.size,i,none⟩:Addr).block<kb+1:=λi=>by simp;omega
  have:=Y2 (Y2 (Y2 (Y2 (Y2 (Y2 (Y2 o1 (q1 0) u0) (q1 1) u1) (q1 2) u2) (q1 3) u3) (q1 4) u4) (q1 5) u5) (q1 6) u6;have h:=Sl.WH this;simpa [dec,Hl] using h
 ·have q1:∀i,(⟨w.heap.size,i,none⟩:Addr).block<kb+1:=λi=>by simp;omega
  have:=Y2 (Y2 (Y2 (Y2 (Y2 (Y2 (Y2 o2 (q1 0) u0) (q1 1) u1) (q1 2) u2) (q1 3) u3) (q1 4) u4) (q1 5) u5) (q1 6) u6;have h:=Sl.WH this;simpa [dec,II] using h
 ·exact((((((hb.setCell Zs u0).setCell Zs u1).setCell Zs u2).setCell Zs u3).setCell Zs u4).setCell Zs u5).setCell Zs u6
theorem oP(st kind x y:Int)(w:World)(hx0:0<=x)(hx1:x<=255)(hy0:0<=y)(hy1:y<=255):
  Calls Tryz.prog 30 #[.int .i64 st,.int .i64 kind,.int .i64 x,.int .i64 y] w
   (RetV (.agg #[.int .i64 (FN st kind x y).kind,.int .i64 (FN st kind x y).key,.int .i64 (FN st kind x y).val,.int .i64 (FN st kind x y).Ah]) w):=
 oO st kind x y w hx0 hx1 hy0 hy1
theorem oE:(Tryz.prog.info? 91).map (λi=>(i.zero,i.size,i.bytes))=some (some (.agg #[.int .i64 0,.int .i64 0,.int .i64 0,.int .i64 0,.int .i64 0]),5,40):=Zk
theorem MU:(Tryz.prog.info? 3).map (λi=>(i.zero,i.size,i.bytes))=some (some (.int .i64 0),1,8):=Zk
end Go.Proofs.YtaipogljokblkaaGreatDoor.Fn
