/- Core: EcA, EcC, EcD. -/
import Derived.Test.YtaipogljokblkaaGreatDoorE39
import Derived.Test.YtaipogljokblkaaGreatDoorE01
import Derived.Test.YtaipogljokblkaaGreatDoorE48
import Derived.Test.YtaipogljokblkaaGreatDoorE49
import Derived.Deep.CutRange
set_option linter.all false
set_option maxRecDepth 100000
set_option maxHeartbeats 8000000
namespace Go.Proofs.YtaipogljokblkaaGreatDoor
open Go Go.RowKit
set_option linter.unusedSimpArgs false
set_option linter.unusedVariables false
set_option linter.unusedSectionVars false
theorem zZ{st:Int}{o:A3}{w:World}(h:¬DR st o)(he:AQ w):Calls Tryz.prog 25 #[.int .i64 st,.agg o.l.toArray] w (λen w'=>en=.returned (.bool false)/\Below w.heap.size w w'):=by
 obtain⟨T,q,e⟩:=he.arg;obtain⟨k,key,val,Ah⟩:=o;refine(Fn.U0 st ⟨k,key,val,Ah⟩ w T _ e).mono λen w' hp=>?_;rw[show Fn.F6 st ⟨k,key,val,Ah⟩=false from decide_eq_false h] at hp;exact hp
theorem uU{st k key val Ah:Int}{w:World}(h:¬DR st ⟨k,key,val,Ah⟩)(he:AQ w):Calls Tryz.prog 25 #[.int .i64 st,.agg #[.int .i64 k,.int .i64 key,.int .i64 val,.int .i64 Ah]] w (λen w'=>en=.returned (.bool false)/\Below w.heap.size w w'):=zZ (o:=⟨k,key,val,Ah⟩) h he
theorem TP{w:World}{gp gh:Nat}{P:Ai}{tv bv:BA}{ro:List FG}{Fh:List Nat}{Ft:Nat->Nat->Prop}{lab:Nat->Nat}(h:Er w gp gh P tv bv ro Fh Ft lab)(he:AQ w){k:Nat}(hk:k<P.A8.length)(o:A3)(hf:¬DR P.st o):
  Calls Tryz.prog 9 #[.pointer (some ⟨gp,0,none⟩),.int .i64 (k:Int),.agg o.l.toArray] w λen w'=>(∃T q,en=.returned (.iface T (.pointer (some q))))/\Below w.heap.size w w':=by
 have hhas:P.has (k:Int)=true:=by unfold Ai.has;simp;omega
 obtain⟨kk,key,val,Ah⟩:=o
 show Calls Tryz.prog _ #[.pointer (some ⟨gp,0,none⟩),.int .i64 (k:Int),.agg #[.int .i64 kk,.int .i64 key,.int .i64 val,.int .i64 Ah]] w _
 have hal:Below w.heap.size w (w.alloc (.cells #[.int .i64 kk,.int .i64 key,.int .i64 val,.int .i64 Ah] 35)):=(Below.refl _ _).alloc (Nat.le_refl _) _
 have HP:=Zh (h.cut.below hal)
 have HE:=Zh (he.below hal)
 have HX:=Zh (Bk.at_ (w:=w) (g:=w.heap.size) (cs:=#[.int .i64 kk,.int .i64 key,.int .i64 val,.int .i64 Ah]) (t:=35) rfl)
 have HC:=Zh hal
 have HF:=Zh hf
 have h40:=he.lt
 clear h he hal hf
 go_enter Tryz.func9,Tryz.ntmps9
 go_wp2
 generalize w.alloc (.cells #[.int .i64 kk,.int .i64 key,.int .i64 val,.int .i64 Ah] 35)=W at*
 have hh:∀w',Below W.heap.size W w'->Calls Tryz.prog 24 #[.pointer (some ⟨gp,0,none⟩),.int .i64 (k:Int)] w' (λen w''=>en=.returned (.bool true)/\w'=w''):=λw' hC=>by have:=MX (HP.out.below hC) (k:Int);rwa [hhas] at this
 (refine FI ((λw':World=>Below W.heap.size W w')) Zk Zk ((Below.refl _ _).drew) ?_;(repeat (first|go_big_quiet_skip|(go_big_quiet_want;first|(go_big_quiet_op;go_big_quiet_on)|(apply Exists.intro;refine⟨λw' hC=>?_,?_⟩;(· ((have q0:=(HP.out.below hC).bk.cell 0;simp at q0;have y0:=(HX.out.Ac hC).cell 0;have y1:=(HX.out.Ac hC).cell 1;have y2:=(HX.out.Ac hC).cell 2;have y3:=(HX.out.Ac hC).cell 3;simp at y0 y1 y2 y3);go_simp;first|done|rfl|exact⟨rfl,rfl⟩|((first|(go_at_call 24;(refine(hh w' hC).mono ?_);rintro e w'' ⟨rfl,rfl⟩;exact⟨rfl,hC⟩)|(go_at_call 25;(with_reducible refine(uU HF.out (HE.out.below hC)).mono ?_);rintro e w'' ⟨rfl,hb⟩;exact⟨rfl,hC.trans (hb.mono hC.size)⟩)))));go_big_quiet_on;simp only[ZL]))));refine wpQuiet_nil ?_;intro w' hC)
 have HC1:=Zh (HC.out.trans (hC.mono HC.out.size))
 obtain⟨T,q,hq⟩:=(HE.out.below hC).arg
 clear HP HE HX HC hC hh HF
 go_wp2
 go_ret
 exact⟨⟨T,q,rfl⟩,HC1.out⟩
theorem xF(x:Yu):x.l.length=2:=rfl
theorem anone(x:Yu):∀u∈x.l,u.oneCell'=true:=by intro u hu;simp[Yu.l] at hu;rcases hu with rfl|rfl<;>rfl
theorem uP:(Tryz.prog.info? 40).map (λi=>(i.zero,i.size,i.bytes))=some (some (.agg #[.int .i64 0,.int .i64 0]),2,16):=Zk
theorem NM(w:World)(v:Value)(l:List Yu)(h:Own w 40 2 v l.length (rows Yu.l l))(hl:l.length<=100000)(x:Yu)(b:Nat)(hb:Bk w b 40 x.l.toArray)(t:TypeId):
  ∃v' w',(Builtin.append_ #[25,25] t #[v,.slice (some ⟨b,0,none⟩) 1 1]).run Tryz.prog w=.ok v' w'/\
   Own w' 40 2 v' (l++[x]).length (rows Yu.l (l++[x]))/\w.grownBy w' v.ownBlock/\Em w v v':=
 AX xF anone Tryz.underlying25 uP rfl Zd Zd w v l h hl x b hb t
structure EL(w wr:World)(v:Value)(L:List Yu):Prop where
 o:Own wr 40 2 v L.length (rows Yu.l L)
 n:∀b,v.ownBlock=some b->w.heap.size<=b
 b:Below w.heap.size w wr
 e:AQ wr
def KY(st:Int)(ops:List A3):List A3:=ops.filter λo=>Fn.F6 st ⟨o.kind,o.key,o.val,o.Ah⟩
section
variable{w w' wr wr':World}{v:Value}{L:List Yu}{st e:Int}{ops:List A3}
theorem EL.below(h:EL w wr v L)(hb:Below wr.heap.size wr wr'):EL w wr' v L:=⟨h.o.below hb,h.n,h.b.trans (hb.mono h.b.size),h.e.below hb⟩
theorem RY{o:A3}:Fn.F6 st ⟨o.kind,o.key,o.val,o.Ah⟩=true↔DR st o:=by
 rw[Fn.Bj];exact Iff.rfl
theorem Of:∀o∈KY st ops,Sm st o:=λo ho=>RY.1 (List.mem_filter.1 ho).2
theorem fY{k:Nat}(hk:k<ops.length):KY st (ops.take (k+1))=KY st (ops.take k)++(bif Fn.F6 st ⟨ops[k].kind,ops[k].key,ops[k].val,ops[k].Ah⟩ then[ops[k]] else[]):=by
 unfold KY;rw[List.take_add_one,List.getElem?_eq_getElem hk,Option.toList_some,List.filter_append];cases hf:Fn.F6 st ⟨ops[k].kind,ops[k].key,ops[k].val,ops[k].Ah⟩ with
 |true=>rw[List.filter_cons_of_pos (by exact hf)];rfl
 |false=>rw[List.filter_cons_of_neg (by rw[hf];decide)];rfl
theorem Og:(KY st ops).length<=ops.length:=List.length_filter_le ..
theorem lZ{l:List A3}{o:A3}:∃T,(qP st e l).A8[0]?=some T/\(qP st e l).queue 0 T o=qP st e (l++[o])/\T.Cw=l.length/\T.queue=l:=by
 refine⟨_,rfl,?_,rfl,rfl⟩;unfold Ai.queue qP;simp
theorem gB{l:List Ym}{k:Nat}(hk:k<l.length):Y8 (l.take (k+1))=Y8 (l.take k)++(bif l[k].ends then[l[k].A5] else[]):=by
 unfold Y8;rw[List.take_add_one,List.getElem?_eq_getElem hk,Option.toList_some,List.filter_append,List.map_append];cases hx:l[k].ends with
 |true=>rw[List.filter_cons_of_pos (by exact hx)];rfl
 |false=>rw[List.filter_cons_of_neg (by rw[hx];decide)];rfl
theorem oU (l:List Ym) (k:Nat):∃ r,Y8 l = Y8 (l.take k)++r:=⟨Y8 (l.drop k),by
 unfold Y8;rw[←List.map_append,←List.filter_append,List.take_append_drop]⟩
theorem opRow{B:Nat}{A:Option Addr}(h:Sl w B 4 A ops.length (rows A3.l ops)){i:Nat}(hi:i<ops.length):
  ∃b off,A=some ⟨b,off,none⟩/\b<B/\w.cell? ⟨b,off+i*4,none⟩=some (.int .i64 ops[i].kind)/\w.cell? ⟨b,off+i*4+1,none⟩=some (.int .i64 ops[i].key)/\
   w.cell? ⟨b,off+i*4+2,none⟩=some (.int .i64 ops[i].val)/\w.cell? ⟨b,off+i*4+3,none⟩=some (.int .i64 ops[i].Ah):=by
 obtain⟨b,off,e,hb,hc⟩:=h.2 Zo
 have g:∀j,j<4->(rows A3.l ops)[i*4+j]?=(ops[i]).l[j]?:=λj hj=>by
  obtain⟨u,hu⟩:∃u,(ops[i]).l[j]?=some u:=⟨_,List.getElem?_eq_getElem (show j<(ops[i]).l.length by rw[Ms];exact hj)⟩;rw[hu];exact Ez Ms ops i hi j u hu
 exact⟨b,off,e,hb,hc _ _ (g 0 Zo),hc _ _ (g 1 Zo),hc _ _ (g 2 Zo),hc _ _ (g 3 Zo)⟩
end
theorem wX{st e:Int}(h1:1<=st)(h5:st<=5)(e1:1<=e)(e5:e<=5)(ops:List A3)(ho:∀o∈ops,Sm st o):GI st 200 1 60000 (qP st e ops):=by
 obtain⟨hb,hb2⟩:=RQ st 200 (λ_=>by decide);refine⟨rfl,rfl,hb.hi hb2,Nat.zero_le _,λi T hi=>?_⟩;cases i with
 |succ i=>simp[qP] at hi
 |zero=>
  obtain rfl:_=T:=by simpa [qP] using hi
  exact⟨(Od e1 e5 Zd Zd Zd Zd).up (Nat.zero_le _),ho,by show(-1:Int)<=-1;omega,by show(-1:Int)<0;omega⟩
section
variable{w w0 wr:World}{gp gh:Nat}{st e:Int}{l:List A3}{v:Value}{L:List Yu}
theorem EL.pw{t n nt:Nat}{P:Ai}(h:EL w w0 v L)(hp:PW w0 wr gp gh st n nt t P):EL w wr v L:=⟨h.o.below hp.b,h.n,h.b.trans (hp.b.mono h.b.size),hp.e⟩
theorem zH(he:AQ w0)(h1:1<=st)(h5:st<=5)(e1:1<=e)(e5:e<=5):
  Calls Tryz.prog 8 #[.agg #[.int .i64 st,.int .i64 e,.int .i64 1,.int .i64 200,.int .i64 3]] w0 λen w'=>∃gp gh,en=.returned (.tuple #[.pointer (some ⟨gp,0,none⟩),.nilIface])/\PW w0 w' gp gh st 200 1 60000 (qP st e []):=by
 refine(NI st e 3 1 200 w0 he h1 h5 e1 e5 Zd Zd Zd Zd Zd (λ_=>by decide)).mono ?_
 rintro en w' ⟨gp,gh,tv,bv,ro,Fh,Ft,lab,h1',h2',h3',h4'⟩
 exact⟨gp,gh,h1',⟨⟨tv,bv,ro,Fh,Ft,lab,h2',h4'⟩,wX h1 h5 e1 e5 [] (λo ho=>by cases ho),he.below h3',h3',he.lt⟩⟩
theorem lX(h:PW w0 wr gp gh st 200 1 60000 (qP st e l))(h1:1<=st)(h5:st<=5)(e1:1<=e)(e5:e<=5){o:A3}(ho:DR st o)(hl:∀o∈l,Sm st o)(hn:l.length<=40):
  Calls Tryz.prog 9 #[.pointer (some ⟨gp,0,none⟩),.int .i64 0,.agg #[.int .i64 o.kind,.int .i64 o.key,.int .i64 o.val,.int .i64 o.Ah]] wr λen w'=>en=.returned .nilIface/\PW w0 w' gp gh st 200 1 60000 (qP st e (l++[o])):=by
 obtain⟨tv,bv,ro,Fh,Ft,lab,hp,hlb⟩:=h.p
 obtain⟨T,t1,t2,t3,t4⟩:=lZ (st:=st) (e:=e) (l:=l) (o:=o)
 refine(PI hp h.e (k:=0) t1 o ho Zo Zo (by rw[t4];omega)).mono ?_
 rintro en w' ⟨h1',h2'⟩
 rw[t2] at h2'
 refine⟨h1',h.next hlb h2' (wX h1 h5 e1 e5 _ λx hx=>?_)⟩
 rcases List.mem_append.1 hx with hx|hx
 ·exact hl x hx
 ·rw[List.mem_singleton.1 hx];exact ho
theorem Wp(h:PW w0 wr gp gh st 200 1 60000 (qP st e l)){o:A3}(ho:¬DR st o):
  Calls Tryz.prog 9 #[.pointer (some ⟨gp,0,none⟩),.int .i64 0,.agg #[.int .i64 o.kind,.int .i64 o.key,.int .i64 o.val,.int .i64 o.Ah]] wr λen w'=>(∃T q,en=.returned (.iface T (.pointer (some q))))/\PW w0 w' gp gh st 200 1 60000 (qP st e l):=by
 obtain⟨tv,bv,ro,Fh,Ft,lab,hp,hlb⟩:=h.p
 refine(TP hp h.e (k:=0) (show 0<(qP st e l).A8.length from Nat.one_pos) o ho).mono ?_
 rintro en w' ⟨h1',h2'⟩
 exact⟨h1',h.below h2'⟩
theorem tF(hP:Me)(h:PW w0 wr gp gh st 200 1 60000 (qP st e l))(h1:1<=st)(h5:st<=5)(e1:1<=e)(e5:e<=5)(hl:∀o∈l,Sm st o)(hn:l.length<=40):
  Calls Tryz.prog 10 #[.pointer (some ⟨gp,0,none⟩),.int .i64 1] wr λen w'=>en=.returned (.bool true)/\PW w0 w' gp gh st 200 1 60000 (Ai.runT 59999 (qP st e l) 0):=by
 obtain⟨g1,g2,g3⟩:=ZS h1 h5 e1 e5 l hl hn
 refine dV (nt:=1) hP 59999 h Zd (λk hk=>?_) Zd Zd Zd λk j hk hj=>?_
 ·obtain rfl:k=0:=Nat.lt_one_iff.1 hk;exact g2
 ·obtain rfl:k=0:=Nat.lt_one_iff.1 hk;exact g1 j
def G6(e:Int)(bs:List Ym)(AL:List Yu)(k:Nat):List Yu:=if e=1 then Y8 (bs.take k) else AL
theorem EL.grow{v':Value}{L':List Yu}{wr':World}(h:EL w wr v L)(hz:7<=w.heap.size)(ho:Own wr' 40 2 v' L'.length (rows Yu.l L'))(hg:wr.grownBy wr' v.ownBlock)(hf:Em wr v v'):EL w wr' v' L':=by
 have hbz:=h.b.size;have Ax:∀b,b<w.heap.size->wr'.heap[b]?=wr.heap[b]?:=λb hb=>hg.block b Zo λe=>by have:=h.n b e.symm;omega
 exact⟨ho,λb hb=>(hf b hb).elim (h.n b) λh'=>by omega,h.b.trans ⟨hg.os,hg.tape,hg.output,hg.size,λb hb=>Ax b Zo⟩,h.e.low (λb hb=>Ax b Zo) (by have:=h.e.lt;have:=hg.size;omega)⟩
end
theorem kD(n:Int):0<=(IntKind.u64.wrap n).tmod 5/\(IntKind.u64.wrap n).tmod 5<5:=by
 have h0:0<=IntKind.u64.wrap n:=by
  unfold IntKind.wrap;simp[IntKind.bits,IntKind.signed];omega
 exact⟨Int.tmod_nonneg 5 h0,Int.tmod_lt_of_pos _ Zd⟩
theorem yI(n:Int):∃s,wrap64 (1+wrap64 ((IntKind.u64.wrap n).tmod 5))=s/\1<=s/\s<=5:=by
 obtain⟨h1,h2⟩:=kD n;exact⟨_,rfl,by unfold wrap64;omega,by unfold wrap64;omega⟩
theorem coreEngines_any(hP:Me)(sz:Int)(ops:List A3)(A:Option Addr)(c:Nat)(w:World)(he:AQ w)(so:Sl w w.heap.size 4 A ops.length (rows A3.l ops)):Calls Tryz.prog 3 #[.int .i64 sz,.slice A ops.length c] w λen w'=>en=.returned (.bool true)/\Below w.heap.size w w':=by
 have hw0:=aH hP w he;have HE:=Zh he;have HS:=Zh so;have h40:=he.lt;clear he so;obtain⟨st,hst,s1,s5⟩:=yI sz;go_enter Tryz.func3,Tryz.ntmps3;by_cases hbig:(40:Int)<(ops.length:Int)
 ·go_wp2_with fail;refine hw0.mono ?_;rintro e w1 ⟨rfl,hb⟩;go_wp2_with fail;go_ret;exact⟨rfl,hb⟩
 ·have hn40:ops.length<=40:=Zo;go_wp2_with fail;refine hw0.mono ?_;rintro e w1 ⟨rfl,hb1⟩;have hA:=(Below.refl w1.heap.size w1).alloc (Nat.le_refl _) (.cells #[] 40);have HL0:Hid (EL w (w1.alloc (.cells #[] 40)) (.slice (some ⟨w1.heap.size,0,none⟩) 0 0) []):=Zh ⟨⟨rfl,Or.inr ⟨w1.heap.size,0,0,[],[],rfl,Bk.at_ rfl,rfl,Nat.le_refl _,by decide,by decide⟩⟩,λb hb=>by cases hb;exact hb1.size,hb1.trans (hA.mono hb1.size),(HE.out.below hb1).below hA⟩;clear hw0 HE hb1 hA;go_wp2_with fail;rw[hst];obtain⟨AL,hAL⟩:∃AL,wA st X0 (KY st ops)=AL:=⟨_,rfl⟩;have HAL:=Zh hAL;clear hAL hst;generalize(w1.alloc (.cells #[] 40))=w2 at*;generalize(Value.slice (some ⟨w1.heap.size,0,none⟩) 0 0)=v2 at*;clear w1;go_loopw [5,6] (λv i wr=>∃e:Int,1<=e/\e<=6/\i=.int .i64 e/\∃L,L=(if e=1 then[] else AL)/\Hid (EL w wr v L)) (λ_ i _=>(6-intOf i).toNat);case atStart=>exact⟨1,by decide,by decide,rfl,[],rfl,HL0⟩
  case round=>
   obtain⟨e,e1,e6,rfl,L,hL,H⟩:=hrel;have HLe:=Zh hL;clear hL;by_cases hlt:e<=5
   ·obtain⟨va,vc,rfl,_⟩:=Yq H.out.o;have hnw:=zH H.out.e s1 s5 e1 hlt;go_wp2_with fail;refine hnw.mono ?_;rintro en w3 ⟨gp,gh,rfl,hp⟩;have HQ:=Zh hp;clear hp hnw;go_wp2_with fail;go_loopw [9] (λi wq=>∃k:Nat,k<=ops.length/\i=.int .i64 k/\Hid (PW wr wq gp gh st 200 1 60000 (qP st e (KY st (ops.take k))))) (λi _=>ops.length-(intOf i).toNat);case atStart=>exact⟨0,Nat.zero_le _,rfl,HQ⟩
    case round=>
     obtain⟨k,hk,rfl,Q⟩:=hrel;by_cases hlk:k<ops.length
     ·have hlk':(k:Int)<(ops.length:Int):=Zo;have hwq:=H.out.b.trans (Q.out.b.mono H.out.b.size);obtain⟨ob,off,rfl,hob,q0,q1,q2,q3⟩:=opRow (HS.out.below hwq) hlk;have hfl:(KY st (ops.take k)).length<=40:=Nat.le_trans Og (by rw[List.length_take];omega);have hft:=fY (st:=st) hlk;cases hfit:Fn.F6 st ⟨ops[k].kind,ops[k].key,ops[k].val,ops[k].Ah⟩ with
      |true=>
       rw[hfit] at hft;have hq:=lX Q.out s1 s5 e1 hlt (RY.1 hfit) Of hfl;rw[show KY st (ops.take k)++[ops[k]]=KY st (ops.take (k+1)) from hft.symm] at hq;clear hft hfit hwq Q HQ;go_wp2_with fail;refine hq.mono ?_;rintro en w4 ⟨rfl,h4⟩;have H4:=Zh h4;clear h4 hq;go_wp2_with fail;exact⟨⟨k+1,hlk,by go_num,H4⟩,by simp[intOf];omega⟩
      |false=>
       rw[hfit] at hft;have hno:¬DR st ops[k]:=λh=>by rw[RY.2 h] at hfit;cases hfit
       have hq:=Wp Q.out hno;rw[show KY st (ops.take k)=KY st (ops.take (k+1)) from by rw[hft];exact(List.append_nil _).symm] at hq;clear hft hfit hwq Q HQ hno;go_wp2_with fail;refine hq.mono ?_;rintro en w4 ⟨⟨T,qq,rfl⟩,h4⟩;have H4:=Zh h4;clear h4 hq;go_wp2_with fail;exact⟨⟨k+1,hlk,by go_num,H4⟩,by simp[intOf];omega⟩
     ·have hke:k=ops.length:=Zo;subst hke;have hlk':¬(ops.length:Int)<(ops.length:Int):=Zo;rw[List.take_length] at Q;have hr:=tF hP Q.out s1 s5 e1 hlt Of (Nat.le_trans Og hn40);have hans:=(ZS s1 s5 e1 hlt (KY st ops) Of (Nat.le_trans Og hn40)).2.2;rw[HAL.out] at hans;generalize Ai.runT 59999 (qP st e (KY st ops)) 0=PE at hr hans;have HA:=Zh hans;clear hans Q HQ;go_wp2_with fail;refine hr.mono ?_;rintro en w4 ⟨rfl,h4⟩;clear hr;obtain⟨tv,bv,ro,Fh,Ft,lab,hp,_⟩:=h4.p;have hbn:PE.Ao.length<=60000:=h4.g.b;have hbt:=QA hp (Nat.le_trans hbn Zd);have HE4:=Zh (H.out.pw h4);clear hp h4 H;go_wp2_with fail;refine hbt.mono ?_;rintro en w5 ⟨lv,rfl,ho,hb5,hf⟩;have HE5:=Zh (HE4.out.below hb5);obtain⟨la,lc,rfl,_⟩:=Yq ho;obtain⟨bs,hbs⟩:∃bs,PE.Ao=bs:=⟨_,rfl⟩;rw[hbs] at ho hbn HA;have HB:=Zh (And.intro ho λb (hb:(Value.slice la PE.Ao.length lc).ownBlock=some b)=>(show(Value.slice va L.length vc).ownBlock≠some b from λh=>by have:=HE4.out.o.lt h;have:=hf b hb;omega));clear ho hf hb5 HE4 hbt;rw[hbs] at HB ⊢;clear hbs;have HI0:Hid (EL w w5 (.slice va L.length vc) (G6 e bs AL 0)):=Zh (by rw[show G6 e bs AL 0=L from HLe.out.symm];exact HE5.out);have hl0:L.length=(G6 e bs AL 0).length:=congrArg List.length HLe.out;clear HE5 HLe;generalize(Value.slice va L.length vc)=v5 at*;clear hl0;go_wp2_with fail;go_loopw [5,11,12] (λv n i wq=>∃k:Nat,k<=bs.length/\i=.int .i64 k/\n=.int .i64 ((Y8 (bs.take k)).length:Nat)/\Hid (EL w wq v (G6 e bs AL k))/\Hid (Own wq 42 10 (.slice la bs.length lc) bs.length (rows Ym.l bs)/\∀b,(Value.slice la bs.length lc).ownBlock=some b->v.ownBlock≠some b)) (λ_ _ i _=>bs.length-(intOf i).toNat);case atStart=>exact⟨0,Nat.zero_le _,rfl,rfl,HI0,HB⟩
      case round=>
       obtain⟨k,hk,rfl,rfl,HK,HO⟩:=hrel;by_cases hlk:k<bs.length
       ·have hlk':(k:Int)<(bs.length:Int):=Zo;obtain⟨g,off,cap,hsl,_⟩:=Ds HO.out.1 Zo;cases hsl;have hrow:=JJ Q8 HO.out.1 k hlk;have iH:=gB hlk;obtain⟨b,hb⟩:∃b,bs[k]=b:=⟨_,rfl⟩;rw[hb] at hrow iH;have y7:=hrow 7 _ rfl;have y8:=hrow 8 _ rfl;have y9:=hrow 9 _ rfl;skip;have hn9:(Y8 (bs.take k)).length<=60000:=by
         unfold Y8;rw[List.length_map];refine Nat.le_trans (List.length_filter_le ..) ?_;rw[List.length_take];omega
        obtain⟨th,bg,op,rl,en,an⟩:=b;obtain⟨ac,av⟩:=an;try dsimp only at y7 y8 y9 iH
        cases en with
        |false=>
         rw[cond_false,List.append_nil] at iH;have hkl:G6 e bs AL (k+1)=G6 e bs AL k:=by unfold G6;rw[iH]
         rw[←hkl] at HK;have HT:=Zh iH;clear hrow y8 y9 hb iH hkl HI0 HB;go_wp2_with fail;exact⟨⟨k+1,hlk,by go_num,by rw[HT.out],HK,HO⟩,by simp[intOf];omega⟩
        |true=>
         simp only[cond_true] at iH;have hlen:(Y8 (bs.take (k+1))).length=(Y8 (bs.take k)).length+1:=by rw[iH];simp
         by_cases he1:e=1
         ·subst he1;have hkl:G6 1 bs AL k = Y8 (bs.take k):=if_pos rfl;have hkl1:G6 1 bs AL (k+1) = Y8 (bs.take k)++[⟨ac,av⟩]:=(if_pos rfl).trans iH;rw [hkl] at HK;obtain ⟨wa,wc,rfl,_⟩:=Yq HK.out.o;have ho:=HK.out.o;have hgw:g < wr.heap.size:=HO.out.1.lt rfl;obtain ⟨u,w7,hrun,ho7,hg7,hf7⟩:=NM (wr.alloc (.cells #[.int .i64 ac,.int .i64 av] 40)) _ (Y8 (bs.take k)) (ho.alloc _) Zo ⟨ac,av⟩ wr.heap.size (Bk.at_ rfl) 25;have hal:=(Below.refl wr.heap.size wr).alloc (Nat.le_refl _) (.cells #[.int .i64 ac,.int .i64 av] 40);have HE7:Hid (EL w w7 u (G6 1 bs AL (k+1))):=Zh (by rw [hkl1];exact (HK.out.below hal).grow h40 ho7 hg7 hf7);have hd:=HO.out.2 g rfl;have HO7:Hid (Own w7 42 10 (.slice (some ⟨g,off,none⟩) bs.length lc) bs.length (rows Ym.l bs)∧∀ b,(Value.slice (some ⟨g,off,none⟩) bs.length lc).ownBlock = some b→u.ownBlock≠some b):=Zh ⟨(HO.out.1.below hal).grown hg7 (Or.inr fun e=>hd e.symm),fun b hb e=>by
           cases hb;rcases hf7 g e with h|h
           ·exact hd h
           ·simp at h;omega⟩
          obtain⟨ua,uc,rfl,_⟩:=Yq ho7;obtain⟨fl,hfl⟩:∃fl,(Y8 (bs.take k)++[(⟨ac,av⟩:Yu)]).length=fl:=⟨_,rfl⟩;rw[hfl] at HE7 HO7 hrun;clear hfl;have HT:=Zh hlen;clear HI0 HB ho ho7 hg7 hf7 hd hrow iH hkl hkl1 hlen HO HK hal hb;go_wp2_with (at_builtin;refine Ya Zr _ _ _ _ _ _ _ Zr Zr Zr hrun ?_);exact⟨⟨k+1,hlk,by go_num,by rw[HT.out];go_num,HE7,HO7⟩,by simp[intOf];omega⟩
         ·have hkl:G6 e bs AL k=AL:=if_neg he1;have hkl1:G6 e bs AL (k+1)=AL:=if_neg he1;rw[hkl] at HK;have HK1:Hid (EL w wr u5 (G6 e bs AL (k+1))):=by rw[hkl1];exact HK
          obtain⟨r,hr⟩:=oU bs (k+1);rw[HA.out,iH,List.append_assoc] at hr;have hlt9:(Y8 (bs.take k)).length<AL.length:=by rw[hr];simp
          have hlt9':¬(AL.length:Int)<=((Y8 (bs.take k)).length:Nat):=Zo;have hat:AL[(Y8 (bs.take k)).length]=⟨ac,av⟩:=by simp[hr]
          obtain⟨fg,foff,fcap,rfl,_⟩:=Ds HK.out.o Zo;have hfrow:=JJ xF HK.out.o _ hlt9;rw[hat] at hfrow;have z0:=hfrow 0 _ rfl;have z1:=hfrow 1 _ rfl;try dsimp only at z0 z1
          have HT:=Zh hlen;have HDD:=HK1;clear HI0 HB hrow hfrow iH hkl hkl1 hlen HK hb hat hr;go_upto_region 27 with(fail);refine X8 (λZ=>Z.cell? ⟨g,off+k*10+8,none⟩=some (.int .i64 ac)/\Z.cell? ⟨g,off+k*10+9,none⟩=some (.int .i64 av)/\Z.cell? ⟨fg,foff+(Y8 (bs.take k)).length*2,none⟩=some (.int .i64 ac)/\Z.cell? ⟨fg,foff+(Y8 (bs.take k)).length*2+1,none⟩=some (.int .i64 av)) 16 Zk ⟨y8,y9,z0,z1⟩ (λhS=>?_);have HK2:=Zh (HK1.out.below (Below.refl wr.heap.size wr).drew);have HO2:Hid (Own wr.drew 42 10 (.slice (some ⟨g,off,none⟩) bs.length lc) bs.length (rows Ym.l bs)/\∀b,(Value.slice (some ⟨g,off,none⟩) bs.length lc).ownBlock=some b->(Value.slice (some ⟨fg,foff,none⟩) AL.length fcap).ownBlock≠some b):=Zh ⟨HO.out.1.drew,HO.out.2⟩;clear HK1 HO y7 y8 y9 z0 z1;generalize wr.drew=W2 at*;((try simp only[ZL]);refine vT (fuel:=0) hS [0,1,2,3,4,5,6,7,8,9,10,11,12,13,14,15] ?_;simp only[Xy,Xr,List.toList_toArray];(repeat (first|go_big_quiet_skip|(go_big_quiet_want;first|(go_big_quiet_op;go_big_quiet_on)|(apply Exists.intro;refine⟨λw' hS'=>?_,?_⟩;(· ((obtain⟨x8,x9,d0,d1⟩:=hS');go_simp;first|done|rfl|exact⟨rfl,rfl⟩));go_big_quiet_on;simp only[ZL]))));refine wpQuiet_nil ?_;(try dsimp only));refine Ye Zk ?_ _;clear hS;go_wp2_with fail;exact⟨⟨k+1,hlk,by go_num,by rw[HT.out];go_num,HK2,HO2⟩,by simp[intOf];omega⟩
       ·have hke:k=bs.length:=Zo;subst hke;have hlk':¬(bs.length:Int)<(bs.length:Int):=Zo;rw[List.take_length,HA.out];have hkl:G6 e bs AL bs.length=AL:=by unfold G6;rw[List.take_length,HA.out];split<;>rfl
        rw[hkl] at HK;obtain⟨wa,wc,rfl,_⟩:=Yq HK.out.o;clear HO HI0 HB HA hkl;go_wp2_with fail;refine⟨⟨e+1,by omega,by omega,by go_num,AL,by rw[if_neg Zo],HK⟩,by simp[intOf];omega⟩
   ·have hee:e=6:=Zo;subst hee;have hlt':¬(6:Int)<=5:=Zo;go_wp2_with fail;go_ret;exact⟨rfl,H.out.b⟩
end Go.Proofs.YtaipogljokblkaaGreatDoor
