/- Core: PN, PT, LN, SvA, Rfi, Rfj, PS, CClimb0, CClimb1, CClimb2, CPlace, Rfs, Rfk. -/
import Derived.Test.YtaipogljokblkaaGreatDoorE06
import Derived.Test.YtaipogljokblkaaGreatDoorE08
import Derived.Deep.MidRow
import Derived.IntWalk
import Derived.Test.YtaipogljokblkaaGreatDoorE01
import Derived.Handy
import Derived.Test.YtaipogljokblkaaGreatDoorE07
set_option linter.all false
set_option maxRecDepth 100000
set_option maxHeartbeats 8000000
namespace Go.Proofs.YtaipogljokblkaaGreatDoor
open Go Go.RowKit
set_option linter.unusedSimpArgs false
set_option linter.unusedVariables false
set_option linter.unusedSectionVars false
structure BA where
 a:Option Go.Addr
 n:Nat
 c:Nat
 deriving DecidableEq
def BA.v(s:BA):Value:=.slice s.a s.n s.c
structure Xb where
 call:Xf
 step:Int
 BN:Bn
 word:Xe
 clock:Xe
 index:Int
 seen:BA
 An:BA
 Aa:Int
 me:Int
 Af:Int
 most:Int
 h0:Xe
 h1:Xe
 h2:Xe
 h3:Xe
 h4:Xe
 h5:Xe
 h6:Xe
 h7:Xe
 h8:Xe
 span:AJ
 notes:BA
 Be:Int
 AF:Xj
 deriving DecidableEq
def Xb.l(x:Xb):List Value:=x.call.l++[.int .i64 x.step]++x.BN.l++x.word.l++x.clock.l++[.int .i64 x.index]++[x.seen.v]++[x.An.v]++[.int .i64 x.Aa]++[.int .i64 x.me]++[.int .i64 x.Af]++[.int .i64 x.most]++x.h0.l++x.h1.l++x.h2.l++x.h3.l++x.h4.l++x.h5.l++x.h6.l++x.h7.l++x.h8.l++x.span.l++[x.notes.v]++[.int .i64 x.Be]++x.AF.l
def Xb.zero:Xb:=⟨Xf.zero,0,Bn.zero,Xe.zero,Xe.zero,0,⟨none,0,0⟩,⟨none,0,0⟩,0,0,0,0,Xe.zero,Xe.zero,Xe.zero,Xe.zero,Xe.zero,Xe.zero,Xe.zero,Xe.zero,Xe.zero,AJ.zero,⟨none,0,0⟩,0,Xj.zero⟩
def wz(w:Xe):Bool:=w.sl==0&&(w.gn==0&&(w.tg==0&&(w.nm==0&&!w.mark)))
def wQ(a b:Xe):Bool:=a.sl==b.sl&&(a.gn==b.gn&&(a.tg==b.tg&&(a.nm==b.nm&&a.mark==b.mark)))
def OV(f n:Xe):Bool:=f.sl==n.sl&&(f.gn==n.gn&&(f.tg==0&&(f.nm==0&&!f.mark)))
namespace Xb
def A2(R:Xb):Bool:=R.Aa==2||R.Aa==3
def dating(R:Xb):Bool:=R.Aa==3||R.Aa==5
def Dq(R:Xb):Bool:=R.Aa==4||R.Aa==5
def ask(R:Xb)(step:Int)(a:Bn):Xb:={R with step:=step,BN:=a}
def load(R:Xb)(step:Int)(a:X9):Xb:=R.ask step ⟨1,a,.zero,.zero⟩
def advance(R:Xb)(step:Int):Xb:=R.ask step ⟨3,root 24,R.clock,BP R.clock 1⟩
def B4(R:Xb)(n:Int):Xe:=
 bif n==0 then R.h0 else bif n==1 then R.h1 else bif n==2 then R.h2 else bif n==3 then R.h3 else bif n==4 then R.h4 else bif n==5 then R.h5 else bif n==6 then R.h6 else bif n==7 then R.h7 else R.h8
def Ga(R:Xb)(n:Int)(w:Xe):Xb:=
 bif n==0 then{R with h0:=w} else bif n==1 then{R with h1:=w} else bif n==2 then{R with h2:=w} else bif n==3 then{R with h3:=w} else bif n==4 then{R with h4:=w} else
 bif n==5 then{R with h5:=w} else bif n==6 then{R with h6:=w} else bif n==7 then{R with h7:=w} else{R with h8:=w}
def AG(me n:Int):X9:=⟨0,0,wr (wr (25+wr (me*9))+n)⟩
def post(R:Xb)(step n:Int)(w:Xe):Xb:=(R.Ga n w).ask step ⟨2,AG R.me n,.zero,w⟩
def spanW(s:AJ):Xe:=bif s.is then⟨0,0,s.Hh,s.low,true⟩ else .zero
def Cy(R:Xb)(step:Int)(s:AJ):Xb:=Xb.ask {R with span:=s} step ⟨2,⟨0,0,wr (79+R.me)⟩,.zero,spanW s⟩
def clear(R:Xb):Xb:={R with call:=.zero,step:=0,BN:=.zero,word:=.zero,clock:=.zero,index:=0,seen:=⟨none,0,0⟩,An:=⟨none,0,0⟩}
def finish(R:Xb)(x:Xj):Xb:={R.clear with AF:=x}
def done(R:Xb):Xb:=R.finish ⟨.zero,true⟩
def E6(R:Xb):List Int->Xb
 |[]=>R.done
 |n::r=>bif wz (R.B4 n) then R.E6 r else Xb.post {R with index:=n} 4 n .zero
def Fz(R:Xb)(l:List Int):Xb:=
 bif R.Dq&&!(!R.span.is&&(R.span.low==0&&R.span.Hh==0)) then R.Cy 2 .zero else
 bif R.A2 then R.E6 l else R.done
def Aw(R:Xb)(c:Xf):Xb:={R.clear with call:=c}
def enter(R:Xb):Xb:=bif R.Dq then R.load 3 (root 24) else R.done
def alloc(R:Xb):Xb:=bif R.dating then R.load 8 (root 24) else R.ask 1 ⟨4,.zero,.zero,.zero⟩
def hold(R:Xb)(i j:Int):Xb:=bif R.A2&&!wQ (R.B4 i) (R.B4 j) then R.post 2 i (R.B4 j) else R.done
def Aq(R:Xb)(c:Xf):Xb:=
 let T:=R.Aw c
 bif c.kind==1 then T.enter else bif c.kind==2 then T.Fz [0,1,2,3,4,5,6,7,8] else bif c.kind==3 then T.load 1 c.Ay else
 bif c.kind==4 then T.ask 1 ⟨2,c.Ay,c.Bb,c.new⟩ else bif c.kind==5 then T.ask 1 ⟨3,c.Ay,c.Bb,c.new⟩ else
 bif c.kind==6 then T.load 5 c.Ay else bif c.kind==7 then T.hold c.i c.j else bif c.kind==8 then T.alloc else
 T.ask 2 ⟨5,.zero,c.Bb,.zero⟩
def Ev(R:Xb)(x:Xj):Xb:=
 let R:={R with word:=x.word}
 bif R.dating then R.load 6 (root 24) else
 bif R.Aa==2&&(!(x.word.sl==0)&&!OV (R.B4 R.call.i) x.word) then R.post 7 R.call.i (Yt x.word) else R.finish ⟨x.word,true⟩
def FP(R:Xb)(i now:Int):Bool:=
 bif R.Aa==3 then !wz (R.B4 i)&&(R.B4 i).nm==now else R.span.is&&R.span.Hh==now
def Cb(R:Xb)(x:Xj):Xb:=
 bif R.FP R.call.i x.word.nm then R.finish ⟨R.word,true⟩ else
 bif R.Aa==3 then R.post 7 R.call.i (Yy x.word.nm) else
 R.Cy 7 ⟨true,bif R.span.is then R.span.low else x.word.nm,x.word.nm⟩
end Xb
theorem YT(R:Xb):R.Dq=(R.Aa==4||R.Aa==5):=rfl
theorem SK(R:Xb):R.dating=(R.Aa==3||R.Aa==5):=rfl
theorem YU(R:Xb):R.A2=(R.Aa==2||R.Aa==3):=rfl
def AJ.nul(s:AJ):Bool:=!s.is&&(s.low==0&&s.Hh==0)
theorem QL(s:AJ):(!s.is&&(s.low==0&&s.Hh==0))=s.nul:=rfl
theorem YV(R:Xb)(i now:Int):R.FP i now=(bif R.Aa==3 then !wz (R.B4 i)&&(R.B4 i).nm==now else R.span.is&&R.span.Hh==now):=rfl
theorem fN:(Tryz.prog.info? 51).map (λi=>(i.zero,i.size,i.bytes))=some (some (.agg Xe.zero.l.toArray),5,40):=Zk
theorem NW:(Tryz.prog.info? 201).map (λi=>(i.zero,i.size,i.bytes))=some (some (.agg Xq.zero.l.toArray),7,56):=Zk
theorem oF:(Tryz.prog.info? 169).map (λi=>(i.zero,i.size,i.bytes))=some (some (.agg AJ.zero.l.toArray),3,24):=Zk
theorem MU:(Tryz.prog.info? 3).map (λi=>(i.zero,i.size,i.bytes))=some (some (.int .i64 0),1,8):=Zk
theorem FU(n:Int):wr n=wrap64 n:=IntWalk.i64_left n
def rows{α:Type}(f:α->List Value)(l:List α):List Value:=l.flatMap f
section
variable{α:Type}{f:α->List Value}{sz:Nat}
theorem DC(p:α)(l:List α):rows f (p::l)=f p++rows f l:=rfl
theorem Ja(l m:List α):rows f (l++m)=rows f l++rows f m:=by simp[rows]
theorem Y0(hf:∀x,(f x).length=sz)(l:List α):(rows f l).length=l.length*sz:=by
 induction l with
 |nil=>simp[rows]
 |cons p l ih=>rw[DC,List.length_append,ih,hf,List.length_cons,Nat.add_mul];omega
theorem Ez(hf:∀x,(f x).length=sz)(l:List α):∀(i:Nat) (_:i<l.length) (j:Nat) (u:Value),(f l[i])[j]?=some u->(rows f l)[i*sz+j]?=some u:=by
 induction l with
 |nil=>intro i h;simp at h
 |cons p l ih=>
  intro i h j u hu;rw[DC];have hj:j<sz:=by
   rcases Nat.lt_or_ge j sz with h'|h'
   ·exact h'
   ·rw[List.getElem?_eq_none (by rw[hf];exact h')] at hu;cases hu
  cases i with
  |zero=>
   rw[List.getElem?_append_left (by rw[hf];omega)];simpa using hu
  |succ i=>
   have h1:=ih i (by simpa using h) j u (by simpa using hu);have e:(i+1)*sz+j-sz=i*sz+j:=by rw[Nat.add_mul];omega
   rw[List.getElem?_append_right (by rw[hf,Nat.add_mul];omega),hf,e];exact h1
theorem lI(h1:∀x,∀u∈f x,u.oneCell'=true)(l:List α):∀u∈rows f l,u.oneCell'=true:=by
 intro u hu;obtain⟨p,_,hp⟩:=List.mem_flatMap.1 hu;exact h1 p u hp
end
theorem pR{w:World}{g:Nat}{t:TypeId}{cs:List Value}(h:Bk w g t cs.toArray):∀j u,cs[j]?=some u->w.cell? ((⟨g,0,none⟩:Addr).add j)=some u:=by
 intro j u hu;rw[Addr.add_lit,Nat.zero_add,h.cell];simpa using hu
theorem Ng(x:Xe):x.l.length=5:=rfl
theorem Ph(x:Xq):x.l.length=7:=rfl
theorem yK(x:AJ):x.l.length=3:=rfl
theorem wone(x:Xe):∀u∈x.l,u.oneCell'=true:=by intro u hu;simp[Xe.l] at hu;rcases hu with rfl|rfl|rfl|rfl|rfl<;>rfl
theorem none_(x:Xq):∀u∈x.l,u.oneCell'=true:=by intro u hu;simp[Xq.l,Xe.l] at hu;rcases hu with rfl|rfl|rfl|rfl|rfl|rfl|rfl<;>rfl
theorem sone(x:AJ):∀u∈x.l,u.oneCell'=true:=by intro u hu;simp[AJ.l] at hu;rcases hu with rfl|rfl|rfl<;>rfl
theorem AX{α:Type}{f:α->List Value}{sz bytes:Nat}{T E:TypeId}{z:Value}(hf:∀x,(f x).length=sz)(h1:∀x,∀u∈f x,u.oneCell'=true)(hT:Tryz.prog.underlying T=some (.slice E))
  (hE:(Tryz.prog.info? E).map (λi=>(i.zero,i.size,i.bytes))=some (some z,sz,bytes))(hzs:z.cells.size=sz)(hsz:0<sz)(hby:bytes<=1000)
  (w:World)(v:Value)(l:List α)(h:Own w E sz v l.length (rows f l))(hl:l.length<=100000)(x:α)(b:Nat)(hb:Bk w b E (f x).toArray)(t:TypeId):
  ∃v' w',(Builtin.append_ #[T,T] t #[v,.slice (some ⟨b,0,none⟩) 1 1]).run Tryz.prog w=.ok v' w'/\
   Own w' E sz v' (l++[x]).length (rows f (l++[x]))/\w.grownBy w' v.ownBlock/\Em w v v':=by
 obtain⟨i,hi,hz,hz1,hz2⟩:=info_parts hE
 have hm:(l.length+1)*bytes<=140737488355328:=Nat.le_trans (Nat.mul_le_mul (show l.length+1<=100001 by omega) hby) Zd
 have h0:=WD (P:=Tryz.prog) w T t E i z sz bytes hT hi hz hz1 hz2 hzs hsz v l.length (rows f l) h ⟨b,0,none⟩ 1 1 (f x) (by rw[hf,Nat.one_mul]) (pR hb) (h1 x) Zo (by simp only[maxLen];omega) hm
 rw[Ja,List.length_append]
 simpa [rows] using h0
theorem JJ{α:Type}{f:α->List Value}{sz:Nat}{E:TypeId}(hf:∀x,(f x).length=sz){w:World}{g off cap:Nat}{l:List α}(h:Own w E sz (.slice (some ⟨g,off,none⟩) l.length cap) l.length (rows f l))(k:Nat)(hk:k<l.length):w.rangeAt g (off+k*sz) (f l[k]):=by
 intro j u hu;rw[Nat.add_assoc];exact Cc h _ _ (Ez hf l k hk j u hu)
theorem Ds{w:World}{t:TypeId}{sz:Nat}{v:Value}{n:Nat}{xs:List Value}(h:Own w t sz v n xs)(hn:0<n):∃g off cap,v=.slice (some ⟨g,off,none⟩) n cap/\n<=cap:=by
 rcases h.2 with⟨_,h0⟩|⟨g,off,cap,A,R,rfl,_,_,hc,_⟩
 ·omega
 ·exact⟨g,off,cap,rfl,hc⟩
theorem Yq{w:World}{t:TypeId}{sz:Nat}{v:Value}{n:Nat}{xs:List Value}(h:Own w t sz v n xs):∃a cap,v=.slice a n cap/\n<=cap/\cap<=maxLen:=by
 rcases h.2 with⟨rfl,rfl⟩|⟨g,off,cap,A,R,rfl,_,_,hc,hm,_⟩
 ·exact⟨none,0,rfl,Nat.le_refl _,by decide⟩
 ·exact⟨_,cap,rfl,hc,hm⟩
theorem Sl.DE{w:World}{E:TypeId}{sz n:Nat}{a:Option Addr}{c:Nat}{xs:List Value}(h:Own w E sz (.slice a n c) n xs):Sl w w.heap.size sz a n xs:=by
 refine⟨h.1,λhn=>?_⟩;obtain⟨g,off,cap,hv,_⟩:=Ds h hn;injection hv with h1 h2 h3;subst h1;subst h3;exact⟨g,off,rfl,h.lt rfl,Cc h⟩
theorem Sl.row{α:Type}{f:α->List Value}{sz:Nat}(hf:∀x,(f x).length=sz){w:World}{B:Nat}{a:Option Addr}{l:List α}(h:Sl w B sz a l.length (rows f l))(k:Nat)(hk:k<l.length):
  ∃b off,a=some ⟨b,off,none⟩/\b<B/\w.rangeAt b (off+k*sz) (f l[k]):=by
 obtain⟨b,off,e,hb,hc⟩:=h.2 Zo
 refine⟨b,off,e,hb,λj u hu=>?_⟩
 rw[Nat.add_assoc]
 exact hc _ _ (Ez hf l k hk j u hu)
theorem LB{w:World}{b o:Nat}{x:Xe}(h:w.rangeAt b o x.l):w.cell? ⟨b,o,none⟩=some (.int .i64 x.sl)/\w.cell? ⟨b,o+1,none⟩=some (.int .i64 x.gn)/\w.cell? ⟨b,o+2,none⟩=some (.int .i64 x.tg)/\w.cell? ⟨b,o+3,none⟩=some (.int .i64 x.nm)/\w.cell? ⟨b,o+4,none⟩=some (.bool x.mark):=
 ⟨h 0 _ rfl,h 1 _ rfl,h 2 _ rfl,h 3 _ rfl,h 4 _ rfl⟩
theorem lV{w:World}{b o:Nat}{x:AJ}(h:w.rangeAt b o x.l):w.cell? ⟨b,o,none⟩=some (.bool x.is)/\w.cell? ⟨b,o+1,none⟩=some (.int .i64 x.low)/\w.cell? ⟨b,o+2,none⟩=some (.int .i64 x.Hh):=
 ⟨h 0 _ rfl,h 1 _ rfl,h 2 _ rfl⟩
theorem N9{w:World}{b o:Nat}{x:Xq}(h:w.rangeAt b o x.l):w.cell? ⟨b,o,none⟩=some (.int .i64 x.ref.sl)/\w.cell? ⟨b,o+1,none⟩=some (.int .i64 x.ref.gn)/\w.cell? ⟨b,o+2,none⟩=some (.int .i64 x.ref.tg)/\w.cell? ⟨b,o+3,none⟩=some (.int .i64 x.ref.nm)/\w.cell? ⟨b,o+4,none⟩=some (.bool x.ref.mark)/\w.cell? ⟨b,o+5,none⟩=some (.int .i64 x.A4)/\w.cell? ⟨b,o+6,none⟩=some (.int .i64 x.CS):=
 ⟨h 0 _ rfl,h 1 _ rfl,h 2 _ rfl,h 3 _ rfl,h 4 _ rfl,h 5 _ rfl,h 6 _ rfl⟩
theorem DQ{α:Type}{l:List α}{p:α->Bool}{k:Nat}(hk:k<l.length)(h:∀x∈l.take k,p x=false)(h1:p l[k]=false):∀x∈l.take (k+1),p x=false:=by
 intro x hx;rw[List.take_add_one,List.getElem?_eq_getElem hk] at hx;rcases List.mem_append.1 hx with hx|hx
 ·exact h x hx
 ·have:x=l[k]:=by simpa using hx
  rw[this];exact h1
theorem Nb{α:Type}{l:List α}{p:α->Bool}{k:Nat}(hk:k<l.length)(h1:p l[k]=true):l.any p=true:=List.any_eq_true.2 ⟨_,List.getElem_mem hk,h1⟩
theorem any_none{α:Type}{l:List α}{p:α->Bool}(h:∀x∈l.take l.length,p x=false):l.any p=false:=by
 rw[List.take_length] at h;rw[List.any_eq_false];intro x hx;rw[h x hx];simp
theorem CO{a b:Bool}(h:a=b):Ending.returned (.bool a)=.returned (.bool b):=by rw[h]
def MH(b:Bool)(w:World)(e:Ending)(w':World):Prop:=e=.returned (.bool b)/\Below w.heap.size w w'
def Gu(kept:List Xe)(n:Xq):Bool:=kept.any λx=>x.sl==n.ref.sl
theorem VZ(n:Xq)(gk:Nat)(a:Option Addr)(c B:Nat)(kept:List Xe)(w:World)(hk:Bk w gk 103 #[.slice a kept.length c])(hs:Sl w w.heap.size 5 a kept.length (rows Xe.l kept))(hl:kept.length<=100000):
  Calls Tryz.prog 115 #[.agg n.l.toArray,.pointer (some ⟨gk,0,none⟩)] w (MH (Gu kept n) w):=by
 obtain⟨⟨n0,n1,n2,n3,n4⟩,n5,n6⟩:=n
 show Calls Tryz.prog 115 #[.agg #[.int .i64 n0,.int .i64 n1,.int .i64 n2,.int .i64 n3,.bool n4,.int .i64 n5,.int .i64 n6],.pointer (some ⟨gk,0,none⟩)] w _
 have B0:Bk (w.alloc (.cells #[.int .i64 n0,.int .i64 n1,.int .i64 n2,.int .i64 n3,.bool n4,.int .i64 n5,.int .i64 n6] 201)) w.heap.size 201 #[.int .i64 n0,.int .i64 n1,.int .i64 n2,.int .i64 n3,.bool n4,.int .i64 n5,.int .i64 n6]:=Bk.at_ rfl
 have hb0:Below w.heap.size w (w.alloc (.cells #[.int .i64 n0,.int .i64 n1,.int .i64 n2,.int .i64 n3,.bool n4,.int .i64 n5,.int .i64 n6] 201)):=(Below.refl _ _).alloc (Nat.le_refl _) _
 have K0:=hk.alloc (.cells #[.int .i64 n0,.int .i64 n1,.int .i64 n2,.int .i64 n3,.bool n4,.int .i64 n5,.int .i64 n6] 201)
 have c0:=K0.cell 0
 simp at c0
 go_enter Tryz.func115,Tryz.ntmps115
 go_wp2_with fail
 generalize w.alloc (.cells #[.int .i64 n0,.int .i64 n1,.int .i64 n2,.int .i64 n3,.bool n4,.int .i64 n5,.int .i64 n6] 201)=w0 at*
 go_loopw [8] (λi wr=>∃k:Nat,k<=kept.length/\i=.int .i64 k/\Below w0.heap.size w0 wr/\Hid (∀x∈kept.take k,(x.sl==n0)=false)) (λi _=>kept.length-(intOf i).toNat)
 case atStart=>exact⟨0,Nat.zero_le _,rfl,Below.refl _ _,by intro x hx;simp at hx⟩
 case round=>
  obtain⟨k,hkl,rfl,hB,HI⟩:=hrel
  have hz:=hB.size
  have hs1:=(hs.below hb0).Sc hB hb0.size
  have K1:=K0.Ac hB
  have B1:=B0.Ac hB
  by_cases hlt:k<kept.length
  ·obtain⟨b,off,rfl,hbb,hr⟩:=hs1.row Ng k hlt;obtain⟨q0,q1,q2,q3,q4⟩:=LB hr;have X1:Bk (wr.alloc (.cells #[.int .i64 0,.int .i64 0,.int .i64 0,.int .i64 0,.bool false] 51)) wr.heap.size 51 #[.int .i64 0,.int .i64 0,.int .i64 0,.int .i64 0,.bool false]:=Bk.at_ rfl;have B2:=B1.alloc (.cells #[.int .i64 0,.int .i64 0,.int .i64 0,.int .i64 0,.bool false] 51);have hB2:=hB.alloc hB.size (.cells #[.int .i64 0,.int .i64 0,.int .i64 0,.int .i64 0,.bool false] 51);have hlt1:=B1.lt;cases hq:(kept[k].sl==n0) with
   |true=>
    have HT:=Zh (Nb (p:=λx:Xe=>x.sl==n0) hlt hq);go_wp2_with (refine vM X1 ?_;intro w2 hst;have r0:=hst.bk.cell 0;have r1:=(hst.Ax B2 Zo).cell 0;simp at r0 r1);go_ret;exact⟨CO HT.out.symm,hb0.trans ((hst.below hB2 Zo).mono hb0.size)⟩
   |false=>
    have hn:=DQ (p:=λx:Xe=>x.sl==n0) hlt HI.out hq;have HN:=Zh hn;clear hn;go_wp2_with (refine vM X1 ?_;intro w2 hst;have r0:=hst.bk.cell 0;have r1:=(hst.Ax B2 Zo).cell 0;simp at r0 r1);go_roundw
    case rel=>exact⟨k+1,by omega,by go_num,hst.below hB2 Zo,HN.out⟩
    case measure=>simp[intOf];omega
  ·have hke:k=kept.length:=Zo;subst hke;have HT:=Zh (any_none HI.out);go_wp2_with fail;go_ret;exact⟨CO HT.out.symm,hb0.trans (hB.mono hb0.size)⟩
def Il(a:List (List Int))(b:List (List Bool)):Env:=⟨λi=>a.flatten.getD i 0,λi=>b.flatten.getD i false,λ_=>.nilIface,λ_=>rfl⟩
def Ik (a:List (List Int)) (b:List (List Bool)) (v:List Value) (h:∀ u∈v,u.oneCell' = true):Env:=⟨fun i=>a.flatten.getD i 0,fun i=>b.flatten.getD i false,fun i=>v.getD i .nilIface,fun i=>by
 rw[List.getD_eq_getElem?_getD];cases hi:v[i]? with
 |none=>rfl
 |some u=>exact h u (List.mem_of_getElem? hi)⟩
theorem AE{v:List Value}(h:v.all (·.oneCell')=true):∀u∈v,u.oneCell'=true:=λu hu=>List.all_eq_true.1 h u hu
def Xe.ii(x:Xe):List Int:=[x.sl,x.gn,x.tg,x.nm]
def Xe.bb(x:Xe):List Bool:=[x.mark]
def X9.ii(x:X9):List Int:=[x.sl,x.gn,x.fd]
def Yu.ii(x:Yu):List Int:=[x.code,x.val]
def A3.ii(x:A3):List Int:=[x.kind,x.key,x.val,x.Ah]
def Xf.ii(x:Xf):List Int:=[[x.kind],x.Ay.ii,x.Bb.ii,x.new.ii,[x.i,x.j],x.A5.ii].flatten
def Xf.bb(x:Xf):List Bool:=[x.Bb.bb,x.new.bb].flatten
def Xj.ii(x:Xj):List Int:=x.word.ii
def Xj.bb(x:Xj):List Bool:=[x.word.bb,[x.ok]].flatten
def Bn.ii(x:Bn):List Int:=[[x.kind],x.Ay.ii,x.Bb.ii,x.new.ii].flatten
def Bn.bb(x:Bn):List Bool:=[x.Bb.bb,x.new.bb].flatten
def AJ.ii(x:AJ):List Int:=[x.low,x.Hh]
def AJ.bb(x:AJ):List Bool:=[x.is]
def Xm.ii(x:Xm):List Int:=[[x.pc],x.last.ii,x.start.ii,[x.key],x.prev.ii,x.cur.ii,x.next.ii,[x.k]].flatten
def Xm.bb(x:Xm):List Bool:=[x.last.bb,x.cur.bb,x.next.bb,[x.found]].flatten
def Bq.ii(x:Bq):List Int:=[x.prev.ii,x.cur.ii].flatten
def Bq.bb(x:Bq):List Bool:=x.cur.bb
def Xd.ii(x:Xd):List Int:=[[x.pc],x.last.ii,x.spot.ii,[x.FE,x.level],x.next.ii,[x.k],x.s0.ii,x.s1.ii,x.s2.ii,x.found.ii].flatten
def Xd.bb(x:Xd):List Bool:=[x.last.bb,x.spot.bb,x.next.bb,x.s0.bb,x.s1.bb,x.s2.bb,x.found.bb].flatten
def Xk.ii(x:Xk):List Int:=[[x.pc],x.last.ii,x.op.ii,x.node.ii,x.Ss.ii,[x.val]].flatten
def Xk.bb(x:Xk):List Bool:=[x.last.bb,x.node.bb,x.Ss.bb].flatten
def Xt.ii(x:Xt):List Int:=[[x.pc],x.last.ii,x.op.ii,x.node.ii,x.h.ii,x.t.ii,x.n.ii,[x.val]].flatten
def Xt.bb(x:Xt):List Bool:=[x.last.bb,x.node.bb,x.h.bb,x.t.bb,x.n.bb].flatten
def Xh.ii(x:Xh):List Int:=[[x.pc],x.last.ii,x.start.ii,[x.key],x.op.ii,x.node.ii,[x.val]].flatten
def Xh.bb(x:Xh):List Bool:=[x.last.bb,x.node.bb].flatten
def Xc.ii(x:Xc):List Int:=[[x.pc],x.last.ii,x.op.ii,x.node.ii,[x.level,x.M5,x.val]].flatten
def Xc.bb(x:Xc):List Bool:=[x.last.bb,x.node.bb].flatten
def Xa.bb(x:Xa):List Bool:=[x.last.bb,x.base.bb,x.node.bb,x.sentinel.bb,x.count.bb].flatten
def Xb.ii(x:Xb):List Int:=[x.call.ii,[x.step],x.BN.ii,x.word.ii,x.clock.ii,[x.index,x.Aa,x.me,x.Af,x.most],x.h0.ii,x.h1.ii,x.h2.ii,x.h3.ii,x.h4.ii,x.h5.ii,x.h6.ii,x.h7.ii,x.h8.ii,x.span.ii,[x.Be],x.AF.ii].flatten
def Xb.bb(x:Xb):List Bool:=[x.call.bb,x.BN.bb,x.word.bb,x.clock.bb,x.h0.bb,x.h1.bb,x.h2.bb,x.h3.bb,x.h4.bb,x.h5.bb,x.h6.bb,x.h7.bb,x.h8.bb,x.span.bb,x.AF.bb].flatten
def Xb.iL(x:Xb):List Int:=[x.call.ii,[x.step],x.BN.ii,x.word.ii,x.clock.ii,[x.index,(x.seen.n:Int),(x.An.n:Int),x.Aa,x.me,x.Af,x.most],x.h0.ii,x.h1.ii,x.h2.ii,x.h3.ii,x.h4.ii,x.h5.ii,x.h6.ii,x.h7.ii,x.h8.ii,x.span.ii,[(x.notes.n:Int),x.Be],x.AF.ii].flatten
section
variable{α R:Type}{t:Xz α}{e:Env}{Q:α->R->Prop}{s:FH}{a b r:R}{c d f:Bool}
theorem pN(h:PO t e Q s (bif c then b else a)):PO t e Q s (bif !c then a else b):=yY h
theorem pA(h:PO t e Q s (bif c then(bif d then a else b) else b)):PO t e Q s (bif c&&d then a else b):=zA h
theorem pO(h:PO t e Q s (bif c then a else(bif d then a else b))):PO t e Q s (bif c||d then a else b):=po_or h
theorem pB(h:PO t e Q s (bif c then(bif d then a else b) else(bif f then a else b))):PO t e Q s (bif (bif c then d else f) then a else b):=po_bb h
theorem pF(h:PO t e Q s b)(hc:c=false:=by assumption):PO t e Q s (bif c then a else b):=Jd hc h
theorem pT(h:PO t e Q s a)(hc:c=true:=by assumption):PO t e Q s (bif c then a else b):=Jc hc h
theorem pU(h:PO t e Q s b)(hc:c=false:=by with_unfolding_all rfl):PO t e Q s (bif c then a else b):=Jd hc h
theorem pV(h:PO t e Q s a)(hc:c=true:=by with_unfolding_all rfl):PO t e Q s (bif c then a else b):=Jc hc h
theorem pC(h1:PO t e Q (IC (t.nx s) true s) a)(h2:PO t e Q (IC (t.nx s) false s) b)(hc:(t.nx s).den e=c:=by kernel_rfl):PO t e Q s (bif c then a else b):=po_br hc h1 h2
theorem pK(h1:c=true->PO t e Q (IC (t.nx s) true s) a)(h2:c=false->PO t e Q (IC (t.nx s) false s) b)(hc:(t.nx s).den e=c:=by kernel_rfl):PO t e Q s (bif c then a else b):=yZ hc h1 h2
end
theorem BO{e:Env}{b:BT}{v:Bool}{s:FH}(h:b.den e=v)(hs:AR e s):AR e ((b,v)::s):=CT h hs
theorem BY{e:Env}:AR e []:=GY rfl
theorem l1{t:Xz (SV × Yh)}{e:Env}{T:TypeId}{hp:Yh}{s:FH}{R:Type}{a:R}{g:R->Value × Array Value}(h1:(t.lv s).all (iG (Uh T hp))=true:=by kernel_rfl)(h2:∀k,(t.lv s).map (λo=>o.map (mX e k))=(t.lv s).map λ_=>some (g a):=by intro k;kernel_rfl):PO t e (λx r=>Q1 e T hp x (g r)) s a:=mH h1 h2
theorem l2{i:Nat}{t:Xz (SV × Yh)}{e:Env}{T T2:TypeId}{hp:Yh}{s:FH}{R:Type}{a:R}{g:R->Value × Array Value × Option (Array Value)}(h1:(t.lv s).all (iG (ok2 i T T2 hp))=true:=by kernel_rfl)(h2:∀k,(t.lv s).map (λo=>o.map (mW i e k))=(t.lv s).map λ_=>some (g a):=by intro k;kernel_rfl):PO t e (λx r=>Q2 i e T T2 hp x (g r)) s a:=mG h1 h2
theorem lE{t:Xz (SV × Nat × Yh)}{e:Env}{T:TypeId}{hp:Yh}{s:FH}{R:Type}{a:R}{g:R->Value × Nat × Array Value}(h1:(t.lv s).all (iG (okE T hp))=true:=by kernel_rfl)(h2:∀k,(t.lv s).map (λo=>o.map (mV e k))=(t.lv s).map λ_=>some (g a):=by intro k;kernel_rfl):PO t e (λx r=>QE e T hp x (g r)) s a:=mF h1 h2
theorem l0{t:Xz (SV × Yh)}{e:Env}{s:FH}{R:Type}{a:R}{g:R->Value}(h1:(t.lv s).all (iG λ_=>true)=true:=by kernel_rfl)(h2:∀k,(t.lv s).map (λo=>o.map (tW e k))=(t.lv s).map λ_=>some (g a):=by intro k;kernel_rfl):PO t e (λx r=>Q0 e x (g r)) s a:=mI h1 h2
section
variable{P:Program}{f:Nat}{T:TypeId}{g:Nat}{w:World}{args' row:Array Value}{R:Type}
theorem p1(e:Env)(S:List Xv)(n:Nat)(st:St)(args:List SV)(r:R)(G:R->Value × Array Value)(hS:Eb P e S)(hasm:AR e st.BM)(hb:Bk w g T row)(h:PO (CR (exec P S n (.call f args) st)) e (λx r=>Q1 e T st.hp x (G r)) st.BM r)
  (hm:P.follows .mixedOrders=true:=by exact mixed)(hp:st.hp=[(1,T,cellAt 1 st.hp)]:=by kernel_rfl)(hr:row=Yj e (Dk [g]) (cellAt 1 st.hp):=by kernel_rfl)(closed:PU (Yg st.hp) st.hp=true:=by kernel_rfl)(cargs:args.all (IN (Yg st.hp))=true:=by kernel_rfl)(ha:args'=(args.map (SV.den e (Dk [g]))).toArray:=by kernel_rfl)
  (hpl:Hg S=true:=by kernel_rfl)(hnf:¬f=Dl:=by decide):Calls P f args' w λen w'=>en=.returned (G r).1/\Bk w' g T (G r).2/\Ak [g] w w':=po1 hm hS hp hasm (Yw hb hr) closed cargs ha h hpl hnf
theorem p0(e:Env)(S:List Xv)(n:Nat)(st:St)(args:List SV)(r:R)(G:R->Value)(hS:Eb P e S)(hasm:AR e st.BM)(h:PO (CR (exec P S n (.call f args) st)) e (λx r=>Q0 e x (G r)) st.BM r)
  (hm:P.follows .mixedOrders=true:=by exact mixed)(hp:st.hp=[]:=by kernel_rfl)(cargs:args.all (IN [])=true:=by kernel_rfl)(ha:args'=(args.map (SV.den e (Dk []))).toArray:=by kernel_rfl)(hpl:Hg S=true:=by kernel_rfl)(hnf:¬f=Dl:=by decide):
  Calls P f args' w λen w'=>en=.returned (G r)/\Ak [] w w':=po0 hm hS hp hasm h cargs ha hpl hnf
theorem pE{Φ:GF}{F:Nat->Prop}(e:Env)(S:List Xv)(n:Nat)(st:St)(args:List SV)(r:R)(G:R->Value × Nat × Array Value)(hS:Di P e Φ S)(hasm:AR e st.BM)(hb:Bk w g T row)(f1:Φ.P st.ph w F)(f2:¬F g)(f3:∀b,F b->b<w.heap.size)
  (h:PO (PQ (exec P S n (.call f args) st)) e (λx r=>QE e T st.hp x (G r)) st.BM r)
  (hm:P.follows .mixedOrders=true:=by exact mixed)(hp:st.hp=[(1,T,cellAt 1 st.hp)]:=by kernel_rfl)(hr:row=Yj e (Dk [g]) (cellAt 1 st.hp):=by kernel_rfl)(closed:PU (Yg st.hp) st.hp=true:=by kernel_rfl)(cargs:args.all (IN (Yg st.hp))=true:=by kernel_rfl)(ha:args'=(args.map (SV.den e (Dk [g]))).toArray:=by kernel_rfl)(hnf:¬f=Dl:=by decide):
  Calls P f args' w λen w'=>Ki Φ (G r).2.1 F g T (G r).2.2 (G r).1 w en w':=poE hm hS hp hasm (Yw hb hr) f1 f2 f3 h closed cargs ha hnf
theorem p2{gs:List Nat}(e:Env)(S:List Xv)(n:Nat)(st:St)(args:List SV)(i:Nat)(T T2:TypeId)(r:R)(V:R->Value)(JL:R->Value->List Value)(sub:R->Option (Array Value))(Sub:R->World->Value->List Nat->Prop)
  (hS:Eb P e S)(hasm:AR e st.BM)(blocks:∀x∈st.hp,Bk w (Dk gs x.1) x.2.1 (Yj e (Dk gs) x.2.2))(hnd:gs.Nodup)
  (hs0:∀r w,sub r=none->Sub r w (.pointer none) [])(hs1:∀r w g cs,sub r=some cs->Bk w g T2 cs->Sub r w (.pointer (some ⟨g,0,none⟩)) [g])
  (h:PO (CR (exec P S n (.call f args) st)) e (λx r=>Q2 i e T T2 st.hp x (V r,(JL r (.pointer none)).toArray,sub r)) st.BM r)
  (hJL:∀r q,JL r q=(JL r (.pointer none)).set i q:=by intro r q;rfl)
  (hm:P.follows .mixedOrders=true:=by exact mixed)(hin:(st.hp.map λx=>Dk gs x.1)=gs:=by kernel_rfl)(hl:Yg st.hp=st.hp.map (·.1):=by kernel_rfl)(closed:PU (Yg st.hp) st.hp=true:=by kernel_rfl)(cargs:args.all (IN (Yg st.hp))=true:=by kernel_rfl)(ha:args'=(args.map (SV.den e (Dk gs))).toArray:=by kernel_rfl)
  (l1:Fa 1 (Yg st.hp)=true:=by kernel_rfl)(hg:Dk gs 1=g:=by kernel_rfl)(hpl:Hg S=true:=by kernel_rfl)(hnf:¬f=Dl:=by decide):Calls P f args' w λen w'=>FF (Sub r) T (JL r) (V r) g gs w en w':=
 po2 i T T2 g V JL sub Sub hm hS hasm blocks closed cargs (by rw [hin];exact hnd) ha (fun l hx=>by
  rw[hl] at hx;obtain⟨z,hz,rfl⟩:=List.mem_map.1 hx;have:=List.mem_map_of_mem (f:=λx:Nat × TypeId × List SC=>Dk gs x.1) hz;rwa [hin] at this) l1 hg (hJL r) (hs0 r) (hs1 r) h hpl hnf
end
def EV(C:Xd)(l:Int):Bq:=if decide (l<0) then Bq.zero else if decide (3<=l) then Bq.zero else C.E9 l
def AH(o:Option Xd)(x:Xj):Option Xd × Xf × Bool:=
 match o with
 |none=>(none,Xf.zero,false)
 |some C=>(some (C.step x).1,(C.step x).2.1,(C.step x).2.2)
def DN(o:Option Xd):Xe:=match o with|none=>Xe.zero|some C=>C.found
def Bh(o:Option Xd)(l:Int):Bq:=match o with|none=>Bq.zero|some C=>EV C l
def xN(f n:Xe):Bool:=f.sl==n.sl&&(f.gn==n.gn&&(f.tg==0&&(f.nm==0&&!f.mark)))
def Vm(a b:Xe):Bool:=a.sl==b.sl&&a.gn==b.gn
namespace Xc
def new(op:A3):Xc:={Xc.zero with op:=op}
def done(J:Xc)(code val:Int):Xc × Xf:=({J with pc:=-1,last:=BK code val},BK code val)
def Au(J:Xc)(step FE:Int):Xc:={J with Ab:=some (Xd.new FE),pc:=step}
def part(J:Xc)(b:Int):Xc × Xf:=({J with M5:=b,pc:=101},Yv (Xg J.node 7))
def link(J:Xc):Xc × Xf:=bif decide (J.op.Ah<=J.level) then J.part 1 else({J with pc:=9},Yv (Xg J.node (wr (2+J.level))))
def look(J:Xc):Xc × Xf:=({J with pc:=4},Yv (Xg J.node (wr (2+J.level))))
def Kt(J:Xc)(lv:Int):Xc × Xf:=
 let J:={J with level:=lv}
 bif decide (lv<J.op.Ah) then({J with pc:=7},AV (Xg J.node (wr (2+lv))) (Yt (Bh J.Ab lv).cur)) else
 ({J with pc:=8},Y6 (Bh J.Ab 0).prev (Bh J.Ab 0).cur (En (Bh J.Ab 0).cur J.node))
def Jt(J:Xc)(x:Xj):Xc × Xf:=
 let r:=AH J.Ab x
 let J:={J with Ab:=r.1}
 bif r.2.2 then(J,r.2.1) else
 bif !((DN J.Ab).sl==0) then({J with pc:=6},Kg J.node) else J.Kt 0
def insert(J:Xc)(x:Xj):Xc × Xf:=
 bif J.pc==0 then({J with pc:=1},Dd)
 else bif J.pc==1 then
  bif !x.ok then J.done 4 0 else({J with node:=x.word,pc:=2},AV (Xg x.word 0) (Yy J.op.key))
 else bif J.pc==2 then({J with pc:=3},AV (Xg J.node 1) (Yy J.op.val))
 else bif J.pc==3 then({J with pc:=4},AV (Xg J.node 6) (Yy J.op.Ah))
 else bif J.pc==6 then J.done 3 0
 else bif J.pc==8 then
  bif x.ok then Xc.link {J with level:=1} else(J.Au 5 J.op.key).Jt x
 else bif J.pc==4 then(J.Au 5 J.op.key).Jt x
 else bif J.pc==5 then J.Jt x
 else bif J.pc==7 then J.Kt (wr (J.level+1))
 else(J,J.last)
def Jb(J:Xc)(x:Xj):Xc × Xf:=
 let r:=AH J.Ab x
 let J:={J with Ab:=r.1}
 bif r.2.2 then(J,r.2.1) else
 bif !xN (DN J.Ab) J.node then J.part 1 else J.link
def raise(J:Xc)(x:Xj):Xc × Xf:=
 let s:=Bh J.Ab J.level
 bif J.pc==9 then
  bif x.word.mark then J.part 1 else
  bif !Vm x.word s.cur then({J with pc:=10},Y6 (Xg J.node (wr (2+J.level))) x.word (En x.word s.cur)) else
  ({J with pc:=11},Y6 s.prev s.cur (En s.cur J.node))
 else bif J.pc==10 then
  bif !x.ok then J.link else({J with pc:=11},Y6 s.prev s.cur (En s.cur J.node))
 else bif J.pc==11 then
  bif x.ok then Xc.link {J with level:=wr (J.level+1)} else(J.Au 12 J.op.key).Jb x
 else bif J.pc==12 then J.Jb x
 else(J,J.last)
def GH(J:Xc)(x:Xj)(n:Int):Xc × Xf:=
 let r:=AH J.Ab x
 let J:={J with Ab:=r.1}
 bif r.2.2 then(J,r.2.1) else
 let J:={J with node:=DN J.Ab}
 bif J.node.sl==0 then J.done 2 0 else({J with pc:=2},Yv (Xg J.node n))
def KM(J:Xc)(x:Xj):Xc × Xf:=
 let r:=AH J.Ab x
 let J:={J with Ab:=r.1}
 bif r.2.2 then(J,r.2.1) else J.part 2
def A6(J:Xc)(x:Xj):Xc × Xf:=
 bif J.pc==0 then(J.Au 1 J.op.key).GH x 6
 else bif J.pc==1 then J.GH x 6
 else bif J.pc==2 then
  bif decide (x.word.nm<1) then({J with level:=0,pc:=3},Yv (Xg J.node 1)) else
  bif decide (3<x.word.nm) then({J with level:=0,pc:=3},Yv (Xg J.node 1)) else
  ({J with level:=wr (x.word.nm-1),pc:=3},Yv (Xg J.node 1))
 else bif J.pc==3 then Xc.look {J with val:=x.word.nm}
 else bif J.pc==4 then
  bif !x.word.mark then({J with pc:=5},Y6 (Xg J.node (wr (2+J.level))) x.word (Ff x.word)) else
  bif J.level==0 then J.done 2 0 else Xc.look {J with level:=wr (J.level-1)}
 else bif J.pc==5 then
  bif !x.ok then J.look else
  bif decide (0<J.level) then Xc.look {J with level:=wr (J.level-1)} else(J.Au 6 (wr (J.op.key+1))).KM x
 else bif J.pc==6 then J.KM x
 else(J,J.last)
def fin(J:Xc)(x:Xj):Xc × Xf:=
 let r:=AH J.Ab x
 let J:={J with Ab:=r.1}
 bif r.2.2 then(J,r.2.1) else({J with pc:=104},EC J.node)
def finish(J:Xc)(x:Xj):Xc × Xf:=
 bif J.pc==101 then
  bif x.word.nm==0 then({J with pc:=102},Y6 (Xg J.node 7) x.word (BP x.word J.M5)) else(J.Au 103 (wr (J.op.key+1))).fin x
 else bif J.pc==102 then
  bif x.ok then J.done 1 J.val else(J.Au 103 (wr (J.op.key+1))).fin x
 else bif J.pc==104 then J.done 1 J.val
 else J.fin x
def get(J:Xc)(x:Xj):Xc × Xf:=
 bif J.pc==0 then(J.Au 1 J.op.key).GH x 1
 else bif J.pc==1 then J.GH x 1
 else bif J.pc==2 then J.done 1 x.word.nm
 else(J,J.last)
def next(J:Xc)(x:Xj):Xc × Xf:=
 bif J.pc==-1 then(J,J.last)
 else bif decide (101<=J.pc) then J.finish x
 else bif J.op.kind==6&&decide (9<=J.pc) then J.raise x
 else bif J.op.kind==6 then J.insert x
 else bif J.op.kind==7 then J.A6 x
 else J.get x
end Xc
def BI(w:World)(p:Value)(C:Option Xd)(F:List Nat):Prop:=
 match C with
 |none=>p=.pointer none/\F=[]
 |some C=>∃g,p=.pointer (some ⟨g,0,none⟩)/\F=[g]/\Bk w g 284 C.l.toArray
def SteR(w:World)(g:Nat)(J:Xc)(F:List Nat):Prop:=
 ∃q F1,F=g::F1/\Bk w g 191 (J.l q).toArray/\BI w q J.Ab F1
def UX(w:World)(g:Nat)(J:Xc)(F:List Nat):Prop:=SteR w g J F/\F.Nodup
def LvOk(C:Xd):Prop:=C.level=0\/C.level=1\/C.level=2
def XR(C:Xd)(x:Xj):Env:=Il [[C.pc],C.last.ii,C.spot.ii,[C.FE],C.next.ii,[C.k],C.s0.ii,C.s1.ii,C.s2.ii,C.found.ii,x.ii] [C.bb,x.bb]
def gP:St:=⟨[],[(1,284,(ct [vs 0 9,[.bool (.var 0)],vs 9 4,[.bool (.var 1)],vs 13 11,[.bool (.var 2),.int (.var 24),.int (.lit 0)],vs 25 4,[.bool (.var 3)],vs 29 8,[.bool (.var 4)],vs 37 7,[.bool (.var 5)],vs 44 7,[.bool (.var 6)],vs 51 4,[.bool (.var 7)]]))],[],10,0⟩
def UM:List SV:=[.c (.ptr 1 0),.agg ((ct [vs 55 4,[.bool (.var 8),.bool (.var 9)]]))]
theorem XS(C:Xd)(x:Xj)(g1:Nat)(w:World)(h1:Bk w g1 284 ({C with level:=0}:Xd).l.toArray):Calls Tryz.prog 206 #[.pointer (some ⟨g1,0,none⟩),.agg x.l.toArray] w λen w'=>en=.returned (Ip (Xd.step {C with level:=0} x).2)/\Bk w' g1 284 ((Xd.step {C with level:=0} x).1.l).toArray/\Ak [g1] w w':=by
 refine p1 (XR C x) [] 60 gP UM (Xd.step {C with level:=0} x) (λr=>(Ip r.2,(r.1.l).toArray)) Xu BY h1 ?_;exact vS8
def XP(C:Xd)(x:Xj):Env:=Il [[C.pc],C.last.ii,C.spot.ii,[C.FE],C.next.ii,[C.k],C.s0.ii,C.s1.ii,C.s2.ii,C.found.ii,x.ii] [C.bb,x.bb]
def gO:St:=⟨[],[(1,284,(ct [vs 0 9,[.bool (.var 0)],vs 9 4,[.bool (.var 1)],vs 13 11,[.bool (.var 2),.int (.var 24),.int (.lit 1)],vs 25 4,[.bool (.var 3)],vs 29 8,[.bool (.var 4)],vs 37 7,[.bool (.var 5)],vs 44 7,[.bool (.var 6)],vs 51 4,[.bool (.var 7)]]))],[],10,0⟩
def UL:List SV:=[.c (.ptr 1 0),.agg ((ct [vs 55 4,[.bool (.var 8),.bool (.var 9)]]))]
theorem XQ(C:Xd)(x:Xj)(g1:Nat)(w:World)(h1:Bk w g1 284 ({C with level:=1}:Xd).l.toArray):Calls Tryz.prog 206 #[.pointer (some ⟨g1,0,none⟩),.agg x.l.toArray] w λen w'=>en=.returned (Ip (Xd.step {C with level:=1} x).2)/\Bk w' g1 284 ((Xd.step {C with level:=1} x).1.l).toArray/\Ak [g1] w w':=by
 refine p1 (XP C x) [] 60 gO UL (Xd.step {C with level:=1} x) (λr=>(Ip r.2,(r.1.l).toArray)) Xu BY h1 ?_;exact vS8
def XM(C:Xd)(x:Xj):Env:=Il [[C.pc],C.last.ii,C.spot.ii,[C.FE],C.next.ii,[C.k],C.s0.ii,C.s1.ii,C.s2.ii,C.found.ii,x.ii] [C.bb,x.bb]
def gN:St:=⟨[],[(1,284,(ct [vs 0 9,[.bool (.var 0)],vs 9 4,[.bool (.var 1)],vs 13 11,[.bool (.var 2),.int (.var 24),.int (.lit 2)],vs 25 4,[.bool (.var 3)],vs 29 8,[.bool (.var 4)],vs 37 7,[.bool (.var 5)],vs 44 7,[.bool (.var 6)],vs 51 4,[.bool (.var 7)]]))],[],10,0⟩
def UK:List SV:=[.c (.ptr 1 0),.agg ((ct [vs 55 4,[.bool (.var 8),.bool (.var 9)]]))]
theorem XO(C:Xd)(x:Xj)(g1:Nat)(w:World)(h1:Bk w g1 284 ({C with level:=2}:Xd).l.toArray):Calls Tryz.prog 206 #[.pointer (some ⟨g1,0,none⟩),.agg x.l.toArray] w λen w'=>en=.returned (Ip (Xd.step {C with level:=2} x).2)/\Bk w' g1 284 ((Xd.step {C with level:=2} x).1.l).toArray/\Ak [g1] w w':=by
 refine p1 (XM C x) [] 60 gN UK (Xd.step {C with level:=2} x) (λr=>(Ip r.2,(r.1.l).toArray)) Xu BY h1 ?_;exact vS8
def Wz(C:Xd):Env:=Il [C.ii] [C.bb]
def eL:St:=⟨[],[(1,284,(ct [vs 0 9,[.bool (.var 0)],vs 9 4,[.bool (.var 1)],vs 13 11,[.bool (.var 2)],vs 24 6,[.bool (.var 3)],vs 30 8,[.bool (.var 4)],vs 38 7,[.bool (.var 5)],vs 45 7,[.bool (.var 6)],vs 52 4,[.bool (.var 7)]]))],[],10,0⟩
def TZ:List SV:=[.c (.ptr 1 0),.c (.int (.lit 0))]
theorem W0(C:Xd)(g1:Nat)(w:World)(h1:Bk w g1 284 C.l.toArray):Calls Tryz.prog 208 #[.pointer (some ⟨g1,0,none⟩),.int .i64 0] w λen w'=>en=.returned (.tuple #[.agg ((C.s0,())).1.prev.l.toArray,.agg ((C.s0,())).1.cur.l.toArray])/\Bk w' g1 284 (C.l).toArray/\Ak [g1] w w':=by
 refine p1 (Wz C) [] 60 eL TZ ((C.s0,())) (λr=>(.tuple #[.agg r.1.prev.l.toArray,.agg r.1.cur.l.toArray],(C.l).toArray)) Xu BY h1 ?_;exact vS1
def Wx(C:Xd):Env:=Il [C.ii] [C.bb]
def eK:St:=⟨[],[(1,284,(ct [vs 0 9,[.bool (.var 0)],vs 9 4,[.bool (.var 1)],vs 13 11,[.bool (.var 2)],vs 24 6,[.bool (.var 3)],vs 30 8,[.bool (.var 4)],vs 38 7,[.bool (.var 5)],vs 45 7,[.bool (.var 6)],vs 52 4,[.bool (.var 7)]]))],[],10,0⟩
def TY:List SV:=[.c (.ptr 1 0),.c (.int (.lit 1))]
theorem Wy(C:Xd)(g1:Nat)(w:World)(h1:Bk w g1 284 C.l.toArray):Calls Tryz.prog 208 #[.pointer (some ⟨g1,0,none⟩),.int .i64 1] w λen w'=>en=.returned (.tuple #[.agg ((C.s1,())).1.prev.l.toArray,.agg ((C.s1,())).1.cur.l.toArray])/\Bk w' g1 284 (C.l).toArray/\Ak [g1] w w':=by
 refine p1 (Wx C) [] 60 eK TY ((C.s1,())) (λr=>(.tuple #[.agg r.1.prev.l.toArray,.agg r.1.cur.l.toArray],(C.l).toArray)) Xu BY h1 ?_;exact vS1
def Wv(C:Xd):Env:=Il [C.ii] [C.bb]
def eJ:St:=⟨[],[(1,284,(ct [vs 0 9,[.bool (.var 0)],vs 9 4,[.bool (.var 1)],vs 13 11,[.bool (.var 2)],vs 24 6,[.bool (.var 3)],vs 30 8,[.bool (.var 4)],vs 38 7,[.bool (.var 5)],vs 45 7,[.bool (.var 6)],vs 52 4,[.bool (.var 7)]]))],[],10,0⟩
def TX:List SV:=[.c (.ptr 1 0),.c (.int (.lit 2))]
theorem Ww(C:Xd)(g1:Nat)(w:World)(h1:Bk w g1 284 C.l.toArray):Calls Tryz.prog 208 #[.pointer (some ⟨g1,0,none⟩),.int .i64 2] w λen w'=>en=.returned (.tuple #[.agg ((C.s2,())).1.prev.l.toArray,.agg ((C.s2,())).1.cur.l.toArray])/\Bk w' g1 284 (C.l).toArray/\Ak [g1] w w':=by
 refine p1 (Wv C) [] 60 eJ TX ((C.s2,())) (λr=>(.tuple #[.agg r.1.prev.l.toArray,.agg r.1.cur.l.toArray],(C.l).toArray)) Xu BY h1 ?_;exact vS1
def Wt(C:Xd)(l:Int):Env:=Il [C.ii,[l]] [C.bb]
def eI:St:=⟨[],[(1,284,(ct [vs 0 9,[.bool (.var 0)],vs 9 4,[.bool (.var 1)],vs 13 11,[.bool (.var 2)],vs 24 6,[.bool (.var 3)],vs 30 8,[.bool (.var 4)],vs 38 7,[.bool (.var 5)],vs 45 7,[.bool (.var 6)],vs 52 4,[.bool (.var 7)]]))],[],10,0⟩
def TW:List SV:=[.c (.ptr 1 0),.c (.int (.var 56))]
theorem Wu(C:Xd)(l:Int)(g1:Nat)(w:World)(h1:Bk w g1 284 C.l.toArray)(hl:l<0\/3<=l):Calls Tryz.prog 208 #[.pointer (some ⟨g1,0,none⟩),.int .i64 l] w λen w'=>en=.returned (.tuple #[.agg ((Bq.zero,())).1.prev.l.toArray,.agg ((Bq.zero,())).1.cur.l.toArray])/\Bk w' g1 284 (C.l).toArray/\Ak [g1] w w':=by
 refine p1 (Wt C l) [] 60 eI TW ((Bq.zero,())) (λr=>(.tuple #[.agg r.1.prev.l.toArray,.agg r.1.cur.l.toArray],(C.l).toArray)) Xu BY h1 ?_;refine Dr (show _=(bif decide (l<0) then(Bq.zero,()) else bif decide (3<=l) then(Bq.zero,()) else(Bq.zero,())) by cases decide (l<0)<;>cases decide (3<=l)<;>rfl) ?_;repeat' (first|with_reducible (first|refine pN ?_|refine pA ?_|refine pO ?_|refine pB ?_|refine Jd (by with_unfolding_all assumption) ?_|refine Jc (by with_unfolding_all assumption) ?_|refine pU ?_|refine pV ?_|refine pK (λh=>?_) (λh=>?_))|refine GN ?_|refine GO ?_|refine Dr (Df _ _ _) ?_|exact R9 (by simp only[decide_eq_false_iff_not] at*;omega)|exact l1)
theorem PN(C:Xd)(l:Int)(g1:Nat)(w:World)(h1:Bk w g1 284 C.l.toArray):Calls Tryz.prog 208 #[.pointer (some ⟨g1,0,none⟩),.int .i64 l] w λen w'=>
  en=.returned (.tuple #[.agg (EV C l).prev.l.toArray,.agg (EV C l).cur.l.toArray])/\Bk w' g1 284 C.l.toArray/\Ak [g1] w w':=by
 by_cases h0:l<0\/3<=l
 ·have e:EV C l=Bq.zero:=by
   unfold EV;rcases h0 with h|h
   ·simp[h]
   ·simp[h]
  rw[e];exact Wu C l g1 w h1 h0
 ·have h:l=0\/l=1\/l=2:=Zo;rcases h with rfl|rfl|rfl
  ·exact W0 C g1 w h1
  ·exact Wy C g1 w h1
  ·exact Ww C g1 w h1
theorem Da(C:Xd)(x:Xj)(g1:Nat)(w:World)(hl:LvOk C)(h1:Bk w g1 284 C.l.toArray):Calls Tryz.prog 206 #[.pointer (some ⟨g1,0,none⟩),.agg x.l.toArray] w λen w'=>
  en=.returned (Ip (Xd.step C x).2)/\Bk w' g1 284 (Xd.step C x).1.l.toArray/\Ak [g1] w w':=by
 rcases hl with h|h|h
 ·have e:C={C with level:=0}:=by cases C;simp only at h;subst h;rfl
  rw[e] at h1 ⊢;exact XS C x g1 w h1
 ·have e:C={C with level:=1}:=by cases C;simp only at h;subst h;rfl
  rw[e] at h1 ⊢;exact XQ C x g1 w h1
 ·have e:C={C with level:=2}:=by cases C;simp only at h;subst h;rfl
  rw[e] at h1 ⊢;exact XO C x g1 w h1
theorem kK(J:Xc)(x:Xj):Xc.next J x=bif J.pc==-1 then(J,J.last) else bif decide (101<=J.pc) then J.finish x else bif J.op.kind==6 then(bif decide (9<=J.pc) then J.raise x else J.insert x) else bif J.op.kind==7 then J.A6 x else J.get x:=by
 unfold Xc.next;cases J.pc==-1<;>cases decide (101<=J.pc)<;>cases J.op.kind==6<;>cases decide (9<=J.pc)<;>rfl
def outS(e:Env)(k:Nat->Nat)(L:Nat)(a:SV × Yh):Value × Array Value:=(a.1.den e k,Yj e k (cellAt L a.2))
theorem pS{P:Program}{f:Nat}{w:World}{args' row:Array Value}{T T2:TypeId}(e:Env)(st:St)(args:List SV)(L:Nat)(hasm:AR e st.BM)
  (hm:P.follows .mixedOrders=true:=by exact mixed)(hp:st.hp=[]:=by kernel_rfl)(cargs:args.all (IN [])=true:=by kernel_rfl)(ha:args'=(args.map (SV.den e (Dk []))).toArray:=by kernel_rfl)(hnf:¬f=Dl:=by decide)
  (h1:((CR (exec P [] 120 (.call f args) st)).lv st.BM).all (iG λa=>oB T2 L a.2)=true:=by kernel_rfl)
  (h2:∀k,((CR (exec P [] 120 (.call f args) st)).lv st.BM).map (λo=>o.map (outS e k L))=((CR (exec P [] 120 (.call f args) st)).lv st.BM).map λ_=>some (.tuple #[.iface T (.pointer (some ⟨k L,0,none⟩)),.nilIface],row):=by intro k;kernel_rfl):
  Calls P f args' w λen w'=>∃g,en=.returned (.tuple #[.iface T (.pointer (some ⟨g,0,none⟩)),.nilIface])/\w.heap.size<=g/\Bk w' g T2 row/\Ak [] w w':=by
 have hs:=LL (CR (exec P [] 120 (.call f args) st)) st.BM hasm
 have h3:=List.all_eq_true.1 h1 _ hs
 cases hx:(CR (exec P [] 120 (.call f args) st)).By e with
 |none=>rw[hx] at h3;cases h3
 |some x=>
  obtain⟨v,h'⟩:=x
  rw[hx] at h3 hs
  have h3:oB T2 L h'=true:=h3
  refine(Ct hm Xu hx hasm (Cv []) (λz hz=>by rw[hp] at hz;cases hz) (by rw[hp];rfl) (by rw[hp];exact cargs) (λz hz=>by rw[hp] at hz;cases hz) ha Zr hnf).mono λen w' hq=>?_
  obtain⟨k',q⟩:=hq
  obtain⟨i,hi,he⟩:=List.getElem_of_mem hs
  have h4:=congrArg (λl=>l[i]?) (h2 k')
  simp only[List.getElem?_map,List.getElem?_eq_getElem hi,Option.map_some,he,Option.map_some,Option.some.injEq] at h4
  injection h4 with h5 h6
  have m:=I1 h3
  have hc:=q.BV
  rw[hp] at hc
  refine⟨k' L,q.ret.trans (by rw[←h5]),(q.new _ m).resolve_left (λh=>by rw[hp] at h;cases h),?_,hc⟩
  have:=q.blk _ m
  simp only at this
  rw[h6] at this
  exact this
end Go.Proofs.YtaipogljokblkaaGreatDoor
