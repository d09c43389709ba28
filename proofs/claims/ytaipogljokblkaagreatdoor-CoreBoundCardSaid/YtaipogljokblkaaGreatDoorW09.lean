/- Core: PN, PT, LN, SvA, PS, Rfi, Rfj, CClimb0, CClimb1, CClimb2, CPlace, Rfs, Rfk. -/
import Derived.Test.YtaipogljokblkaaGreatDoorW06
import Derived.Test.YtaipogljokblkaaGreatDoorW08
import Derived.Deep.MidRow
import Derived.IntWalk
import Derived.Test.YtaipogljokblkaaGreatDoorW01
import Derived.Handy
import Derived.Test.YtaipogljokblkaaGreatDoorW07
set_option linter.all false
set_option maxRecDepth 100000
set_option maxHeartbeats 8000000
namespace Go.Proofs.YtaipogljokblkaaGreatDoor
open Go Go.RowKit
set_option linter.unusedSimpArgs false
set_option linter.unusedVariables false
set_option linter.unusedSectionVars false
structure BB where
 a:Option Go.Addr
 n:Nat
 c:Nat
 deriving DecidableEq
def BB.v(s:BB):Value:=.slice s.a s.n s.c
structure Xb where
 call:Xf
 step:Int
 AY:Bo
 word:Xd
 clock:Xd
 index:Int
 seen:BB
 Ao:BB
 Aa:Int
 me:Int
 Ac:Int
 most:Int
 h0:Xd
 h1:Xd
 h2:Xd
 h3:Xd
 h4:Xd
 h5:Xd
 h6:Xd
 h7:Xd
 h8:Xd
 span:AN
 notes:BB
 Bj:Int
 Au:Xj
 deriving DecidableEq
def Xb.l(x:Xb):List Value:=x.call.l++[.int .i64 x.step]++x.AY.l++x.word.l++x.clock.l++[.int .i64 x.index]++[x.seen.v]++[x.Ao.v]++[.int .i64 x.Aa]++[.int .i64 x.me]++[.int .i64 x.Ac]++[.int .i64 x.most]++x.h0.l++x.h1.l++x.h2.l++x.h3.l++x.h4.l++x.h5.l++x.h6.l++x.h7.l++x.h8.l++x.span.l++[x.notes.v]++[.int .i64 x.Bj]++x.Au.l
def Xb.zero:Xb:=⟨Xf.zero,0,Bo.zero,Xd.zero,Xd.zero,0,⟨none,0,0⟩,⟨none,0,0⟩,0,0,0,0,Xd.zero,Xd.zero,Xd.zero,Xd.zero,Xd.zero,Xd.zero,Xd.zero,Xd.zero,Xd.zero,AN.zero,⟨none,0,0⟩,0,Xj.zero⟩
def wz(w:Xd):Bool:=w.sl==0&&(w.gn==0&&(w.tg==0&&(w.nm==0&&!w.mark)))
def rX(a b:Xd):Bool:=a.sl==b.sl&&(a.gn==b.gn&&(a.tg==b.tg&&(a.nm==b.nm&&a.mark==b.mark)))
def RC(f n:Xd):Bool:=f.sl==n.sl&&(f.gn==n.gn&&(f.tg==0&&(f.nm==0&&!f.mark)))
namespace Xb
def Az(R:Xb):Bool:=R.Aa==2||R.Aa==3
def dating(R:Xb):Bool:=R.Aa==3||R.Aa==5
def CU(R:Xb):Bool:=R.Aa==4||R.Aa==5
def ask(R:Xb)(step:Int)(a:Bo):Xb:={R with step:=step,AY:=a}
def load(R:Xb)(step:Int)(a:Yj):Xb:=R.ask step ⟨1,a,.zero,.zero⟩
def advance(R:Xb)(step:Int):Xb:=R.ask step ⟨3,root 24,R.clock,Cx R.clock 1⟩
def BM(R:Xb)(n:Int):Xd:=
 bif n==0 then R.h0 else bif n==1 then R.h1 else bif n==2 then R.h2 else bif n==3 then R.h3 else bif n==4 then R.h4 else bif n==5 then R.h5 else bif n==6 then R.h6 else bif n==7 then R.h7 else R.h8
def Sz(R:Xb)(n:Int)(w:Xd):Xb:=
 bif n==0 then{R with h0:=w} else bif n==1 then{R with h1:=w} else bif n==2 then{R with h2:=w} else bif n==3 then{R with h3:=w} else bif n==4 then{R with h4:=w} else
 bif n==5 then{R with h5:=w} else bif n==6 then{R with h6:=w} else bif n==7 then{R with h7:=w} else{R with h8:=w}
def A5(me n:Int):Yj:=⟨0,0,wr (wr (25+wr (me*9))+n)⟩
def post(R:Xb)(step n:Int)(w:Xd):Xb:=(R.Sz n w).ask step ⟨2,A5 R.me n,.zero,w⟩
def spanW(s:AN):Xd:=bif s.is then⟨0,0,s.IC,s.low,true⟩ else .zero
def Ec(R:Xb)(step:Int)(s:AN):Xb:=Xb.ask {R with span:=s} step ⟨2,⟨0,0,wr (79+R.me)⟩,.zero,spanW s⟩
def clear(R:Xb):Xb:={R with call:=.zero,step:=0,AY:=.zero,word:=.zero,clock:=.zero,index:=0,seen:=⟨none,0,0⟩,Ao:=⟨none,0,0⟩}
def finish(R:Xb)(x:Xj):Xb:={R.clear with Au:=x}
def done(R:Xb):Xb:=R.finish ⟨.zero,true⟩
def CD(R:Xb):List Int->Xb
 |[]=>R.done
 |n::r=>bif wz (R.BM n) then R.CD r else Xb.post {R with index:=n} 4 n .zero
def CZ(R:Xb)(l:List Int):Xb:=
 bif R.CU&&!(!R.span.is&&(R.span.low==0&&R.span.IC==0)) then R.Ec 2 .zero else
 bif R.Az then R.CD l else R.done
def A7(R:Xb)(c:Xf):Xb:={R.clear with call:=c}
def enter(R:Xb):Xb:=bif R.CU then R.load 3 (root 24) else R.done
def alloc(R:Xb):Xb:=bif R.dating then R.load 8 (root 24) else R.ask 1 ⟨4,.zero,.zero,.zero⟩
def hold(R:Xb)(i j:Int):Xb:=bif R.Az&&!rX (R.BM i) (R.BM j) then R.post 2 i (R.BM j) else R.done
def Aq(R:Xb)(c:Xf):Xb:=
 let T:=R.A7 c
 bif c.kind==1 then T.enter else bif c.kind==2 then T.CZ [0,1,2,3,4,5,6,7,8] else bif c.kind==3 then T.load 1 c.A2 else
 bif c.kind==4 then T.ask 1 ⟨2,c.A2,c.A1,c.new⟩ else bif c.kind==5 then T.ask 1 ⟨3,c.A2,c.A1,c.new⟩ else
 bif c.kind==6 then T.load 5 c.A2 else bif c.kind==7 then T.hold c.i c.j else bif c.kind==8 then T.alloc else
 T.ask 2 ⟨5,.zero,c.A1,.zero⟩
def Bz(R:Xb)(x:Xj):Xb:=
 let R:={R with word:=x.word}
 bif R.dating then R.load 6 (root 24) else
 bif R.Aa==2&&(!(x.word.sl==0)&&!RC (R.BM R.call.i) x.word) then R.post 7 R.call.i (AF x.word) else R.finish ⟨x.word,true⟩
def KI(R:Xb)(i now:Int):Bool:=
 bif R.Aa==3 then !wz (R.BM i)&&(R.BM i).nm==now else R.span.is&&R.span.IC==now
def Eo(R:Xb)(x:Xj):Xb:=
 bif R.KI R.call.i x.word.nm then R.finish ⟨R.word,true⟩ else
 bif R.Aa==3 then R.post 7 R.call.i (Y5 x.word.nm) else
 R.Ec 7 ⟨true,bif R.span.is then R.span.low else x.word.nm,x.word.nm⟩
end Xb
theorem ZI(R:Xb):R.CU=(R.Aa==4||R.Aa==5):=rfl
theorem T5(R:Xb):R.dating=(R.Aa==3||R.Aa==5):=rfl
theorem ZJ(R:Xb):R.Az=(R.Aa==2||R.Aa==3):=rfl
def AN.nul(s:AN):Bool:=!s.is&&(s.low==0&&s.IC==0)
theorem RG(s:AN):(!s.is&&(s.low==0&&s.IC==0))=s.nul:=rfl
theorem ZK(R:Xb)(i now:Int):R.KI i now=(bif R.Aa==3 then !wz (R.BM i)&&(R.BM i).nm==now else R.span.is&&R.span.IC==now):=rfl
theorem gU:(Tryz.prog.info? 51).map (λi=>(i.zero,i.size,i.bytes))=some (some (.agg Xd.zero.l.toArray),5,40):=Zk
theorem Ly:(Tryz.prog.info? 201).map (λi=>(i.zero,i.size,i.bytes))=some (some (.agg Xn.zero.l.toArray),7,56):=Zk
theorem pI:(Tryz.prog.info? 169).map (λi=>(i.zero,i.size,i.bytes))=some (some (.agg AN.zero.l.toArray),3,24):=Zk
theorem NF:(Tryz.prog.info? 3).map (λi=>(i.zero,i.size,i.bytes))=some (some (.int .i64 0),1,8):=Zk
theorem Gg(n:Int):wr n=wrap64 n:=IntWalk.i64_left n
def rows{α:Type}(f:α->List Value)(l:List α):List Value:=l.flatMap f
section
variable{α:Type}{f:α->List Value}{sz:Nat}
theorem DN(p:α)(l:List α):rows f (p::l)=f p++rows f l:=rfl
theorem Jo(l m:List α):rows f (l++m)=rows f l++rows f m:=by simp[rows]
theorem Yx(hf:∀x,(f x).length=sz)(l:List α):(rows f l).length=l.length*sz:=by
 induction l with
 |nil=>simp[rows]
 |cons p l ih=>rw[DN,List.length_append,ih,hf,List.length_cons,Nat.add_mul];omega
theorem Gz(hf:∀x,(f x).length=sz)(l:List α):∀(i:Nat) (_:i<l.length) (j:Nat) (u:Value),(f l[i])[j]?=some u->(rows f l)[i*sz+j]?=some u:=by
 induction l with
 |nil=>intro i h;simp at h
 |cons p l ih=>
  intro i h j u hu;rw[DN];have hj:j<sz:=by
   rcases Nat.lt_or_ge j sz with h'|h'
   ·exact h'
   ·rw[List.getElem?_eq_none (by rw[hf];exact h')] at hu;cases hu
  cases i with
  |zero=>
   rw[List.getElem?_append_left (by rw[hf];omega)];simpa using hu
  |succ i=>
   have h1:=ih i (by simpa using h) j u (by simpa using hu);have e:(i+1)*sz+j-sz=i*sz+j:=by rw[Nat.add_mul];omega
   rw[List.getElem?_append_right (by rw[hf,Nat.add_mul];omega),hf,e];exact h1
theorem mO(h1:∀x,∀u∈f x,u.oneCell'=true)(l:List α):∀u∈rows f l,u.oneCell'=true:=by
 intro u hu;obtain⟨p,_,hp⟩:=List.mem_flatMap.1 hu;exact h1 p u hp
end
theorem qV{w:World}{g:Nat}{t:TypeId}{cs:List Value}(h:Bk w g t cs.toArray):∀j u,cs[j]?=some u->w.cell? ((⟨g,0,none⟩:Addr).add j)=some u:=by
 intro j u hu;rw[Addr.add_lit,Nat.zero_add,h.cell];simpa using hu
theorem NS(x:Xd):x.l.length=5:=rfl
theorem Qo(x:Xn):x.l.length=7:=rfl
theorem yS(x:AN):x.l.length=3:=rfl
theorem wone(x:Xd):∀u∈x.l,u.oneCell'=true:=by intro u hu;simp[Xd.l] at hu;rcases hu with rfl|rfl|rfl|rfl|rfl<;>rfl
theorem none_(x:Xn):∀u∈x.l,u.oneCell'=true:=by intro u hu;simp[Xn.l,Xd.l] at hu;rcases hu with rfl|rfl|rfl|rfl|rfl|rfl|rfl<;>rfl
theorem sone(x:AN):∀u∈x.l,u.oneCell'=true:=by intro u hu;simp[AN.l] at hu;rcases hu with rfl|rfl|rfl<;>rfl
theorem Bq{α:Type}{f:α->List Value}{sz bytes:Nat}{T E:TypeId}{z:Value}(hf:∀x,(f x).length=sz)(h1:∀x,∀u∈f x,u.oneCell'=true)(hT:Tryz.prog.underlying T=some (.slice E))
  (hE:(Tryz.prog.info? E).map (λi=>(i.zero,i.size,i.bytes))=some (some z,sz,bytes))(hzs:z.cells.size=sz)(hsz:0<sz)(hby:bytes<=1000)
  (w:World)(v:Value)(l:List α)(h:Own w E sz v l.length (rows f l))(hl:l.length<=100000)(x:α)(b:Nat)(hb:Bk w b E (f x).toArray)(t:TypeId):
  ∃v' w',(Builtin.append_ #[T,T] t #[v,.slice (some ⟨b,0,none⟩) 1 1]).run Tryz.prog w=.ok v' w'/\
   Own w' E sz v' (l++[x]).length (rows f (l++[x]))/\w.grownBy w' v.ownBlock/\EW w v v':=by
 obtain⟨i,hi,hz,hz1,hz2⟩:=info_parts hE
 have hm:(l.length+1)*bytes<=140737488355328:=Nat.le_trans (Nat.mul_le_mul (show l.length+1<=100001 by omega) hby) Zd
 have h0:=XU (P:=Tryz.prog) w T t E i z sz bytes hT hi hz hz1 hz2 hzs hsz v l.length (rows f l) h ⟨b,0,none⟩ 1 1 (f x) (by rw[hf,Nat.one_mul]) (qV hb) (h1 x) Zo (by simp only[maxLen];omega) hm
 rw[Jo,List.length_append]
 simpa [rows] using h0
theorem ND{α:Type}{f:α->List Value}{sz:Nat}{E:TypeId}(hf:∀x,(f x).length=sz){w:World}{g off cap:Nat}{l:List α}(h:Own w E sz (.slice (some ⟨g,off,none⟩) l.length cap) l.length (rows f l))(k:Nat)(hk:k<l.length):w.rangeAt g (off+k*sz) (f l[k]):=by
 intro j u hu;rw[Nat.add_assoc];exact BW h _ _ (Gz hf l k hk j u hu)
theorem EC{w:World}{t:TypeId}{sz:Nat}{v:Value}{n:Nat}{xs:List Value}(h:Own w t sz v n xs)(hn:0<n):∃g off cap,v=.slice (some ⟨g,off,none⟩) n cap/\n<=cap:=by
 rcases h.2 with⟨_,h0⟩|⟨g,off,cap,A,R,rfl,_,_,hc,_⟩
 ·omega
 ·exact⟨g,off,cap,rfl,hc⟩
theorem Ys{w:World}{t:TypeId}{sz:Nat}{v:Value}{n:Nat}{xs:List Value}(h:Own w t sz v n xs):∃a cap,v=.slice a n cap/\n<=cap/\cap<=maxLen:=by
 rcases h.2 with⟨rfl,rfl⟩|⟨g,off,cap,A,R,rfl,_,_,hc,hm,_⟩
 ·exact⟨none,0,rfl,Nat.le_refl _,by decide⟩
 ·exact⟨_,cap,rfl,hc,hm⟩
theorem Sl.DO{w:World}{E:TypeId}{sz n:Nat}{a:Option Addr}{c:Nat}{xs:List Value}(h:Own w E sz (.slice a n c) n xs):Sl w w.heap.size sz a n xs:=by
 refine⟨h.1,λhn=>?_⟩;obtain⟨g,off,cap,hv,_⟩:=EC h hn;injection hv with h1 h2 h3;subst h1;subst h3;exact⟨g,off,rfl,h.lt rfl,BW h⟩
theorem Sl.row{α:Type}{f:α->List Value}{sz:Nat}(hf:∀x,(f x).length=sz){w:World}{B:Nat}{a:Option Addr}{l:List α}(h:Sl w B sz a l.length (rows f l))(k:Nat)(hk:k<l.length):
  ∃b off,a=some ⟨b,off,none⟩/\b<B/\w.rangeAt b (off+k*sz) (f l[k]):=by
 obtain⟨b,off,e,hb,hc⟩:=h.2 Zo
 refine⟨b,off,e,hb,λj u hu=>?_⟩
 rw[Nat.add_assoc]
 exact hc _ _ (Gz hf l k hk j u hu)
theorem Mt{w:World}{b o:Nat}{x:Xd}(h:w.rangeAt b o x.l):w.cell? ⟨b,o,none⟩=some (.int .i64 x.sl)/\w.cell? ⟨b,o+1,none⟩=some (.int .i64 x.gn)/\w.cell? ⟨b,o+2,none⟩=some (.int .i64 x.tg)/\w.cell? ⟨b,o+3,none⟩=some (.int .i64 x.nm)/\w.cell? ⟨b,o+4,none⟩=some (.bool x.mark):=
 ⟨h 0 _ rfl,h 1 _ rfl,h 2 _ rfl,h 3 _ rfl,h 4 _ rfl⟩
theorem nB{w:World}{b o:Nat}{x:AN}(h:w.rangeAt b o x.l):w.cell? ⟨b,o,none⟩=some (.bool x.is)/\w.cell? ⟨b,o+1,none⟩=some (.int .i64 x.low)/\w.cell? ⟨b,o+2,none⟩=some (.int .i64 x.IC):=
 ⟨h 0 _ rfl,h 1 _ rfl,h 2 _ rfl⟩
theorem Oy{w:World}{b o:Nat}{x:Xn}(h:w.rangeAt b o x.l):w.cell? ⟨b,o,none⟩=some (.int .i64 x.ref.sl)/\w.cell? ⟨b,o+1,none⟩=some (.int .i64 x.ref.gn)/\w.cell? ⟨b,o+2,none⟩=some (.int .i64 x.ref.tg)/\w.cell? ⟨b,o+3,none⟩=some (.int .i64 x.ref.nm)/\w.cell? ⟨b,o+4,none⟩=some (.bool x.ref.mark)/\w.cell? ⟨b,o+5,none⟩=some (.int .i64 x.A8)/\w.cell? ⟨b,o+6,none⟩=some (.int .i64 x.Db):=
 ⟨h 0 _ rfl,h 1 _ rfl,h 2 _ rfl,h 3 _ rfl,h 4 _ rfl,h 5 _ rfl,h 6 _ rfl⟩
theorem Eb{α:Type}{l:List α}{p:α->Bool}{k:Nat}(hk:k<l.length)(h:∀x∈l.take k,p x=false)(h1:p l[k]=false):∀x∈l.take (k+1),p x=false:=by
 intro x hx;rw[List.take_add_one,List.getElem?_eq_getElem hk] at hx;rcases List.mem_append.1 hx with hx|hx
 ·exact h x hx
 ·have:x=l[k]:=by simpa using hx
  rw[this];exact h1
theorem NM{α:Type}{l:List α}{p:α->Bool}{k:Nat}(hk:k<l.length)(h1:p l[k]=true):l.any p=true:=List.any_eq_true.2 ⟨_,List.getElem_mem hk,h1⟩
theorem any_none{α:Type}{l:List α}{p:α->Bool}(h:∀x∈l.take l.length,p x=false):l.any p=false:=by
 rw[List.take_length] at h;rw[List.any_eq_false];intro x hx;rw[h x hx];simp
theorem CV{a b:Bool}(h:a=b):Ending.returned (.bool a)=.returned (.bool b):=by rw[h]
def Nz(b:Bool)(w:World)(e:Ending)(w':World):Prop:=e=.returned (.bool b)/\Below w.heap.size w w'
def Cz(kept:List Xd)(n:Xn):Bool:=kept.any λx=>x.sl==n.ref.sl
theorem WK(n:Xn)(gk:Nat)(a:Option Addr)(c B:Nat)(kept:List Xd)(w:World)(hk:Bk w gk 103 #[.slice a kept.length c])(hs:Sl w w.heap.size 5 a kept.length (rows Xd.l kept))(hl:kept.length<=100000):
  Calls Tryz.prog 115 #[.agg n.l.toArray,.pointer (some ⟨gk,0,none⟩)] w (Nz (Cz kept n) w):=by
 obtain⟨⟨n0,n1,n2,n3,n4⟩,n5,n6⟩:=n
 show Calls Tryz.prog 115 #[.agg #[.int .i64 n0,.int .i64 n1,.int .i64 n2,.int .i64 n3,.bool n4,.int .i64 n5,.int .i64 n6],.pointer (some ⟨gk,0,none⟩)] w _
 have B0:Bk (w.alloc (.cells #[.int .i64 n0,.int .i64 n1,.int .i64 n2,.int .i64 n3,.bool n4,.int .i64 n5,.int .i64 n6] 201)) w.heap.size 201 #[.int .i64 n0,.int .i64 n1,.int .i64 n2,.int .i64 n3,.bool n4,.int .i64 n5,.int .i64 n6]:=Bk.at_ rfl
 have hb0:Below w.heap.size w (w.alloc (.cells #[.int .i64 n0,.int .i64 n1,.int .i64 n2,.int .i64 n3,.bool n4,.int .i64 n5,.int .i64 n6] 201)):=(Below.refl _ _).alloc (Nat.le_refl _) _
 have K0:=hk.alloc (.cells #[.int .i64 n0,.int .i64 n1,.int .i64 n2,.int .i64 n3,.bool n4,.int .i64 n5,.int .i64 n6] 201)
 have c0:=K0.cell 0
 simp at c0
 go_enter Tryz.func115,Tryz.ntmps115
 go_wp2_with fail
 generalize w.alloc (.cells #[.int .i64 n0,.int .i64 n1,.int .i64 n2,.int .i64 n3,.bool n4,.int .i64 n5,.int .i64 n6] 201)=w0 at*
 go_loopw [8] (λi wr=>∃k:Nat,k<=kept.length/\i=.int .i64 k/\Below w0.heap.size w0 wr/\Hid (∀x∈kept.take k,(x.sl==n0)=false)) (λi _=>kept.length-(intOf i).toNat)
 case atStart=>exact⟨0,Nat.zero_le _,rfl,Below.refl _ _,by intro x hx;simp at hx⟩
 case round=>
  obtain⟨k,hkl,rfl,hB,HI⟩:=hrel
  have hz:=hB.size
  have hs1:=(hs.below hb0).SU hB hb0.size
  have K1:=K0.Ad hB
  have B1:=B0.Ad hB
  by_cases hlt:k<kept.length
  ·obtain⟨b,off,rfl,hbb,hr⟩:=hs1.row NS k hlt;obtain⟨q0,q1,q2,q3,q4⟩:=Mt hr;have X1:Bk (wr.alloc (.cells #[.int .i64 0,.int .i64 0,.int .i64 0,.int .i64 0,.bool false] 51)) wr.heap.size 51 #[.int .i64 0,.int .i64 0,.int .i64 0,.int .i64 0,.bool false]:=Bk.at_ rfl;have B2:=B1.alloc (.cells #[.int .i64 0,.int .i64 0,.int .i64 0,.int .i64 0,.bool false] 51);have hB2:=hB.alloc hB.size (.cells #[.int .i64 0,.int .i64 0,.int .i64 0,.int .i64 0,.bool false] 51);have hlt1:=B1.lt;cases hq:(kept[k].sl==n0) with
   |true=>
    have HT:=Zh (NM (p:=λx:Xd=>x.sl==n0) hlt hq);go_wp2_with (refine vM X1 ?_;intro w2 hst;have r0:=hst.bk.cell 0;have r1:=(hst.Av B2 Zo).cell 0;simp at r0 r1);go_ret;exact⟨CV HT.out.symm,hb0.trans ((hst.below hB2 Zo).mono hb0.size)⟩
   |false=>
    have hn:=Eb (p:=λx:Xd=>x.sl==n0) hlt HI.out hq;have HN:=Zh hn;clear hn;go_wp2_with (refine vM X1 ?_;intro w2 hst;have r0:=hst.bk.cell 0;have r1:=(hst.Av B2 Zo).cell 0;simp at r0 r1);go_roundw
    case rel=>exact⟨k+1,by omega,by go_num,hst.below hB2 Zo,HN.out⟩
    case measure=>simp[intOf];omega
  ·have hke:k=kept.length:=Zo;subst hke;have HT:=Zh (any_none HI.out);go_wp2_with fail;go_ret;exact⟨CV HT.out.symm,hb0.trans (hB.mono hb0.size)⟩
def Fk(C:Xe)(l:Int):B7:=if decide (l<0) then B7.zero else if decide (3<=l) then B7.zero else C.getS l
def Bb(o:Option Xe)(x:Xj):Option Xe × Xf × Bool:=
 match o with
 |none=>(none,Xf.zero,false)
 |some C=>(some (C.step x).1,(C.step x).2.1,(C.step x).2.2)
def Dl(o:Option Xe):Xd:=match o with|none=>Xd.zero|some C=>C.found
def Yt(o:Option Xe)(l:Int):B7:=match o with|none=>B7.zero|some C=>Fk C l
def rV(f n:Xd):Bool:=f.sl==n.sl&&(f.gn==n.gn&&(f.tg==0&&(f.nm==0&&!f.mark)))
def bP(a b:Xd):Bool:=a.sl==b.sl&&a.gn==b.gn
namespace Xc
def new(op:Bl):Xc:={Xc.zero with op:=op}
def done(J:Xc)(code val:Int):Xc × Xf:=({J with pc:=-1,last:=FR code val},FR code val)
def An(J:Xc)(step Ha:Int):Xc:={J with Ab:=some (Xe.new Ha),pc:=step}
def part(J:Xc)(b:Int):Xc × Xf:=({J with Kf:=b,pc:=101},X8 (Xg J.node 7))
def link(J:Xc):Xc × Xf:=bif decide (J.op.Aj<=J.level) then J.part 1 else({J with pc:=9},X8 (Xg J.node (wr (2+J.level))))
def look(J:Xc):Xc × Xf:=({J with pc:=4},X8 (Xg J.node (wr (2+J.level))))
def M5(J:Xc)(lv:Int):Xc × Xf:=
 let J:={J with level:=lv}
 bif decide (lv<J.op.Aj) then({J with pc:=7},Yf (Xg J.node (wr (2+lv))) (AF (Yt J.Ab lv).Ay)) else
 ({J with pc:=8},Xx (Yt J.Ab 0).prev (Yt J.Ab 0).Ay (BC (Yt J.Ab 0).Ay J.node))
def Ig(J:Xc)(x:Xj):Xc × Xf:=
 let r:=Bb J.Ab x
 let J:={J with Ab:=r.1}
 bif r.2.2 then(J,r.2.1) else
 bif !((Dl J.Ab).sl==0) then({J with pc:=6},GG J.node) else J.M5 0
def insert(J:Xc)(x:Xj):Xc × Xf:=
 bif J.pc==0 then({J with pc:=1},AK)
 else bif J.pc==1 then
  bif !x.ok then J.done 4 0 else({J with node:=x.word,pc:=2},Yf (Xg x.word 0) (Y5 J.op.key))
 else bif J.pc==2 then({J with pc:=3},Yf (Xg J.node 1) (Y5 J.op.val))
 else bif J.pc==3 then({J with pc:=4},Yf (Xg J.node 6) (Y5 J.op.Aj))
 else bif J.pc==6 then J.done 3 0
 else bif J.pc==8 then
  bif x.ok then Xc.link {J with level:=1} else(J.An 5 J.op.key).Ig x
 else bif J.pc==4 then(J.An 5 J.op.key).Ig x
 else bif J.pc==5 then J.Ig x
 else bif J.pc==7 then J.M5 (wr (J.level+1))
 else(J,J.last)
def Gi(J:Xc)(x:Xj):Xc × Xf:=
 let r:=Bb J.Ab x
 let J:={J with Ab:=r.1}
 bif r.2.2 then(J,r.2.1) else
 bif !rV (Dl J.Ab) J.node then J.part 1 else J.link
def raise(J:Xc)(x:Xj):Xc × Xf:=
 let s:=Yt J.Ab J.level
 bif J.pc==9 then
  bif x.word.mark then J.part 1 else
  bif !bP x.word s.Ay then({J with pc:=10},Xx (Xg J.node (wr (2+J.level))) x.word (BC x.word s.Ay)) else
  ({J with pc:=11},Xx s.prev s.Ay (BC s.Ay J.node))
 else bif J.pc==10 then
  bif !x.ok then J.link else({J with pc:=11},Xx s.prev s.Ay (BC s.Ay J.node))
 else bif J.pc==11 then
  bif x.ok then Xc.link {J with level:=wr (J.level+1)} else(J.An 12 J.op.key).Gi x
 else bif J.pc==12 then J.Gi x
 else(J,J.last)
def FH(J:Xc)(x:Xj)(n:Int):Xc × Xf:=
 let r:=Bb J.Ab x
 let J:={J with Ab:=r.1}
 bif r.2.2 then(J,r.2.1) else
 let J:={J with node:=Dl J.Ab}
 bif J.node.sl==0 then J.done 2 0 else({J with pc:=2},X8 (Xg J.node n))
def Kj(J:Xc)(x:Xj):Xc × Xf:=
 let r:=Bb J.Ab x
 let J:={J with Ab:=r.1}
 bif r.2.2 then(J,r.2.1) else J.part 2
def Am(J:Xc)(x:Xj):Xc × Xf:=
 bif J.pc==0 then(J.An 1 J.op.key).FH x 6
 else bif J.pc==1 then J.FH x 6
 else bif J.pc==2 then
  bif decide (x.word.nm<1) then({J with level:=0,pc:=3},X8 (Xg J.node 1)) else
  bif decide (3<x.word.nm) then({J with level:=0,pc:=3},X8 (Xg J.node 1)) else
  ({J with level:=wr (x.word.nm-1),pc:=3},X8 (Xg J.node 1))
 else bif J.pc==3 then Xc.look {J with val:=x.word.nm}
 else bif J.pc==4 then
  bif !x.word.mark then({J with pc:=5},Xx (Xg J.node (wr (2+J.level))) x.word (Bg x.word)) else
  bif J.level==0 then J.done 2 0 else Xc.look {J with level:=wr (J.level-1)}
 else bif J.pc==5 then
  bif !x.ok then J.look else
  bif decide (0<J.level) then Xc.look {J with level:=wr (J.level-1)} else(J.An 6 (wr (J.op.key+1))).Kj x
 else bif J.pc==6 then J.Kj x
 else(J,J.last)
def fin(J:Xc)(x:Xj):Xc × Xf:=
 let r:=Bb J.Ab x
 let J:={J with Ab:=r.1}
 bif r.2.2 then(J,r.2.1) else({J with pc:=104},AU J.node)
def finish(J:Xc)(x:Xj):Xc × Xf:=
 bif J.pc==101 then
  bif x.word.nm==0 then({J with pc:=102},Xx (Xg J.node 7) x.word (Cx x.word J.Kf)) else(J.An 103 (wr (J.op.key+1))).fin x
 else bif J.pc==102 then
  bif x.ok then J.done 1 J.val else(J.An 103 (wr (J.op.key+1))).fin x
 else bif J.pc==104 then J.done 1 J.val
 else J.fin x
def get(J:Xc)(x:Xj):Xc × Xf:=
 bif J.pc==0 then(J.An 1 J.op.key).FH x 1
 else bif J.pc==1 then J.FH x 1
 else bif J.pc==2 then J.done 1 x.word.nm
 else(J,J.last)
def next(J:Xc)(x:Xj):Xc × Xf:=
 bif J.pc==-1 then(J,J.last)
 else bif decide (101<=J.pc) then J.finish x
 else bif J.op.kind==6&&decide (9<=J.pc) then J.raise x
 else bif J.op.kind==6 then J.insert x
 else bif J.op.kind==7 then J.Am x
 else J.get x
end Xc
def BU(w:World)(p:Value)(C:Option Xe)(F:List Nat):Prop:=
 match C with
 |none=>p=.pointer none/\F=[]
 |some C=>∃g,p=.pointer (some ⟨g,0,none⟩)/\F=[g]/\Bk w g 284 C.l.toArray
def SteR(w:World)(g:Nat)(J:Xc)(F:List Nat):Prop:=
 ∃q F1,F=g::F1/\Bk w g 191 (J.l q).toArray/\BU w q J.Ab F1
def VD(w:World)(g:Nat)(J:Xc)(F:List Nat):Prop:=SteR w g J F/\F.Nodup
def LvOk(C:Xe):Prop:=C.level=0\/C.level=1\/C.level=2
def Ix(a:List (List Int))(b:List (List Bool)):Env:=⟨λi=>a.flatten.getD i 0,λi=>b.flatten.getD i false,λ_=>.nilIface,λ_=>rfl⟩
def Iw (a:List (List Int)) (b:List (List Bool)) (v:List Value) (h:∀ u∈v,u.oneCell' = true):Env:=⟨fun i=>a.flatten.getD i 0,fun i=>b.flatten.getD i false,fun i=>v.getD i .nilIface,fun i=>by
 rw[List.getD_eq_getElem?_getD];cases hi:v[i]? with
 |none=>rfl
 |some u=>exact h u (List.mem_of_getElem? hi)⟩
theorem AI{v:List Value}(h:v.all (·.oneCell')=true):∀u∈v,u.oneCell'=true:=λu hu=>List.all_eq_true.1 h u hu
def Xd.ii(x:Xd):List Int:=[x.sl,x.gn,x.tg,x.nm]
def Xd.bb(x:Xd):List Bool:=[x.mark]
def Yj.ii(x:Yj):List Int:=[x.sl,x.gn,x.fd]
def DQ.ii(x:DQ):List Int:=[x.code,x.val]
def Bl.ii(x:Bl):List Int:=[x.kind,x.key,x.val,x.Aj]
def Xf.ii(x:Xf):List Int:=[[x.kind],x.A2.ii,x.A1.ii,x.new.ii,[x.i,x.j],x.BR.ii].flatten
def Xf.bb(x:Xf):List Bool:=[x.A1.bb,x.new.bb].flatten
def Xj.ii(x:Xj):List Int:=x.word.ii
def Xj.bb(x:Xj):List Bool:=[x.word.bb,[x.ok]].flatten
def Bo.ii(x:Bo):List Int:=[[x.kind],x.A2.ii,x.A1.ii,x.new.ii].flatten
def Bo.bb(x:Bo):List Bool:=[x.A1.bb,x.new.bb].flatten
def AN.ii(x:AN):List Int:=[x.low,x.IC]
def AN.bb(x:AN):List Bool:=[x.is]
def Xq.ii(x:Xq):List Int:=[[x.pc],x.last.ii,x.start.ii,[x.key],x.prev.ii,x.Ay.ii,x.next.ii,[x.k]].flatten
def Xq.bb(x:Xq):List Bool:=[x.last.bb,x.Ay.bb,x.next.bb,[x.found]].flatten
def B7.ii(x:B7):List Int:=[x.prev.ii,x.Ay.ii].flatten
def B7.bb(x:B7):List Bool:=x.Ay.bb
def Xe.ii(x:Xe):List Int:=[[x.pc],x.last.ii,x.spot.ii,[x.Ha,x.level],x.next.ii,[x.k],x.s0.ii,x.s1.ii,x.s2.ii,x.found.ii].flatten
def Xe.bb(x:Xe):List Bool:=[x.last.bb,x.spot.bb,x.next.bb,x.s0.bb,x.s1.bb,x.s2.bb,x.found.bb].flatten
def X6.ii(x:X6):List Int:=[[x.pc],x.last.ii,x.op.ii,x.node.ii,x.By.ii,[x.val]].flatten
def X6.bb(x:X6):List Bool:=[x.last.bb,x.node.bb,x.By.bb].flatten
def Yd.ii(x:Yd):List Int:=[[x.pc],x.last.ii,x.op.ii,x.node.ii,x.h.ii,x.t.ii,x.n.ii,[x.val]].flatten
def Yd.bb(x:Yd):List Bool:=[x.last.bb,x.node.bb,x.h.bb,x.t.bb,x.n.bb].flatten
def Xi.ii(x:Xi):List Int:=[[x.pc],x.last.ii,x.start.ii,[x.key],x.op.ii,x.node.ii,[x.val]].flatten
def Xi.bb(x:Xi):List Bool:=[x.last.bb,x.node.bb].flatten
def Xc.ii(x:Xc):List Int:=[[x.pc],x.last.ii,x.op.ii,x.node.ii,[x.level,x.Kf,x.val]].flatten
def Xc.bb(x:Xc):List Bool:=[x.last.bb,x.node.bb].flatten
def Xa.bb(x:Xa):List Bool:=[x.last.bb,x.base.bb,x.node.bb,x.sentinel.bb,x.count.bb].flatten
def Xb.ii(x:Xb):List Int:=[x.call.ii,[x.step],x.AY.ii,x.word.ii,x.clock.ii,[x.index,x.Aa,x.me,x.Ac,x.most],x.h0.ii,x.h1.ii,x.h2.ii,x.h3.ii,x.h4.ii,x.h5.ii,x.h6.ii,x.h7.ii,x.h8.ii,x.span.ii,[x.Bj],x.Au.ii].flatten
def Xb.bb(x:Xb):List Bool:=[x.call.bb,x.AY.bb,x.word.bb,x.clock.bb,x.h0.bb,x.h1.bb,x.h2.bb,x.h3.bb,x.h4.bb,x.h5.bb,x.h6.bb,x.h7.bb,x.h8.bb,x.span.bb,x.Au.bb].flatten
def Xb.iL(x:Xb):List Int:=[x.call.ii,[x.step],x.AY.ii,x.word.ii,x.clock.ii,[x.index,(x.seen.n:Int),(x.Ao.n:Int),x.Aa,x.me,x.Ac,x.most],x.h0.ii,x.h1.ii,x.h2.ii,x.h3.ii,x.h4.ii,x.h5.ii,x.h6.ii,x.h7.ii,x.h8.ii,x.span.ii,[(x.notes.n:Int),x.Bj],x.Au.ii].flatten
section
variable{α R:Type}{t:Xz α}{e:Env}{Q:α->R->Prop}{s:FV}{a b r:R}{c d f:Bool}
theorem pN(h:PO t e Q s (bif c then b else a)):PO t e Q s (bif !c then a else b):=zE h
theorem pA(h:PO t e Q s (bif c then(bif d then a else b) else b)):PO t e Q s (bif c&&d then a else b):=zG h
theorem pO(h:PO t e Q s (bif c then a else(bif d then a else b))):PO t e Q s (bif c||d then a else b):=po_or h
theorem pB(h:PO t e Q s (bif c then(bif d then a else b) else(bif f then a else b))):PO t e Q s (bif (bif c then d else f) then a else b):=po_bb h
theorem pF(h:PO t e Q s b)(hc:c=false:=by assumption):PO t e Q s (bif c then a else b):=Jq hc h
theorem pT(h:PO t e Q s a)(hc:c=true:=by assumption):PO t e Q s (bif c then a else b):=Jp hc h
theorem pU(h:PO t e Q s b)(hc:c=false:=by with_unfolding_all rfl):PO t e Q s (bif c then a else b):=Jq hc h
theorem pV(h:PO t e Q s a)(hc:c=true:=by with_unfolding_all rfl):PO t e Q s (bif c then a else b):=Jp hc h
theorem pC(h1:PO t e Q (IM (t.nx s) true s) a)(h2:PO t e Q (IM (t.nx s) false s) b)(hc:(t.nx s).den e=c:=by kernel_rfl):PO t e Q s (bif c then a else b):=po_br hc h1 h2
theorem pK(h1:c=true->PO t e Q (IM (t.nx s) true s) a)(h2:c=false->PO t e Q (IM (t.nx s) false s) b)(hc:(t.nx s).den e=c:=by kernel_rfl):PO t e Q s (bif c then a else b):=zF hc h1 h2
end
theorem Ca{e:Env}{b:BT}{v:Bool}{s:FV}(h:b.den e=v)(hs:AV e s):AV e ((b,v)::s):=Dc h hs
theorem Ci{e:Env}:AV e []:=Hb rfl
theorem l1{t:Xz (SV × Yk)}{e:Env}{T:TypeId}{hp:Yk}{s:FV}{R:Type}{a:R}{g:R->Value × Array Value}(h1:(t.lv s).all (jI (UM T hp))=true:=by kernel_rfl)(h2:∀k,(t.lv s).map (λo=>o.map (oB e k))=(t.lv s).map λ_=>some (g a):=by intro k;kernel_rfl):PO t e (λx r=>Q1 e T hp x (g r)) s a:=nK h1 h2
theorem l2{i:Nat}{t:Xz (SV × Yk)}{e:Env}{T T2:TypeId}{hp:Yk}{s:FV}{R:Type}{a:R}{g:R->Value × Array Value × Option (Array Value)}(h1:(t.lv s).all (jI (ok2 i T T2 hp))=true:=by kernel_rfl)(h2:∀k,(t.lv s).map (λo=>o.map (oA i e k))=(t.lv s).map λ_=>some (g a):=by intro k;kernel_rfl):PO t e (λx r=>Q2 i e T T2 hp x (g r)) s a:=nJ h1 h2
theorem lE{t:Xz (SV × Nat × Yk)}{e:Env}{T:TypeId}{hp:Yk}{s:FV}{R:Type}{a:R}{g:R->Value × Nat × Array Value}(h1:(t.lv s).all (jI (okE T hp))=true:=by kernel_rfl)(h2:∀k,(t.lv s).map (λo=>o.map (nZ e k))=(t.lv s).map λ_=>some (g a):=by intro k;kernel_rfl):PO t e (λx r=>QE e T hp x (g r)) s a:=nI h1 h2
theorem l0{t:Xz (SV × Yk)}{e:Env}{s:FV}{R:Type}{a:R}{g:R->Value}(h1:(t.lv s).all (jI λ_=>true)=true:=by kernel_rfl)(h2:∀k,(t.lv s).map (λo=>o.map (uJ e k))=(t.lv s).map λ_=>some (g a):=by intro k;kernel_rfl):PO t e (λx r=>Q0 e x (g r)) s a:=nL h1 h2
section
variable{P:Program}{f:Nat}{T:TypeId}{g:Nat}{w:World}{args' row:Array Value}{R:Type}
theorem p1(e:Env)(S:List Xu)(n:Nat)(st:St)(args:List SV)(r:R)(G:R->Value × Array Value)(hS:El P e S)(hasm:AV e st.BY)(hb:Bk w g T row)(h:PO (CY (exec P S n (.call f args) st)) e (λx r=>Q1 e T st.hp x (G r)) st.BY r)
  (hm:P.follows .mixedOrders=true:=by exact mixed)(hp:st.hp=[(1,T,cellAt 1 st.hp)]:=by kernel_rfl)(hr:row=Ym e (Dw [g]) (cellAt 1 st.hp):=by kernel_rfl)(closed:QO (Yi st.hp) st.hp=true:=by kernel_rfl)(cargs:args.all (Jc (Yi st.hp))=true:=by kernel_rfl)(ha:args'=(args.map (SV.den e (Dw [g]))).toArray:=by kernel_rfl)
  (hpl:Hk S=true:=by kernel_rfl)(hnf:¬f=Dy:=by decide):Calls P f args' w λen w'=>en=.returned (G r).1/\Bk w' g T (G r).2/\Al [g] w w':=po1 hm hS hp hasm (Yu hb hr) closed cargs ha h hpl hnf
theorem p0(e:Env)(S:List Xu)(n:Nat)(st:St)(args:List SV)(r:R)(G:R->Value)(hS:El P e S)(hasm:AV e st.BY)(h:PO (CY (exec P S n (.call f args) st)) e (λx r=>Q0 e x (G r)) st.BY r)
  (hm:P.follows .mixedOrders=true:=by exact mixed)(hp:st.hp=[]:=by kernel_rfl)(cargs:args.all (Jc [])=true:=by kernel_rfl)(ha:args'=(args.map (SV.den e (Dw []))).toArray:=by kernel_rfl)(hpl:Hk S=true:=by kernel_rfl)(hnf:¬f=Dy:=by decide):
  Calls P f args' w λen w'=>en=.returned (G r)/\Al [] w w':=po0 hm hS hp hasm h cargs ha hpl hnf
theorem pE{Φ:GL}{F:Nat->Prop}(e:Env)(S:List Xu)(n:Nat)(st:St)(args:List SV)(r:R)(G:R->Value × Nat × Array Value)(hS:Dv P e Φ S)(hasm:AV e st.BY)(hb:Bk w g T row)(f1:Φ.P st.ph w F)(f2:¬F g)(f3:∀b,F b->b<w.heap.size)
  (h:PO (QK (exec P S n (.call f args) st)) e (λx r=>QE e T st.hp x (G r)) st.BY r)
  (hm:P.follows .mixedOrders=true:=by exact mixed)(hp:st.hp=[(1,T,cellAt 1 st.hp)]:=by kernel_rfl)(hr:row=Ym e (Dw [g]) (cellAt 1 st.hp):=by kernel_rfl)(closed:QO (Yi st.hp) st.hp=true:=by kernel_rfl)(cargs:args.all (Jc (Yi st.hp))=true:=by kernel_rfl)(ha:args'=(args.map (SV.den e (Dw [g]))).toArray:=by kernel_rfl)(hnf:¬f=Dy:=by decide):
  Calls P f args' w λen w'=>Ky Φ (G r).2.1 F g T (G r).2.2 (G r).1 w en w':=poE hm hS hp hasm (Yu hb hr) f1 f2 f3 h closed cargs ha hnf
theorem p2{gs:List Nat}(e:Env)(S:List Xu)(n:Nat)(st:St)(args:List SV)(i:Nat)(T T2:TypeId)(r:R)(V:R->Value)(JL:R->Value->List Value)(sub:R->Option (Array Value))(Sub:R->World->Value->List Nat->Prop)
  (hS:El P e S)(hasm:AV e st.BY)(blocks:∀x∈st.hp,Bk w (Dw gs x.1) x.2.1 (Ym e (Dw gs) x.2.2))(hnd:gs.Nodup)
  (hs0:∀r w,sub r=none->Sub r w (.pointer none) [])(hs1:∀r w g cs,sub r=some cs->Bk w g T2 cs->Sub r w (.pointer (some ⟨g,0,none⟩)) [g])
  (h:PO (CY (exec P S n (.call f args) st)) e (λx r=>Q2 i e T T2 st.hp x (V r,(JL r (.pointer none)).toArray,sub r)) st.BY r)
  (hJL:∀r q,JL r q=(JL r (.pointer none)).set i q:=by intro r q;rfl)
  (hm:P.follows .mixedOrders=true:=by exact mixed)(hin:(st.hp.map λx=>Dw gs x.1)=gs:=by kernel_rfl)(hl:Yi st.hp=st.hp.map (·.1):=by kernel_rfl)(closed:QO (Yi st.hp) st.hp=true:=by kernel_rfl)(cargs:args.all (Jc (Yi st.hp))=true:=by kernel_rfl)(ha:args'=(args.map (SV.den e (Dw gs))).toArray:=by kernel_rfl)
  (l1:Fs 1 (Yi st.hp)=true:=by kernel_rfl)(hg:Dw gs 1=g:=by kernel_rfl)(hpl:Hk S=true:=by kernel_rfl)(hnf:¬f=Dy:=by decide):Calls P f args' w λen w'=>FU (Sub r) T (JL r) (V r) g gs w en w':=
 po2 i T T2 g V JL sub Sub hm hS hasm blocks closed cargs (by rw [hin];exact hnd) ha (fun l hx=>by
  rw[hl] at hx;obtain⟨z,hz,rfl⟩:=List.mem_map.1 hx;have:=List.mem_map_of_mem (f:=λx:Nat × TypeId × List SC=>Dw gs x.1) hz;rwa [hin] at this) l1 hg (hJL r) (hs0 r) (hs1 r) h hpl hnf
end
def Zc(C:Xe)(x:Xj):Env:=Ix [[C.pc],C.last.ii,C.spot.ii,[C.Ha],C.next.ii,[C.k],C.s0.ii,C.s1.ii,C.s2.ii,C.found.ii,x.ii] [C.bb,x.bb]
def iP:St:=⟨[],[(1,284,(ct [vs 0 9,[.bool (.var 0)],vs 9 4,[.bool (.var 1)],vs 13 11,[.bool (.var 2),.int (.var 24),.int (.lit 0)],vs 25 4,[.bool (.var 3)],vs 29 8,[.bool (.var 4)],vs 37 7,[.bool (.var 5)],vs 44 7,[.bool (.var 6)],vs 51 4,[.bool (.var 7)]]))],[],10,0⟩
def Vu:List SV:=[.c (.ptr 1 0),.agg ((ct [vs 55 4,[.bool (.var 8),.bool (.var 9)]]))]
theorem Ze(C:Xe)(x:Xj)(g1:Nat)(w:World)(h1:Bk w g1 284 ({C with level:=0}:Xe).l.toArray):Calls Tryz.prog 206 #[.pointer (some ⟨g1,0,none⟩),.agg x.l.toArray] w λen w'=>en=.returned (I1 (Xe.step {C with level:=0} x).2)/\Bk w' g1 284 ((Xe.step {C with level:=0} x).1.l).toArray/\Al [g1] w w':=by
 refine p1 (Zc C x) [] 60 iP Vu (Xe.step {C with level:=0} x) (λr=>(I1 r.2,(r.1.l).toArray)) Xt Ci h1 ?_;exact vS8
def Za(C:Xe)(x:Xj):Env:=Ix [[C.pc],C.last.ii,C.spot.ii,[C.Ha],C.next.ii,[C.k],C.s0.ii,C.s1.ii,C.s2.ii,C.found.ii,x.ii] [C.bb,x.bb]
def iO:St:=⟨[],[(1,284,(ct [vs 0 9,[.bool (.var 0)],vs 9 4,[.bool (.var 1)],vs 13 11,[.bool (.var 2),.int (.var 24),.int (.lit 1)],vs 25 4,[.bool (.var 3)],vs 29 8,[.bool (.var 4)],vs 37 7,[.bool (.var 5)],vs 44 7,[.bool (.var 6)],vs 51 4,[.bool (.var 7)]]))],[],10,0⟩
def Vt:List SV:=[.c (.ptr 1 0),.agg ((ct [vs 55 4,[.bool (.var 8),.bool (.var 9)]]))]
theorem Zb(C:Xe)(x:Xj)(g1:Nat)(w:World)(h1:Bk w g1 284 ({C with level:=1}:Xe).l.toArray):Calls Tryz.prog 206 #[.pointer (some ⟨g1,0,none⟩),.agg x.l.toArray] w λen w'=>en=.returned (I1 (Xe.step {C with level:=1} x).2)/\Bk w' g1 284 ((Xe.step {C with level:=1} x).1.l).toArray/\Al [g1] w w':=by
 refine p1 (Za C x) [] 60 iO Vt (Xe.step {C with level:=1} x) (λr=>(I1 r.2,(r.1.l).toArray)) Xt Ci h1 ?_;exact vS8
def YY(C:Xe)(x:Xj):Env:=Ix [[C.pc],C.last.ii,C.spot.ii,[C.Ha],C.next.ii,[C.k],C.s0.ii,C.s1.ii,C.s2.ii,C.found.ii,x.ii] [C.bb,x.bb]
def iN:St:=⟨[],[(1,284,(ct [vs 0 9,[.bool (.var 0)],vs 9 4,[.bool (.var 1)],vs 13 11,[.bool (.var 2),.int (.var 24),.int (.lit 2)],vs 25 4,[.bool (.var 3)],vs 29 8,[.bool (.var 4)],vs 37 7,[.bool (.var 5)],vs 44 7,[.bool (.var 6)],vs 51 4,[.bool (.var 7)]]))],[],10,0⟩
def Vs:List SV:=[.c (.ptr 1 0),.agg ((ct [vs 55 4,[.bool (.var 8),.bool (.var 9)]]))]
theorem YZ(C:Xe)(x:Xj)(g1:Nat)(w:World)(h1:Bk w g1 284 ({C with level:=2}:Xe).l.toArray):Calls Tryz.prog 206 #[.pointer (some ⟨g1,0,none⟩),.agg x.l.toArray] w λen w'=>en=.returned (I1 (Xe.step {C with level:=2} x).2)/\Bk w' g1 284 ((Xe.step {C with level:=2} x).1.l).toArray/\Al [g1] w w':=by
 refine p1 (YY C x) [] 60 iN Vs (Xe.step {C with level:=2} x) (λr=>(I1 r.2,(r.1.l).toArray)) Xt Ci h1 ?_;exact vS8
def XO(C:Xe):Env:=Ix [C.ii] [C.bb]
def fU:St:=⟨[],[(1,284,(ct [vs 0 9,[.bool (.var 0)],vs 9 4,[.bool (.var 1)],vs 13 11,[.bool (.var 2)],vs 24 6,[.bool (.var 3)],vs 30 8,[.bool (.var 4)],vs 38 7,[.bool (.var 5)],vs 45 7,[.bool (.var 6)],vs 52 4,[.bool (.var 7)]]))],[],10,0⟩
def UC:List SV:=[.c (.ptr 1 0),.c (.int (.lit 0))]
theorem XP(C:Xe)(g1:Nat)(w:World)(h1:Bk w g1 284 C.l.toArray):Calls Tryz.prog 208 #[.pointer (some ⟨g1,0,none⟩),.int .i64 0] w λen w'=>en=.returned (.tuple #[.agg ((C.s0,())).1.prev.l.toArray,.agg ((C.s0,())).1.Ay.l.toArray])/\Bk w' g1 284 (C.l).toArray/\Al [g1] w w':=by
 refine p1 (XO C) [] 60 fU UC ((C.s0,())) (λr=>(.tuple #[.agg r.1.prev.l.toArray,.agg r.1.Ay.l.toArray],(C.l).toArray)) Xt Ci h1 ?_;exact vS1
def XL(C:Xe):Env:=Ix [C.ii] [C.bb]
def fT:St:=⟨[],[(1,284,(ct [vs 0 9,[.bool (.var 0)],vs 9 4,[.bool (.var 1)],vs 13 11,[.bool (.var 2)],vs 24 6,[.bool (.var 3)],vs 30 8,[.bool (.var 4)],vs 38 7,[.bool (.var 5)],vs 45 7,[.bool (.var 6)],vs 52 4,[.bool (.var 7)]]))],[],10,0⟩
def UB:List SV:=[.c (.ptr 1 0),.c (.int (.lit 1))]
theorem XM(C:Xe)(g1:Nat)(w:World)(h1:Bk w g1 284 C.l.toArray):Calls Tryz.prog 208 #[.pointer (some ⟨g1,0,none⟩),.int .i64 1] w λen w'=>en=.returned (.tuple #[.agg ((C.s1,())).1.prev.l.toArray,.agg ((C.s1,())).1.Ay.l.toArray])/\Bk w' g1 284 (C.l).toArray/\Al [g1] w w':=by
 refine p1 (XL C) [] 60 fT UB ((C.s1,())) (λr=>(.tuple #[.agg r.1.prev.l.toArray,.agg r.1.Ay.l.toArray],(C.l).toArray)) Xt Ci h1 ?_;exact vS1
def XJ(C:Xe):Env:=Ix [C.ii] [C.bb]
def fR:St:=⟨[],[(1,284,(ct [vs 0 9,[.bool (.var 0)],vs 9 4,[.bool (.var 1)],vs 13 11,[.bool (.var 2)],vs 24 6,[.bool (.var 3)],vs 30 8,[.bool (.var 4)],vs 38 7,[.bool (.var 5)],vs 45 7,[.bool (.var 6)],vs 52 4,[.bool (.var 7)]]))],[],10,0⟩
def UA:List SV:=[.c (.ptr 1 0),.c (.int (.lit 2))]
theorem XK(C:Xe)(g1:Nat)(w:World)(h1:Bk w g1 284 C.l.toArray):Calls Tryz.prog 208 #[.pointer (some ⟨g1,0,none⟩),.int .i64 2] w λen w'=>en=.returned (.tuple #[.agg ((C.s2,())).1.prev.l.toArray,.agg ((C.s2,())).1.Ay.l.toArray])/\Bk w' g1 284 (C.l).toArray/\Al [g1] w w':=by
 refine p1 (XJ C) [] 60 fR UA ((C.s2,())) (λr=>(.tuple #[.agg r.1.prev.l.toArray,.agg r.1.Ay.l.toArray],(C.l).toArray)) Xt Ci h1 ?_;exact vS1
def XH(C:Xe)(l:Int):Env:=Ix [C.ii,[l]] [C.bb]
def fQ:St:=⟨[],[(1,284,(ct [vs 0 9,[.bool (.var 0)],vs 9 4,[.bool (.var 1)],vs 13 11,[.bool (.var 2)],vs 24 6,[.bool (.var 3)],vs 30 8,[.bool (.var 4)],vs 38 7,[.bool (.var 5)],vs 45 7,[.bool (.var 6)],vs 52 4,[.bool (.var 7)]]))],[],10,0⟩
def U9:List SV:=[.c (.ptr 1 0),.c (.int (.var 56))]
theorem XI(C:Xe)(l:Int)(g1:Nat)(w:World)(h1:Bk w g1 284 C.l.toArray)(hl:l<0\/3<=l):Calls Tryz.prog 208 #[.pointer (some ⟨g1,0,none⟩),.int .i64 l] w λen w'=>en=.returned (.tuple #[.agg ((B7.zero,())).1.prev.l.toArray,.agg ((B7.zero,())).1.Ay.l.toArray])/\Bk w' g1 284 (C.l).toArray/\Al [g1] w w':=by
 refine p1 (XH C l) [] 60 fQ U9 ((B7.zero,())) (λr=>(.tuple #[.agg r.1.prev.l.toArray,.agg r.1.Ay.l.toArray],(C.l).toArray)) Xt Ci h1 ?_;refine D9 (show _=(bif decide (l<0) then(B7.zero,()) else bif decide (3<=l) then(B7.zero,()) else(B7.zero,())) by cases decide (l<0)<;>cases decide (3<=l)<;>rfl) ?_;repeat' (first|with_reducible (first|refine pN ?_|refine pA ?_|refine pO ?_|refine pB ?_|refine Jq (by with_unfolding_all assumption) ?_|refine Jp (by with_unfolding_all assumption) ?_|refine pU ?_|refine pV ?_|refine pK (λh=>?_) (λh=>?_))|refine GP ?_|refine GQ ?_|refine D9 (Dp _ _ _) ?_|exact S0 (by simp only[decide_eq_false_iff_not] at*;omega)|exact l1)
theorem QI(C:Xe)(l:Int)(g1:Nat)(w:World)(h1:Bk w g1 284 C.l.toArray):Calls Tryz.prog 208 #[.pointer (some ⟨g1,0,none⟩),.int .i64 l] w λen w'=>
  en=.returned (.tuple #[.agg (Fk C l).prev.l.toArray,.agg (Fk C l).Ay.l.toArray])/\Bk w' g1 284 C.l.toArray/\Al [g1] w w':=by
 by_cases h0:l<0\/3<=l
 ·have e:Fk C l=B7.zero:=by
   unfold Fk;rcases h0 with h|h
   ·simp[h]
   ·simp[h]
  rw[e];exact XI C l g1 w h1 h0
 ·have h:l=0\/l=1\/l=2:=Zo;rcases h with rfl|rfl|rfl
  ·exact XP C g1 w h1
  ·exact XM C g1 w h1
  ·exact XK C g1 w h1
theorem Dj(C:Xe)(x:Xj)(g1:Nat)(w:World)(hl:LvOk C)(h1:Bk w g1 284 C.l.toArray):Calls Tryz.prog 206 #[.pointer (some ⟨g1,0,none⟩),.agg x.l.toArray] w λen w'=>
  en=.returned (I1 (Xe.step C x).2)/\Bk w' g1 284 (Xe.step C x).1.l.toArray/\Al [g1] w w':=by
 rcases hl with h|h|h
 ·have e:C={C with level:=0}:=by cases C;simp only at h;subst h;rfl
  rw[e] at h1 ⊢;exact Ze C x g1 w h1
 ·have e:C={C with level:=1}:=by cases C;simp only at h;subst h;rfl
  rw[e] at h1 ⊢;exact Zb C x g1 w h1
 ·have e:C={C with level:=2}:=by cases C;simp only at h;subst h;rfl
  rw[e] at h1 ⊢;exact YZ C x g1 w h1
theorem lJ(J:Xc)(x:Xj):Xc.next J x=bif J.pc==-1 then(J,J.last) else bif decide (101<=J.pc) then J.finish x else bif J.op.kind==6 then(bif decide (9<=J.pc) then J.raise x else J.insert x) else bif J.op.kind==7 then J.Am x else J.get x:=by
 unfold Xc.next;cases J.pc==-1<;>cases decide (101<=J.pc)<;>cases J.op.kind==6<;>cases decide (9<=J.pc)<;>rfl
def outS(e:Env)(k:Nat->Nat)(L:Nat)(a:SV × Yk):Value × Array Value:=(a.1.den e k,Ym e k (cellAt L a.2))
theorem pS{P:Program}{f:Nat}{w:World}{args' row:Array Value}{T T2:TypeId}(e:Env)(st:St)(args:List SV)(L:Nat)(hasm:AV e st.BY)
  (hm:P.follows .mixedOrders=true:=by exact mixed)(hp:st.hp=[]:=by kernel_rfl)(cargs:args.all (Jc [])=true:=by kernel_rfl)(ha:args'=(args.map (SV.den e (Dw []))).toArray:=by kernel_rfl)(hnf:¬f=Dy:=by decide)
  (h1:((CY (exec P [] 120 (.call f args) st)).lv st.BY).all (jI λa=>pD T2 L a.2)=true:=by kernel_rfl)
  (h2:∀k,((CY (exec P [] 120 (.call f args) st)).lv st.BY).map (λo=>o.map (outS e k L))=((CY (exec P [] 120 (.call f args) st)).lv st.BY).map λ_=>some (.tuple #[.iface T (.pointer (some ⟨k L,0,none⟩)),.nilIface],row):=by intro k;kernel_rfl):
  Calls P f args' w λen w'=>∃g,en=.returned (.tuple #[.iface T (.pointer (some ⟨g,0,none⟩)),.nilIface])/\w.heap.size<=g/\Bk w' g T2 row/\Al [] w w':=by
 have hs:=M4 (CY (exec P [] 120 (.call f args) st)) st.BY hasm
 have h3:=List.all_eq_true.1 h1 _ hs
 cases hx:(CY (exec P [] 120 (.call f args) st)).B8 e with
 |none=>rw[hx] at h3;cases h3
 |some x=>
  obtain⟨v,h'⟩:=x
  rw[hx] at h3 hs
  have h3:pD T2 L h'=true:=h3
  refine(Cy hm Xt hx hasm (CE []) (λz hz=>by rw[hp] at hz;cases hz) (by rw[hp];rfl) (by rw[hp];exact cargs) (λz hz=>by rw[hp] at hz;cases hz) ha Zr hnf).mono λen w' hq=>?_
  obtain⟨k',q⟩:=hq
  obtain⟨i,hi,he⟩:=List.getElem_of_mem hs
  have h4:=congrArg (λl=>l[i]?) (h2 k')
  simp only[List.getElem?_map,List.getElem?_eq_getElem hi,Option.map_some,he,Option.map_some,Option.some.injEq] at h4
  injection h4 with h5 h6
  have m:=IB h3
  have hc:=q.Cf
  rw[hp] at hc
  refine⟨k' L,q.ret.trans (by rw[←h5]),(q.new _ m).resolve_left (λh=>by rw[hp] at h;cases h),?_,hc⟩
  have:=q.blk _ m
  simp only at this
  rw[h6] at this
  exact this
end Go.Proofs.YtaipogljokblkaaGreatDoor
