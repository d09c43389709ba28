/- Core: MP, CR0, PU, SvH, MR, MV, EaA, EaB, EaC, EaW, EaX. -/
import Derived.Test.YtaipogljokblkaaGreatDoorP08
import Derived.Test.YtaipogljokblkaaGreatDoorP09
set_option linter.all false
set_option maxRecDepth 100000
set_option maxHeartbeats 8000000
namespace Go.Proofs.YtaipogljokblkaaGreatDoor
open Go Go.RowKit
structure Jg where
 AB:Int
 used:Bool
 cell:Int->Xe
def Jg.zero:Jg:=⟨0,false,λ_=>.zero⟩
structure Pl where
 nb:Nat
 ns:Nat
 board:Int->Xe
 slot:Int->Jg
 free:List Int
 steps:Int
 made:Int
 fault:Bool
def Ar{a:Type}(f:Int->a)(i:Int)(x:a):Int->a:=λj=>bif j==i then x else f j
def AP{a:Type}(f:Int->a)(i:Int)(x:a):Ar f i x i=x:=by simp[Ar]
def BM{a:Type}(f:Int->a){i j:Int}(x:a)(h:j≠i):Ar f i x j=f j:=by
 unfold Ar;rw[show(j==i)=false from by simp[h]];rfl
namespace Pl
def BY(p:Pl)(n:Int):Bool:=decide (1<=n)&&decide (n<=(p.ns:Int))
def has(p:Pl)(a:Yc):Bool:=
 bif a.sl==0 then a.gn==0&&(decide (0<=a.fd)&&decide (a.fd<(p.nb:Int))) else p.BY a.sl&&(decide (0<=a.fd)&&decide (a.fd<10))
def valid(p:Pl)(a:Bx):Bool:=
 bif a.kind==1||(a.kind==2||a.kind==3) then p.has a.AJ else bif a.kind==4 then true else bif a.kind==5 then p.BY a.AU.sl else false
def live(p:Pl)(n AB:Int):Bool:=n==0||((p.slot n).used&&(p.slot n).AB==AB)
def right(p:Pl)(a:Bx):Bool:=
 bif a.kind==4 then true else bif a.kind==5 then p.live a.AU.sl a.AU.gn else p.live a.AJ.sl a.AJ.gn
def get(p:Pl)(a:Yc):Xe:=bif a.sl==0 then p.board a.fd else(p.slot a.sl).cell a.fd
def put(p:Pl)(a:Yc)(x:Xe):Pl:=
 bif a.sl==0 then{p with board:=Ar p.board a.fd x} else
 {p with slot:=Ar p.slot a.sl {p.slot a.sl with cell:=Ar (p.slot a.sl).cell a.fd x}}
def refused(kind:Int):Xr:=bif kind==1||kind==3 then⟨Y6 (-1),false⟩ else Xr.zero
def alloc(p:Pl)(a:Int):Pl × Xr:=
 match p.free.getLast? with
 |none=>(p,Xr.zero)
 |some n=>({p with free:=p.free.dropLast,slot:=Ar p.slot n ⟨wr ((p.slot n).AB+1),true,Ar (λ_=>.zero) 9 (Y6 a)⟩,made:=wr (p.made+1)},⟨⟨n,wr ((p.slot n).AB+1),0,0,false⟩,true⟩)
def touch(p:Pl)(a:Bx):Pl × Xr:=
 bif a.kind==1 then(p,⟨p.get a.AJ,true⟩) else
 bif a.kind==3 then
  bif B7 (p.get a.AJ) a.AU then(p.put a.AJ a.new,⟨p.get a.AJ,true⟩) else(p,⟨p.get a.AJ,false⟩)
 else(p.put a.AJ a.new,⟨.zero,true⟩)
def act(p:Pl)(a:Bx):Pl × Xr:=
 let p:={p with steps:=wr (p.steps+1)}
 bif !p.right a then({p with fault:=true},refused a.kind) else
 bif a.kind==4 then p.alloc a.new.nm else
 bif a.kind==5 then({p with slot:=Ar p.slot a.AU.sl {p.slot a.AU.sl with used:=false},free:=p.free++[a.AU.sl]},⟨.zero,true⟩) else
 p.touch a
end Pl
def zc(R:Xd)(c:Xi):Env:=IA [R.ii,c.ii] [R.bb,c.bb] [R.seen.v,R.Au.v,R.notes.v] (AS rfl)
def rxE(R:Xd)(x:Xr):Env:=IA [R.ii,x.ii] [R.bb,x.bb] [R.seen.v,R.Au.v,R.notes.v] (AS rfl)
def jK:List SC:=(ct [vs 0 8,[.bV 0],vs 8 4,[.bV 1],vs 12 13,[.bV 2],vs 25 4,[.bV 3],vs 29 4,[.bV 4],vs 33 4,[.bV 5,.iV 37,.Ba 0,.Ba 1],vs 38 8,[.bV 6],vs 46 4,[.bV 7],vs 50 4,[.bV 8],vs 54 4,[.bV 9],vs 58 4,[.bV 10],vs 62 4,[.bV 11],vs 66 4,[.bV 12],vs 70 4,[.bV 13],vs 74 4,[.bV 14,.bV 15,.iV 78,.iV 79,.Ba 2],vs 80 5,[.bV 16,.bV 17]])
namespace Xd
def look(R:Xd)(n:Int):Xd × Bool:=
 bif R.AO then
  bif decide (wr (R.Ae*9)<=n) then(R,false) else(Xd.load {R with index:=n} 13 ⟨0,0,wr (wr (25+wr (wr (Int.tdiv n 9)*9))+Int.tmod n 9)⟩,true)
 else bif decide (R.Ae<=n) then(R,false) else(Xd.load {R with index:=n} 13 ⟨0,0,wr (79+n)⟩,true)
def scan(R:Xd):Xd:=bif R.Aa==1 then R.done else bif R.Aa==4 then R.load 12 (root 24) else(R.look 0).1
def noted(R:Xd):Xd:=bif decide (R.most<=(R.notes.n:Int)) then R.scan else R.done
def Ki(R:Xd):Xd:=bif R.Aa==1 then R.done else bif R.Aa==4 then R.load 10 (root 24) else R.load 9 (Xh R.call.AU 9)
end Xd
def Bz:B5:=⟨none,0,0⟩
def Ei(w:Xe):BL:=bif w.mark then⟨true,w.nm,w.tg⟩ else⟨false,0,0⟩
abbrev Bc(l:List Xw):List Value:=rows Xw.l l
def Be(l:List Xw):(Bc l).length=l.length*7:=Zb Q6 l
def VN(p:Xw)(l:List Xw):Bc (p::l)=Xw.l p++Bc l:=rfl
def K9(l m:List Xw):Bc (l++m)=Bc l++Bc m:=Jx l m
def ZZ(l:List Xw):∀u∈Bc l,u.oneCell'=true:=qJ none_ l
def RetN2(w:World)(v:Value)(l:List Xw)(e:Ending)(w':World):Prop:=
 ∃a,e=.returned a/\Own w' 201 7 a l.length (Bc l)/\w.grownBy w' v.ownBlock/\Gi w v a
def bP(w:World)(g b i d:Nat)(A cs R:List Value)(o:Bk w g 201 (A++R).toArray)(q:A.length=b+i*7)(x:cs.length<=R.length)(a:Addr)(k c:Nat)(r:cs.length=k*7)(f:i+k<=d)
  (l:∀j u,cs[j]?=some u->w.cell? (a.add j)=some u)(s:∀u∈cs,u.oneCell'=true)(t:TypeId):
  ∃w',(Builtin.append_ #[64,64] t #[.slice (some ⟨g,b,none⟩) i d,.slice (some a) k c]).run Tryz.prog w=.ok (.slice (some ⟨g,b,none⟩) (i+k) d) w'/\
   Bk w' g 201 (A++(cs++R.drop cs.length)).toArray/\w.grownBy w' (some g):=by
 obtain⟨m,n,y,h,v⟩:=og LI
 have p:=Gy (P:=Tryz.prog) w 64 t 201 m Tryz.underlying64 n g b i d _ _ o a k c cs (by rw[r,h]) l s f (by rw[h];simp;omega)
 rw[h,←q] at p
 refine⟨_,p,?_,GX _ _ _⟩
 have e:(A++R).toArray.toList.take A.length++cs++(A++R).toArray.toList.drop (A.length+cs.length)=A++(cs++R.drop cs.length):=by
  show(A++R).take A.length++cs++(A++R).drop (A.length+cs.length)=_;rw[Gd,nz,jz];rfl
 rw[e]
 exact o.row
def lR(w:World)(g o c:Nat)(A R:List Value)(b:Bk w g 201 (A++R).toArray)(f:A.length=o)(q:7<=R.length)(t:TypeId):
  ∃w' Z,(Builtin.clear_ #[64] t #[.slice (some ⟨g,o,none⟩) 1 c]).run Tryz.prog w=.ok (.tuple #[]) w'/\
   Bk w' g 201 (A++Z).toArray/\Z.length=R.length/\w.grownBy w' (some g):=by
 subst f
 obtain⟨h,a,i,j,k⟩:=og LI
 have m:(Builtin.zeroCells (Value.agg Xw.zero.l.toArray).cells 1).toList.length=7:=by rw[mo,size_zeroCells];rfl
 have n:(Builtin.zeroCells (Value.agg Xw.zero.l.toArray).cells 1).toList=Xw.zero.l:=Zk
 have p:=Qy (P:=Tryz.prog) w 64 201 t (.agg Xw.zero.l.toArray) Tryz.underlying64 (λw=>by simp[zeroValue,typeInfo,a,i])
  (by intro u d;rw[n] at d;exact none_ _ u d) g A.length c _ _ b (by show _+7<=_;simp;omega)
 refine⟨_,(Builtin.zeroCells (Value.agg Xw.zero.l.toArray).cells 1).toList++R.drop 7,p,?_,?_,GX _ _ _⟩
 ·have e:(A++R).toArray.toList.take A.length++(Builtin.zeroCells (Value.agg Xw.zero.l.toArray).cells 1).toList++(A++R).toArray.toList.drop (A.length+(Value.agg Xw.zero.l.toArray).cells.size)=A++((Builtin.zeroCells (Value.agg Xw.zero.l.toArray).cells 1).toList++R.drop 7):=by
   show(A++R).take A.length++_++(A++R).drop (A.length+7)=_;rw[Gd,nz,jz];rfl
  rw[e];exact b.row
 ·rw[iu,m,nr];omega
def PA(w:World)(v:Value)(l:List Xw)(h:Own w 201 7 v l.length (Bc l))(hl:l.length<=100000)(i:Nat)(hi:i<l.length):
  Kp 101 #[v,.int .i64 i,.int .i64 (i+1)] w (RetN2 w v (l.take i++l.drop (i+1))):=by
 have k:(l.take i).length=i:=by rw[sy];omega
 have x:(l.drop (i+1)).length=l.length-(i+1):=nr
 have h0:=h
 rcases h.2 with⟨_,h'⟩|⟨g,b,d,A,R,rfl,Y,W,hn,H,hs⟩
 ·omega
 rw[Be] at hs
 have B:Bc l=Bc (l.take i)++(Xw.l l[i]++Bc (l.drop (i+1))):=by
  rw[←VN,←K9,List.getElem_cons_drop,List.take_append_drop]
 rw[B] at Y
 have hY:(Bc (l.drop (i+1))).length=(l.length-(i+1))*7:=by rw[Be,x]
 have I:Bk w.drew g 201 ((A++Bc (l.take i))++((Xw.l l[i]++Bc (l.drop (i+1)))++R)).toArray:=by
  have e:(A++Bc (l.take i))++((Xw.l l[i]++Bc (l.drop (i+1)))++R)=A++(Bc (l.take i)++(Xw.l l[i]++Bc (l.drop (i+1)))++R):=by simp only[jz]
  rw[e];exact Y.drew
 have C:(Xw.l l[i]).length=7:=rfl
 have y:∀j u,(Bc (l.drop (i+1)))[j]?=some u->w.drew.cell? ((⟨g,b+(i+1)*7,none⟩:Addr).add j)=some u:=λj u X=>by
  rw[nj,mf];refine Cl h0.drew ((i+1)*7+j) u ?_;rw[B,je (by rw[Be,k];omega),je (by rw[Be,k,C];omega),Be,k,C,show(i+1)*7+j-i*7-7=j from Zo];exact X
 have q:∀(a:Addr) (c:Nat),(a=⟨g,b+(i+1)*7,none⟩\/l.length=i+1)->∃r,(Builtin.append_ #[64,64] 64 #[.slice (some ⟨g,b,none⟩) i d,.slice (some a) (l.length-(i+1)) c]).run Tryz.prog w.drew=.ok (.slice (some ⟨g,b,none⟩) (i+(l.length-(i+1))) d) r/\
   Bk r g 201 ((A++Bc (l.take i))++(Bc (l.drop (i+1))++((Xw.l l[i]++Bc (l.drop (i+1)))++R).drop (Bc (l.drop (i+1))).length)).toArray/\w.drew.grownBy r (some g):=λa c ha=>by
  refine bP w.drew g b i d _ (Bc (l.drop (i+1))) _ I (by rw[iu,W,Be,k]) (by simp only[iu];omega) a (l.length-(i+1)) c hY Zo ?_ (ZZ _) 64
  rcases ha with rfl|ha
  ·exact y
  ·intro j u X;have:Bc (l.drop (i+1))=[]:=jr Zo;rw[this] at X;cases X
 have J:(((Xw.l l[i]++Bc (l.drop (i+1)))++R).drop (Bc (l.drop (i+1))).length).length=R.length+7:=by
  rw[nr,iu,iu];omega
 have o:∀r c,Bk r g 201 ((A++Bc (l.take i))++(Bc (l.drop (i+1))++((Xw.l l[i]++Bc (l.drop (i+1)))++R).drop (Bc (l.drop (i+1))).length)).toArray->∃E Z,(Builtin.clear_ #[64] 3 #[.slice (some ⟨g,b+(l.length-1)*7,none⟩) 1 c]).run Tryz.prog r=.ok (.tuple #[]) E/\
   Bk E g 201 (A++(Bc (l.take i++l.drop (i+1))++Z)).toArray/\Z.length=R.length+7/\r.grownBy E (some g):=λr c F=>by
  rw[←jz] at F
  obtain⟨E,Z,a1,a2,a3,a4⟩:=lR r g (b+(l.length-1)*7) c _ _ F (by simp only[iu,Be,k,x,W];omega) Zo 3
  refine⟨E,Z,a1,?_,a3.trans J,a4⟩
  rw[K9]
  simp only[jz] at a2 ⊢
  exact a2
 obtain⟨r,L,M,N⟩:=q (if d=i+1 then⟨g,b,none⟩ else⟨g,b+(i+1)*7,none⟩) (d-(i+1)) (by by_cases h:d=i+1;exact db Zo;rw[fw h];exact fq rfl)
 obtain⟨E,Z,O,P,hZ,Q⟩:=o r (d-(l.length-1)) M
 have z:(l.take i++l.drop (i+1)).length=l.length-1:=by rw[iu,k,x];omega
 have HF:=eR (fy P (fy hZ (fy (Em (Tx N) Q) (fy W (fy z hs)))))
 clear q o M P hZ N Q y I Y hY h h0 B x J W hs z
 have HL:=eR k;clear k
 have G:=eR L;have S:=eR O;clear L O
 simp only[maxLen] at H
 obtain⟨n,p⟩:∃n,l.length=n:=⟨_,rfl⟩
 have HN:=eR p
 rw[p] at G S hl hi hn ⊢
 clear p C
 obtain⟨m,rfl⟩:∃m,n=m+1:=⟨n-1,Zo⟩
 rw[show i+(m+1-(i+1))=m from Zo,show m+1-(i+1)=m-i from Zo] at G
 rw[show m+1-1=m from rfl] at S
 by_cases T:d=i+1
 ·obtain rfl:m=i:=Zo;subst T;rw[ga rfl,p9,p9] at G;rw[show m+1-m=1 from Zo] at S;go_enter Tryz.func101,Tryz.ntmps101;go_wp2_with fail;(refine Yh (λ_=>True) 8 Zk trivial (λU=>?_);((try simp only[ZL]);refine vT (fuel:=2) U [0,1,2,3,4,5] ?_;simp only[Yb,Xv,fs];(repeat go_big_quiet_step ((intro D;go_simp;first|done|rfl|exact⟨rfl,rfl⟩)));refine gw ?_;(try dsimp only));(refine Xn 6 Zk (λK hK=>?_);simp only[Xv,fs]);refine Yj Zr _ _ _ _ _ _ _ Zr Zr Zr G.out ?_;go_wp2_with fail;refine hK.out _ _ (λ_=>trivial) ?_;((try simp only[ZL]);refine vT (fuel:=0) U [7] ?_;simp only[Yb,Xv,fs];(repeat go_big_quiet_step ((intro D;go_simp;first|done|rfl|exact⟨rfl,rfl⟩)));refine gw ?_;(try dsimp only));refine Yk Zk ?_ _;go_wp2_with (refine Ij Zr _ _ _ _ Zr Zr S.out ?_);go_ret;have p:=HN.out;obtain⟨F,h2,h3,h4,V,h6⟩:=HF.out;refine⟨_,rfl,⟨Be _,.inr ⟨g,b,m+1,A,Z,?_,F,h4,?_,?_,?_⟩⟩,h3,λg' Br=>fq Br⟩;(· rw[V,p];rfl);(· omega);(· simp only[maxLen];omega);(· rw[Be,V,h2];omega))
 ·rw[fw T] at G;go_enter Tryz.func101,Tryz.ntmps101;go_wp2_with fail;(refine Yh (λ_=>True) 8 Zk trivial (λU=>?_);((try simp only[ZL]);refine vT (fuel:=2) U [0,1,2,3,4,5] ?_;simp only[Yb,Xv,fs];(repeat go_big_quiet_step ((intro D;go_simp;first|done|rfl|exact⟨rfl,rfl⟩)));refine gw ?_;(try dsimp only));(refine Xn 6 Zk (λK hK=>?_);simp only[Xv,fs]);refine Yj Zr _ _ _ _ _ _ _ Zr Zr Zr G.out ?_;go_wp2_with fail;refine hK.out _ _ (λ_=>trivial) ?_;((try simp only[ZL]);refine vT (fuel:=0) U [7] ?_;simp only[Yb,Xv,fs];(repeat go_big_quiet_step ((intro D;go_simp;first|done|rfl|exact⟨rfl,rfl⟩)));refine gw ?_;(try dsimp only));refine Yk Zk ?_ _;go_wp2_with (refine Ij Zr _ _ _ _ Zr Zr S.out ?_);go_ret;have p:=HN.out;obtain⟨F,h2,h3,h4,V,h6⟩:=HF.out;refine⟨_,rfl,⟨Be _,.inr ⟨g,b,d,A,Z,?_,F,h4,?_,?_,?_⟩⟩,h3,λg' Br=>fq Br⟩;(· rw[V,p];rfl);(· omega);(· simp only[maxLen];omega);(· rw[Be,V,h2];omega))
structure MR where
 R:Xd
 ns:List Xw
 ds:List Xw
 ss:List Xe
namespace MR
def wrap(M:MR)(R:Xd):MR:=bif R.step==0 then⟨R,M.ns,[],[]⟩ else⟨R,M.ns,M.ds,M.ss⟩
def scan(M:MR):MR:=M.wrap M.R.scan
def noted(M:MR):MR:=bif decide (M.R.most<=(M.ns.length:Int)) then M.scan else M.wrap M.R.done
def note(M:MR)(a b:Int):MR:={M with ns:=M.ns++[⟨Yx M.R.call.AU,a,b⟩]}
def retire(M:MR):MR:=bif M.R.Aa==2 then(M.note 0 0).noted else M.wrap M.R.Ki
def Ag(M:MR)(c:Xi):MR:=
 bif c.kind==10 then MR.retire ⟨M.R.A8 c,M.ns,[],[]⟩ else
 bif c.kind==11 then MR.scan ⟨M.R.A8 c,M.ns,[],[]⟩ else⟨M.R.Aw c,M.ns,[],[]⟩
def reap(M:MR):MR:=
 match M.ds with
 |[]=>M.wrap M.R.done
 |d::_=>{M with R:=M.R.ask 16 ⟨5,.zero,d.ref,.zero⟩}
def stays(M:MR):Xw->Bool:=
 bif M.R.Aa==2 then GQ M.ss else bif M.R.Aa==3 then tX (M.ss.map (·.nm)) else
 bif M.R.Aa==5 then gZ (M.ss.map Ei) else Cn M.R.clock.nm
def sift(M:MR):MR:=MR.reap {M with ds:=M.ns.filter λn=>!M.stays n}
def AQ(M:MR)(x:Xr):MR:=
 let M:={M with ss:=M.ss++[x.word]}
 bif (M.R.look (M.R.index+1)).2 then{M with R:=(M.R.look (M.R.index+1)).1} else
 bif !(M.R.Aa==4) then M.sift else
 bif CM M.R.clock.nm (M.ss.map Ei) then{M with R:=M.R.advance 14} else{M with R:=M.R.load 15 (root 24)}
def GN(M:MR):MR:=
 match M.ds with
 |[]=>M
 |d::ds=>MR.reap ⟨{M.R with A7:=wr (M.R.A7+1)},M.ns.erase d,ds,M.ss⟩
def Ah(M:MR)(x:Xr):MR:=
 let R:=M.R
 bif R.step==1 then M.wrap (R.finish x) else
 bif R.step==2 then M.wrap R.done else
 bif R.step==3 then M.wrap (R.DV 2 ⟨true,x.word.nm,x.word.nm⟩) else
 bif R.step==4 then M.wrap (R.Cw (([0,1,2,3,4,5,6,7,8]:List Int).filter λn=>decide (R.index<n))) else
 bif R.step==5 then M.wrap (R.FV x) else
 bif R.step==6 then M.wrap (R.Io x) else
 bif R.step==7 then M.wrap (R.load 5 R.call.AJ) else
 bif R.step==8 then M.wrap (R.ask 1 ⟨4,.zero,.zero,Y6 x.word.nm⟩) else
 bif R.step==9 then M.wrap (Xd.load {R with word:=x.word} 10 (root 24)) else
 bif R.step==10 then
  let M:=MR.note {M with R:={R with clock:=x.word}} R.word.nm x.word.nm
  bif R.dating then{M with R:=M.R.advance 11} else M.noted
 else
 bif R.step==11 then M.noted else
 bif R.step==12 then M.wrap (Xd.look {R with clock:=x.word} 0).1 else
 bif R.step==13 then M.AQ x else
 bif R.step==14 then M.wrap (R.load 15 (root 24)) else
 bif R.step==15 then MR.sift {M with R:={R with clock:=x.word}} else
 M.GN
end MR
inductive Xz where
 |pile (J:Xy)|Wu (J:Xx)|lit (J:Xf)|Lm (J:Xc)|N8 (J:Xa)
namespace Xz
def next:Xz->Xr->Xz × Xi
 |.pile J,x=>(.pile (J.next x).1,(J.next x).2)
 |.Wu J,x=>(.Wu (J.next x).1,(J.next x).2)
 |.lit J,x=>(.lit (J.next x).1,(J.next x).2)
 |.Lm J,x=>(.Lm (J.next x).1,(J.next x).2)
 |.N8 J,x=>(.N8 (J.next x).1,(J.next x).2)
def new(st:Int)(op:AV):Xz:=
 bif st==1 then .pile (.new op) else bif st==2 then .Wu (.new op) else bif st==3 then .lit (.from_ (root 0) op.key op) else
 bif st==4 then .Lm (.new op) else .N8 (.new op)
end Xz
structure MV where
 st:Int
 eng:Int
 Ac:Int
 call:Xi
 op:AV
 Bl:Option Xz
 BR:DI
 M:MR
def Y7:Xi:={Xi.zero with kind:=2}
def Zj:Xi:={Xi.zero with kind:=1}
def EI:Xi:={Xi.zero with kind:=11}
namespace MV
def Ef(V:MV):Bool:=!(V.M.R.step==0)
def busy(V:MV):Bool:=!(V.Ac==0)
def Ag(V:MV)(d:Int)(c:Xi):MV:={V with Ac:=d,call:=c,M:=V.M.Ag c}
def Hi(V:MV):MV:=
 bif V.Ac==1||V.Ac==2 then
  match V.Bl with
  |none=>V
  |some J=>
   let r:=J.next V.M.R.Az
   bif !(r.2.kind==12) then MV.Ag {V with Bl:=some r.1} 2 r.2 else
   MV.Ag {V with Bl:=some r.1,BR:=r.2.BR} 3 Y7
 else{V with Ac:=0}
def quiet(V:MV):Bool:=!(!(V.Ac==0)&&!V.Ef)
def Sb:Nat->MV->MV
 |0,V=>V
 |n+1,V=>bif V.quiet then V else Sb n V.Hi
def advance(V:MV):MV:=Sb 16 V
def GY(V:MV)(op:AV):MV:=(MV.Ag {V with op:=op,Bl:=some (Xz.new V.st op),BR:=.zero} 1 Zj).advance
def scan(V:MV):MV:=(MV.Ag {V with op:=.zero,Bl:=none,BR:=.zero} 4 EI).advance
def real(V:MV)(a:Bx):Int:=
 bif V.call.kind==6 then
  bif V.Ef then-1 else bif V.eng==3||V.eng==5 then 1 else 0
 else bif V.call.kind==8 then
  bif !(a.kind==4) then-1 else 0
 else bif V.call.kind==3||(V.call.kind==4||(V.call.kind==5||V.call.kind==9)) then 0 else-1
end MV
structure Hv where
 over:Bool
 BR:DI
 real:Int
namespace MV
def step(V:MV)(p:Pl):MV × Pl × Hv:=
 let r:=p.act V.M.R.AH
 let a:={V with M:=V.M.Ah r.2}
 let b:=a.advance
 (b,r.1,bif b.Ac==0 then⟨true,b.BR,a.real V.M.R.AH⟩ else⟨false,.zero,a.real V.M.R.AH⟩)
end MV
structure Yr where
 AW:Int
 uV:Bool
 op:AV
 real:Bool
 ends:Bool
 BR:DI
 deriving DecidableEq
def Yr.l(x:Yr):List Value:=[.int .i64 x.AW]++[.bool x.uV]++x.op.l++[.bool x.real]++[.bool x.ends]++x.BR.l
def Yr.zero:Yr:=⟨0,false,.zero,false,false,.zero⟩
structure MT where
 V:MV
 queue:List AV
 BK:Int
 last:Int
structure Aj where
 st:Int
 heap:Pl
 Av:List MT
 Ap:List Yr
namespace Aj
def has(P:Aj)(k:Int):Bool:=decide (0<=k)&&decide (k<(P.Av.length:Int))
def CO(T:MT):Bool:=!T.V.busy&&T.queue.isEmpty
def ready(T:MT):MT:=bif T.V.busy then T else match T.queue with
 |[]=>T
 |op::r=>{T with V:=T.V.GY op,queue:=r}
def DU(T:MT):AV:=bif T.V.busy then .zero else T.queue.headD .zero
def BV(P:Aj)(k:Nat)(T:MT):Aj × Yr:=
 let a:=ready T
 let r:=a.V.step P.heap
 let b:Yr:=⟨k,!T.V.busy,DU T,r.2.2.real==0,r.2.2.over,r.2.2.BR⟩
 let c:=bif r.2.2.real==1&&decide (0<=T.last) then P.Ap.modify T.last.toNat (λb=>{b with real:=true}) else P.Ap
 ({P with heap:=r.2.1,Av:=P.Av.set k {a with V:=r.1,last:=P.Ap.length},Ap:=c++[b]},b)
end Aj
structure Vw where
 root:Int->Xe
 AB:Int->Int
 held:Int->Prop
 cell:Int->Int->Xe
namespace Vw
def get(v:Vw)(a:Yc):Xe:=if a.sl=0 then v.root a.fd else v.cell a.sl a.fd
def put(v:Vw)(a:Yc)(w:Xe):Vw:=if a.sl=0 then{v with root:=Ar v.root a.fd w} else{v with cell:=Ar v.cell a.sl (Ar (v.cell a.sl) a.fd w)}
def take(v:Vw)(s g:Int):Vw:=⟨v.root,Ar v.AB s g,λt=>t=s\/v.held t,Ar v.cell s λ_=>.zero⟩
def drop(v:Vw)(s:Int):Vw:={v with held:=λt=>t≠s/\v.held t}
def Ad(v:Vw)(a:Yc):Prop:=(a.sl=0/\a.gn=0/\0<=a.fd/\a.fd<24)\/(a.sl≠0/\v.held a.sl/\a.gn=v.AB a.sl/\0<=a.fd/\a.fd<9)
def Rf(v:Vw)(w:Xe):Prop:=w.sl≠0/\v.held w.sl/\w.gn=v.AB w.sl
end Vw
section
variable{Q:DI->Vw->Prop}{a n m:Nat}{v:Vw}{J:Xz}{c:Xi}{s g f:Int}{w:Xe}
def Me(b:0<=f)(d:f<24):v.Ad (root f):=fq ⟨rfl,rfl,b,d⟩
def Bi(h:v.Rf w)(b:0<=f)(d:f<9):v.Ad (Xh w f):=db ⟨h.1,h.2.1,h.2.2,b,d⟩
def Bg:v.get (root f)=v.root f:=rfl
def Y3(h:w.sl≠0):v.get (Xh w f)=v.cell w.sl f:=fw h
def jM{x:Xe}(h:w.sl≠0):v.put (Xh w f) x={v with cell:=Ar v.cell w.sl (Ar (v.cell w.sl) f x)}:=fw h
def GF(w:Xe):B7 w w=true:=by simp[B7]
end
def Ic(v:Vw)(f:Int):Xe->List Int->Prop
 |w,[]=>w.sl=0
 |w,s::r=>w.sl=s/\v.Rf w/\Ic v f (v.cell s f) r
section
variable{v v':Vw}{f s g:Int}{w:Xe}{l:List Int}
def Ic.held(h:Ic v f w l):∀s∈l,s≠0/\v.held s:=by
 induction l generalizing w with
 |nil=>intro s hs;cases hs
 |cons a r d=>
  intro s hs;obtain⟨rfl,b,e⟩:=h;rcases gf.1 hs with rfl|hs
  ·exact⟨b.1,b.2.1⟩
  ·exact d e s hs
def Ic.same(h:Ic v f w l)(b:∀s∈l,v'.held s/\v'.AB s=v.AB s/\v'.cell s f=v.cell s f):Ic v' f w l:=by
 induction l generalizing w with
 |nil=>exact h
 |cons a r e=>
  obtain⟨rfl,d,i⟩:=h;obtain⟨j,k,o⟩:=b w.sl (g6 ..);exact⟨rfl,⟨d.1,j,d.2.2.trans k.symm⟩,by rw[o];exact e i λs p=>b s (gq _ p)⟩
def Ic.ref(h:Ic v f w l){w':Xe}(b:w'.sl=w.sl)(e:w'.gn=w.gn):Ic v f w' l:=by
 cases l with
 |nil=>exact b.trans h
 |cons a r=>obtain⟨rfl,d,i⟩:=h;exact⟨b,⟨by rw[b];exact d.1,by rw[b];exact d.2.1,by rw[e,b];exact d.2.2⟩,i⟩
end
def X9{a:Type}(f:Int->a)(i j:Int)(x:a):Ar f i x j=if j=i then x else f j:=by
 unfold Ar;by_cases h:j=i
 ·simp[h]
 ·rw[fw h,show(j==i)=false from by simp[h]];rfl
def Tl(f:Int)(AB:Int->Int):Yc->List Int->Yc
 |a,[]=>a
 |_,s::r=>Tl f AB ⟨s,AB s,f⟩ r
section
variable{v:Vw}{f:Int}{a b:Yc}{pre post l:List Int}{x w:Xe}{s:Int}
def DA(a b:Yc)(x:Xe):(v.put b x).get a=if a.sl=b.sl/\a.fd=b.fd then x else v.get a:=by
 unfold Vw.put Vw.get;by_cases c:b.sl=0
 ·rw[ga c];by_cases ha:a.sl=0
  ·rw[ga ha,ga ha];show Ar v.root b.fd x a.fd=_;rw[X9,ha,c];by_cases e:a.fd=b.fd
   ·rw[ga e,ga ⟨rfl,e⟩]
   ·rw[fw e,fw λh=>e h.2]
  ·rw[fw ha,fw ha,fw λh=>ha (h.1.trans c)]
 ·rw[fw c];by_cases ha:a.sl=0
  ·rw[ga ha,ga ha,fw λh=>c (h.1.symm.trans ha)]
  ·rw[fw ha,fw ha];show Ar v.cell b.sl (Ar (v.cell b.sl) b.fd x) a.sl a.fd=_;rw[X9];by_cases e:a.sl=b.sl
   ·rw[ga e,X9,e];by_cases d:a.fd=b.fd
    ·rw[ga d,ga ⟨rfl,d⟩]
    ·rw[fw d,fw λh=>d h.2]
   ·rw[fw e,fw λh=>e h.1]
def FY:(v.put b x).held=v.held:=by unfold Vw.put;split<;>rfl
def Y0:(v.put b x).AB=v.AB:=by unfold Vw.put;split<;>rfl
def Yv(s g:Int)(h:¬(s=b.sl/\g=b.fd)):(v.put b x).cell s g=v.cell s g:=by
 unfold Vw.put;by_cases c:b.sl=0
 ·rw[ga c]
 ·rw[fw c];show Ar v.cell b.sl (Ar (v.cell b.sl) b.fd x) s g=_;rw[X9];by_cases e:s=b.sl
  ·rw[ga e,X9,fw λd=>h ⟨e,d⟩,e]
  ·rw[fw e]
def Dk(h:w.sl≠0):(v.put (Xh w f) x).cell w.sl f=x:=by
 rw[jM h];show Ar v.cell w.sl (Ar (v.cell w.sl) f x) w.sl f=x;rw[X9,ga rfl,X9,ga rfl]
def rD:(v.put b x).Rf w↔v.Rf w:=by unfold Vw.Rf;rw[FY,Y0]
def BW(h:s≠0){g:Int}:v.get ⟨s,g,f⟩=v.cell s f:=fw h
def Tj:∀{pre:List Int} {a:Yc},Tl f v.AB a pre=a/\pre=[]\/(Tl f v.AB a pre).sl∈pre/\(Tl f v.AB a pre).fd=f/\(Tl f v.AB a pre).gn=v.AB (Tl f v.AB a pre).sl
 |[],_=>fq ⟨rfl,rfl⟩
 |s::r,a=>by
  rcases @Tj r ⟨s,v.AB s,f⟩ with⟨h,rfl⟩|h
  ·exact db ⟨g6 ..,rfl,rfl⟩
  ·exact db ⟨gq _ h.1,h.2⟩
def Tk(t:Int):∀{pre:List Int} {a:Yc},Tl f v.AB a (pre++[t])=⟨t,v.AB t,f⟩
 |[],_=>rfl
 |_::r,_=>Tk t (pre:=r)
def Ic.at_:∀{pre:List Int} {a:Yc},Ic v f (v.get a) (pre++post)->Ic v f (v.get (Tl f v.AB a pre)) post
 |[],_,h=>h
 |s::r,a,h=>by
  obtain⟨_,c,d⟩:=h;have e:s≠0:=by rename_i g;rw[←g];exact c.1
  exact Ic.at_ (pre:=r) (a:=⟨s,v.AB s,f⟩) (by rw[BW e];exact d)
def PQ:∀{pre:List Int} {a:Yc},Ic v f (v.get a) (pre++post)->(pre++post).Nodup->(a.sl≠0->a.fd=f->a.sl∉pre)->Ic (v.put (Tl f v.AB a pre) x) f x l->Ic (v.put (Tl f v.AB a pre) x) f ((v.put (Tl f v.AB a pre) x).get a) (pre++l)
 |[],a,_,_,_,d=>by
  show Ic _ f ((v.put a x).get a) l;rw[DA,ga ⟨rfl,rfl⟩];exact d
 |s::r,a,h,o,ha,d=>by
  obtain⟨k,g,m⟩:=h;have i:s≠0:=by rw[←k];exact g.1
  obtain⟨n1,n2⟩:=ja.1 o;have e:(v.put (Tl f v.AB a (s::r)) x).get a=v.get a:=by
   rw[DA,fw];rintro⟨c,j⟩;rcases @Tj v f r ⟨s,v.AB s,f⟩ with⟨h,u⟩|h
   ·have p:Tl f v.AB a (s::r)=⟨s,v.AB s,f⟩:=h;rw[p] at c j;have c:a.sl=s:=c;exact ha (by rw[c];exact i) j (by rw[c];exact g6 ..)
   ·have n:a.sl∈r:=by rw[c];exact h.1
    exact ha (fun q=>by
     have y:=g;have:(0:Int)∈r:=q▸n;exact(Ic.held m 0 (g8 _ this)).1 rfl) (j.trans h.2.1) (gq _ n)
  refine⟨?_,?_,?_⟩
  ·rw[e];exact k
  ·rw[e,rD];exact g
  ·have:=PQ (pre:=r) (a:=⟨s,v.AB s,f⟩) (by rw[BW i];exact m) n2 (λ_ _ t=>n1 (g8 _ t)) d;rw[BW i] at this;exact this
def Ic.take{g:Int}(h:Ic v f w l)(d:¬v.held s):Ic (v.take s g) f w l:=h.same λt c=>by
 have e:t≠s:=λe=>d (e▸(h.held t c).2);exact⟨db (h.held t c).2,by show Ar v.AB s g t=_;rw[X9,fw e],by show Ar v.cell s _ t f=_;rw[X9,fw e]⟩
def Ic.drop(h:Ic v f w l)(d:s∉l):Ic (v.drop s) f w l:=h.same λt c=>⟨⟨λe=>d (e▸c),(h.held t c).2⟩,rfl,rfl⟩
def Ke{g:Int}{t:Int}(h:t≠s):(v.take s g).cell t=v.cell t:=by show Ar v.cell s _ t=_;rw[X9,fw h]
def oN{g:Int}{k:Int}:(v.take s g).cell s k=.zero:=by show Ar v.cell s _ s k=_;rw[X9,ga rfl]
end
def Pl.BJ(p:Pl):Pl:={p with steps:=wr (p.steps+1)}
section
variable{p:Pl}{ad:Yc}{o w:Xe}
def TM(h:p.live ad.sl ad.gn=true):p.act ⟨1,ad,o,w⟩=(p.BJ,⟨p.get ad,true⟩):=by
 unfold Pl.act Pl.right Pl.touch;simp only[show((1:Int)==4)=false from rfl,show((1:Int)==5)=false from rfl,show((1:Int)==1)=true from rfl,i9,gx,show Pl.live {p with steps:=wr (p.steps+1)} ad.sl ad.gn=true from h,iv];rfl
def vG(h:p.live ad.sl ad.gn=true):p.act ⟨2,ad,o,w⟩=(p.BJ.put ad w,⟨.zero,true⟩):=by
 unfold Pl.act Pl.right Pl.touch;simp only[show((2:Int)==4)=false from rfl,show((2:Int)==5)=false from rfl,show((2:Int)==1)=false from rfl,show((2:Int)==3)=false from rfl,i9,gx,show Pl.live {p with steps:=wr (p.steps+1)} ad.sl ad.gn=true from h,iv];rfl
def vF(h:p.live ad.sl ad.gn=true)(a:B7 (p.get ad) o=true):p.act ⟨3,ad,o,w⟩=(p.BJ.put ad w,⟨p.get ad,true⟩):=by
 unfold Pl.act Pl.right Pl.touch;simp only[show((3:Int)==4)=false from rfl,show((3:Int)==5)=false from rfl,show((3:Int)==1)=false from rfl,show((3:Int)==3)=true from rfl,i9,gx,show Pl.live {p with steps:=wr (p.steps+1)} ad.sl ad.gn=true from h,iv,show B7 (Pl.get {p with steps:=wr (p.steps+1)} ad) o=true from a];rfl
def vJ(h:p.live o.sl o.gn=true):p.act ⟨5,ad,o,w⟩=({p.BJ with slot:=Ar p.slot o.sl {p.slot o.sl with used:=false},free:=p.free++[o.sl]},⟨.zero,true⟩):=by
 unfold Pl.act Pl.right;simp only[show((5:Int)==4)=false from rfl,show((5:Int)==5)=true from rfl,i9,gx,show Pl.live {p with steps:=wr (p.steps+1)} o.sl o.gn=true from h,iv];rfl
def vH{l:List Int}{m:Int}(h:p.free=l++[m]):p.act ⟨4,ad,o,w⟩=({p.BJ with free:=l,slot:=Ar p.slot m ⟨wr ((p.slot m).AB+1),true,Ar (λ_=>.zero) 9 (Y6 w.nm)⟩,made:=wr (p.made+1)},⟨⟨m,wr ((p.slot m).AB+1),0,0,false⟩,true⟩):=by
 have a:p.free.getLast?=some m:=by rw[h];simp
 have b:p.free.dropLast=l:=by rw[h];simp
 unfold Pl.act Pl.right;simp only[show((4:Int)==4)=true from rfl,i9,iv,gx];unfold Pl.alloc;simp only[a,b];rfl
def Nq(h:ad.sl=0):p.live ad.sl ad.gn=true:=by unfold Pl.live;rw[h];rfl
def To{s g:Int}(a:(p.slot s).used=true)(b:(p.slot s).AB=g):p.live s g=true:=by unfold Pl.live;rw[a,b];simp
def rN{a:Yc}(h:a.sl=0):p.get a=p.board a.fd:=by unfold Pl.get;rw[h];rfl
def jX{a:Yc}(h:a.sl≠0):p.get a=(p.slot a.sl).cell a.fd:=by unfold Pl.get;rw[show(a.sl==0)=false by simp[h]];rfl
def Ek{a:Yc}(h:a.sl=0):p.put a w={p with board:=Ar p.board a.fd w}:=by unfold Pl.put;rw[h];rfl
def Kl{a:Yc}(h:a.sl≠0):p.put a w={p with slot:=Ar p.slot a.sl {p.slot a.sl with cell:=Ar (p.slot a.sl).cell a.fd w}}:=by unfold Pl.put;rw[show(a.sl==0)=false by simp[h]];rfl
end
structure EM(ns:List Xw)(p:Pl)(v:Vw)(a b:Nat):Prop where
 ck:1<=(p.board 24).nm/\(p.board 24).nm+b<=1000000
 rt:∀r,0<=r->r<24->p.board r=v.root r
 hd:∀s,v.held s->s≠0/\(p.slot s).used=true/\(p.slot s).AB=v.AB s/\∀f,0<=f->f<9->(p.slot s).cell f=v.cell s f
 nt:∀m∈ns,m.ref.sl≠0/\(p.slot m.ref.sl).used=true/\(p.slot m.ref.sl).AB=m.ref.gn/\¬v.held m.ref.sl
 nd:(ns.map λm=>m.ref.sl).Nodup
 fu:∀x∈p.free,x≠0/\(p.slot x).used=false
 fd:p.free.Nodup
 fr:a<=p.free.length
section
variable{P:Nat->MR->Pl->Prop}{e:Int}{M:MR}{R:Xd}{p q:Pl}{v:Vw}{a b n:Nat}{c:Xi}{x:Xr}{AH:Bx}
def tk_1(h:M.R.step=1):M.Ah x=M.wrap (M.R.finish x):=by unfold MR.Ah;simp only[h];rfl
def vj(h:M.R.step=2):M.Ah x=M.wrap M.R.done:=by unfold MR.Ah;simp only[h];rfl
def tk_3(h:M.R.step=3):M.Ah x=M.wrap (M.R.DV 2 ⟨true,x.word.nm,x.word.nm⟩):=by unfold MR.Ah;simp only[h];rfl
def tk_5(h:M.R.step=5):M.Ah x=M.wrap (M.R.FV x):=by unfold MR.Ah;simp only[h];rfl
def B1(h:M.R.step=12):M.Ah x=M.wrap (Xd.look {M.R with clock:=x.word} 0).1:=by unfold MR.Ah;simp only[h];rfl
def B0(h:M.R.step=13):M.Ah x=M.AQ x:=by unfold MR.Ah;simp only[h];rfl
def zz(h:M.R.step=14):M.Ah x=M.wrap (M.R.load 15 (root 24)):=by unfold MR.Ah;simp only[h];rfl
def zy(h:M.R.step=15):M.Ah x=MR.sift {M with R:={M.R with clock:=x.word}}:=by unfold MR.Ah;simp only[h];rfl
def zx(h:M.R.step=16):M.Ah x=M.GN:=by unfold MR.Ah;simp only[h];rfl
def Ob{R':Xd}(h:R'.step=0):M.wrap R'=⟨R',M.ns,[],[]⟩:=by unfold MR.wrap;rw[h];rfl
def ul{R':Xd}{s:Int}(h:R'.step=s)(d:s≠0):M.wrap R'=⟨R',M.ns,M.ds,M.ss⟩:=by unfold MR.wrap;rw[h,show(s==0)=false by simp[d]];rfl
end
section
variable{P:Nat->MR->Pl->Prop}{e:Int}{M:MR}{R:Xd}{p q:Pl}{v:Vw}{a b n:Nat}{c:Xi}{x:Xr}{AH:Bx}
def TH(M:MR)(d:c.kind≠10)(f:c.kind≠11):M.Ag c=⟨M.R.Aw c,M.ns,[],[]⟩:=by
 unfold MR.Ag;rw[show(c.kind==10)=false by simp[d],show(c.kind==11)=false by simp[f]];rfl
def rh(d:c.kind=3):R.Aw c=(R.A8 c).load 1 c.AJ:=by unfold Xd.Aw;rw[d];rfl
def uW(d:c.kind=4):R.Aw c=(R.A8 c).ask 1 ⟨2,c.AJ,c.AU,c.new⟩:=by unfold Xd.Aw;rw[d];rfl
def rc(d:c.kind=5):R.Aw c=(R.A8 c).ask 1 ⟨3,c.AJ,c.AU,c.new⟩:=by unfold Xd.Aw;rw[d];rfl
def re(d:c.kind=6):R.Aw c=(R.A8 c).load 5 c.AJ:=by unfold Xd.Aw;rw[d];rfl
def ri(d:c.kind=7):R.Aw c=(R.A8 c).hold c.i c.j:=by unfold Xd.Aw;rw[d];rfl
def uX(d:c.kind=8):R.Aw c=(R.A8 c).alloc:=by unfold Xd.Aw;rw[d];rfl
def rj(d:c.kind=9):R.Aw c=(R.A8 c).ask 2 ⟨5,.zero,c.AU,.zero⟩:=by unfold Xd.Aw;rw[d];rfl
def eK{f:Int}{o w:Xe}:p.act ⟨2,⟨0,0,f⟩,o,w⟩=(p.BJ.put ⟨0,0,f⟩ w,⟨.zero,true⟩):=vG (Nq rfl)
def NZ{o w:Xe}:p.act ⟨1,root 24,o,w⟩=(p.BJ,⟨p.board 24,true⟩):=TM (Nq rfl)
end
