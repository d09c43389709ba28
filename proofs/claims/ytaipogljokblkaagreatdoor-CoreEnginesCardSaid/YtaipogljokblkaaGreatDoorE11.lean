/- Core: PV, VA, PJ, CPile, CCor, LA, LB, LC. -/
import Derived.Test.YtaipogljokblkaaGreatDoorE09
import Derived.Test.YtaipogljokblkaaGreatDoorE06
import Derived.Test.YtaipogljokblkaaGreatDoorE01
set_option linter.all false
set_option maxRecDepth 100000
set_option maxHeartbeats 8000000
namespace Go.Proofs.YtaipogljokblkaaGreatDoor
open Go Go.RowKit
set_option linter.unusedSimpArgs false
set_option linter.unusedVariables false
set_option linter.unusedSectionVars false
def OZ(n:Int):Int:=
 Int.tmod n 2*128+Int.tmod (Int.tdiv n 2) 2*64+Int.tmod (Int.tdiv n 4) 2*32+Int.tmod (Int.tdiv n 8) 2*16+
 Int.tmod (Int.tdiv n 16) 2*8+Int.tmod (Int.tdiv n 32) 2*4+Int.tmod (Int.tdiv n 64) 2*2+Int.tmod (Int.tdiv n 128) 2
def Gy(key:Int):Int:=bif decide (key<0)||decide (255<key) then-1 else 2*OZ key+1
def Yn(b:Int):Int:=bif decide (b<0)||decide (8<=b) then-1 else 2*OZ b
def Eh(b:Int):Int:=bif decide (4<=b) then b-4 else bif decide (2<=b) then b-2 else 0
def GX(wanted Am:Int):Int:=
 bif Eh wanted==Am then wanted else bif Eh (Eh wanted)==Am then Eh wanted else Eh (Eh wanted)
def Cf(n:Int):Int:=bif n==2 then 2 else bif n==4 then 4 else bif n==8 then 8 else 1
def FW(b:Int):X9:=root (wr (0+wr (8+b)))
namespace Xa
def new(op:A3):Xa:={Xa.zero with op:=op}
def done(J:Xa)(a:Yu):Xa × Xf:=({J with pc:=-1,last:=BK a.code a.val},BK a.code a.val)
def F9(J:Xa)(c:Xf):Xa × Xf:=
 bif !(c.kind==12) then(J,c) else
 let J:={J with answer:=c.A5}
 bif !(c.A5.code==1)||J.op.kind==8 then J.done c.A5 else({J with pc:=12},Yv (root 17))
def Jy(J:Xa)(x:Xj):Xa × Xf:=
 match J.inner with
 |none=>(J,Xf.zero)
 |some I=>Xa.F9 {J with inner:=some (I.next x).1} (I.next x).2
def perform(J:Xa):Xa × Xf:=
 Xa.Jy {J with inner:=some (Xh.from_ (Xg J.base 2) (Gy J.op.key) J.op),pc:=11} Xj.zero
def Ch(J:Xa):Xa × Xf:=
 bif J.Am==J.wanted then J.perform else({J with child:=GX J.wanted J.Am,pc:=3},Dd)
def Ck(J:Xa)(z:Int):Xa × Xf:=
 ({J with size:=z,wanted:=Int.tmod J.op.key z,Am:=Int.tmod J.op.key z,pc:=2},Yv (FW (Int.tmod J.op.key z)))
def sized(J:Xa)(x:Xj):Xa × Xf:=J.Ck (Cf x.word.nm)
def EF(J:Xa)(x:Xj):Xa × Xf:=
 bif !(x.word.sl==0) then Xa.Ch {J with base:=x.word} else
 bif J.Am==0 then J.done ⟨4,0⟩ else({J with Am:=Eh J.Am,pc:=2},Yv (FW (Eh J.Am)))
def Dn(J:Xa)(x:Xj):Xa × Xf:=
 let r:=DH J.walk x
 let J:={J with walk:=r.1}
 bif r.2.2 then(J,r.2.1) else
 bif JY J.walk then({J with sentinel:=Yt (Y9 J.walk),pc:=6},Kg J.node) else
 ({J with pc:=7},AV (Xg J.node 2) (Yt (Y9 J.walk)))
def Au(J:Xa):Xa:={J with walk:=some (Xm.new (Xg J.base 2) (Yn J.child)),pc:=5}
def Vg(J:Xa):Xa × Xf:=Xa.Ch {J with base:=J.sentinel,Am:=J.child}
def Al(J:Xa)(x:Xj):Xa × Xf:=
 bif J.pc==3 then
  bif !x.ok then J.perform else({J with node:=x.word,pc:=4},AV (Xg x.word 0) (Yy (Yn J.child)))
 else bif J.pc==8 then
  bif x.ok then({J with sentinel:=J.node,pc:=9},Yv (FW J.child)) else J.Au.Dn x
 else bif J.pc==4 then J.Au.Dn x
 else bif J.pc==5 then J.Dn x
 else bif J.pc==7 then({J with pc:=8},Y6 (CM J.walk) (Y9 J.walk) (En (Y9 J.walk) J.node))
 else bif J.pc==6 then({J with pc:=9},Yv (FW J.child))
 else bif J.pc==9 then
  bif x.word.sl==0 then({J with pc:=10},Y6 (FW J.child) x.word (En x.word J.sentinel)) else J.Vg
 else bif J.pc==10 then J.Vg
 else(J,J.last)
def GV(J:Xa)(x:Xj):Xa × Xf:=
 ({J with count:=x.word,pc:=13},Y6 (root 17) x.word (BP x.word (bif J.op.kind==7 then-1 else 1)))
def Ih(J:Xa)(x:Xj):Xa × Xf:=
 bif !x.ok then({J with pc:=12},Yv (root 17)) else
 bif J.op.kind==7 then J.done J.answer else bif J.size==8 then J.done J.answer else bif decide (J.count.nm<wr (2*J.size)) then J.done J.answer else
 ({J with pc:=14},Yv (root 16))
def DD(J:Xa)(x:Xj):Xa × Xf:=
 bif x.word.nm==J.size then({J with pc:=15},Y6 (root 16) x.word (BP x.word J.size)) else J.done J.answer
def next(J:Xa)(x:Xj):Xa × Xf:=
 bif J.pc==0 then({J with pc:=1},Yv (root 16))
 else bif J.pc==1 then J.sized x
 else bif J.pc==2 then J.EF x
 else bif J.pc==11 then J.Jy x
 else bif J.pc==12 then J.GV x
 else bif J.pc==13 then J.Ih x
 else bif J.pc==14 then J.DD x
 else bif J.pc==15 then J.done J.answer
 else bif J.pc==-1 then(J,J.last)
 else J.Al x
end Xa
def iE(n:Int)(w:World)(e:Ending)(w':World):Prop:=e=.returned (.int .i64 n)/\Below w.heap.size w w'
def uN(b:Int):Int:=bif decide (4<=b) then 3 else bif decide (2<=b) then 2 else bif decide (1<=b) then 1 else 0
theorem lN:((List.range 256).all λk=>decide (0<=OZ (k:Int)/\OZ (k:Int)<256))=true:=Zk
theorem Rw(b:Int)(h0:0<=b)(h1:b<256):0<=OZ b/\OZ b<256:=by
 have h:=List.all_eq_true.1 lN b.toNat (List.mem_range.2 Zo);have h2:=of_decide_eq_true h;rwa [show((b.toNat:Nat):Int)=b from by omega] at h2
theorem zU(n:Int)(h0:-9223372036854775808<=n)(h1:n<9223372036854775808):wr n=n:=IntWalk.i64_in _ ⟨h0,by omega⟩
def lenN(k:Nat):Int:=bif decide (128<=k) then 8 else bif decide (64<=k) then 7 else bif decide (32<=k) then 6 else bif decide (16<=k) then 5 else bif decide (8<=k) then 4 else bif decide (4<=k) then 3 else bif decide (2<=k) then 2 else bif decide (1<=k) then 1 else 0
theorem zN:((List.range 8).all λk=>decide (wrap64 (wrap64 (lenN k))=uN (k:Int)))=true:=Zk
theorem kH(T:ByteArray)(f:Nat->Int)(hs:T.size=256)(h:((List.range 256).all λk=>decide (((T.data.getD k 0).toNat:Int)=f k))=true)(k:Nat)(hk:k<256)(hh:k<T.size):((T[k]'hh).toNat:Int)=f k:=by
 have h1:=List.all_eq_true.1 h k (List.mem_range.2 hk);have h2:=of_decide_eq_true h1;rw[←h2];have h3:k<T.data.size:=hh;rw[Array.getD_eq_getD_getElem?,Array.getElem?_eq_getElem h3];rfl
theorem fJ(b:Int)(w:World)(h0:0<=b)(h1:b<8):Calls Tryz.prog 192 #[.int .u64 b] w (iE (uN b) w):=by
 have e1:(decide (4294967296<=b))=false:=by simp;omega
 have e2:(decide (65536<=b))=false:=by simp;omega
 have e3:(decide (256<=b))=false:=by simp;omega
 have e4:IntKind.u8.wrap b=b:=by unfold IntKind.wrap;simp[IntKind.bits,IntKind.signed];omega
 have e5:0<=b/\b<256:=Zo;go_enter Tryz.func192,Tryz.ntmps192;go_wp2_with fail;go_ret;refine⟨?_,Below.refl _ _⟩;clear e1 e2 e3 e4;obtain⟨k,rfl⟩:∃k:Nat,b=k:=⟨b.toNat,by omega⟩;refine(congrArg (λn:Int=>Ending.returned (.int .i64 (wrap64 (wrap64 n)))) (kH _ lenN Zk Zk k Zo _)).trans ?_;exact congrArg (λn:Int=>Ending.returned (.int .i64 n)) (of_decide_eq_true (List.all_eq_true.1 zN k (List.mem_range.2 Zo)))
theorem uM(b:Int)(w:World)(h0:0<=b)(h1:b<8):Calls Tryz.prog 186 #[.int .u64 b] w (iE (uN b) w):=by
 have e4:IntKind.u64.wrap b=b:=by unfold IntKind.wrap;simp[IntKind.bits,IntKind.signed];omega
 go_enter Tryz.func186,Tryz.ntmps186;go_wp2_with fail;refine(fJ _ w h0 h1).mono ?_;rintro e w1 ⟨rfl,hb⟩;go_wp2_with fail;go_ret;exact⟨rfl,hb⟩
theorem MP(b:Int)(w:World)(h0:0<=b)(h1:b<8):Calls Tryz.prog 182 #[.int .i64 b] w (iE (Eh b) w):=by
 have h:b=0\/b=1\/b=2\/b=3\/b=4\/b=5\/b=6\/b=7:=Zo;rcases h with rfl|rfl|rfl|rfl|rfl|rfl|rfl|rfl
 ·go_enter Tryz.func182,Tryz.ntmps182;go_wp2_with fail;go_ret;exact⟨by kernel_rfl,Below.refl _ _⟩
 all_goals
  go_enter Tryz.func182,Tryz.ntmps182
  go_wp2_with fail
  refine(uM _ w Zd Zd).mono ?_
  rintro e w1 ⟨rfl,hb⟩
  simp only[uN]
  go_wp2_with fail
  go_ret
  exact⟨by kernel_rfl,hb⟩
theorem lM(b:Int)(w:World)(h0:0<=b)(h1:b<256):Calls Tryz.prog 194 #[.int .u8 b] w (λe w'=>e=.returned (.int .u8 (OZ b))/\Below w.heap.size w w'):=by
 go_enter Tryz.func194,Tryz.ntmps194;go_wp2_with fail;go_ret;refine⟨?_,Below.refl _ _⟩;obtain⟨k,rfl⟩:∃k:Nat,b=k:=⟨b.toNat,by omega⟩;refine congrArg (λn:Int=>Ending.returned (.int .u8 n)) (?_:_=OZ (k:Int));exact kH _ (λk=>OZ (k:Int)) Zk Zk k Zo _
theorem Mo(b:Int)(w:World)(h0:0<=b)(h1:b<256):Calls Tryz.prog 193 #[.int .i64 b] w (iE (OZ b) w):=by
 have e4:IntKind.u8.wrap b=b:=by unfold IntKind.wrap;simp[IntKind.bits,IntKind.signed];omega
 go_enter Tryz.func193,Tryz.ntmps193;go_wp2_with fail;refine(lM _ w h0 h1).mono ?_;rintro e w1 ⟨rfl,hb⟩;have e5:=Rw b h0 h1;go_wp2_with fail;go_ret;exact⟨by simp,hb⟩
theorem PS(b:Int)(w:World)(h0:0<=b)(h1:b<256):Calls Tryz.prog 190 #[.int .i64 b] w (iE (Gy b) w):=by
 have d1:decide (b<0)=false:=by simp;omega
 have d2:decide (255<b)=false:=by simp;omega
 have e5:=Rw b h0 h1;unfold Gy;rw[d1,d2];go_enter Tryz.func190,Tryz.ntmps190;go_wp2_with fail;refine(Mo _ w h0 h1).mono ?_;rintro e w1 ⟨rfl,hb⟩;go_wp2_with fail;go_ret;exact⟨by simp,hb⟩
theorem Kw(b:Int)(w:World)(h0:0<=b)(h1:b<8):Calls Tryz.prog 189 #[.int .i64 b] w (iE (Yn b) w):=by
 have d1:decide (b<0)=false:=by simp;omega
 have d2:decide (8<=b)=false:=by simp;omega
 have e5:=Rw b h0 Zo;unfold Yn;rw[d1,d2];go_enter Tryz.func189,Tryz.ntmps189;go_wp2_with fail;refine(Mo _ w h0 Zo).mono ?_;rintro e w1 ⟨rfl,hb⟩;go_wp2_with fail;go_ret;exact⟨by simp,hb⟩
namespace Xk
def new(op:A3):Xk:={Xk.zero with op:=op}
def done(J:Xk)(code val:Int):Xk × Xf:=({J with pc:=-1,last:=BK code val},BK code val)
def push(J:Xk)(x:Xj):Xk × Xf:=
 if J.pc==0 then({J with pc:=1},Dd)
 else if J.pc==1 then
  if !x.ok then J.done 4 0 else({J with node:=x.word,pc:=2},AV (Xg x.word 1) (Yy J.op.val))
 else if J.pc==5 then
  if x.ok then J.done 1 0 else({J with pc:=3},Yv (root 0))
 else if J.pc==2 then({J with pc:=3},Yv (root 0))
 else if J.pc==3 then({J with Ss:=x.word,pc:=4},AV (Xg J.node 2) (Yt x.word))
 else if J.pc==4 then({J with pc:=5},Y6 (root 0) J.Ss (En J.Ss J.node))
 else(J,J.last)
def pop(J:Xk)(x:Xj):Xk × Xf:=
 if J.pc==3 then
  if x.ok then({J with pc:=4},Yv (Xg J.Ss 1)) else({J with pc:=1},AA (root 0) 0)
 else if J.pc==0 then({J with pc:=1},AA (root 0) 0)
 else if J.pc==1 then
  let J:={J with Ss:=x.word}
  if x.word.sl==0 then J.done 2 0 else
  if J.op.kind==3 then({J with pc:=4},Yv (Xg J.Ss 1)) else({J with pc:=2},Yv (Xg J.Ss 2))
 else if J.pc==2 then({J with pc:=3},Y6 (root 0) J.Ss (En J.Ss x.word))
 else if J.pc==4 then
  let J:={J with val:=x.word.nm}
  if J.op.kind==3 then J.done 1 J.val else({J with pc:=5},EC J.Ss)
 else if J.pc==5 then J.done 1 J.val
 else(J,J.last)
def next(J:Xk)(x:Xj):Xk × Xf:=if J.op.kind==1 then J.push x else J.pop x
end Xk
namespace Xt
def new(op:A3):Xt:={Xt.zero with op:=op}
def done(J:Xt)(code val:Int):Xt × Xf:=({J with pc:=-1,last:=BK code val},BK code val)
def enqueue(J:Xt)(x:Xj):Xt × Xf:=
 if J.pc==0 then({J with pc:=1},Dd)
 else if J.pc==1 then
  if !x.ok then J.done 4 0 else({J with node:=x.word,pc:=2},AV (Xg x.word 1) (Yy J.op.val))
 else if J.pc==3 then({J with t:=x.word,pc:=4},Yv (Xg x.word 2))
 else if J.pc==4 then({J with n:=x.word,pc:=5},Yv (root 1))
 else if J.pc==5 then
  if !Dm x.word J.t then({J with pc:=3},AA (root 1) 0) else
  if !(J.n.sl==0) then({J with pc:=6},Y6 (root 1) J.t (En J.t J.n)) else
  ({J with pc:=7},Y6 (Xg J.t 2) J.n (En J.n J.node))
 else if J.pc==7 then
  if x.ok then({J with pc:=8},Y6 (root 1) J.t (En J.t J.node)) else({J with pc:=3},AA (root 1) 0)
 else if J.pc==2 then({J with pc:=3},AA (root 1) 0)
 else if J.pc==6 then({J with pc:=3},AA (root 1) 0)
 else if J.pc==8 then J.done 1 0
 else(J,J.last)
def dequeue(J:Xt)(x:Xj):Xt × Xf:=
 if J.pc==1 then({J with h:=x.word,pc:=2},Yv (root 1))
 else if J.pc==2 then({J with t:=x.word,pc:=3},AA (Xg J.h 2) 1)
 else if J.pc==3 then({J with n:=x.word,pc:=4},Yv (root 0))
 else if J.pc==4 then
  if !Dm x.word J.h then({J with pc:=1},AA (root 0) 0) else
  if J.n.sl==0 then J.done 2 0 else
  if J.h.sl==J.t.sl then({J with pc:=5},Y6 (root 1) J.t (En J.t J.n)) else
  ({J with pc:=6},Yv (Xg J.n 1))
 else if J.pc==6 then({J with val:=x.word.nm,pc:=7},Y6 (root 0) J.h (En J.h J.n))
 else if J.pc==7 then
  if x.ok then({J with pc:=8},EC J.h) else({J with pc:=1},AA (root 0) 0)
 else if J.pc==0 then({J with pc:=1},AA (root 0) 0)
 else if J.pc==5 then({J with pc:=1},AA (root 0) 0)
 else if J.pc==8 then J.done 1 J.val
 else(J,J.last)
def next(J:Xt)(x:Xj):Xt × Xf:=if J.op.kind==4 then J.enqueue x else J.dequeue x
end Xt
def mK(J:Xk)(x:Xj):Env:=Il [J.ii,x.ii] [J.bb,x.bb]
def tU:St:=⟨[],[(1,175,(ct [vs 0 9,[.bool (.var 0)],vs 9 4,[.bool (.var 1)],vs 13 12,[.bool (.var 2)],vs 25 4,[.bool (.var 3),.int (.var 29)]]))],[],10,0⟩
def eO:List SV:=[.c (.ptr 1 0),.agg ((ct [vs 30 4,[.bool (.var 4),.bool (.var 5)]]))]
theorem mL(J:Xk)(x:Xj)(g1:Nat)(w:World)(h1:Bk w g1 175 J.l.toArray):Calls Tryz.prog 135 #[.pointer (some ⟨g1,0,none⟩),.agg x.l.toArray] w λen w'=>en=.returned (Yk (J.next x).2)/\Bk w' g1 175 ((J.next x).1.l).toArray/\Ak [g1] w w':=by
 refine p1 (mK J x) [] 60 tU eO (J.next x) (λr=>(Yk r.2,(r.1.l).toArray)) Xu BY h1 ?_;exact vS1
def vG(J:Xt)(x:Xj):Env:=Il [J.ii,x.ii] [J.bb,x.bb]
def cor_st:St:=⟨[],[(1,179,(ct [vs 0 9,[.bool (.var 0)],vs 9 4,[.bool (.var 1)],vs 13 12,[.bool (.var 2)],vs 25 4,[.bool (.var 3)],vs 29 4,[.bool (.var 4)],vs 33 4,[.bool (.var 5),.int (.var 37)]]))],[],10,0⟩
def pD:List SV:=[.c (.ptr 1 0),.agg ((ct [vs 38 4,[.bool (.var 6),.bool (.var 7)]]))]
theorem vH(J:Xt)(x:Xj)(g1:Nat)(w:World)(h1:Bk w g1 179 J.l.toArray):Calls Tryz.prog 145 #[.pointer (some ⟨g1,0,none⟩),.agg x.l.toArray] w λen w'=>en=.returned (Yk (J.next x).2)/\Bk w' g1 179 ((J.next x).1.l).toArray/\Ak [g1] w w':=by
 refine p1 (vG J x) [] 60 cor_st pD (J.next x) (λr=>(Yk r.2,(r.1.l).toArray)) Xu BY h1 ?_;exact vS1
def CE(n:Nat)(w:Xe):Prop:=0<=w.sl/\w.sl<=n/\(w.sl=0->w.gn=0)
def CD(n:Nat)(w:Xe):Prop:=1<=w.sl/\w.sl<=n
def qZ(n:Nat)(a:X9):Prop:=1<=a.sl/\a.sl<=n/\0<=a.fd/\a.fd<10
def IP(n:Nat)(a:X9):Prop:=qZ n a\/(a.sl=0/\a.gn=0/\0<=a.fd/\a.fd<24)
def CP(st:Int)(n:Nat)(a:X9)(w:Xe):Prop:=CE n w/\(st=2->a.sl=0->a.fd=0->CD n w)
def Sn(c:Xf):Prop:=(c.i=2/\c.j=1)\/(c.i=1/\c.j=0)\/(c.i=5/\c.j=4)\/(c.i=4/\c.j=3)\/(c.i=8/\c.j=7)\/(c.i=7/\c.j=6)\/(c.i=2/\c.j=5)\/(c.i=5/\c.j=8)
def JV(st:Int)(n:Nat)(c:Xf):Prop:=
 (c.kind=3/\IP n c.Ay)\/(c.kind=4/\qZ n c.Ay/\CE n c.new/\c.new.tg=0)\/
 (c.kind=5/\IP n c.Ay/\CP st n c.Ay c.new/\c.new.tg=wr (c.Bb.tg+1))\/
 (c.kind=6/\IP n c.Ay/\0<=c.i/\c.i<9/\c.j=0)\/(c.kind=7/\Sn c)\/c.kind=8\/(c.kind=9/\CD n c.Bb)\/(c.kind=10/\CD n c.Bb)\/c.kind=12
def OU(st:Int)(n:Nat)(c:Xf)(x:Xj):Prop:=
 CE n x.word/\(c.kind=8->x.ok=true->CD n x.word)/\(st=2->(c.kind=3\/c.kind=6)->c.Ay.sl=0->c.Ay.fd=0->CD n x.word)
section
variable{st:Int}{n:Nat}{a:X9}{w o m:Xe}{i:Int}
theorem Bl(h:IP n a):JV st n (Yv a):=Or.inl ⟨rfl,h⟩
theorem Gk(h:qZ n a)(h1:CE n w)(h2:w.tg=0:=by rfl):JV st n (AV a w):=Or.inr (Or.inl ⟨rfl,h,h1,h2⟩)
theorem Dz{v:Int}(h:qZ n a):JV st n (AV a (Yy v)):=Or.inr (Or.inl ⟨rfl,h,⟨Int.le_refl 0,Int.natCast_nonneg n,λ_=>rfl⟩,rfl⟩)
theorem Dy(h:qZ n a)(h1:CE n w):JV st n (AV a (Yt w)):=Or.inr (Or.inl ⟨rfl,h,h1,rfl⟩)
theorem Bx(h:IP n a)(h1:CP st n a m)(h2:m.tg=wr (o.tg+1)):JV st n (Y6 a o m):=Or.inr (Or.inr (Or.inl ⟨rfl,h,h1,h2⟩))
theorem BJ(h:IP n a)(h1:0<=i)(h2:i<9):JV st n (AA a i):=Or.inr (Or.inr (Or.inr (Or.inl ⟨rfl,h,h1,h2,rfl⟩)))
theorem J2{j:Int}(h:Sn (FD i j)):JV st n (FD i j):=Or.inr (Or.inr (Or.inr (Or.inr (Or.inl ⟨rfl,h⟩))))
theorem D0:JV st n (FD 2 1):=J2 (Or.inl ⟨rfl,rfl⟩)
theorem D8:JV st n (FD 1 0):=J2 (Or.inr (Or.inl ⟨rfl,rfl⟩))
theorem CZ:JV st n Dd:=Or.inr (Or.inr (Or.inr (Or.inr (Or.inr (Or.inl rfl)))))
theorem DO(h:CD n w):JV st n (Kg w):=Or.inr (Or.inr (Or.inr (Or.inr (Or.inr (Or.inr (Or.inl ⟨rfl,h⟩))))))
theorem CL(h:CD n w):JV st n (EC w):=Or.inr (Or.inr (Or.inr (Or.inr (Or.inr (Or.inr (Or.inr (Or.inl ⟨rfl,h⟩)))))))
theorem DP{c v:Int}:JV st n (BK c v):=Or.inr (Or.inr (Or.inr (Or.inr (Or.inr (Or.inr (Or.inr (Or.inr rfl)))))))
theorem Jo:(Yv a).kind=3:=rfl
theorem GQ:(AV a w).kind=4:=rfl
theorem Jn:(Y6 a o m).kind=5:=rfl
theorem Ej:(AA a i).kind=6:=rfl
theorem Jp{j:Int}:(FD i j).kind=7:=rfl
theorem Gc:Dd.kind=8:=rfl
theorem Jq:(Kg w).kind=9:=rfl
theorem F0:(EC w).kind=10:=rfl
theorem Jr{c v:Int}:(BK c v).kind=12:=rfl
theorem Yr:CE n Xe.zero:=⟨Int.le_refl 0,Int.natCast_nonneg n,λ_=>rfl⟩
theorem Cd{k:Int}:CE n (Yy k):=⟨Int.le_refl 0,Int.natCast_nonneg n,λ_=>rfl⟩
theorem Cs{k:Int}:CE n (BP w k):=⟨Int.le_refl 0,Int.natCast_nonneg n,λ_=>rfl⟩
theorem DU(h:CE n w):CE n (Yt w):=h
theorem DX(h:CE n w):CE n (En o w):=h
theorem CG(h:CE n w):CE n (Ff w):=h
theorem FX(h:CD n w):CD n (Yt w):=h
theorem IQ(h:CD n w):CD n (En o w):=h
theorem Eu(h:CD n w):CE n w:=⟨by have:=h.1;omega,h.2,λe=>by have:=h.1;omega⟩
theorem DT(h:CE n w)(h1:¬w.sl=0):CD n w:=⟨by have:=h.1;omega,h.2.1⟩
theorem DV(h:qZ n a):IP n a:=Or.inl h
theorem Bm{k:Int}(h:CD n w)(h0:0<=k)(h1:k<10):qZ n (Xg w k):=⟨h.1,h.2,h0,h1⟩
theorem Y3{k:Int}(h:CE n w)(h0:0<=k)(h1:k<10):IP n (Xg w k):=by
 by_cases e:w.sl=0
 ·exact Or.inr ⟨e,h.2.2 e,h0,Int.lt_of_lt_of_le h1 Zo⟩
 ·exact Or.inl (Bm (DT h e) h0 h1)
theorem Bf{k:Int}(h0:0<=k)(h1:k<24):IP n (root k):=Or.inr ⟨rfl,rfl,h0,h1⟩
theorem EK(h:st≠2)(h1:CE n w):CP st n a w:=⟨h1,λe=>absurd e h⟩
theorem M4(h1:CD n w):CP st n a w:=⟨Eu h1,λ_ _ _=>h1⟩
theorem J1(h:¬a.fd=0)(h1:CE n w):CP st n a w:=⟨h1,λ_ _ e=>absurd e h⟩
theorem Mj:(En o w).tg=wr (o.tg+1):=rfl
theorem Ee:(Ff o).tg=wr (o.tg+1):=rfl
theorem Fy{k:Int}:(BP o k).tg=wr (o.tg+1):=rfl
theorem GR{k:Int}:(Xg w k).fd=k:=rfl
theorem Jz{k:Int}:(root k).fd=k:=rfl
theorem IY{k:Int}:(root k).sl=0:=rfl
theorem El:(AA a i).Ay=a:=rfl
theorem J7:(Yv a).Ay=a:=rfl
end
def OK(n:Nat)(J:Xk)(c:Xf):Prop:=
 CE n J.Ss/\(J.pc=-1\/(0<=J.pc/\J.pc<=5))/\(J.pc=-1↔c.kind=12)/\
 (J.op.kind=1->(J.pc=1->c.kind=8)/\(2<=J.pc->CD n J.node))/\(J.op.kind≠1->2<=J.pc->CD n J.Ss)
theorem tV{st:Int}{n:Nat}{J:Xk}{c:Xf}{x:Xj}(hst:st≠2)(h:OK n J c)(hc:c.kind≠12)(hx:OU st n c x):OK n (J.next x).1 (J.next x).2/\JV st n (J.next x).2:=by
 obtain⟨pc,last,op,node,Ss,val⟩:=J;simp only[OK,OU] at h hx;generalize hr:Xk.next ⟨pc,last,op,node,Ss,val⟩ x=r;simp only[Xk.next,Xk.push,Xk.pop,Xk.done] at hr;(repeat' split at hr)<;>(subst hr;grind [OK,Bl,Dz,Dy,Bx,BJ,D0,D8,CZ,DO,CL,DP,Jo,GQ,Jn,Ej,Jp,Gc,Jq,F0,Jr,Yr,Cd,Cs,DU,DX,CG,FX,IQ,Eu,DT,DV,Bm,Y3,Bf,EK,M4,J1,Mj,Ee,Fy,GR,Jz,IY,El,J7])
def YK(n:Nat)(J:Xt)(c:Xf):Prop:=
 CE n J.t/\CE n J.n/\CE n J.h/\(J.pc=-1\/(0<=J.pc/\J.pc<=8))/\(J.pc=-1↔c.kind=12)/\
 (J.op.kind=4->(J.pc=1->c.kind=8)/\(2<=J.pc->CD n J.node))/\
 (J.op.kind≠4->(J.pc=1->c.kind=6/\c.Ay=root 0)/\(2<=J.pc->J.pc≠5->CD n J.h)/\(6<=J.pc->CD n J.n))
theorem cor_ok{n:Nat}{J:Xt}{c:Xf}{x:Xj}(h:YK n J c)(hc:c.kind≠12)(hx:OU 2 n c x):YK n (J.next x).1 (J.next x).2/\JV 2 n (J.next x).2:=by
 obtain⟨pc,last,op,node,hh,t,nn,val⟩:=J;simp only[YK,OU] at h hx;have hp:pc=-1\/pc=0\/pc=1\/pc=2\/pc=3\/pc=4\/pc=5\/pc=6\/pc=7\/pc=8:=Zo;have hn:pc≠-1:=λe=>hc (h.2.2.2.2.1.1 e);generalize hr:Xt.next _ x=r;by_cases hk:op.kind=4<;>(rcases hp with rfl|rfl|rfl|rfl|rfl|rfl|rfl|rfl|rfl|rfl)<;>simp only[Xt.next,Xt.enqueue,Xt.dequeue,Xt.done,beq_iff_eq,hk,Int.reduceEq,Int.reduceNeg,if_true,if_false,↓reduceIte] at hr<;>(repeat' split at hr)<;>
  first|exact absurd rfl hn|(subst hr;grind [YK,Bl,Dz,Dy,Bx,BJ,D0,D8,CZ,DO,CL,DP,Jo,GQ,Jn,Ej,Jp,Gc,Jq,F0,Jr,Yr,Cd,Cs,DU,DX,CG,FX,IQ,Eu,DT,DV,Bm,Y3,Bf,EK,M4,J1,Mj,Ee,Fy,GR,Jz,IY,El,J7])
def OH(n:Nat)(W:Xm):Prop:=
 IP n W.start/\IP n W.prev/\CE n W.cur/\CE n W.next/\(W.pc=-1\/(0<=W.pc/\W.pc<=8))/\(2<=W.pc->CD n W.cur)/\(W.found=true->W.pc=-1/\CD n W.cur)
theorem iM{n:Nat}{a:X9}{k:Int}(h:IP n a):OH n (Xm.new a k):=by
 grind [OH,Xm.new,Xm.zero,CE,Xe.zero]
theorem rJ{st:Int}{n:Nat}{W:Xm}{x:Xj}(hst:st≠2)(h:OH n W)(hp:W.pc≠-1)(hx:CE n x.word):
  OH n (W.step x).1/\((W.step x).2.2=true->JV st n (W.step x).2.1/\(W.step x).2.1.kind≠12/\(W.step x).1.pc≠-1/\(W.step x).1.found=false)/\((W.step x).2.2=false->(W.step x).1.pc=-1):=by
 obtain⟨pc,last,start,key,prev,cur,next,k,found⟩:=W
 simp only[OH] at h
 generalize hr:Xm.step ⟨pc,last,start,key,prev,cur,next,k,found⟩ x=r
 simp only[Xm.step,Xm.again,Xm.behind,Xm.finish,Xm.on] at hr
 (repeat' split at hr)<;>(subst hr;grind [OH,Bl,Dz,Dy,Bx,BJ,D0,D8,CZ,DO,CL,DP,Jo,GQ,Jn,Ej,Jp,Gc,Jq,F0,Jr,Yr,Cd,Cs,DU,DX,CG,FX,IQ,Eu,DT,DV,Bm,Y3,Bf,EK,M4,J1,Mj,Ee,Fy,GR,Jz,IY,El,J7])
def Ll(n:Nat)(o:Option Xm):Prop:=∀W,o=some W->OH n W
def OI(o:Option Xm):Prop:=JY o=true
def GD(o:Option Xm):Prop:=∃W,o=some W/\W.pc≠-1
def IM(n:Nat)(J:Xh)(c:Xf):Prop:=
 IP n J.start/\Ll n J.walk/\(J.pc=-1\/(0<=J.pc/\J.pc<=7))/\(J.pc=-1↔c.kind=12)/\(J.op.kind=6\/J.op.kind=7\/J.op.kind=8)/\
 (J.op.kind=6->(J.pc=1->c.kind=8)/\(2<=J.pc->CD n J.node)/\(J.pc=4->GD J.walk))/\
 (J.op.kind=7->J.pc<=6/\(J.pc=1\/J.pc=6->GD J.walk)/\(2<=J.pc->J.pc<=5->OI J.walk))/\
 (J.op.kind=8->J.pc<=2/\(J.pc=1->GD J.walk)/\(J.pc=2->OI J.walk))
theorem K7{st:Int}{n:Nat}{o:Option Xm}{x:Xj}(hst:st≠2)(h:Ll n o)(hp:GD o)(hx:CE n x.word):
  Ll n (DH o x).1/\((DH o x).2.2=true->JV st n (DH o x).2.1/\(DH o x).2.1.kind≠12/\GD (DH o x).1):=by
 obtain⟨W,rfl,hpc⟩:=hp
 have hw:=rJ hst (h W rfl) hpc hx
 refine⟨λW' e=>?_,λe=>?_⟩
 ·cases e;exact hw.1
 ·exact⟨(hw.2.1 e).1,(hw.2.1 e).2.1,_,rfl,(hw.2.1 e).2.2.1⟩
theorem EP{n:Nat}{o:Option Xm}(h:Ll n o):CE n (Y9 o)/\CE n (Io o)/\IP n (CM o)/\(OI o->CD n (Y9 o)):=by
 cases o with
 |none=>exact⟨Yr,Yr,Bf (k:=0) Zo Zo,λe=>by cases e⟩
 |some W=>have:=h W rfl;exact⟨this.2.2.1,this.2.2.2.1,this.2.1,λe=>(this.2.2.2.2.2.2 e).2⟩
theorem Pt{n:Nat}{a:X9}{k:Int}(h:IP n a):Ll n (some (Xm.new a k))/\GD (some (Xm.new a k)):=
 ⟨λW e=>by cases e;exact iM h,_,rfl,by simp[Xm.new,Xm.zero]⟩
theorem zP{st:Int}{n:Nat}{J:Xh}{x:Xj}(hst:st≠2)(ha:IP n J.start)(hk:J.op.kind=6)(hn:CD n J.node)(hw:Ll n J.walk)(ho:GD J.walk)(h4:J.pc=4)(hx:CE n x.word):IM n (J.Cr x).1 (J.Cr x).2/\JV st n (J.Cr x).2:=by
 obtain⟨h1,h2⟩:=K7 (x:=x) hst hw ho hx;obtain⟨pc,last,start,key,op,walk,node,val⟩:=J;generalize hr:Xh.Cr _ x=r;simp only[Xh.Cr] at hr h1 h2 ha hk hn h4;generalize DH walk x=s at hr h1 h2;obtain⟨o,c,b⟩:=s;have hc:=EP h1;simp only at hr h1 h2 hc;(repeat' split at hr)<;>(subst hr;grind [IM,Bl,Dz,Dy,Bx,BJ,D0,D8,CZ,DO,CL,DP,Jo,GQ,Jn,Ej,Jp,Gc,Jq,F0,Jr,Yr,Cd,Cs,DU,DX,CG,FX,IQ,Eu,DT,DV,Bm,Y3,Bf,EK,M4,J1,Mj,Ee,Fy,GR,Jz,IY,El,J7])
theorem yQ{st:Int}{n:Nat}{J:Xh}{x:Xj}(hst:st≠2)(ha:IP n J.start)(hk:J.op.kind=7\/J.op.kind=8)(hw:Ll n J.walk)(ho:GD J.walk)(h4:J.pc=1)(hx:CE n x.word):IM n (J.BB x).1 (J.BB x).2/\JV st n (J.BB x).2:=by
 obtain⟨h1,h2⟩:=K7 (x:=x) hst hw ho hx;obtain⟨pc,last,start,key,op,walk,node,val⟩:=J;generalize hr:Xh.BB _ x=r;simp only[Xh.BB,Xh.done] at hr h1 h2 ha hk h4;generalize DH walk x=s at hr h1 h2;obtain⟨o,c,b⟩:=s;have hc:=EP h1;simp only at hr h1 h2 hc;(repeat' split at hr)<;>(subst hr;grind [IM,OI,Bl,Dz,Dy,Bx,BJ,D0,D8,CZ,DO,CL,DP,Jo,GQ,Jn,Ej,Jp,Gc,Jq,F0,Jr,Yr,Cd,Cs,DU,DX,CG,FX,IQ,Eu,DT,DV,Bm,Y3,Bf,EK,M4,J1,Mj,Ee,Fy,GR,Jz,IY,El,J7])
theorem tI{st:Int}{n:Nat}{J:Xh}{x:Xj}(hst:st≠2)(ha:IP n J.start)(hk:J.op.kind=7)(hw:Ll n J.walk)(ho:GD J.walk)(h4:J.pc=6)(hx:CE n x.word):IM n (J.CQ x).1 (J.CQ x).2/\JV st n (J.CQ x).2:=by
 obtain⟨h1,h2⟩:=K7 (x:=x) hst hw ho hx;obtain⟨pc,last,start,key,op,walk,node,val⟩:=J;generalize hr:Xh.CQ _ x=r;simp only[Xh.CQ,Xh.done] at hr h1 h2 ha hk h4;generalize DH walk x=s at hr h1 h2;obtain⟨o,c,b⟩:=s;have hc:=EP h1;simp only at hr h1 h2 hc;(repeat' split at hr)<;>(subst hr;grind [IM,OI,Bl,Dz,Dy,Bx,BJ,D0,D8,CZ,DO,CL,DP,Jo,GQ,Jn,Ej,Jp,Gc,Jq,F0,Jr,Yr,Cd,Cs,DU,DX,CG,FX,IQ,Eu,DT,DV,Bm,Y3,Bf,EK,M4,J1,Mj,Ee,Fy,GR,Jz,IY,El,J7])
theorem nP{st:Int}{n:Nat}{J:Xh}{c:Xf}{x:Xj}(hst:st≠2)(h:IM n J c)(hc:c.kind≠12)(hx:OU st n c x):IM n (J.next x).1 (J.next x).2/\JV st n (J.next x).2:=by
 obtain⟨ha,hw,hp,hpc,hk,h6,h7,h8⟩:=h;have hcu:=EP hw;have hsk:=@Pt n J.start J.key ha;have hn:J.pc≠-1:=λe=>hc (hpc.1 e);have hp':J.pc=0\/J.pc=1\/J.pc=2\/J.pc=3\/J.pc=4\/J.pc=5\/J.pc=6\/J.pc=7:=Zo;have i1:=λ(J:Xh)=>@zP st n J x hst;have i2:=λ(J:Xh)=>@yQ st n J x hst;have i3:=λ(J:Xh)=>@tI st n J x hst;have i1J:=i1 J;have i2J:=i2 J;have i3J:=i3 J;have i1S:=i1 (J.Au 4);have i2S:=i2 (J.Au 1);have i3S:=i3 (J.Au 6);clear i1 i2 i3;obtain⟨pc,last,start,key,op,walk,node,val⟩:=J;obtain⟨hx1,hx2,-⟩:=hx;simp only[Xh.Au] at*;generalize hr:Xh.next _ x=r;rcases hk with hk|hk|hk<;>(rcases hp' with rfl|rfl|rfl|rfl|rfl|rfl|rfl|rfl)<;>
  simp only[Xh.next,Xh.insert,Xh.A6,Xh.get,Xh.done,Xh.Au,beq_iff_eq,hk,Int.reduceEq,Int.reduceNeg,if_true,if_false,↓reduceIte] at hr<;>(repeat' split at hr)<;>
  (subst hr;first
   |(exfalso;omega)
   |exact i1S ha hk ((h6 hk).2.1 Zd) hsk.1 hsk.2 (by trivial) hx1
   |exact i1J ha hk ((h6 hk).2.1 Zd) hw ((h6 hk).2.2 rfl) (by trivial) hx1
   |exact i2S ha (by rw[hk];decide) hsk.1 hsk.2 (by trivial) hx1
   |exact i2J ha (by rw[hk];decide) hw (by grind) (by trivial) hx1
   |exact i3S ha hk hsk.1 hsk.2 (by trivial) hx1
   |exact i3J ha hk hw (by grind) (by trivial) hx1
   |(clear i1J i2J i3J i1S i2S i3S hsk;clear hw;grind [IM,Bl,Dz,Dy,Bx,BJ,D0,D8,CZ,DO,CL,DP,Jo,GQ,Jn,Ej,Jp,Gc,Jq,F0,Jr,Yr,Cd,Cs,DU,DX,CG,FX,IQ,Eu,DT,DV,Bm,Y3,Bf,EK,M4,J1,Mj,Ee,Fy,GR,Jz,IY,El,J7])
   |(clear i1J i2J i3J i1S i2S i3S hsk;grind [IM,Bl,Dz,Dy,Bx,BJ,D0,D8,CZ,DO,CL,DP,Jo,GQ,Jn,Ej,Jp,Gc,Jq,F0,Jr,Yr,Cd,Cs,DU,DX,CG,FX,IQ,Eu,DT,DV,Bm,Y3,Bf,EK,M4,J1,Mj,Ee,Fy,GR,Jz,IY,El,J7]))
theorem Sx{n:Int}(h0:-9223372036854775808<=n)(h1:n<9223372036854775808):wr n=n:=IntWalk.i64_in _ ⟨h0,by omega⟩
def M9(n:Nat)(s:Bq):Prop:=IP n s.prev/\CE n s.cur
structure J8(n:Nat)(C:Xd):Prop where
 spot:M9 n C.spot
 nx:CE n C.next
 s0:M9 n C.s0
 s1:M9 n C.s1
 s2:M9 n C.s2
 fd:CE n C.found
 lv:C.level=0\/C.level=1\/C.level=2
structure Sq(n:Nat)(C:Xd):Prop where
 b:J8 n C
 pc:C.pc=-1\/C.pc=0\/(2<=C.pc/\C.pc<=9)
 on:3<=C.pc->C.pc<=8->CD n C.spot.cur
theorem ES{n:Nat}:M9 n Bq.zero:=⟨Bf (k:=0) Zo Zo,Yr⟩
theorem gK{n:Nat}{b:Int}:Sq n (Xd.new b):=
 ⟨⟨ES,Yr,ES,ES,ES,Yr,Or.inl rfl⟩,Or.inr (Or.inl rfl),λh=>by simp[Xd.new,Xd.zero] at h⟩
def Mf(st:Int)(n:Nat)(r:Xd × Xf × Bool):Prop:=
 Sq n r.1/\(r.2.2=true->JV st n r.2.1/\r.2.1.kind≠12/\r.1.pc≠-1)/\(r.2.2=false->r.1.pc=-1)
section
variable{st:Int}{n:Nat}{C:Xd}{x:Xj}
theorem J4(h:J8 n C):Mf st n C.enter:=by
 have hl:=h.lv;refine⟨⟨⟨h.spot,h.nx,h.s0,h.s1,h.s2,h.fd,h.lv⟩,Or.inr (Or.inr ⟨Int.le_refl 2,by show(2:Int)<=9;decide⟩),λh=>?_⟩,λ_=>⟨BJ h.spot.1 Zo Zo,by show(6:Int)≠12;decide,by show(2:Int)≠-1;decide⟩,λh=>by cases h⟩;have:(3:Int)<=2:=h;omega
theorem GW(h:J8 n C):Mf st n C.again:=by
 refine J4 ⟨⟨Bf Zd Zd,h.spot.2⟩,h.nx,h.s0,h.s1,h.s2,h.fd,Or.inr (Or.inr rfl)⟩
theorem Lf(h:J8 n C)(hc:CD n C.spot.cur):Mf st n C.behind:=by
 have hl:=h.lv;refine⟨⟨⟨h.spot,h.nx,h.s0,h.s1,h.s2,h.fd,h.lv⟩,Or.inr (Or.inr ⟨by show(2:Int)<=3;decide,by show(3:Int)<=9;decide⟩),λ_ _=>hc⟩,λ_=>⟨BJ (Y3 h.spot.2 Zo Zo) Zo Zo,by show(6:Int)≠12;decide,by show(3:Int)≠-1;decide⟩,λh=>by cases h⟩
theorem gJ{l:Int}{s:Bq}(h:J8 n C)(hs:M9 n s):J8 n (C.Dc l s):=by
 unfold Xd.Dc;split
 ·exact⟨h.spot,h.nx,hs,h.s1,h.s2,h.fd,h.lv⟩
 ·split
  ·exact⟨h.spot,h.nx,h.s0,hs,h.s2,h.fd,h.lv⟩
  ·exact⟨h.spot,h.nx,h.s0,h.s1,hs,h.fd,h.lv⟩
theorem mA(C:Xd)(l:Int)(s:Bq):(C.Dc l s).spot=C.spot/\(C.Dc l s).level=C.level/\(C.Dc l s).pc=C.pc:=by
 unfold Xd.Dc;split
 ·exact⟨rfl,rfl,rfl⟩
 ·split<;>exact⟨rfl,rfl,rfl⟩
theorem J3(h:J8 n C):Mf st n C.lower:=by
 have h1:=gJ (l:=C.level) h h.spot;obtain⟨e1,e2,e3⟩:=mA C C.level C.spot;unfold Xd.lower;generalize C.Dc C.level C.spot=D at h1 e1 e2 e3;clear h;simp only;clear e1 e2 e3;split
 ·split
  ·refine⟨⟨⟨h1.spot,h1.nx,h1.s0,h1.s1,h1.s2,DU h1.spot.2,h1.lv⟩,Or.inl rfl,λh=>?_⟩,λh=>(by cases h),λ_=>rfl⟩;have:(3:Int)<=-1:=h;omega
  ·refine⟨⟨⟨h1.spot,h1.nx,h1.s0,h1.s1,h1.s2,h1.fd,h1.lv⟩,Or.inl rfl,λh=>?_⟩,λh=>(by cases h),λ_=>rfl⟩;have:(3:Int)<=-1:=h;omega
 ·rename_i hl;have hl0:D.level≠0:=by simpa using hl
  have hlv:=h1.lv;have hv:D.level-1=0\/D.level-1=1\/D.level-1=2:=Zo;split
  ·exact J4 ⟨⟨Bf Zo Zo,h1.spot.2⟩,h1.nx,h1.s0,h1.s1,h1.s2,h1.fd,hv⟩
  ·rename_i hs;have hs0:¬D.spot.prev.sl=0:=by simpa using hs
   have ha:qZ n D.spot.prev:=by
    rcases h1.spot.1 with h|h
    ·exact h
    ·exact absurd h.1 hs0
   refine⟨⟨⟨⟨DV ⟨ha.1,ha.2.1,by show(0:Int)<=2+(D.level-1);omega,by show 2+(D.level-1)<10;omega⟩,h1.spot.2⟩,h1.nx,h1.s0,h1.s1,h1.s2,h1.fd,hv⟩,Or.inr (Or.inr ⟨by show(2:Int)<=9;decide,by show(9:Int)<=9;decide⟩),λ_ h=>?_⟩,λ_=>⟨J2 ?_,by show(7:Int)≠12;decide,by show(9:Int)≠-1;decide⟩,λh=>by cases h⟩
   ·have:(9:Int)<=8:=h;omega
   ·rcases hlv with h|h|h
    ·exact absurd h hl0
    ·simp only[h];exact Or.inr (Or.inr (Or.inr (Or.inr (Or.inr (Or.inr (Or.inl ⟨rfl,rfl⟩))))))
    ·simp only[h];exact Or.inr (Or.inr (Or.inr (Or.inr (Or.inr (Or.inr (Or.inr ⟨rfl,rfl⟩))))))
theorem zV{l:Int}(h:l=0\/l=1\/l=2):Sn (FD (3*l+1) (3*l)):=by
 rcases h with rfl|rfl|rfl
 ·exact Or.inr (Or.inl ⟨rfl,rfl⟩)
 ·exact Or.inr (Or.inr (Or.inr (Or.inl ⟨rfl,rfl⟩)))
 ·exact Or.inr (Or.inr (Or.inr (Or.inr (Or.inr (Or.inl ⟨rfl,rfl⟩)))))
theorem zW{l:Int}(h:l=0\/l=1\/l=2):Sn (FD (3*l+2) (3*l+1)):=by
 rcases h with rfl|rfl|rfl
 ·exact Or.inl ⟨rfl,rfl⟩
 ·exact Or.inr (Or.inr (Or.inl ⟨rfl,rfl⟩))
 ·exact Or.inr (Or.inr (Or.inr (Or.inr (Or.inl ⟨rfl,rfl⟩))))
theorem UJ(h:J8 n C):Mf st n C.on:=by
 unfold Xd.on;split
 ·exact J3 h
 ·rename_i hs;have hs0:¬C.spot.cur.sl=0:=by simpa using hs
  exact⟨⟨⟨h.spot,h.nx,h.s0,h.s1,h.s2,h.fd,h.lv⟩,Or.inr (Or.inr ⟨by show(2:Int)<=8;decide,by show(8:Int)<=9;decide⟩),λ_ _=>DT h.spot.2 hs0⟩,λ_=>⟨J2 (zV h.lv),by show(7:Int)≠12;decide,by show(8:Int)≠-1;decide⟩,λh=>by cases h⟩
theorem pI(hst:st≠2)(h:Sq n C)(hp:C.pc≠-1)(hx:CE n x.word):Mf st n (C.step x):=by
 have hl:=h.b.lv;have hb:=h.b;unfold Xd.step;split
 ·split
  ·exact GW hb
  ·simp only;split
   ·rename_i h2 _ _;have h2:C.pc=2:=by simpa using h2
    exact J3 ⟨⟨hb.spot.1,hx⟩,hb.nx,hb.s0,hb.s1,hb.s2,hb.fd,hb.lv⟩
   ·rename_i h2 _ hs;have h2:C.pc=2:=by simpa using h2
    have hs0:¬x.word.sl=0:=by simpa using hs
    exact Lf ⟨⟨hb.spot.1,hx⟩,hb.nx,hb.s0,hb.s1,hb.s2,hb.fd,hb.lv⟩ (DT hx hs0)
 split
 ·rename_i h3;have h3:C.pc=3:=by simpa using h3
  have hc:=h.on Zo Zo;exact⟨⟨⟨hb.spot,hx,hb.s0,hb.s1,hb.s2,hb.fd,hb.lv⟩,Or.inr (Or.inr ⟨by show(2:Int)<=4;decide,by show(4:Int)<=9;decide⟩),λ_ _=>hc⟩,λ_=>⟨Bl (Y3 hb.spot.2 Zd Zd),by show(3:Int)≠12;decide,by show(4:Int)≠-1;decide⟩,λh=>by cases h⟩
 split
 ·rename_i h4;have h4:C.pc=4:=by simpa using h4
  have hc:=h.on Zo Zo;exact⟨⟨⟨hb.spot,hb.nx,hb.s0,hb.s1,hb.s2,hb.fd,hb.lv⟩,Or.inr (Or.inr ⟨by show(2:Int)<=5;decide,by show(5:Int)<=9;decide⟩),λ_ _=>hc⟩,λ_=>⟨Bl hb.spot.1,by show(3:Int)≠12;decide,by show(5:Int)≠-1;decide⟩,λh=>by cases h⟩
 split
 ·rename_i h5;have h5:C.pc=5:=by simpa using h5
  have hc:=h.on Zo Zo;split
  ·exact GW hb
  split
  ·exact⟨⟨⟨hb.spot,hb.nx,hb.s0,hb.s1,hb.s2,hb.fd,hb.lv⟩,Or.inr (Or.inr ⟨by show(2:Int)<=6;decide,by show(6:Int)<=9;decide⟩),λ_ _=>hc⟩,λ_=>⟨Bx hb.spot.1 (EK hst (DX hb.nx)) rfl,by show(5:Int)≠12;decide,by show(6:Int)≠-1;decide⟩,λh=>by cases h⟩
  split
  ·exact J3 hb
  ·exact⟨⟨⟨⟨Y3 hb.spot.2 Zo Zo,hb.spot.2⟩,hb.nx,hb.s0,hb.s1,hb.s2,hb.fd,hb.lv⟩,Or.inr (Or.inr ⟨by show(2:Int)<=7;decide,by show(7:Int)<=9;decide⟩),λ_ _=>hc⟩,λ_=>⟨J2 (zW hb.lv),by show(7:Int)≠12;decide,by show(7:Int)≠-1;decide⟩,λh=>by cases h⟩
 split
 ·rename_i h6;have h6:C.pc=6:=by simpa using h6
  have hc:=h.on Zo Zo;split
  ·exact UJ ⟨⟨hb.spot.1,DX hb.nx⟩,hb.nx,hb.s0,hb.s1,hb.s2,hb.fd,hb.lv⟩
  ·exact GW hb
 split
 ·exact GW hb
 split
 ·rename_i h7;have h7:C.pc=7:=by simpa using h7
  exact UJ ⟨⟨hb.spot.1,hb.nx⟩,hb.nx,hb.s0,hb.s1,hb.s2,hb.fd,hb.lv⟩
 split
 ·rename_i h8;have h8:C.pc=8:=by simpa using h8
  exact Lf hb (h.on Zo Zo)
 split
 ·exact J4 hb
 ·rename_i q2 q3 q4 q5 q6 q0 q7 q8 q9;simp only[beq_iff_eq] at q2 q3 q4 q5 q6 q0 q7 q8 q9;have:=h.pc;omega
end
end Go.Proofs.YtaipogljokblkaaGreatDoor
