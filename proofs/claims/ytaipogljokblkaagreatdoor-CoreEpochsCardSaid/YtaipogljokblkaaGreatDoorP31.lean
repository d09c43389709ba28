/- Core: CStart, VN, VO, LK. -/
import Derived.Test.YtaipogljokblkaaGreatDoorP30
import Derived.Test.YtaipogljokblkaaGreatDoorP14
set_option linter.all false
set_option maxRecDepth 100000
set_option maxHeartbeats 8000000
namespace Go.Proofs.YtaipogljokblkaaGreatDoor
open Go Go.RowKit
def UT:St:=⟨[],[],[(.le (.lit 0) (.var 0),true),(.le (.var 0) (.lit 1073741824),true)],10,0⟩
def SH(o:AV)(w:World)(a:0<=o.val)(b:o.val<=1073741824):Kp 54 #[.int .i64 1,.agg ({o with kind:=1,key:=0,Al:=0}:AV).l.toArray] w λd w'=>∃g,d=.returned (.tuple #[.iface 127 (.pointer (some ⟨g,0,none⟩)),.nilIface])/\w.heap.size<=g/\Bk w' g 175 ((Xy.new ({o with kind:=1,key:=0,Al:=0}:AV)).l).toArray/\Aq [] w w':=
 pS (IB [[o.val]] []) UT [.c (.int (.lit 1)),.agg [.int (.lit 1),.int (.lit 0),.iV 0,.int (.lit 0)]] 429 (Cp (g5 a) (Cp (g5 b) CF))
def US:St:=⟨[],[],[],10,0⟩
def SG(o:AV)(w:World):Kp 54 #[.int .i64 1,.agg ({o with kind:=2,key:=0,val:=0,Al:=0}:AV).l.toArray] w λa w'=>∃g,a=.returned (.tuple #[.iface 127 (.pointer (some ⟨g,0,none⟩)),.nilIface])/\w.heap.size<=g/\Bk w' g 175 ((Xy.new ({o with kind:=2,key:=0,val:=0,Al:=0}:AV)).l).toArray/\Aq [] w w':=
 pS (IB [] []) US [.c (.int (.lit 1)),.agg [.int (.lit 2),.int (.lit 0),.int (.lit 0),.int (.lit 0)]] 429 CF
def UR:St:=⟨[],[],[],10,0⟩
def SF(o:AV)(w:World):Kp 54 #[.int .i64 1,.agg ({o with kind:=3,key:=0,val:=0,Al:=0}:AV).l.toArray] w λa w'=>∃g,a=.returned (.tuple #[.iface 127 (.pointer (some ⟨g,0,none⟩)),.nilIface])/\w.heap.size<=g/\Bk w' g 175 ((Xy.new ({o with kind:=3,key:=0,val:=0,Al:=0}:AV)).l).toArray/\Aq [] w w':=
 pS (IB [] []) UR [.c (.int (.lit 1)),.agg [.int (.lit 3),.int (.lit 0),.int (.lit 0),.int (.lit 0)]] 429 CF
def UQ:St:=⟨[],[],[(.le (.lit 0) (.var 0),true),(.le (.var 0) (.lit 1073741824),true)],10,0⟩
def SE(o:AV)(w:World)(a:0<=o.val)(b:o.val<=1073741824):Kp 54 #[.int .i64 2,.agg ({o with kind:=4,key:=0,Al:=0}:AV).l.toArray] w λd w'=>∃g,d=.returned (.tuple #[.iface 130 (.pointer (some ⟨g,0,none⟩)),.nilIface])/\w.heap.size<=g/\Bk w' g 179 ((Xx.new ({o with kind:=4,key:=0,Al:=0}:AV)).l).toArray/\Aq [] w w':=
 pS (IB [[o.val]] []) UQ [.c (.int (.lit 2)),.agg [.int (.lit 4),.int (.lit 0),.iV 0,.int (.lit 0)]] 429 (Cp (g5 a) (Cp (g5 b) CF))
def UP:St:=⟨[],[],[],10,0⟩
def SD(o:AV)(w:World):Kp 54 #[.int .i64 2,.agg ({o with kind:=5,key:=0,val:=0,Al:=0}:AV).l.toArray] w λa w'=>∃g,a=.returned (.tuple #[.iface 130 (.pointer (some ⟨g,0,none⟩)),.nilIface])/\w.heap.size<=g/\Bk w' g 179 ((Xx.new ({o with kind:=5,key:=0,val:=0,Al:=0}:AV)).l).toArray/\Aq [] w w':=
 pS (IB [] []) UP [.c (.int (.lit 2)),.agg [.int (.lit 5),.int (.lit 0),.int (.lit 0),.int (.lit 0)]] 429 CF
def UO:St:=⟨[],[],[(.lt (.var 0) (.lit 0),false),(.lt (.lit 255) (.var 0),false),(.le (.lit 0) (.var 1),true),(.le (.var 1) (.lit 1073741824),true)],10,0⟩
def SB(o:AV)(w:World)(a:0<=o.key)(b:o.key<256)(d:0<=o.val)(e:o.val<=1073741824):Kp 54 #[.int .i64 3,.agg ({o with kind:=6,Al:=0}:AV).l.toArray] w λh w'=>∃g,h=.returned (.tuple #[.iface 133 (.pointer (some ⟨g,0,none⟩)),.nilIface])/\w.heap.size<=g/\Bk w' g 206 ((Xf.from_ (root 0) o.key ({o with kind:=6,Al:=0}:AV)).l (.pointer none)).toArray/\Aq [] w w':=
 pS (IB [[o.key,o.val]] []) UO [.c (.int (.lit 3)),.agg [.int (.lit 6),.iV 0,.iV 1,.int (.lit 0)]] 647 (Cp (gz (ju.mpr a)) (Cp (gz (ju.mpr (j8 b))) (Cp (g5 d) (Cp (g5 e) CF))))
def UN:St:=⟨[],[],[(.lt (.var 0) (.lit 0),false),(.lt (.lit 255) (.var 0),false)],10,0⟩
def SA(o:AV)(w:World)(a:0<=o.key)(b:o.key<256):Kp 54 #[.int .i64 3,.agg ({o with kind:=7,val:=0,Al:=0}:AV).l.toArray] w λd w'=>∃g,d=.returned (.tuple #[.iface 133 (.pointer (some ⟨g,0,none⟩)),.nilIface])/\w.heap.size<=g/\Bk w' g 206 ((Xf.from_ (root 0) o.key ({o with kind:=7,val:=0,Al:=0}:AV)).l (.pointer none)).toArray/\Aq [] w w':=
 pS (IB [[o.key]] []) UN [.c (.int (.lit 3)),.agg [.int (.lit 7),.iV 0,.int (.lit 0),.int (.lit 0)]] 647 (Cp (gz (ju.mpr a)) (Cp (gz (ju.mpr (j8 b))) CF))
def UM:St:=⟨[],[],[(.lt (.var 0) (.lit 0),false),(.lt (.lit 255) (.var 0),false)],10,0⟩
def S9(o:AV)(w:World)(a:0<=o.key)(b:o.key<256):Kp 54 #[.int .i64 3,.agg ({o with kind:=8,val:=0,Al:=0}:AV).l.toArray] w λd w'=>∃g,d=.returned (.tuple #[.iface 133 (.pointer (some ⟨g,0,none⟩)),.nilIface])/\w.heap.size<=g/\Bk w' g 206 ((Xf.from_ (root 0) o.key ({o with kind:=8,val:=0,Al:=0}:AV)).l (.pointer none)).toArray/\Aq [] w w':=
 pS (IB [[o.key]] []) UM [.c (.int (.lit 3)),.agg [.int (.lit 8),.iV 0,.int (.lit 0),.int (.lit 0)]] 647 (Cp (gz (ju.mpr a)) (Cp (gz (ju.mpr (j8 b))) CF))
def UL:St:=⟨[],[],[(.lt (.var 0) (.lit 0),false),(.lt (.lit 255) (.var 0),false),(.le (.lit 0) (.var 1),true),(.le (.var 1) (.lit 1073741824),true)],10,0⟩
def S8(o:AV)(w:World)(a:0<=o.key)(b:o.key<256)(d:0<=o.val)(e:o.val<=1073741824):Kp 54 #[.int .i64 4,.agg ({o with kind:=6,Al:=0}:AV).l.toArray] w λh w'=>∃g,h=.returned (.tuple #[.iface 136 (.pointer (some ⟨g,0,none⟩)),.nilIface])/\w.heap.size<=g/\Bk w' g 186 ((Xc.new ({o with kind:=6,Al:=0}:AV)).l (.pointer none) (.pointer none)).toArray/\Aq [] w w':=
 pS (IB [[o.key,o.val]] []) UL [.c (.int (.lit 4)),.agg [.int (.lit 6),.iV 0,.iV 1,.int (.lit 0)]] 429 (Cp (gz (ju.mpr a)) (Cp (gz (ju.mpr (j8 b))) (Cp (g5 d) (Cp (g5 e) CF))))
def UK:St:=⟨[],[],[(.lt (.var 0) (.lit 0),false),(.lt (.lit 255) (.var 0),false)],10,0⟩
def S7(o:AV)(w:World)(a:0<=o.key)(b:o.key<256):Kp 54 #[.int .i64 4,.agg ({o with kind:=7,val:=0,Al:=0}:AV).l.toArray] w λd w'=>∃g,d=.returned (.tuple #[.iface 136 (.pointer (some ⟨g,0,none⟩)),.nilIface])/\w.heap.size<=g/\Bk w' g 186 ((Xc.new ({o with kind:=7,val:=0,Al:=0}:AV)).l (.pointer none) (.pointer none)).toArray/\Aq [] w w':=
 pS (IB [[o.key]] []) UK [.c (.int (.lit 4)),.agg [.int (.lit 7),.iV 0,.int (.lit 0),.int (.lit 0)]] 429 (Cp (gz (ju.mpr a)) (Cp (gz (ju.mpr (j8 b))) CF))
def UJ:St:=⟨[],[],[(.lt (.var 0) (.lit 0),false),(.lt (.lit 255) (.var 0),false)],10,0⟩
def S6(o:AV)(w:World)(a:0<=o.key)(b:o.key<256):Kp 54 #[.int .i64 4,.agg ({o with kind:=8,val:=0,Al:=0}:AV).l.toArray] w λd w'=>∃g,d=.returned (.tuple #[.iface 136 (.pointer (some ⟨g,0,none⟩)),.nilIface])/\w.heap.size<=g/\Bk w' g 186 ((Xc.new ({o with kind:=8,val:=0,Al:=0}:AV)).l (.pointer none) (.pointer none)).toArray/\Aq [] w w':=
 pS (IB [[o.key]] []) UJ [.c (.int (.lit 4)),.agg [.int (.lit 8),.iV 0,.int (.lit 0),.int (.lit 0)]] 429 (Cp (gz (ju.mpr a)) (Cp (gz (ju.mpr (j8 b))) CF))
def UI:St:=⟨[],[],[(.lt (.var 0) (.lit 0),false),(.lt (.lit 255) (.var 0),false),(.le (.lit 0) (.var 1),true),(.le (.var 1) (.lit 1073741824),true),(.le (.lit 0) (.var 2),true),(.le (.var 2) (.lit 3),true),(.lt (.var 2) (.lit 1),false)],10,0⟩
def S5(o:AV)(w:World)(a:0<=o.key)(b:o.key<256)(d:0<=o.val)(e:o.val<=1073741824)(t0:1<=o.Al)(t1:o.Al<=3):Kp 54 #[.int .i64 5,.agg ({o with kind:=6}:AV).l.toArray] w λh w'=>∃g,h=.returned (.tuple #[.iface 139 (.pointer (some ⟨g,0,none⟩)),.nilIface])/\w.heap.size<=g/\Bk w' g 191 ((Xa.new ({o with kind:=6}:AV)).l (.pointer none)).toArray/\Aq [] w w':=
 pS (IB [[o.key,o.val,o.Al]] []) UI [.c (.int (.lit 5)),.agg [.int (.lit 6),.iV 0,.iV 1,.iV 2]] 429 (Cp (gz (ju.mpr a)) (Cp (gz (ju.mpr (j8 b))) (Cp (g5 d) (Cp (g5 e) (Cp (g5 (show(0:Int)<=o.Al from Zo)) (Cp (g5 t1) (Cp (gz (ju.mpr t0)) CF)))))))
def UH:St:=⟨[],[],[(.lt (.var 0) (.lit 0),false),(.lt (.lit 255) (.var 0),false)],10,0⟩
def S1(o:AV)(w:World)(a:0<=o.key)(b:o.key<256):Kp 54 #[.int .i64 5,.agg ({o with kind:=7,val:=0,Al:=0}:AV).l.toArray] w λd w'=>∃g,d=.returned (.tuple #[.iface 139 (.pointer (some ⟨g,0,none⟩)),.nilIface])/\w.heap.size<=g/\Bk w' g 191 ((Xa.new ({o with kind:=7,val:=0,Al:=0}:AV)).l (.pointer none)).toArray/\Aq [] w w':=
 pS (IB [[o.key]] []) UH [.c (.int (.lit 5)),.agg [.int (.lit 7),.iV 0,.int (.lit 0),.int (.lit 0)]] 429 (Cp (gz (ju.mpr a)) (Cp (gz (ju.mpr (j8 b))) CF))
def UG:St:=⟨[],[],[(.lt (.var 0) (.lit 0),false),(.lt (.lit 255) (.var 0),false)],10,0⟩
def S0(o:AV)(w:World)(a:0<=o.key)(b:o.key<256):Kp 54 #[.int .i64 5,.agg ({o with kind:=8,val:=0,Al:=0}:AV).l.toArray] w λd w'=>∃g,d=.returned (.tuple #[.iface 139 (.pointer (some ⟨g,0,none⟩)),.nilIface])/\w.heap.size<=g/\Bk w' g 191 ((Xa.new ({o with kind:=8,val:=0,Al:=0}:AV)).l (.pointer none)).toArray/\Aq [] w w':=
 pS (IB [[o.key]] []) UG [.c (.int (.lit 5)),.agg [.int (.lit 8),.iV 0,.int (.lit 0),.int (.lit 0)]] 429 (Cp (gz (ju.mpr a)) (Cp (gz (ju.mpr (j8 b))) CF))
def Hh(st:Int)(o:AV):Prop:=
 (st=1/\o.key=0/\o.Al=0/\((o.kind=1/\0<=o.val/\o.val<=1073741824)\/((o.kind=2\/o.kind=3)/\o.val=0)))\/
 (st=2/\o.key=0/\o.Al=0/\((o.kind=4/\0<=o.val/\o.val<=1073741824)\/(o.kind=5/\o.val=0)))\/
 ((st=3\/st=4)/\0<=o.key/\o.key<=255/\o.Al=0/\((o.kind=6/\0<=o.val/\o.val<=1073741824)\/((o.kind=7\/o.kind=8)/\o.val=0)))\/
 (st=5/\0<=o.key/\o.key<=255/\((o.kind=6/\0<=o.val/\o.val<=1073741824/\1<=o.Al/\o.Al<=3)\/((o.kind=7\/o.kind=8)/\o.val=0/\o.Al=0)))
def WQ(st:Int)(o:AV)(w:World)(d:Ending)(w':World):Prop:=
 ∃a c,d=.returned (.tuple #[a,.nilIface])/\Mr w' a (Xz.new st o) c/\(∀b∈c,w.heap.size<=b)/\Below w.heap.size w w'
def gY(st:Int)(o:AV)(w:World)(h:Hh st o):Kp 54 #[.int .i64 st,.agg o.l.toArray] w (WQ st o w):=by
 obtain⟨k,a,j,q⟩:=o;simp only[Hh] at h;rcases h with⟨rfl,rfl,rfl,⟨rfl,n,p⟩|⟨rfl|rfl,rfl⟩⟩|⟨rfl,rfl,rfl,⟨rfl,n,p⟩|⟨rfl,rfl⟩⟩|⟨rfl|rfl,m,r,rfl,⟨rfl,n,p⟩|⟨rfl|rfl,rfl⟩⟩|⟨rfl,m,r,⟨rfl,n,p,s,t⟩|⟨rfl|rfl,rfl,rfl⟩⟩
 ·exact(SH ⟨1,0,j,0⟩ w n p).mono λe i b=>by obtain⟨g,p1,p2,c,d⟩:=b;exact⟨_,[g],p1,⟨g,rfl,rfl,c⟩,by simpa using p2,d.below⟩
 ·exact(SG ⟨2,0,0,0⟩ w).mono λe i b=>by obtain⟨g,p1,p2,c,d⟩:=b;exact⟨_,[g],p1,⟨g,rfl,rfl,c⟩,by simpa using p2,d.below⟩
 ·exact(SF ⟨3,0,0,0⟩ w).mono λe i b=>by obtain⟨g,p1,p2,c,d⟩:=b;exact⟨_,[g],p1,⟨g,rfl,rfl,c⟩,by simpa using p2,d.below⟩
 ·exact(SE ⟨4,0,j,0⟩ w n p).mono λe i b=>by obtain⟨g,p1,p2,c,d⟩:=b;exact⟨_,[g],p1,⟨g,rfl,rfl,c⟩,by simpa using p2,d.below⟩
 ·exact(SD ⟨5,0,0,0⟩ w).mono λe i b=>by obtain⟨g,p1,p2,c,d⟩:=b;exact⟨_,[g],p1,⟨g,rfl,rfl,c⟩,by simpa using p2,d.below⟩
 ·exact(SB ⟨6,a,j,0⟩ w m (by show a<256;omega) n p).mono λe i b=>by obtain⟨g,p1,p2,c,d⟩:=b;exact⟨_,[g],p1,⟨g,rfl,⟨⟨.pointer none,[],rfl,c,rfl,rfl⟩,by simp⟩⟩,by simpa using p2,d.below⟩
 ·exact(SA ⟨7,a,0,0⟩ w m (by show a<256;omega)).mono λe i b=>by obtain⟨g,p1,p2,c,d⟩:=b;exact⟨_,[g],p1,⟨g,rfl,⟨⟨.pointer none,[],rfl,c,rfl,rfl⟩,by simp⟩⟩,by simpa using p2,d.below⟩
 ·exact(S9 ⟨8,a,0,0⟩ w m (by show a<256;omega)).mono λe i b=>by obtain⟨g,p1,p2,c,d⟩:=b;exact⟨_,[g],p1,⟨g,rfl,⟨⟨.pointer none,[],rfl,c,rfl,rfl⟩,by simp⟩⟩,by simpa using p2,d.below⟩
 ·exact(S8 ⟨6,a,j,0⟩ w m (by show a<256;omega) n p).mono λe i b=>by obtain⟨g,p1,p2,c,d⟩:=b;exact⟨_,[g],p1,⟨g,rfl,⟨none,none,[],[],rfl,c,⟨rfl,rfl⟩,⟨rfl,rfl⟩,by simp⟩⟩,by simpa using p2,d.below⟩
 ·exact(S7 ⟨7,a,0,0⟩ w m (by show a<256;omega)).mono λe i b=>by obtain⟨g,p1,p2,c,d⟩:=b;exact⟨_,[g],p1,⟨g,rfl,⟨none,none,[],[],rfl,c,⟨rfl,rfl⟩,⟨rfl,rfl⟩,by simp⟩⟩,by simpa using p2,d.below⟩
 ·exact(S6 ⟨8,a,0,0⟩ w m (by show a<256;omega)).mono λe i b=>by obtain⟨g,p1,p2,c,d⟩:=b;exact⟨_,[g],p1,⟨g,rfl,⟨none,none,[],[],rfl,c,⟨rfl,rfl⟩,⟨rfl,rfl⟩,by simp⟩⟩,by simpa using p2,d.below⟩
 ·exact(S5 ⟨6,a,j,q⟩ w m (by show a<256;omega) n p s t).mono λe i b=>by obtain⟨g,p1,p2,c,d⟩:=b;exact⟨_,[g],p1,⟨g,rfl,⟨⟨.pointer none,[],rfl,c,rfl,rfl⟩,by simp⟩⟩,by simpa using p2,d.below⟩
 ·exact(S1 ⟨7,a,0,0⟩ w m (by show a<256;omega)).mono λe i b=>by obtain⟨g,p1,p2,c,d⟩:=b;exact⟨_,[g],p1,⟨g,rfl,⟨⟨.pointer none,[],rfl,c,rfl,rfl⟩,by simp⟩⟩,by simpa using p2,d.below⟩
 ·exact(S0 ⟨8,a,0,0⟩ w m (by show a<256;omega)).mono λe i b=>by obtain⟨g,p1,p2,c,d⟩:=b;exact⟨_,[g],p1,⟨g,rfl,⟨⟨.pointer none,[],rfl,c,rfl,rfl⟩,by simp⟩⟩,by simpa using p2,d.below⟩
def x7(st:Int)(o:AV)(w:World)(h:Hh st o)(i:AT w):Kp 25 #[.int .i64 st,.agg o.l.toArray] w (λc w'=>c=.returned (.bool true)/\Below w.heap.size w w'):=by
 obtain⟨T,q,e⟩:=i.arg;obtain⟨k,a,b,d⟩:=o;refine(Fn.tW st ⟨k,a,b,d⟩ w T _ e).mono λc w' g=>?_;rw[show Fn.JJ st ⟨k,a,b,d⟩=true from g5 h] at g;exact g
def kQ{w:World}{v:Value}{J:Xz}{F:List Nat}(h:Mr w v J F):∃T g,v=.iface T (.pointer (some ⟨g,0,none⟩)):=by
 cases J with
 |pile J=>obtain⟨g,rfl,_⟩:=h;exact⟨_,g,rfl⟩
 |Wu J=>obtain⟨g,rfl,_⟩:=h;exact⟨_,g,rfl⟩
 |lit J=>obtain⟨g,rfl,_⟩:=h;exact⟨_,g,rfl⟩
 |Lm J=>obtain⟨g,rfl,_⟩:=h;exact⟨_,g,rfl⟩
 |N8 J=>obtain⟨g,rfl,_⟩:=h;exact⟨_,g,rfl⟩
def tV{st k a b c:Int}{w:World}(h:Hh st ⟨k,a,b,c⟩)(d:AT w):Kp 25 #[.int .i64 st,.agg #[.int .i64 k,.int .i64 a,.int .i64 b,.int .i64 c]] w (λe w'=>e=.returned (.bool true)/\Below w.heap.size w w'):=x7 st ⟨k,a,b,c⟩ w h d
def xY{st k a b c:Int}{w:World}(h:Hh st ⟨k,a,b,c⟩):Kp 54 #[.int .i64 st,.agg #[.int .i64 k,.int .i64 a,.int .i64 b,.int .i64 c]] w (WQ st ⟨k,a,b,c⟩ w):=gY st ⟨k,a,b,c⟩ w h
def Mo.rite{f:Nat}{g:Value}{M:MR}{o:Option Xz}{w:World}{F:Nat->Prop}(h:Mo f g M o w F):∃a,Le w f M a/\∀b∈a,F b:=by
 cases o with
 |some J=>obtain⟨a,i,c,j,k,d⟩:=h;exact⟨a,c,λb e=>(d b).2 (fq e)⟩
 |none=>obtain⟨l,a,c,d⟩:=h;exact⟨a,c,λb e=>(d b).2 e⟩
def Um(V:MV)(d:Int)(c:Xi)(g a:Nat)(b:Value)(w:World)(F:Nat->Prop)(k:Bk w g 126 ((G5 V).l (.pointer (some ⟨a,0,none⟩)) b).toArray)(h:Mo a b V.M V.Bl w F)(m:¬F g)(ok:TR V.M)(e:V.M.R.step=0)(n:QK c):
  Kp 55 #[.pointer (some ⟨g,2,none⟩),.int .i64 d,.agg c.l.toArray] w (VPo a b (V.Ag d c) g F (.tuple #[]) w):=by
 have p:=nI (Φ:=⟨fun i w F=>if i = 0 then Mo a b V.M V.Bl w F else Mo a b (V.M.Ag c) V.Bl w F,fun i w q F h e=>by
   split at h
   ·rename_i j;rw[ga j];exact h.AL e
   ·rename_i j;rw[fw j];exact h.AL e⟩) (F:=F) (G5 V) ⟨a,0,none⟩ b d c g w k h.one
  (λw F r _=>OB (M':=V.M.Ag c) (M:=V.M) (o:=V.Bl) r (λE s=>eF c s ok e n) _ 1 λw F h=>h) h m h.lt
 refine p.mono λG q u=>?_
 obtain⟨p1,p2,v,x,y,z,A,B⟩:=u
 exact⟨p1,p2,v,x,y,z,A,B⟩
def uy(V:MV)(g a:Nat)(b:Value)(w:World)(F:Nat->Prop)(c:Bk w g 126 ((G5 V).l (.pointer (some ⟨a,0,none⟩)) b).toArray)(h:Mo a b V.M V.Bl w F)(d:¬F g)(ok:TR V.M)(e:V.M.R.step=0):
  Kp 55 #[.pointer (some ⟨g,2,none⟩),.int .i64 1,.agg #[.int .i64 1,.int .i64 0,.int .i64 0,.int .i64 0,.int .i64 0,.int .i64 0,.int .i64 0,.int .i64 0,.bool false,.int .i64 0,.int .i64 0,.int .i64 0,.int .i64 0,.bool false,.int .i64 0,.int .i64 0,.int .i64 0,.int .i64 0]] w (VPo a b (V.Ag 1 Zj) g F (.tuple #[]) w):=
 Um V 1 Zj g a b w F c h d ok e (fq rfl)
def tM(V:MV)(o:AV)(gv r:Nat)(jv:Value)(w:World)(F:Nat->Prop)(he:AT w)(hf:Hh V.st o)(hd:V.Ac=0)(a:Bk w gv 126 ((G5 V).l (.pointer (some ⟨r,0,none⟩)) jv).toArray)(h:Mo r jv V.M V.Bl w F)(hg:¬F gv)
  (ok:TR V.M)(hs:V.M.R.step=0)(Z:Qi (MV.Ag {V with op:=o,Bl:=some (Xz.new V.st o),BR:=.zero} 1 Zj)):
  Kp 36 #[.pointer (some ⟨gv,0,none⟩),.agg o.l.toArray] w λen w'=>∃jw,en=.returned .nilIface/\
   Bk w' gv 126 ((G5 (V.GY o)).l (.pointer (some ⟨r,0,none⟩)) jw).toArray/\CI (λb=>b=gv\/F b) w w'/\
   ∃F':Nat->Prop,Mo r jw (V.GY o).M (V.GY o).Bl w' F'/\¬F' gv/\(∀b,F' b->b<w'.heap.size)/\∀b,F' b->F b\/w.heap.size<=b:=by
 obtain⟨st,eng,Ac,call,op,Bl,BR,M⟩:=V
 obtain⟨k,c,d,n⟩:=o
 obtain rfl:Ac=0:=hd
 show Kp _ #[.pointer (some ⟨gv,0,none⟩),.agg #[.int .i64 k,.int .i64 c,.int .i64 d,.int .i64 n]] w _
 have c0:=a.cell 0;have c3:=a.cell 3
 simp[G5,Dp.l,Xi.l,Yc.l,Xe.l,DI.l,AV.l] at c0 c3
 have au:=a.lt
 have z:Below w.heap.size w (w.alloc (.cells #[.int .i64 k,.int .i64 c,.int .i64 d,.int .i64 n] 35)):=(fx _ _).alloc (Nat.le_refl _) _
 have HB:=eR (a.Af z)
 have HE:=eR (he.below z)
 have J:=eR (Bk.at_ (w:=w) (g:=w.heap.size) (cs:=#[.int .i64 k,.int .i64 c,.int .i64 d,.int .i64 n]) (t:=35) rfl)
 have HR:=eR (h.AL (w':=w.alloc (.cells #[.int .i64 k,.int .i64 c,.int .i64 d,.int .i64 n] 35)) λb a=>lp w _ b (h.lt b a))
 have HC:=eR z
 have L:=eR (fy ok (fy hs Z))
 have av:=a.lt
 have HL:=eR h.lt
 clear a z he h ok hs Z
 go_enter Tryz.func36,Tryz.ntmps36
 go_wp2
 clear c0 c3
 have ap:w.heap.size<(w.alloc (.cells #[.int .i64 k,.int .i64 c,.int .i64 d,.int .i64 n] 35)).heap.size:=J.out.lt
 generalize w.alloc (.cells #[.int .i64 k,.int .i64 c,.int .i64 d,.int .i64 n] 35)=W at*
 (refine Jc ((λw':World=>Below W.heap.size W w')) Zk Zk ((fx _ _).drew) ?_;(repeat (first|go_big_quiet_skip|(go_big_quiet_want;first|(go_big_quiet_op;go_big_quiet_on)|(apply g7;refine⟨λw' i=>?_,?_⟩;(· ((have q0:=(HB.out.Af i).cell 0;simp[G5,Dp.l,Xi.l,Yc.l,Xe.l,DI.l,AV.l] at q0;have S:=(J.out.Af i).cell 0;have U:=(J.out.Af i).cell 1;have X:=(J.out.Af i).cell 2;have Y:=(J.out.Af i).cell 3;simp at S U X Y);go_simp;first|done|rfl|exact⟨rfl,rfl⟩|((go_at_call 25;(with_reducible refine(tV hf (HE.out.below i)).mono ?_);rintro e aw ⟨rfl,a⟩;exact⟨rfl,i.trans (a.mono i.size)⟩))));go_big_quiet_on;simp only[ZL]))));refine gw ?_;intro w' i)
 have N:=eR (HB.out.Af i)
 have aa:=eR (HE.out.below i)
 have B:=eR (J.out.Af i)
 have ab:=eR (HR.out.AL (w':=w') λb a=>i.block b (HR.out.lt b a))
 have O:=eR (HC.out.trans (i.mono HC.out.size))
 have ad:w.heap.size<w'.heap.size:=B.out.lt
 clear HB HE J HR HC i ap
 generalize w'=W1 at*
 clear W w'
 go_wp2
 refine Yh (λw'=>Bk w' gv 126 ((G5 {st:=st,eng:=eng,Ac:=0,call:=call,op:=op,Bl:=Bl,BR:=BR,M:=M}).l (.pointer (some ⟨r,0,none⟩)) jv).toArray/\Bk w' w.heap.size 35 #[.int .i64 k,.int .i64 c,.int .i64 d,.int .i64 n]) 11 Zk ⟨N.out.drew,B.out.drew⟩ (λhS=>?_)
 have ae:=eR N.out.drew
 have af:=eR B.out.drew
 have ag:=eR (aa.out.below (fx _ _).drew)
 have P:=eR (ab.out.AL (w':=W1.drew) λb a=>rfl)
 have C:=eR (O.out.trans ((fx W1.heap.size W1).drew.mono O.out.size))
 clear N B aa ab O ad
 generalize W1.drew=W2 at*
 clear W1
 ((try simp only[ZL]);refine vT (fuel:=6) hS [0,1,2,3,4] ?_;simp only[Yb,Xv,fs];(repeat (first|go_big_quiet_skip|(go_big_quiet_want;first|(go_big_quiet_op;go_big_quiet_on)|(apply g7;refine⟨λw' p=>?_,?_⟩;(· ((have q0:=p.1.cell 0;simp[G5,Dp.l,Xi.l,Yc.l,Xe.l,DI.l,AV.l] at q0;have S:=p.2.cell 0;have U:=p.2.cell 1;have X:=p.2.cell 2;have Y:=p.2.cell 3;simp at S U X Y);go_simp;first|done|rfl|exact⟨rfl,rfl⟩));go_big_quiet_on;simp only[ZL]))));refine gw ?_;(try dsimp only))
 (refine Xn 5 Zk (λK hK=>?_);simp only[Xv,fs])
 go_wp2_with fail
 refine(xY hf).mono ?_
 rintro e w3 ⟨jw,Fj,rfl,hj,ai,q⟩
 obtain⟨T,gj,rfl⟩:=kQ hj
 have D:=eR (ae.out.Af q)
 have j:=eR (af.out.Af q)
 have aq:=eR (ag.out.below q)
 have aj:=eR (P.out.AL (w':=w3) λb a=>q.block b (P.out.lt b a))
 have s:=eR (C.out.trans (q.mono C.out.size))
 have m:=eR (fy hj (λb a=>gb C.out.size (ai b a)))
 clear ae af ag P C hS hj ai q
 go_wp2_with fail
 refine hK.out _ _ (λ_=>⟨D.out,j.out⟩) ?_
 clear hK
 have hS:=fy D.out j.out
 ((try simp only[ZL]);refine vT (fuel:=0) hS [6,7,8,9,10] ?_;simp only[Yb,Xv,fs];(repeat (first|go_big_quiet_skip|(go_big_quiet_want;first|(go_big_quiet_op;go_big_quiet_on)|(apply g7;refine⟨λw' p=>?_,?_⟩;(· (skip;go_simp;first|done|rfl|exact⟨rfl,rfl⟩));go_big_quiet_on;simp only[ZL]))));refine gw ?_;(try dsimp only))
 refine Yk Zk ?_ _
 have S:=j.out.cell 0;have U:=j.out.cell 1;have X:=j.out.cell 2;have Y:=j.out.cell 3
 simp at S U X Y
 clear hS
 go_wp2_with (first
  |(refine Y2 Zr _ _ _ Zr gv 22 _ Zr Zr _ _ ((⟨st,eng,0,call,⟨k,c,d,n⟩,BR⟩:Dp).l (.pointer (some ⟨r,0,none⟩)) jv).toArray D.out (j6 Zk) Zk Zr Zk ?_;intro w4 u;have ak:=u.bk.cell 26;have f26:=u.bk.free 26;simp[Dp.l,Xi.l,Yc.l,Xe.l,DI.l,AV.l] at ak)
  |(have al:Hid (Bk (World.setCell _ ⟨gv,26,none⟩ (.iface T (.pointer (some ⟨gj,0,none⟩)))) gv 126 ((⟨st,eng,0,call,⟨k,c,d,n⟩,BR⟩:Dp).l (.pointer (some ⟨r,0,none⟩)) (.iface T (.pointer (some ⟨gj,0,none⟩)))).toArray):=eR (Y1 (u.bk.Ez 26 _) Zk);refine Y2 Zr _ _ _ Zr gv 27 _ Zr Zr _ _ ((⟨st,eng,0,call,⟨k,c,d,n⟩,⟨0,0⟩⟩:Dp).l (.pointer (some ⟨r,0,none⟩)) (.iface T (.pointer (some ⟨gj,0,none⟩)))).toArray al.out (j6 Zk) Zk Zr Zk ?_;intro w6 x))
 obtain⟨Fr,hr,y⟩:=aj.out.rite
 have hG:w3.grownBy w6 (some gv):=Em (Em u.grown (X2 w4 gv 26 _)) x.grown
 have ax:w.heap.size<=w3.heap.size:=s.out.size
 have ay:w3.heap.size<=w6.heap.size:=hG.size
 have am:Mo r (.iface T (.pointer (some ⟨gj,0,none⟩))) M (some (Xz.new st ⟨k,c,d,n⟩)) w6 (λb=>b∈Fr\/b∈Fj):=
  ⟨Fr,Fj,hr.same (λb a=>hG.block b (hr.lt b a) (by intro e;cases e;exact hg (y _ a))),m.out.1.same (λb a=>hG.block b (m.out.1.lt b a) (by intro e;cases e;have:=m.out.2 _ a;omega)),λb a hx=>by have:=HL.out b (y b a);have:=m.out.2 b hx;omega,λb=>j3⟩
 have an:=eR x.bk
 have H:=eR am
 have ar:¬(λb=>b∈Fr\/b∈Fj) gv:=λh=>by
  rcases h with h|h
  ·exact hg (y _ h)
  ·have:=m.out.2 _ h;omega
 have E:=eR hG
 clear am u x hG ak f26 al aj hr j aq D S U X Y
 refine(uy ⟨st,eng,0,call,⟨k,c,d,n⟩,some (Xz.new st ⟨k,c,d,n⟩),.zero,M⟩ gv r _ w6 _ an.out H.out ar L.out.1 L.out.2.1).mono ?_
 rintro e w7 ⟨rfl,b7,c7,F7,r7,n7,l7,a7⟩
 have I:=eR (fy b7 (fy c7 (fy r7 (fy l7 a7))))
 clear b7 c7 r7 l7 a7 an H
 go_wp2_with fail
 refine(aI _ gv r _ w7 F7 I.out.1 I.out.2.2.1 n7 L.out.2.2).mono ?_
 rintro e w8 ⟨rfl,b8,c8,F8,r8,n8,l8,a8⟩
 have G:=eR (fy b8 (fy c8 (fy r8 (fy l8 a8))))
 clear b8 c8 r8 l8 a8
 go_wp2
 have az:w6.heap.size<=w7.heap.size:=I.out.2.1.size
 have a0:w7.heap.size<=w8.heap.size:=G.out.2.1.size
 have f7:∀b,F7 b->F b\/w.heap.size<=b:=λb a=>by
  rcases I.out.2.2.2.2 b a with(h|h)|h
  ·exact fq (y b h)
  ·exact db (m.out.2 b h)
  ·exact db Zo
 have f8:∀b,F8 b->F b\/w.heap.size<=b:=λb a=>by
  rcases G.out.2.2.2.2 b a with h|h
  ·exact f7 b h
  ·exact db Zo
 refine js (v:=.nilIface) (by first|exact results_none rfl _ _ _|simp[results,Tryz.results36,go_sem]|rfl) rfl ?_
 refine⟨_,rfl,G.out.1,⟨G.out.2.1.os.trans (I.out.2.1.os.trans (E.out.os.trans s.out.os)),G.out.2.1.tape.trans (I.out.2.1.tape.trans (E.out.tape.trans s.out.tape)),G.out.2.1.output.trans (I.out.2.1.output.trans (E.out.output.trans s.out.output)),Zo,λb a hn=>?_⟩,F8,G.out.2.2.1,n8,G.out.2.2.2.1,f8⟩
 have Q:b≠gv:=λe=>hn (fq e)
 have ao:¬F b:=λe=>hn (db e)
 refine(G.out.2.1.A5 b Zo λh=>?_).trans ((I.out.2.1.A5 b Zo λh=>?_).trans ((E.out.block b Zo (λe=>Q (by cases e;rfl))).trans (s.out.block b a)))
 ·rcases h with h|h
  ·exact Q h
  ·rcases f7 b h with h|h
   ·exact ao h
   ·omega
 ·rcases h with h|h|h
  ·exact Q h
  ·exact ao (y b h)
  ·have:=m.out.2 b h;omega
section
variable{st:Int}{n t:Nat}{J:Xz}{c:Xi}{x:Xr}{M:MR}
def SN(h:Bj n t M)(a:t<=90000):TR M:=
 ⟨h.Q9,h.Q8,⟨h.QY,h.Ua⟩,h.eng,gb h.nl Zo,gb h.Pz.length_le (gb h.nl a),gb h.sl Zd⟩
def gN(h:Bj n t M)(k:Se st n M c):Na M:=by
 obtain⟨j,ha,l⟩:=k.b;have f:=h.eng;have q:=OZ h.QY h.Ua;unfold Na;rcases l with⟨a,l⟩|⟨a,s,u,v⟩|⟨a,e⟩|⟨a,e,f,g,i⟩|⟨a,e,g,i,w,y,m⟩|⟨a,e,g,i,f,m,z,A⟩|⟨a,e,g,i,m⟩|⟨a,e⟩|⟨a,e,p⟩|⟨a,e,p⟩|⟨a,e⟩|⟨a,e,f⟩|⟨a,e,f,g,il⟩|⟨a,e,f⟩|⟨a,e,f⟩|⟨a,e⟩
 ·exact fq a
 ·exact db (fq a)
 ·exact d2 (fq a)
 ·exact d2 (db (fq ⟨a,f,g,i⟩))
 ·exact d4 (fq ⟨a,by rw[j];exact g,by rw[j];exact i⟩)
 ·exact d4 (db (fq ⟨a,f,by rw[j];exact g,by rw[j];exact i⟩))
 ·exact d4 (d2 (fq a))
 ·exact d4 (d2 (db (fq a)))
 ·exact d8 (fq a)
 ·exact d8 (db (fq a))
 ·exact d8 (d2 (fq a))
 ·exact d8 (d2 (db (fq a)))
 ·exact d8 (d4 (fq ⟨a,by unfold pR;omega,g,Zo⟩))
 ·exact d8 (d4 (db (fq a)))
 ·exact d8 (d4 (d2 (fq ⟨a,d2 (fq f)⟩)))
 ·obtain⟨d,r,o,_⟩:=k.iJ a;exact d8 (d4 (d2 (db ⟨a,d,r,o,h.Pz.subset (by rw[o];exact g6 ..)⟩)))
def qf(h:Kz st n c)(b:c.kind≠12):QK c:=by
 unfold QK;rcases h with⟨a,_⟩|⟨a,_⟩|⟨a,_⟩|⟨a,_,d,e,f⟩|⟨a,g⟩|a|⟨a,_⟩|⟨a,_⟩|a
 ·exact d2 (fq a)
 ·exact d2 (db (fq a))
 ·exact d4 (fq a)
 ·exact d4 (db (fq ⟨a,d,e,f⟩))
 ·exact d4 (d2 (fq ⟨a,g⟩))
 ·exact d4 (d2 (db (fq a)))
 ·exact d8 (fq a)
 ·exact d8 (db (fq a))
 ·exact absurd a b
def tB(h:JI st n J c)(p:c.kind≠12):J.Ok:=by
 cases J with
 |pile J=>trivial
 |Wu J=>trivial
 |lit J=>trivial
 |Lm J=>
  obtain⟨_,h⟩:=h;have i:=h.b;rcases h.pc with⟨_,h⟩|⟨_,h⟩
  ·exact absurd h p
  refine⟨?_,i.kind,i.k0,i.k1,i.w0,i.w1,λe=>?_,i.b0,i.b1,λe=>?_,i.c0,i.c1,λe=>?_,λe=>?_⟩
  ·unfold TN at h;omega
  ·rcases h with hp|hp|⟨hp,a⟩|⟨hp,k,a⟩|⟨hp|hp,d,a⟩|⟨hp,d,a,f⟩|⟨hp,d,a,f⟩|⟨hp|hp|hp,a⟩|⟨hp,I,j,l⟩|hp|hp|hp|hp<;>first|(exfalso;omega)|exact a
  ·rcases h with hp|hp|⟨hp,a⟩|⟨hp,k,a⟩|⟨hp|hp,d,a⟩|⟨hp,d,a,f⟩|⟨hp,d,a,f⟩|⟨hp|hp|hp,a⟩|⟨hp,I,j,l⟩|hp|hp|hp|hp<;>first|(exfalso;omega)|exact a
  ·rcases h with hp|hp|⟨hp,a⟩|⟨hp,k,a⟩|⟨hp|hp,d,a⟩|⟨hp,d,a,f⟩|⟨hp,d,a,f⟩|⟨hp|hp|hp,a⟩|⟨hp,I,j,l⟩|hp|hp|hp|hp<;>first|(exfalso;omega)|(obtain⟨W,m,_⟩:=f;exact⟨W,m⟩)|(obtain⟨W,m⟩:=f;exact⟨W,m⟩)
  ·rcases h with hp|hp|⟨hp,a⟩|⟨hp,k,a⟩|⟨hp|hp,d,a⟩|⟨hp,d,a,f⟩|⟨hp,d,a,f⟩|⟨hp|hp|hp,a⟩|⟨hp,I,j,l⟩|hp|hp|hp|hp<;>first|(exfalso;omega)|exact⟨I,j⟩
 |N8 J=>
  obtain⟨_,h⟩:=h;have i:=h.b;refine⟨λC e=>(i.Ab C e).b.lv,λe=>?_⟩;have q:∀{P:Prop},Sh J.Ab->P:=λh=>by obtain⟨C,h⟩:=h;rw[e] at h;cases h
  rcases h.pc with⟨_,h⟩|⟨_,h⟩
  ·exact absurd h p
  rcases h with hp|⟨g,hp,r⟩|⟨g,hp,d⟩|⟨g,hp,d,a⟩|⟨g,hp,d,a⟩|⟨g,hp,o,d,a⟩|⟨g,hp,o,d,a⟩|⟨g,hp,o,d,a⟩|⟨g,hp,a⟩|⟨g,hp,d,a⟩|⟨g,hp,o,d,a⟩|⟨g,hp,d,a⟩|⟨g,hp,d,a⟩|⟨g,hp,d,a⟩
  ·have:=i.op;exact fq ⟨hp,Zo⟩
  ·exact db ⟨g,fq hp⟩
  ·exact db ⟨g,db hp⟩
  all_goals first|exact q a|exact q a.so
structure RS(st:Int)(n t:Nat)(s:JM)(c:Xi):Prop where
 Bl:JI st n s.1 c
 k12:c.kind≠12
 rp:Qq st n c (rep s)
 base:Bj n t s.2
def RS.next{s:JM}(h:RS st n t s c)(b:((ask s).kind==12)=false)(d:JS (BJ s)=false):RS st n (t+1) (BJ s) (ask s)/\EO (ask s)=true:=by
 have a:(ask s).kind≠12:=by simpa using b
 obtain⟨i,f,m⟩:=JE h.Bl h.k12 h.rp;have e:BJ s=((s.1.next (rep s)).1,s.2.Ag (ask s)):=by unfold BJ;rw[b];rfl
 obtain⟨j,k⟩:=qV h.base (fq ⟨f,a⟩);have g:(s.2.Ag (ask s)).R.step=0:=by rw[e] at d;unfold JS at d;simpa using d
 refine⟨?_,?_⟩
 ·rw[e];refine⟨i,a,?_,j⟩;rcases k with r|r
  ·exact absurd g r.1
  ·exact r.2
 ·cases l:EO (ask s) with
  |true=>rfl
  |false=>exact absurd g (KX s.2 f l a)
def Vg:∀(k m t:Nat) (s:JM) (c:Xi),RS st n t s c->Calm Xz.next k (s.1.next (rep s)).1 (ask s)->Ky (m+k+1) s
 |k,m,t,s,c,h,a=>by
  intro b f;obtain⟨q,d⟩:=h.next b f;cases k with
  |zero=>rw[show Calm Xz.next 0 (s.1.next (rep s)).1 (ask s)=(EO (ask s)=false) from rfl,d] at a;cases a
  |succ k=>
   have e:(BJ s).1=(s.1.next (rep s)).1:=rfl;have:=Vg k m (t+1) (BJ s) (ask s) q (by have:=a d (rep (BJ s));rw[←e] at this;exact this);exact this
def iK{s:JM}(h:RS st n t s c):∀k,(∀i≤k,JS (CT i s)=false)->(∀i<k,((ask (CT i s)).kind==12)=false)->
  k<=3/\∃c,RS st n (t+k) (CT k s) c/\(k=0\/(EO c=true/\Calm Xz.next (4-k) (CT k s).1 c)):=by
 intro k
 induction k with
 |zero=>exact λ_ _=>⟨Zd,c,h,fq rfl⟩
 |succ k m=>
  intro l b
  obtain⟨v,w,q,a⟩:=m (λi f=>l i Zo) λi f=>b i Zo
  have o:JS (BJ (CT k s))=false:=l (k+1) (Nat.le_refl _)
  obtain⟨p,f⟩:=q.next (b k Zo) o
  have d:Calm Xz.next (4-(k+1)) (CT (k+1) s).1 (ask (CT k s)):=by
   have e:(CT (k+1) s).1=((CT k s).1.next (rep (CT k s))).1:=rfl;rw[e];rcases a with a|⟨g,a⟩
   ·subst a;exact(JE q.Bl q.k12 q.rp).2.2
   ·obtain⟨j,r⟩:∃j,4-k=j+1:=⟨3-k,Zo⟩;rw[r] at a;have:=a g (rep (CT k s));rw[show 4-(k+1)=j from Zo];exact this
  have u:k+1<=3:=by
   rcases iw k 3 with h|h
   ·omega
   ·have:k=3:=Zo;subst this;have d:EO (ask (CT 3 s))=false:=d;rw[f] at d;cases d
  exact⟨u,_,by have:=p;rwa [mf] at this,db ⟨f,d⟩⟩
def tx{V:MV}(h:VL st n t V)(m:t<=80000):Qi V:=by
 have a:∀J,V.Bl=some J->JI st n J V.call->V.call.kind≠12->(V.Ac=1\/V.Ac=2)->Qi V:=λJ f q g d=>by
  have i:V.Ef=false->RS st n t (J,V.M) V.call:=λb=>by
   have j:V.M.R.step=0:=by unfold MV.Ef at b;simpa using b
   refine⟨q,g,?_,h.base⟩;rcases h.at_ with h|h
   ·exact absurd j h.1
   ·exact h.2
  refine fq ⟨d,J,f,λk b l=>?_,λb=>Vg 3 1 t _ _ (i b) (JE q g (i b).rp).2.2⟩;obtain⟨o,c,r,_⟩:=iK (i (b 0 Zo)) k b l;refine⟨tB r.Bl r.k12,SN r.base Zo,λe=>?_⟩;exact qf (JE r.Bl r.k12 r.rp).2.1 (by simpa using e)
 rcases h.Bl with⟨d,e,J,f,q⟩|⟨d,e,p,J,f,q⟩|⟨d,e⟩|⟨d,e⟩
 ·exact a J f q (by rw[e];decide) (fq d)
 ·exact a J f q e (db d)
 ·exact db ⟨Zo,Zo⟩
 ·exact db ⟨Zo,Zo⟩
def cO{V:MV}{p:Pl}(h:VI st n t V)(d:V.Ac≠0)(a:HI st n p)(j:t<=70000)(k:n<=1024):WN V p:=by
 obtain⟨f,e,g⟩:=cJ h d a;refine⟨d,f,SN h.base Zo,gN h.base e,(bR a e.b.2.1).1,λx i=>?_,?_,tx g Zo⟩
 ·have:=a.Wh x i;unfold Pl.BY;rw[a.ns];simp;omega
 ·have:=a.len;omega
def kZ{V:MV}{o:AV}(h:VI st n t V)(a:V.Ac=0)(b:N3 st o)(d:t<=70000):TR V.M/\V.M.R.step=0/\Qi (MV.Ag {V with op:=o,Bl:=some (Xz.new V.st o),BR:=.zero} 1 Zj):=by
 refine⟨SN h.base Zo,?_,tx (dU h a b) Zo⟩;rcases h.at_ with h|h
 ·exact h.2
 ·rcases h.2.2 with h|h|h|h<;>(have:=h.1;omega)
end
