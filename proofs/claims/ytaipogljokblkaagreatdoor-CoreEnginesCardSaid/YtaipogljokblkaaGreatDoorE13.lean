/- Core: CR1, RB, CRr, CRs, CRn, Rfr, CRq, CPr. -/
import Derived.Test.YtaipogljokblkaaGreatDoorE12
import Derived.Test.YtaipogljokblkaaGreatDoorE09
import Derived.Test.YtaipogljokblkaaGreatDoorE10
import Derived.Test.YtaipogljokblkaaGreatDoorE01
set_option linter.all false
set_option maxRecDepth 100000
set_option maxHeartbeats 8000000
namespace Go.Proofs.YtaipogljokblkaaGreatDoor
open Go Go.RowKit
set_option linter.unusedSimpArgs false
set_option linter.unusedVariables false
set_option linter.unusedSectionVars false
def rlcE(R:Xb)(c:Xf):Env:=Ik [R.iL,c.ii] [R.bb,c.bb] [R.seen.v,R.An.v,R.notes.v] (AE rfl)
def tD(R:Xb)(x:Xj):Env:=Ik [R.iL,x.ii] [R.bb,x.bb] [R.seen.v,R.An.v,R.notes.v] (AE rfl)
def yT:List SC:=(ct [vs 0 8,[.bool (.var 0)],vs 8 4,[.bool (.var 1)],vs 12 13,[.bool (.var 2)],vs 25 4,[.bool (.var 3)],vs 29 4,[.bool (.var 4)],vs 33 4,[.bool (.var 5),.int (.var 37),.yL 0 (.var 38),.yL 1 (.var 39)],vs 40 8,[.bool (.var 6)],vs 48 4,[.bool (.var 7)],vs 52 4,[.bool (.var 8)],vs 56 4,[.bool (.var 9)],vs 60 4,[.bool (.var 10)],vs 64 4,[.bool (.var 11)],vs 68 4,[.bool (.var 12)],vs 72 4,[.bool (.var 13)],vs 76 4,[.bool (.var 14),.bool (.var 15),.int (.var 80),.int (.var 81),.yL 2 (.var 82)],vs 83 5,[.bool (.var 16),.bool (.var 17)]])
def Yf(g:Nat)(R:Xb):List Nat:=g::(R.notes.v.ownBlock.toList++(R.An.v.ownBlock.toList++R.seen.v.ownBlock.toList))
structure RB(w:World)(g:Nat)(R:Xb)(ns ds:List Xq)(ss:List Xe):Prop where
 bk:Bk w g 171 R.l.toArray
 on:Own w 201 7 R.notes.v ns.length (rows Xq.l ns)
 od:Own w 201 7 R.An.v ds.length (rows Xq.l ds)
 os:Own w 51 5 R.seen.v ss.length (rows Xe.l ss)
 gn:R.notes.v.ownBlock≠some g
 gd:R.An.v.ownBlock≠some g
 gs:R.seen.v.ownBlock≠some g
 nd:∀b,R.notes.v.ownBlock=some b->R.An.v.ownBlock≠some b
 ns:∀b,R.notes.v.ownBlock=some b->R.seen.v.ownBlock≠some b
 ds:∀b,R.An.v.ownBlock=some b->R.seen.v.ownBlock≠some b
section
variable{w w':World}{g:Nat}{R R':Xb}{ns ds ds':List Xq}{ss ss':List Xe}{F:List Nat}
theorem Xn{b:Nat}:b∈Yf g R↔b=g\/R.notes.v.ownBlock=some b\/R.An.v.ownBlock=some b\/R.seen.v.ownBlock=some b:=by
 simp only[Yf,List.mem_cons,List.mem_append,Option.mem_toList]
theorem Own.BV{E:TypeId}{sz n:Nat}{v:Value}{xs:List Value}(h:Own w E sz v n xs)(hc:Ak F w w')(hF:∀b,v.ownBlock=some b->b∉F):Own w' E sz v n xs:=
 h.kept λb hb=>hc.Ax b (h.lt hb) (hF b hb)
theorem RB.lt(h:RB w g R ns ds ss):∀b∈Yf g R,b<w.heap.size:=λb hb=>by
 rcases Xn.1 hb with rfl|h1|h1|h1
 ·exact h.bk.lt
 ·exact h.on.lt h1
 ·exact h.od.lt h1
 ·exact h.os.lt h1
theorem RB.BV(h:RB w g R ns ds ss)(hc:Ak F w w')(hF:∀b∈Yf g R,b∉F):RB w' g R ns ds ss:=
 ⟨h.bk.BV hc (hF g (Xn.2 (Or.inl rfl))),h.on.BV hc λb hb=>hF b (Xn.2 (Or.inr (Or.inl hb))),h.od.BV hc λb hb=>hF b (Xn.2 (Or.inr (Or.inr (Or.inl hb)))),h.os.BV hc λb hb=>hF b (Xn.2 (Or.inr (Or.inr (Or.inr hb)))),h.gn,h.gd,h.gs,h.nd,h.ns,h.ds⟩
theorem RB.Ap(h:RB w g R ns ds ss)(hb:Bk w' g 171 R'.l.toArray)(hc:Ak [g] w w')(hn:R'.notes=R.notes)(hd:(R'.An=R.An/\ds'=ds)\/(R'.An=Bp/\ds'=[]))(hs:(R'.seen=R.seen/\ss'=ss)\/(R'.seen=Bp/\ss'=[])):
  RB w' g R' ns ds' ss':=by
 have Ax:∀{v:Value},v.ownBlock≠some g->∀b,v.ownBlock=some b->b∉[g]:=λhv b hb hm=>by rw[List.mem_singleton.1 hm] at hb;exact hv hb
 have e0:Bp.v.ownBlock=none:=rfl
 have on':=h.on.BV hc (Ax h.gn)
 have od':=h.od.BV hc (Ax h.gd)
 have os':=h.os.BV hc (Ax h.gs)
 have nl:∀{E:TypeId} {sz:Nat},Own w' E sz Bp.v 0 []:=Own.nil
 rcases hd with⟨d1,rfl⟩|⟨d1,rfl⟩<;>rcases hs with⟨s1,rfl⟩|⟨s1,rfl⟩
 ·exact⟨hb,hn▸on',d1▸od',s1▸os',hn▸h.gn,d1▸h.gd,s1▸h.gs,by rw[hn,d1];exact h.nd,by rw[hn,s1];exact h.ns,by rw[d1,s1];exact h.ds⟩
 ·exact⟨hb,hn▸on',d1▸od',by rw[s1];exact nl,hn▸h.gn,d1▸h.gd,by rw[s1,e0];simp,by rw[hn,d1];exact h.nd,by rw[hn,s1];intro b _;simp[e0],by rw[d1,s1];intro b _;simp[e0]⟩
 ·exact⟨hb,hn▸on',by rw[d1];exact nl,s1▸os',hn▸h.gn,by rw[d1,e0];simp,s1▸h.gs,by rw[hn,d1];intro b _;simp[e0],by rw[hn,s1];exact h.ns,by rw[d1,s1];intro b hb;simp[e0] at hb⟩
 ·exact⟨hb,hn▸on',by rw[d1];exact nl,by rw[s1];exact nl,hn▸h.gn,by rw[d1,e0];simp,by rw[s1,e0];simp,by rw[hn,d1];intro b _;simp[e0],by rw[hn,s1];intro b _;simp[e0],by rw[d1,s1];intro b _;simp[e0]⟩
theorem Ak.Ar{b:Nat}{row:Option Nat}(h:w.grownBy w' row)(hr:∀b,row=some b->b∈F):Ak F w w':=
 ⟨h.os,h.tape,h.output,h.size,λb hb hf=>h.block b hb (λe=>hf (hr b e.symm))⟩
end
def tJ(x:Xe):Env:=Il [x.ii] [[x.mark]]
def yS:St:=⟨[],[],[],10,0⟩
def lP:List SV:=[.agg ((ct [vs 0 4,[.bool (.var 0)]]))]
theorem Zx(x:Xe)(w:World):Calls Tryz.prog 67 #[.agg x.l.toArray] w λen w'=>en=.returned (.agg (Yt x).l.toArray)/\Ak [] w w':=by
 refine p0 (tJ x) [] 60 yS lP (Yt x) (λr=>(.agg r.l.toArray)) Xu BY ?_;exact vS4
def vA:Env:=Il [] []
def era_st:St:=⟨[],[],[],10,0⟩
def oT:List SV:=[]
theorem vC(w:World):Calls Tryz.prog 43 #[] w λen w'=>en=.returned (.agg (root 24).l.toArray)/\Ak [] w w':=by
 refine p0 (vA) [] 60 era_st oT (root 24) (λr=>(.agg r.l.toArray)) Xu BY ?_;exact vS4
def oG(x:Xe):Env:=Il [x.ii] [[x.mark]]
def uQ:St:=⟨[],[],[],10,0⟩
def fR:List SV:=[.agg ((ct [vs 0 4,[.bool (.var 0)]]))]
theorem oH(x:Xe)(w:World):Calls Tryz.prog 112 #[.agg x.l.toArray] w λen w'=>en=.returned (.agg (DY x).l.toArray)/\Ak [] w w':=by
 refine p0 (oG x) [] 60 uQ fR (DY x) (λr=>(.agg r.l.toArray)) Xu BY ?_;exact vS4
def dX(R:Xb):Env:=Ik [R.ii] [R.bb] [R.seen.v,R.An.v,R.notes.v] (AE rfl)
def lQ:St:=⟨[],[(1,171,(ct [vs 0 8,[.bool (.var 0)],vs 8 4,[.bool (.var 1)],vs 12 13,[.bool (.var 2)],vs 25 4,[.bool (.var 3)],vs 29 4,[.bool (.var 4)],vs 33 4,[.bool (.var 5),.int (.var 37),.AN 0,.AN 1],vs 38 8,[.bool (.var 6)],vs 46 4,[.bool (.var 7)],vs 50 4,[.bool (.var 8)],vs 54 4,[.bool (.var 9)],vs 58 4,[.bool (.var 10)],vs 62 4,[.bool (.var 11)],vs 66 4,[.bool (.var 12)],vs 70 4,[.bool (.var 13)],vs 74 4,[.bool (.var 14),.bool (.var 15),.int (.var 78),.int (.var 79),.AN 2],vs 80 5,[.bool (.var 16),.bool (.var 17)]]))],[],10,0⟩
def Wm:List SV:=[.c (.ptr 1 0)]
theorem dY(R:Xb)(g1:Nat)(w:World)(h1:Bk w g1 171 (R.l).toArray):Calls Tryz.prog 75 #[.pointer (some ⟨g1,0,none⟩)] w λen w'=>en=.returned (.tuple #[])/\Bk w' g1 171 ((Xb.done R).l).toArray/\Ak [g1] w w':=by
 refine p1 (dX R) [] 120 lQ Wm (Xb.done R) (λr=>(.tuple #[],(r.l).toArray)) Xu BY h1 ?_;exact vS2
def dO(R:Xb)(st:Int)(ad:X9):Env:=Ik [R.ii,[st],ad.ii] [R.bb] [R.seen.v,R.An.v,R.notes.v] (AE rfl)
def lL:St:=⟨[],[(1,171,(ct [vs 0 8,[.bool (.var 0)],vs 8 4,[.bool (.var 1)],vs 12 13,[.bool (.var 2)],vs 25 4,[.bool (.var 3)],vs 29 4,[.bool (.var 4)],vs 33 4,[.bool (.var 5),.int (.var 37),.AN 0,.AN 1],vs 38 8,[.bool (.var 6)],vs 46 4,[.bool (.var 7)],vs 50 4,[.bool (.var 8)],vs 54 4,[.bool (.var 9)],vs 58 4,[.bool (.var 10)],vs 62 4,[.bool (.var 11)],vs 66 4,[.bool (.var 12)],vs 70 4,[.bool (.var 13)],vs 74 4,[.bool (.var 14),.bool (.var 15),.int (.var 78),.int (.var 79),.AN 2],vs 80 5,[.bool (.var 16),.bool (.var 17)]]))],[],10,0⟩
def Wj:List SV:=[.c (.ptr 1 0),.c (.int (.var 85)),.agg (vs 86 3)]
theorem dQ(R:Xb)(st:Int)(ad:X9)(g1:Nat)(w:World)(h1:Bk w g1 171 (R.l).toArray):Calls Tryz.prog 89 #[.pointer (some ⟨g1,0,none⟩),.int .i64 st,.agg ad.l.toArray] w λen w'=>en=.returned (.tuple #[])/\Bk w' g1 171 ((Xb.load R st ad).l).toArray/\Ak [g1] w w':=by
 refine p1 (dO R st ad) [] 120 lL Wj (Xb.load R st ad) (λr=>(.tuple #[],(r.l).toArray)) Xu BY h1 ?_;exact vS2
def lT(R:Xb)(st:Int)(ac:Bn):Env:=Ik [R.ii,[st],ac.ii] [R.bb,ac.bb] [R.seen.v,R.An.v,R.notes.v] (AE rfl)
def tQ:St:=⟨[],[(1,171,(ct [vs 0 8,[.bool (.var 0)],vs 8 4,[.bool (.var 1)],vs 12 13,[.bool (.var 2)],vs 25 4,[.bool (.var 3)],vs 29 4,[.bool (.var 4)],vs 33 4,[.bool (.var 5),.int (.var 37),.AN 0,.AN 1],vs 38 8,[.bool (.var 6)],vs 46 4,[.bool (.var 7)],vs 50 4,[.bool (.var 8)],vs 54 4,[.bool (.var 9)],vs 58 4,[.bool (.var 10)],vs 62 4,[.bool (.var 11)],vs 66 4,[.bool (.var 12)],vs 70 4,[.bool (.var 13)],vs 74 4,[.bool (.var 14),.bool (.var 15),.int (.var 78),.int (.var 79),.AN 2],vs 80 5,[.bool (.var 16),.bool (.var 17)]]))],[],10,0⟩
def eB:List SV:=[.c (.ptr 1 0),.c (.int (.var 85)),.agg ((ct [vs 86 8,[.bool (.var 18)],vs 94 4,[.bool (.var 19)]]))]
theorem lU(R:Xb)(st:Int)(ac:Bn)(g1:Nat)(w:World)(h1:Bk w g1 171 (R.l).toArray):Calls Tryz.prog 78 #[.pointer (some ⟨g1,0,none⟩),.int .i64 st,.agg ac.l.toArray] w λen w'=>en=.returned (.tuple #[])/\Bk w' g1 171 ((Xb.ask R st ac).l).toArray/\Ak [g1] w w':=by
 refine p1 (lT R st ac) [] 120 tQ eB (Xb.ask R st ac) (λr=>(.tuple #[],(r.l).toArray)) Xu BY h1 ?_;exact vS2
def lW(R:Xb)(st:Int):Env:=Ik [R.ii,[st]] [R.bb] [R.seen.v,R.An.v,R.notes.v] (AE rfl)
def tR:St:=⟨[],[(1,171,(ct [vs 0 8,[.bool (.var 0)],vs 8 4,[.bool (.var 1)],vs 12 13,[.bool (.var 2)],vs 25 4,[.bool (.var 3)],vs 29 4,[.bool (.var 4)],vs 33 4,[.bool (.var 5),.int (.var 37),.AN 0,.AN 1],vs 38 8,[.bool (.var 6)],vs 46 4,[.bool (.var 7)],vs 50 4,[.bool (.var 8)],vs 54 4,[.bool (.var 9)],vs 58 4,[.bool (.var 10)],vs 62 4,[.bool (.var 11)],vs 66 4,[.bool (.var 12)],vs 70 4,[.bool (.var 13)],vs 74 4,[.bool (.var 14),.bool (.var 15),.int (.var 78),.int (.var 79),.AN 2],vs 80 5,[.bool (.var 16),.bool (.var 17)]]))],[],10,0⟩
def eC:List SV:=[.c (.ptr 1 0),.c (.int (.var 85))]
theorem TO(R:Xb)(st:Int)(g1:Nat)(w:World)(h1:Bk w g1 171 (R.l).toArray):Calls Tryz.prog 94 #[.pointer (some ⟨g1,0,none⟩),.int .i64 st] w λen w'=>en=.returned (.tuple #[])/\Bk w' g1 171 ((Xb.advance R st).l).toArray/\Ak [g1] w w':=by
 refine p1 (lW R st) [] 120 tR eC (Xb.advance R st) (λr=>(.tuple #[],(r.l).toArray)) Xu BY h1 ?_;exact vS2
def TM(R:Xb):Env:=Ik [R.ii] [R.bb] [R.seen.v,R.An.v,R.notes.v] (AE rfl)
def Wn:St:=⟨[],[(1,171,(ct [vs 0 8,[.bool (.var 0)],vs 8 4,[.bool (.var 1)],vs 12 13,[.bool (.var 2)],vs 25 4,[.bool (.var 3)],vs 29 4,[.bool (.var 4)],vs 33 4,[.bool (.var 5),.int (.var 37),.AN 0,.AN 1],vs 38 8,[.bool (.var 6)],vs 46 4,[.bool (.var 7)],vs 50 4,[.bool (.var 8)],vs 54 4,[.bool (.var 9)],vs 58 4,[.bool (.var 10)],vs 62 4,[.bool (.var 11)],vs 66 4,[.bool (.var 12)],vs 70 4,[.bool (.var 13)],vs 74 4,[.bool (.var 14),.bool (.var 15),.int (.var 78),.int (.var 79),.AN 2],vs 80 5,[.bool (.var 16),.bool (.var 17)]]))],[],10,0⟩
def R3:List SV:=[.c (.ptr 1 0)]
theorem TN(R:Xb)(g1:Nat)(w:World)(h1:Bk w g1 171 (R.l).toArray):Calls Tryz.prog 90 #[.pointer (some ⟨g1,0,none⟩)] w λen w'=>en=.returned (.bool ((R,Xb.dating R)).2)/\Bk w' g1 171 (((R,Xb.dating R)).1.l).toArray/\Ak [g1] w w':=by
 refine p1 (TM R) [] 120 Wn R3 ((R,Xb.dating R)) (λr=>(.bool r.2,(r.1.l).toArray)) Xu BY h1 ?_;refine Dr (show _=(bif R.Aa==3 then(R,true) else(R,R.Aa==5)) by rw[SK];cases R.Aa==3<;>rfl) ?_;exact vS2
def dI(R:Xb):Env:=Ik [R.ii] [R.bb] [R.seen.v,R.An.v,R.notes.v] (AE rfl)
def lJ:St:=⟨[],[(1,171,(ct [vs 0 8,[.bool (.var 0)],vs 8 4,[.bool (.var 1)],vs 12 13,[.bool (.var 2)],vs 25 4,[.bool (.var 3)],vs 29 4,[.bool (.var 4)],vs 33 4,[.bool (.var 5),.int (.var 37),.AN 0,.AN 1],vs 38 8,[.bool (.var 6)],vs 46 4,[.bool (.var 7)],vs 50 4,[.bool (.var 8)],vs 54 4,[.bool (.var 9)],vs 58 4,[.bool (.var 10)],vs 62 4,[.bool (.var 11)],vs 66 4,[.bool (.var 12)],vs 70 4,[.bool (.var 13)],vs 74 4,[.bool (.var 14),.bool (.var 15),.int (.var 78),.int (.var 79),.AN 2],vs 80 5,[.bool (.var 16),.bool (.var 17)]]))],[],10,0⟩
def Wf:List SV:=[.c (.ptr 1 0)]
theorem dJ(R:Xb)(g1:Nat)(w:World)(h1:Bk w g1 171 (R.l).toArray):Calls Tryz.prog 57 #[.pointer (some ⟨g1,0,none⟩)] w λen w'=>en=.returned (.tuple #[.agg ((bif R.step==0 then Bn.zero else R.BN,!(R.step==0))).1.l.toArray,.bool ((bif R.step==0 then Bn.zero else R.BN,!(R.step==0))).2])/\Bk w' g1 171 (R.l).toArray/\Ak [g1] w w':=by
 refine p1 (dI R) [] 120 lJ Wf ((bif R.step==0 then Bn.zero else R.BN,!(R.step==0))) (λr=>(.tuple #[.agg r.1.l.toArray,.bool r.2],(R.l).toArray)) Xu BY h1 ?_;refine Dr (show _=(bif R.step==0 then(Bn.zero,false) else(R.BN,true)) by cases R.step==0<;>rfl) ?_;exact vS2
def Wc(R:Xb):Env:=Ik [R.ii] [R.bb] [R.seen.v,R.An.v,R.notes.v] (AE rfl)
def dD:St:=⟨[],[(1,171,(ct [vs 0 8,[.bool (.var 0)],vs 8 4,[.bool (.var 1)],vs 12 13,[.bool (.var 2)],vs 25 4,[.bool (.var 3)],vs 29 4,[.bool (.var 4)],vs 33 4,[.bool (.var 5),.int (.var 37),.AN 0,.AN 1],vs 38 8,[.bool (.var 6)],vs 46 4,[.bool (.var 7)],vs 50 4,[.bool (.var 8)],vs 54 4,[.bool (.var 9)],vs 58 4,[.bool (.var 10)],vs 62 4,[.bool (.var 11)],vs 66 4,[.bool (.var 12)],vs 70 4,[.bool (.var 13)],vs 74 4,[.bool (.var 14),.bool (.var 15),.int (.var 78),.int (.var 79),.AN 2],vs 80 5,[.bool (.var 16),.bool (.var 17)]]))],[],10,0⟩
def TC:List SV:=[.c (.ptr 1 0)]
theorem Wd(R:Xb)(g1:Nat)(w:World)(h1:Bk w g1 171 (R.l).toArray):Calls Tryz.prog 73 #[.pointer (some ⟨g1,0,none⟩)] w λen w'=>en=.returned (.agg (R).AF.l.toArray)/\Bk w' g1 171 ((R).l).toArray/\Ak [g1] w w':=by
 refine p1 (Wc R) [] 120 dD TC (R) (λr=>(.agg r.AF.l.toArray,(r.l).toArray)) Xu BY h1 ?_;exact vS2
def dZ(R:Xb):Env:=Ik [R.ii] [R.bb] [R.seen.v,R.An.v,R.notes.v] (AE rfl)
def lR:St:=⟨[],[(1,171,(ct [vs 0 8,[.bool (.var 0)],vs 8 4,[.bool (.var 1)],vs 12 13,[.bool (.var 2)],vs 25 4,[.bool (.var 3)],vs 29 4,[.bool (.var 4)],vs 33 4,[.bool (.var 5),.int (.var 37),.AN 0,.AN 1],vs 38 8,[.bool (.var 6)],vs 46 4,[.bool (.var 7)],vs 50 4,[.bool (.var 8)],vs 54 4,[.bool (.var 9)],vs 58 4,[.bool (.var 10)],vs 62 4,[.bool (.var 11)],vs 66 4,[.bool (.var 12)],vs 70 4,[.bool (.var 13)],vs 74 4,[.bool (.var 14),.bool (.var 15),.int (.var 78),.int (.var 79),.AN 2],vs 80 5,[.bool (.var 16),.bool (.var 17)]]))],[],10,0⟩
def Wo:List SV:=[.c (.ptr 1 0)]
theorem eA(R:Xb)(g1:Nat)(w:World)(h1:Bk w g1 171 (R.l).toArray):Calls Tryz.prog 72 #[.pointer (some ⟨g1,0,none⟩)] w λen w'=>en=.returned (.bool (!((R).step==0)))/\Bk w' g1 171 ((R).l).toArray/\Ak [g1] w w':=by
 refine p1 (dZ R) [] 120 lR Wo (R) (λr=>(.bool (!(r.step==0)),(r.l).toArray)) Xu BY h1 ?_;exact vS2
def rlnE(R:Xb):Env:=Ik [R.iL] [R.bb] [R.seen.v,R.An.v,R.notes.v] (AE rfl)
def dH:St:=⟨[],[(1,171,yT)],[(.le (.lit 0) (.var 82),true)],10,0⟩
def TE:List SV:=[.c (.ptr 1 0)]
theorem N4(R:Xb)(g1:Nat)(w:World)(h1:Bk w g1 171 (R.l).toArray):Calls Tryz.prog 95 #[.pointer (some ⟨g1,0,none⟩)] w λen w'=>en=.returned (.tuple #[])/\Bk w' g1 171 ((Xb.noted R).l).toArray/\Ak [g1] w w':=by
 refine p1 (rlnE R) [] 120 dH TE (Xb.noted R) (λr=>(.tuple #[],(r.l).toArray)) Xu (BO (decide_eq_true (Int.natCast_nonneg _)) BY) h1 ?_;exact vS2
def li(l:List (Nat × Int)):List (Nat × List SC):=l.map λp=>(p.1,[.int (.lit p.2)])
def aM(b:FH):FH:=(.le (.lit 0) (.var 39),true)::(.lt (.var 39) (.lit 6),true)::(.lt (.var 39) (.lit 0),false)::(.le (.lit 6) (.var 39),false)::b
theorem asM{e:Env}{b:FH}{m:Int}(h:(Tm.var 39).den e=m)(h0:0<=m)(h1:m<6)(hb:AR e b):AR e (aM b):=by
 subst h;exact BO (decide_eq_true h0) (BO (decide_eq_true h1) (BO (decide_eq_false (Int.not_lt.mpr h0)) (BO (decide_eq_false (Int.not_le.mpr h1)) hb)))
def sW(c:List SC)(a:FH):St:=⟨[],[(1,171,c)],a,10,0⟩
def aW(c:List SC):List SV:=[.c (.ptr 1 0),.agg c]
abbrev rW(f:FuncId)(v:Array Value)(R R':Xb):Prop:=∀g w,Bk w g 171 R.l.toArray->0<=R.me->R.me<6->Calls Tryz.prog f #[.pointer (some ⟨g,0,none⟩),.agg v] w λen w'=>en=.returned .nilIface/\Bk w' g 171 R'.l.toArray/\Ak [g] w w'
theorem mP{p:Prop}(h:p:=by repeat' (first|with_reducible (first|refine Eg (QL _) ?_|refine pN ?_|refine pA ?_|refine pO ?_|refine pB ?_|refine Eg (YT _) ?_|refine Eg (SK _) ?_|refine Eg (YU _) ?_|refine Eg (YV _ _ _) ?_|refine pF ?_|refine pT ?_|refine pU ?_|refine pV ?_|refine pC ?_ ?_)|refine GN ?_|refine GO ?_|refine Dr (Df _ _ _) ?_|exact l1)):p:=h
section
variable{f:FuncId}{v:Array Value}{R':Xb}(e:Env)(R:Xb)
theorem pW(c a:List SC)(s:FH)(hs:0<=R.me->R.me<6->AR e s)(h:PO (CR (exec Tryz.prog [] 120 (.call f (aW a)) (sW c s))) e (λx r=>Q1 e 171 (sW c s).hp x (.nilIface,r.l.toArray)) s R')(hr:∀g,R.l.toArray=Yj e (Dk [g]) (cellAt 1 (sW c s).hp):=by intro g;kernel_rfl)(closed:PU (Yg (sW c s).hp) (sW c s).hp=true:=by kernel_rfl)
  (cargs:(aW a).all (IN (Yg (sW c s).hp))=true:=by kernel_rfl)(ha:∀g,#[.pointer (some ⟨g,0,none⟩),.agg v]=((aW a).map (SV.den e (Dk [g]))).toArray:=by intro g;kernel_rfl)(hnf:¬f=Dl:=by decide):rW f v R R':=λg _ hb h0 h1=>
 p1 e [] 120 (sW c s) (aW a) R' (λr=>(.nilIface,r.l.toArray)) Xu (hs h0 h1) hb h mixed rfl (hr g) closed cargs (ha g) rfl hnf
end
def tA:List SC:=ct [vs 85 4,[.bool (.var 18),.bool (.var 19)]]
abbrev SM(x:Xj):=rW 58 x.l.toArray
theorem rB{R R':Xb}{x:Xj}(Z:Xb)(l:List (Nat × Int))(h:PO (CR (exec Tryz.prog [] 120 (.call 58 (aW tA)) (sW (pt eD (li l)) (aM [])))) (rxE Z x) (λy r=>Q1 (rxE Z x) 171 (sW (pt eD (li l)) (aM [])).hp y (.nilIface,r.l.toArray)) (aM []) R':=by exact mP)
  (hm:R.me=Z.me:=by rfl)(hr:∀g,R.l.toArray=Yj (rxE Z x) (Dk [g]) (cellAt 1 (sW (pt eD (li l)) (aM [])).hp):=by intro g;kernel_rfl)(closed:PU (Yg (sW (pt eD (li l)) (aM [])).hp) (sW (pt eD (li l)) (aM [])).hp=true:=by kernel_rfl):SM x R R':=
 pW (rxE Z x) R (pt eD (li l)) tA (aM []) (λh0 h1=>asM (m:=R.me) hm.symm h0 h1 BY) h hr closed
def tL:List SC:=ct [vs 88 4,[.bool (.var 18),.bool (.var 19)]]
def aL:FH:=[(.le (.lit 0) (.var 82),true)]
theorem pTl{R R':Xb}{x:Xj}(Z:Xb)(l:List (Nat × Int))(h:PO (CR (exec Tryz.prog [] 120 (.call 58 (aW tL)) (sW (pt yT (li l)) aL))) (tD Z x) (λy r=>Q1 (tD Z x) 171 (sW (pt yT (li l)) aL).hp y (.nilIface,r.l.toArray)) aL R':=by exact mP)
  (hr:∀g,R.l.toArray=Yj (tD Z x) (Dk [g]) (cellAt 1 (sW (pt yT (li l)) aL).hp):=by intro g;kernel_rfl)(closed:PU (Yg (sW (pt yT (li l)) aL).hp) (sW (pt yT (li l)) aL).hp=true:=by kernel_rfl):SM x R R':=
 pW (tD Z x) R (pt yT (li l)) tL aL (λ_ _=>BO (decide_eq_true (Int.natCast_nonneg _)) BY) h hr closed
def cA:List SC:=ct [vs 85 8,[.bool (.var 18)],vs 93 4,[.bool (.var 19)],vs 97 4]
abbrev bgW(c:Xf):=rW 71 c.l.toArray
theorem mQ{R R':Xb}{c:Xf}(Z:Xb)(C:Xf)(l m:List (Nat × Int))(b:FH)(hb:AR (rcE Z C) b)(h:PO (CR (exec Tryz.prog [] 120 (.call 71 (aW (pt cA (li m)))) (sW (pt eD (li l)) (aM b)))) (rcE Z C) (λy r=>Q1 (rcE Z C) 171 (sW (pt eD (li l)) (aM b)).hp y (.nilIface,r.l.toArray)) (aM b) R':=by exact mP)
  (hm:R.me=Z.me:=by rfl)(hr:∀g,R.l.toArray=Yj (rcE Z C) (Dk [g]) (cellAt 1 (sW (pt eD (li l)) (aM b)).hp):=by intro g;kernel_rfl)(closed:PU (Yg (sW (pt eD (li l)) (aM b)).hp) (sW (pt eD (li l)) (aM b)).hp=true:=by kernel_rfl)
  (cargs:(aW (pt cA (li m))).all (IN (Yg (sW (pt eD (li l)) (aM b)).hp))=true:=by kernel_rfl)(ha:∀g,#[.pointer (some ⟨g,0,none⟩),.agg c.l.toArray]=((aW (pt cA (li m))).map (SV.den (rcE Z C) (Dk [g]))).toArray:=by intro g;kernel_rfl):bgW c R R':=
 pW (rcE Z C) R (pt eD (li l)) (pt cA (li m)) (aM b) (λh0 h1=>asM (m:=R.me) hm.symm h0 h1 hb) h hr closed cargs ha
theorem zO{n:Int}(h0:0<=n)(h1:n<9):n=0\/n=1\/n=2\/n=3\/n=4\/n=5\/n=6\/n=7\/n=8:=Zo
def lB(x:Xe)(y:Xe):Env:=Il [x.ii,y.ii] [[x.mark,y.mark]]
def sX:St:=⟨[],[],[],10,0⟩
def dA:List SV:=[.agg ((ct [vs 0 4,[.bool (.var 0)]])),.agg ((ct [vs 4 4,[.bool (.var 1)]]))]
theorem lC(x:Xe)(y:Xe)(w:World):Calls Tryz.prog 83 #[.agg x.l.toArray,.agg y.l.toArray] w λen w'=>en=.returned (.bool (Dm x y))/\Ak [] w w':=by
 refine p0 (lB x y) [] 60 sX dA (Dm x y) (λr=>(.bool r)) Xu BY ?_;exact vS4
def uB(n:Int):Env:=Il [[n]] []
def zE:St:=⟨[],[],[],10,0⟩
def nB:List SV:=[.c (.int (.var 0))]
theorem uC(n:Int)(w:World):Calls Tryz.prog 44 #[.int .i64 n] w λen w'=>en=.returned (.agg (Yy n).l.toArray)/\Ak [] w w':=by
 refine p0 (uB n) [] 60 zE nB (Yy n) (λr=>(.agg r.l.toArray)) Xu BY ?_;exact vS4
def TK(k:Int):Env:=Il [[k]] []
def Wl:St:=⟨[],[],[],10,0⟩
def Rz:List SV:=[.c (.int (.var 0))]
theorem Mp(k:Int)(w:World):Calls Tryz.prog 63 #[.int .i64 k] w λen w'=>en=.returned (.agg (Pl.refused k).l.toArray)/\Ak [] w w':=by
 refine p0 (TK k) [] 60 Wl Rz (Pl.refused k) (λr=>(.agg r.l.toArray)) Xu BY ?_;exact vS4
end Go.Proofs.YtaipogljokblkaaGreatDoor
