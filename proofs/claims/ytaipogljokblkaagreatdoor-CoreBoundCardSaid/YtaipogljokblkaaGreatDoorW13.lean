/- Core: CR1, RB, CRr, CRs, CRn, Rfr, Rba, CRq, CPr. -/
import Derived.Test.YtaipogljokblkaaGreatDoorW12
import Derived.Test.YtaipogljokblkaaGreatDoorW09
import Derived.Test.YtaipogljokblkaaGreatDoorW11
import Derived.Test.YtaipogljokblkaaGreatDoorW01
set_option linter.all false
set_option maxRecDepth 100000
set_option maxHeartbeats 8000000
namespace Go.Proofs.YtaipogljokblkaaGreatDoor
open Go Go.RowKit
set_option linter.unusedSimpArgs false
set_option linter.unusedVariables false
set_option linter.unusedSectionVars false
def rlcE(R:Xb)(c:Xf):Env:=Iw [R.iL,c.ii] [R.bb,c.bb] [R.seen.v,R.Ao.v,R.notes.v] (AI rfl)
def tR(R:Xb)(x:Xj):Env:=Iw [R.iL,x.ii] [R.bb,x.bb] [R.seen.v,R.Ao.v,R.notes.v] (AI rfl)
def zC:List SC:=(ct [vs 0 8,[.bool (.var 0)],vs 8 4,[.bool (.var 1)],vs 12 13,[.bool (.var 2)],vs 25 4,[.bool (.var 3)],vs 29 4,[.bool (.var 4)],vs 33 4,[.bool (.var 5),.int (.var 37),.yT 0 (.var 38),.yT 1 (.var 39)],vs 40 8,[.bool (.var 6)],vs 48 4,[.bool (.var 7)],vs 52 4,[.bool (.var 8)],vs 56 4,[.bool (.var 9)],vs 60 4,[.bool (.var 10)],vs 64 4,[.bool (.var 11)],vs 68 4,[.bool (.var 12)],vs 72 4,[.bool (.var 13)],vs 76 4,[.bool (.var 14),.bool (.var 15),.int (.var 80),.int (.var 81),.yT 2 (.var 82)],vs 83 5,[.bool (.var 16),.bool (.var 17)]])
def Yh(g:Nat)(R:Xb):List Nat:=g::(R.notes.v.ownBlock.toList++(R.Ao.v.ownBlock.toList++R.seen.v.ownBlock.toList))
structure RB(w:World)(g:Nat)(R:Xb)(ns ds:List Xn)(ss:List Xd):Prop where
 bk:Bk w g 171 R.l.toArray
 on:Own w 201 7 R.notes.v ns.length (rows Xn.l ns)
 od:Own w 201 7 R.Ao.v ds.length (rows Xn.l ds)
 os:Own w 51 5 R.seen.v ss.length (rows Xd.l ss)
 gn:R.notes.v.ownBlock≠some g
 gd:R.Ao.v.ownBlock≠some g
 gs:R.seen.v.ownBlock≠some g
 nd:∀b,R.notes.v.ownBlock=some b->R.Ao.v.ownBlock≠some b
 ns:∀b,R.notes.v.ownBlock=some b->R.seen.v.ownBlock≠some b
 ds:∀b,R.Ao.v.ownBlock=some b->R.seen.v.ownBlock≠some b
section
variable{w w':World}{g:Nat}{R R':Xb}{ns ds ds':List Xn}{ss ss':List Xd}{F:List Nat}
theorem Xk{b:Nat}:b∈Yh g R↔b=g\/R.notes.v.ownBlock=some b\/R.Ao.v.ownBlock=some b\/R.seen.v.ownBlock=some b:=by
 simp only[Yh,List.mem_cons,List.mem_append,Option.mem_toList]
theorem Own.Cf{E:TypeId}{sz n:Nat}{v:Value}{xs:List Value}(h:Own w E sz v n xs)(hc:Al F w w')(hF:∀b,v.ownBlock=some b->b∉F):Own w' E sz v n xs:=
 h.kept λb hb=>hc.Av b (h.lt hb) (hF b hb)
theorem RB.lt(h:RB w g R ns ds ss):∀b∈Yh g R,b<w.heap.size:=λb hb=>by
 rcases Xk.1 hb with rfl|h1|h1|h1
 ·exact h.bk.lt
 ·exact h.on.lt h1
 ·exact h.od.lt h1
 ·exact h.os.lt h1
theorem RB.Cf(h:RB w g R ns ds ss)(hc:Al F w w')(hF:∀b∈Yh g R,b∉F):RB w' g R ns ds ss:=
 ⟨h.bk.Cf hc (hF g (Xk.2 (Or.inl rfl))),h.on.Cf hc λb hb=>hF b (Xk.2 (Or.inr (Or.inl hb))),h.od.Cf hc λb hb=>hF b (Xk.2 (Or.inr (Or.inr (Or.inl hb)))),h.os.Cf hc λb hb=>hF b (Xk.2 (Or.inr (Or.inr (Or.inr hb)))),h.gn,h.gd,h.gs,h.nd,h.ns,h.ds⟩
theorem RB.Ah(h:RB w g R ns ds ss)(hb:Bk w' g 171 R'.l.toArray)(hc:Al [g] w w')(hn:R'.notes=R.notes)(hd:(R'.Ao=R.Ao/\ds'=ds)\/(R'.Ao=Br/\ds'=[]))(hs:(R'.seen=R.seen/\ss'=ss)\/(R'.seen=Br/\ss'=[])):
  RB w' g R' ns ds' ss':=by
 have Av:∀{v:Value},v.ownBlock≠some g->∀b,v.ownBlock=some b->b∉[g]:=λhv b hb hm=>by rw[List.mem_singleton.1 hm] at hb;exact hv hb
 have e0:Br.v.ownBlock=none:=rfl
 have on':=h.on.Cf hc (Av h.gn)
 have od':=h.od.Cf hc (Av h.gd)
 have os':=h.os.Cf hc (Av h.gs)
 have nl:∀{E:TypeId} {sz:Nat},Own w' E sz Br.v 0 []:=Own.nil
 rcases hd with⟨d1,rfl⟩|⟨d1,rfl⟩<;>rcases hs with⟨s1,rfl⟩|⟨s1,rfl⟩
 ·exact⟨hb,hn▸on',d1▸od',s1▸os',hn▸h.gn,d1▸h.gd,s1▸h.gs,by rw[hn,d1];exact h.nd,by rw[hn,s1];exact h.ns,by rw[d1,s1];exact h.ds⟩
 ·exact⟨hb,hn▸on',d1▸od',by rw[s1];exact nl,hn▸h.gn,d1▸h.gd,by rw[s1,e0];simp,by rw[hn,d1];exact h.nd,by rw[hn,s1];intro b _;simp[e0],by rw[d1,s1];intro b _;simp[e0]⟩
 ·exact⟨hb,hn▸on',by rw[d1];exact nl,s1▸os',hn▸h.gn,by rw[d1,e0];simp,s1▸h.gs,by rw[hn,d1];intro b _;simp[e0],by rw[hn,s1];exact h.ns,by rw[d1,s1];intro b hb;simp[e0] at hb⟩
 ·exact⟨hb,hn▸on',by rw[d1];exact nl,by rw[s1];exact nl,hn▸h.gn,by rw[d1,e0];simp,by rw[s1,e0];simp,by rw[hn,d1];intro b _;simp[e0],by rw[hn,s1];intro b _;simp[e0],by rw[d1,s1];intro b _;simp[e0]⟩
theorem Al.Aw{b:Nat}{row:Option Nat}(h:w.grownBy w' row)(hr:∀b,row=some b->b∈F):Al F w w':=
 ⟨h.os,h.tape,h.output,h.size,λb hb hf=>h.block b hb (λe=>hf (hr b e.symm))⟩
end
def tW(x:Xd):Env:=Ix [x.ii] [[x.mark]]
def zB:St:=⟨[],[],[],10,0⟩
def mV:List SV:=[.agg ((ct [vs 0 4,[.bool (.var 0)]]))]
theorem aB(x:Xd)(w:World):Calls Tryz.prog 67 #[.agg x.l.toArray] w λen w'=>en=.returned (.agg (AF x).l.toArray)/\Al [] w w':=by
 refine p0 (tW x) [] 60 zB mV (AF x) (λr=>(.agg r.l.toArray)) Xt Ci ?_;exact vS4
def vO:Env:=Ix [] []
def era_st:St:=⟨[],[],[],10,0⟩
def qH:List SV:=[]
theorem vP(w:World):Calls Tryz.prog 43 #[] w λen w'=>en=.returned (.agg (root 24).l.toArray)/\Al [] w w':=by
 refine p0 (vO) [] 60 era_st qH (root 24) (λr=>(.agg r.l.toArray)) Xt Ci ?_;exact vS4
def pJ(x:Xd):Env:=Ix [x.ii] [[x.mark]]
def vF:St:=⟨[],[],[],10,0⟩
def gY:List SV:=[.agg ((ct [vs 0 4,[.bool (.var 0)]]))]
theorem pL(x:Xd)(w:World):Calls Tryz.prog 112 #[.agg x.l.toArray] w λen w'=>en=.returned (.agg (E5 x).l.toArray)/\Al [] w w':=by
 refine p0 (pJ x) [] 60 vF gY (E5 x) (λr=>(.agg r.l.toArray)) Xt Ci ?_;exact vS4
def fG(R:Xb):Env:=Iw [R.ii] [R.bb] [R.seen.v,R.Ao.v,R.notes.v] (AI rfl)
def mW:St:=⟨[],[(1,171,(ct [vs 0 8,[.bool (.var 0)],vs 8 4,[.bool (.var 1)],vs 12 13,[.bool (.var 2)],vs 25 4,[.bool (.var 3)],vs 29 4,[.bool (.var 4)],vs 33 4,[.bool (.var 5),.int (.var 37),.AQ 0,.AQ 1],vs 38 8,[.bool (.var 6)],vs 46 4,[.bool (.var 7)],vs 50 4,[.bool (.var 8)],vs 54 4,[.bool (.var 9)],vs 58 4,[.bool (.var 10)],vs 62 4,[.bool (.var 11)],vs 66 4,[.bool (.var 12)],vs 70 4,[.bool (.var 13)],vs 74 4,[.bool (.var 14),.bool (.var 15),.int (.var 78),.int (.var 79),.AQ 2],vs 80 5,[.bool (.var 16),.bool (.var 17)]]))],[],10,0⟩
def XC:List SV:=[.c (.ptr 1 0)]
theorem fH(R:Xb)(g1:Nat)(w:World)(h1:Bk w g1 171 (R.l).toArray):Calls Tryz.prog 75 #[.pointer (some ⟨g1,0,none⟩)] w λen w'=>en=.returned (.tuple #[])/\Bk w' g1 171 ((Xb.done R).l).toArray/\Al [g1] w w':=by
 refine p1 (fG R) [] 120 mW XC (Xb.done R) (λr=>(.tuple #[],(r.l).toArray)) Xt Ci h1 ?_;exact vS2
def eZ(R:Xb)(st:Int)(ad:Yj):Env:=Iw [R.ii,[st],ad.ii] [R.bb] [R.seen.v,R.Ao.v,R.notes.v] (AI rfl)
def mR:St:=⟨[],[(1,171,(ct [vs 0 8,[.bool (.var 0)],vs 8 4,[.bool (.var 1)],vs 12 13,[.bool (.var 2)],vs 25 4,[.bool (.var 3)],vs 29 4,[.bool (.var 4)],vs 33 4,[.bool (.var 5),.int (.var 37),.AQ 0,.AQ 1],vs 38 8,[.bool (.var 6)],vs 46 4,[.bool (.var 7)],vs 50 4,[.bool (.var 8)],vs 54 4,[.bool (.var 9)],vs 58 4,[.bool (.var 10)],vs 62 4,[.bool (.var 11)],vs 66 4,[.bool (.var 12)],vs 70 4,[.bool (.var 13)],vs 74 4,[.bool (.var 14),.bool (.var 15),.int (.var 78),.int (.var 79),.AQ 2],vs 80 5,[.bool (.var 16),.bool (.var 17)]]))],[],10,0⟩
def WZ:List SV:=[.c (.ptr 1 0),.c (.int (.var 85)),.agg (vs 86 3)]
theorem fA(R:Xb)(st:Int)(ad:Yj)(g1:Nat)(w:World)(h1:Bk w g1 171 (R.l).toArray):Calls Tryz.prog 89 #[.pointer (some ⟨g1,0,none⟩),.int .i64 st,.agg ad.l.toArray] w λen w'=>en=.returned (.tuple #[])/\Bk w' g1 171 ((Xb.load R st ad).l).toArray/\Al [g1] w w':=by
 refine p1 (eZ R st ad) [] 120 mR WZ (Xb.load R st ad) (λr=>(.tuple #[],(r.l).toArray)) Xt Ci h1 ?_;exact vS2
def mZ(R:Xb)(st:Int)(ac:Bo):Env:=Iw [R.ii,[st],ac.ii] [R.bb,ac.bb] [R.seen.v,R.Ao.v,R.notes.v] (AI rfl)
def uC:St:=⟨[],[(1,171,(ct [vs 0 8,[.bool (.var 0)],vs 8 4,[.bool (.var 1)],vs 12 13,[.bool (.var 2)],vs 25 4,[.bool (.var 3)],vs 29 4,[.bool (.var 4)],vs 33 4,[.bool (.var 5),.int (.var 37),.AQ 0,.AQ 1],vs 38 8,[.bool (.var 6)],vs 46 4,[.bool (.var 7)],vs 50 4,[.bool (.var 8)],vs 54 4,[.bool (.var 9)],vs 58 4,[.bool (.var 10)],vs 62 4,[.bool (.var 11)],vs 66 4,[.bool (.var 12)],vs 70 4,[.bool (.var 13)],vs 74 4,[.bool (.var 14),.bool (.var 15),.int (.var 78),.int (.var 79),.AQ 2],vs 80 5,[.bool (.var 16),.bool (.var 17)]]))],[],10,0⟩
def fK:List SV:=[.c (.ptr 1 0),.c (.int (.var 85)),.agg ((ct [vs 86 8,[.bool (.var 18)],vs 94 4,[.bool (.var 19)]]))]
theorem nA(R:Xb)(st:Int)(ac:Bo)(g1:Nat)(w:World)(h1:Bk w g1 171 (R.l).toArray):Calls Tryz.prog 78 #[.pointer (some ⟨g1,0,none⟩),.int .i64 st,.agg ac.l.toArray] w λen w'=>en=.returned (.tuple #[])/\Bk w' g1 171 ((Xb.ask R st ac).l).toArray/\Al [g1] w w':=by
 refine p1 (mZ R st ac) [] 120 uC fK (Xb.ask R st ac) (λr=>(.tuple #[],(r.l).toArray)) Xt Ci h1 ?_;exact vS2
def nD(R:Xb)(st:Int):Env:=Iw [R.ii,[st]] [R.bb] [R.seen.v,R.Ao.v,R.notes.v] (AI rfl)
def uD:St:=⟨[],[(1,171,(ct [vs 0 8,[.bool (.var 0)],vs 8 4,[.bool (.var 1)],vs 12 13,[.bool (.var 2)],vs 25 4,[.bool (.var 3)],vs 29 4,[.bool (.var 4)],vs 33 4,[.bool (.var 5),.int (.var 37),.AQ 0,.AQ 1],vs 38 8,[.bool (.var 6)],vs 46 4,[.bool (.var 7)],vs 50 4,[.bool (.var 8)],vs 54 4,[.bool (.var 9)],vs 58 4,[.bool (.var 10)],vs 62 4,[.bool (.var 11)],vs 66 4,[.bool (.var 12)],vs 70 4,[.bool (.var 13)],vs 74 4,[.bool (.var 14),.bool (.var 15),.int (.var 78),.int (.var 79),.AQ 2],vs 80 5,[.bool (.var 16),.bool (.var 17)]]))],[],10,0⟩
def fL:List SV:=[.c (.ptr 1 0),.c (.int (.var 85))]
theorem U3(R:Xb)(st:Int)(g1:Nat)(w:World)(h1:Bk w g1 171 (R.l).toArray):Calls Tryz.prog 94 #[.pointer (some ⟨g1,0,none⟩),.int .i64 st] w λen w'=>en=.returned (.tuple #[])/\Bk w' g1 171 ((Xb.advance R st).l).toArray/\Al [g1] w w':=by
 refine p1 (nD R st) [] 120 uD fL (Xb.advance R st) (λr=>(.tuple #[],(r.l).toArray)) Xt Ci h1 ?_;exact vS2
def U1(R:Xb):Env:=Iw [R.ii] [R.bb] [R.seen.v,R.Ao.v,R.notes.v] (AI rfl)
def XD:St:=⟨[],[(1,171,(ct [vs 0 8,[.bool (.var 0)],vs 8 4,[.bool (.var 1)],vs 12 13,[.bool (.var 2)],vs 25 4,[.bool (.var 3)],vs 29 4,[.bool (.var 4)],vs 33 4,[.bool (.var 5),.int (.var 37),.AQ 0,.AQ 1],vs 38 8,[.bool (.var 6)],vs 46 4,[.bool (.var 7)],vs 50 4,[.bool (.var 8)],vs 54 4,[.bool (.var 9)],vs 58 4,[.bool (.var 10)],vs 62 4,[.bool (.var 11)],vs 66 4,[.bool (.var 12)],vs 70 4,[.bool (.var 13)],vs 74 4,[.bool (.var 14),.bool (.var 15),.int (.var 78),.int (.var 79),.AQ 2],vs 80 5,[.bool (.var 16),.bool (.var 17)]]))],[],10,0⟩
def Sx:List SV:=[.c (.ptr 1 0)]
theorem U2(R:Xb)(g1:Nat)(w:World)(h1:Bk w g1 171 (R.l).toArray):Calls Tryz.prog 90 #[.pointer (some ⟨g1,0,none⟩)] w λen w'=>en=.returned (.bool ((R,Xb.dating R)).2)/\Bk w' g1 171 (((R,Xb.dating R)).1.l).toArray/\Al [g1] w w':=by
 refine p1 (U1 R) [] 120 XD Sx ((R,Xb.dating R)) (λr=>(.bool r.2,(r.1.l).toArray)) Xt Ci h1 ?_;refine D9 (show _=(bif R.Aa==3 then(R,true) else(R,R.Aa==5)) by rw[T5];cases R.Aa==3<;>rfl) ?_;exact vS2
def eU(R:Xb):Env:=Iw [R.ii] [R.bb] [R.seen.v,R.Ao.v,R.notes.v] (AI rfl)
def mP:St:=⟨[],[(1,171,(ct [vs 0 8,[.bool (.var 0)],vs 8 4,[.bool (.var 1)],vs 12 13,[.bool (.var 2)],vs 25 4,[.bool (.var 3)],vs 29 4,[.bool (.var 4)],vs 33 4,[.bool (.var 5),.int (.var 37),.AQ 0,.AQ 1],vs 38 8,[.bool (.var 6)],vs 46 4,[.bool (.var 7)],vs 50 4,[.bool (.var 8)],vs 54 4,[.bool (.var 9)],vs 58 4,[.bool (.var 10)],vs 62 4,[.bool (.var 11)],vs 66 4,[.bool (.var 12)],vs 70 4,[.bool (.var 13)],vs 74 4,[.bool (.var 14),.bool (.var 15),.int (.var 78),.int (.var 79),.AQ 2],vs 80 5,[.bool (.var 16),.bool (.var 17)]]))],[],10,0⟩
def WU:List SV:=[.c (.ptr 1 0)]
theorem eV(R:Xb)(g1:Nat)(w:World)(h1:Bk w g1 171 (R.l).toArray):Calls Tryz.prog 57 #[.pointer (some ⟨g1,0,none⟩)] w λen w'=>en=.returned (.tuple #[.agg ((bif R.step==0 then Bo.zero else R.AY,!(R.step==0))).1.l.toArray,.bool ((bif R.step==0 then Bo.zero else R.AY,!(R.step==0))).2])/\Bk w' g1 171 (R.l).toArray/\Al [g1] w w':=by
 refine p1 (eU R) [] 120 mP WU ((bif R.step==0 then Bo.zero else R.AY,!(R.step==0))) (λr=>(.tuple #[.agg r.1.l.toArray,.bool r.2],(R.l).toArray)) Xt Ci h1 ?_;refine D9 (show _=(bif R.step==0 then(Bo.zero,false) else(R.AY,true)) by cases R.step==0<;>rfl) ?_;exact vS2
def WO(R:Xb):Env:=Iw [R.ii] [R.bb] [R.seen.v,R.Ao.v,R.notes.v] (AI rfl)
def eP:St:=⟨[],[(1,171,(ct [vs 0 8,[.bool (.var 0)],vs 8 4,[.bool (.var 1)],vs 12 13,[.bool (.var 2)],vs 25 4,[.bool (.var 3)],vs 29 4,[.bool (.var 4)],vs 33 4,[.bool (.var 5),.int (.var 37),.AQ 0,.AQ 1],vs 38 8,[.bool (.var 6)],vs 46 4,[.bool (.var 7)],vs 50 4,[.bool (.var 8)],vs 54 4,[.bool (.var 9)],vs 58 4,[.bool (.var 10)],vs 62 4,[.bool (.var 11)],vs 66 4,[.bool (.var 12)],vs 70 4,[.bool (.var 13)],vs 74 4,[.bool (.var 14),.bool (.var 15),.int (.var 78),.int (.var 79),.AQ 2],vs 80 5,[.bool (.var 16),.bool (.var 17)]]))],[],10,0⟩
def Ur:List SV:=[.c (.ptr 1 0)]
theorem WQ(R:Xb)(g1:Nat)(w:World)(h1:Bk w g1 171 (R.l).toArray):Calls Tryz.prog 73 #[.pointer (some ⟨g1,0,none⟩)] w λen w'=>en=.returned (.agg (R).Au.l.toArray)/\Bk w' g1 171 ((R).l).toArray/\Al [g1] w w':=by
 refine p1 (WO R) [] 120 eP Ur (R) (λr=>(.agg r.Au.l.toArray,(r.l).toArray)) Xt Ci h1 ?_;exact vS2
def fI(R:Xb):Env:=Iw [R.ii] [R.bb] [R.seen.v,R.Ao.v,R.notes.v] (AI rfl)
def mX:St:=⟨[],[(1,171,(ct [vs 0 8,[.bool (.var 0)],vs 8 4,[.bool (.var 1)],vs 12 13,[.bool (.var 2)],vs 25 4,[.bool (.var 3)],vs 29 4,[.bool (.var 4)],vs 33 4,[.bool (.var 5),.int (.var 37),.AQ 0,.AQ 1],vs 38 8,[.bool (.var 6)],vs 46 4,[.bool (.var 7)],vs 50 4,[.bool (.var 8)],vs 54 4,[.bool (.var 9)],vs 58 4,[.bool (.var 10)],vs 62 4,[.bool (.var 11)],vs 66 4,[.bool (.var 12)],vs 70 4,[.bool (.var 13)],vs 74 4,[.bool (.var 14),.bool (.var 15),.int (.var 78),.int (.var 79),.AQ 2],vs 80 5,[.bool (.var 16),.bool (.var 17)]]))],[],10,0⟩
def XE:List SV:=[.c (.ptr 1 0)]
theorem fJ(R:Xb)(g1:Nat)(w:World)(h1:Bk w g1 171 (R.l).toArray):Calls Tryz.prog 72 #[.pointer (some ⟨g1,0,none⟩)] w λen w'=>en=.returned (.bool (!((R).step==0)))/\Bk w' g1 171 ((R).l).toArray/\Al [g1] w w':=by
 refine p1 (fI R) [] 120 mX XE (R) (λr=>(.bool (!(r.step==0)),(r.l).toArray)) Xt Ci h1 ?_;exact vS2
def rlnE(R:Xb):Env:=Iw [R.iL] [R.bb] [R.seen.v,R.Ao.v,R.notes.v] (AI rfl)
def eT:St:=⟨[],[(1,171,zC)],[(.le (.lit 0) (.var 82),true)],10,0⟩
def Ut:List SV:=[.c (.ptr 1 0)]
theorem Ow(R:Xb)(g1:Nat)(w:World)(h1:Bk w g1 171 (R.l).toArray):Calls Tryz.prog 95 #[.pointer (some ⟨g1,0,none⟩)] w λen w'=>en=.returned (.tuple #[])/\Bk w' g1 171 ((Xb.noted R).l).toArray/\Al [g1] w w':=by
 refine p1 (rlnE R) [] 120 eT Ut (Xb.noted R) (λr=>(.tuple #[],(r.l).toArray)) Xt (Ca (decide_eq_true (Int.natCast_nonneg _)) Ci) h1 ?_;exact vS2
def li(l:List (Nat × Int)):List (Nat × List SC):=l.map λp=>(p.1,[.int (.lit p.2)])
def aM(b:FV):FV:=(.le (.lit 0) (.var 39),true)::(.lt (.var 39) (.lit 6),true)::(.lt (.var 39) (.lit 0),false)::(.le (.lit 6) (.var 39),false)::b
theorem asM{e:Env}{b:FV}{m:Int}(h:(Tm.var 39).den e=m)(h0:0<=m)(h1:m<6)(hb:AV e b):AV e (aM b):=by
 subst h;exact Ca (decide_eq_true h0) (Ca (decide_eq_true h1) (Ca (decide_eq_false (Int.not_lt.mpr h0)) (Ca (decide_eq_false (Int.not_le.mpr h1)) hb)))
def sW(c:List SC)(a:FV):St:=⟨[],[(1,171,c)],a,10,0⟩
def aW(c:List SC):List SV:=[.c (.ptr 1 0),.agg c]
abbrev rW(f:FuncId)(v:Array Value)(R R':Xb):Prop:=∀g w,Bk w g 171 R.l.toArray->0<=R.me->R.me<6->Calls Tryz.prog f #[.pointer (some ⟨g,0,none⟩),.agg v] w λen w'=>en=.returned .nilIface/\Bk w' g 171 R'.l.toArray/\Al [g] w w'
theorem nS{p:Prop}(h:p:=by repeat' (first|with_reducible (first|refine Er (RG _) ?_|refine pN ?_|refine pA ?_|refine pO ?_|refine pB ?_|refine Er (ZI _) ?_|refine Er (T5 _) ?_|refine Er (ZJ _) ?_|refine Er (ZK _ _ _) ?_|refine pF ?_|refine pT ?_|refine pU ?_|refine pV ?_|refine pC ?_ ?_)|refine GP ?_|refine GQ ?_|refine D9 (Dp _ _ _) ?_|exact l1)):p:=h
section
variable{f:FuncId}{v:Array Value}{R':Xb}(e:Env)(R:Xb)
theorem pW(c a:List SC)(s:FV)(hs:0<=R.me->R.me<6->AV e s)(h:PO (CY (exec Tryz.prog [] 120 (.call f (aW a)) (sW c s))) e (λx r=>Q1 e 171 (sW c s).hp x (.nilIface,r.l.toArray)) s R')(hr:∀g,R.l.toArray=Ym e (Dw [g]) (cellAt 1 (sW c s).hp):=by intro g;kernel_rfl)(closed:QO (Yi (sW c s).hp) (sW c s).hp=true:=by kernel_rfl)
  (cargs:(aW a).all (Jc (Yi (sW c s).hp))=true:=by kernel_rfl)(ha:∀g,#[.pointer (some ⟨g,0,none⟩),.agg v]=((aW a).map (SV.den e (Dw [g]))).toArray:=by intro g;kernel_rfl)(hnf:¬f=Dy:=by decide):rW f v R R':=λg _ hb h0 h1=>
 p1 e [] 120 (sW c s) (aW a) R' (λr=>(.nilIface,r.l.toArray)) Xt (hs h0 h1) hb h mixed rfl (hr g) closed cargs (ha g) rfl hnf
end
def tA:List SC:=ct [vs 85 4,[.bool (.var 18),.bool (.var 19)]]
abbrev T6(x:Xj):=rW 58 x.l.toArray
theorem rQ{R R':Xb}{x:Xj}(Z:Xb)(l:List (Nat × Int))(h:PO (CY (exec Tryz.prog [] 120 (.call 58 (aW tA)) (sW (pt fM (li l)) (aM [])))) (rxE Z x) (λy r=>Q1 (rxE Z x) 171 (sW (pt fM (li l)) (aM [])).hp y (.nilIface,r.l.toArray)) (aM []) R':=by exact nS)
  (hm:R.me=Z.me:=by rfl)(hr:∀g,R.l.toArray=Ym (rxE Z x) (Dw [g]) (cellAt 1 (sW (pt fM (li l)) (aM [])).hp):=by intro g;kernel_rfl)(closed:QO (Yi (sW (pt fM (li l)) (aM [])).hp) (sW (pt fM (li l)) (aM [])).hp=true:=by kernel_rfl):T6 x R R':=
 pW (rxE Z x) R (pt fM (li l)) tA (aM []) (λh0 h1=>asM (m:=R.me) hm.symm h0 h1 Ci) h hr closed
def tL:List SC:=ct [vs 88 4,[.bool (.var 18),.bool (.var 19)]]
def aL:FV:=[(.le (.lit 0) (.var 82),true)]
theorem pTl{R R':Xb}{x:Xj}(Z:Xb)(l:List (Nat × Int))(h:PO (CY (exec Tryz.prog [] 120 (.call 58 (aW tL)) (sW (pt zC (li l)) aL))) (tR Z x) (λy r=>Q1 (tR Z x) 171 (sW (pt zC (li l)) aL).hp y (.nilIface,r.l.toArray)) aL R':=by exact nS)
  (hr:∀g,R.l.toArray=Ym (tR Z x) (Dw [g]) (cellAt 1 (sW (pt zC (li l)) aL).hp):=by intro g;kernel_rfl)(closed:QO (Yi (sW (pt zC (li l)) aL).hp) (sW (pt zC (li l)) aL).hp=true:=by kernel_rfl):T6 x R R':=
 pW (tR Z x) R (pt zC (li l)) tL aL (λ_ _=>Ca (decide_eq_true (Int.natCast_nonneg _)) Ci) h hr closed
def cA:List SC:=ct [vs 85 8,[.bool (.var 18)],vs 93 4,[.bool (.var 19)],vs 97 4]
abbrev bgW(c:Xf):=rW 71 c.l.toArray
theorem nT{R R':Xb}{c:Xf}(Z:Xb)(C:Xf)(l m:List (Nat × Int))(b:FV)(hb:AV (rcE Z C) b)(h:PO (CY (exec Tryz.prog [] 120 (.call 71 (aW (pt cA (li m)))) (sW (pt fM (li l)) (aM b)))) (rcE Z C) (λy r=>Q1 (rcE Z C) 171 (sW (pt fM (li l)) (aM b)).hp y (.nilIface,r.l.toArray)) (aM b) R':=by exact nS)
  (hm:R.me=Z.me:=by rfl)(hr:∀g,R.l.toArray=Ym (rcE Z C) (Dw [g]) (cellAt 1 (sW (pt fM (li l)) (aM b)).hp):=by intro g;kernel_rfl)(closed:QO (Yi (sW (pt fM (li l)) (aM b)).hp) (sW (pt fM (li l)) (aM b)).hp=true:=by kernel_rfl)
  (cargs:(aW (pt cA (li m))).all (Jc (Yi (sW (pt fM (li l)) (aM b)).hp))=true:=by kernel_rfl)(ha:∀g,#[.pointer (some ⟨g,0,none⟩),.agg c.l.toArray]=((aW (pt cA (li m))).map (SV.den (rcE Z C) (Dw [g]))).toArray:=by intro g;kernel_rfl):bgW c R R':=
 pW (rcE Z C) R (pt fM (li l)) (pt cA (li m)) (aM b) (λh0 h1=>asM (m:=R.me) hm.symm h0 h1 hb) h hr closed cargs ha
theorem zW{n:Int}(h0:0<=n)(h1:n<9):n=0\/n=1\/n=2\/n=3\/n=4\/n=5\/n=6\/n=7\/n=8:=Zo
section
variable(R:Xb)(c:Xf)
abbrev wF(k:Int):Prop:=bgW {c with kind:=k} {R with step:=0} (Xb.Aq {R with step:=0} {c with kind:=k})
theorem rb1:wF R c 1:=nT R c [(18,0)] [(0,1)] [] Ci
theorem rb3:wF R c 3:=nT R c [(18,0)] [(0,3)] [] Ci
theorem rb4:wF R c 4:=nT R c [(18,0)] [(0,4)] [] Ci
theorem rb5:wF R c 5:=nT R c [(18,0)] [(0,5)] [] Ci
theorem rb8:wF R c 8:=nT R c [(18,0)] [(0,8)] [] Ci
theorem rb9:wF R c 9:=nT R c [(18,0)] [(0,9)] [] Ci
theorem rb6(h0:0<=c.i)(h1:c.i<9):wF R {c with j:=0} 6:=nT R c [(18,0)] [(0,6),(15,0)] [(.lt (.var 97) (.lit 0),false),(.le (.lit 9) (.var 97),false)] (Ca (decide_eq_false (Int.not_lt.mpr h0)) (Ca (decide_eq_false (Int.not_le.mpr h1)) Ci))
theorem rb2(e:Int)(h:e=1\/e=2\/e=3\/e=4\/e=5):wF {R with Aa:=e} c 2:=by
 refine nT R c [(18,0),(46,e)] [(0,2)] [] Ci ?_;rcases h with rfl|rfl|rfl|rfl|rfl<;>exact nS
theorem rb7(i j:Int)(h:(i=2/\j=1)\/(i=1/\j=0)\/(i=5/\j=4)\/(i=4/\j=3)\/(i=8/\j=7)\/(i=7/\j=6)\/(i=2/\j=5)\/(i=5/\j=8)):wF R {c with i:=i,j:=j} 7:=by
 refine nT R c [(18,0)] [(0,7),(14,i),(15,j)] [] Ci ?_;rcases h with⟨rfl,rfl⟩|⟨rfl,rfl⟩|⟨rfl,rfl⟩|⟨rfl,rfl⟩|⟨rfl,rfl⟩|⟨rfl,rfl⟩|⟨rfl,rfl⟩|⟨rfl,rfl⟩<;>exact nS
theorem rb10(e:Int)(h:e=1\/e=3\/e=4\/e=5):bgW {c with kind:=10} {R with step:=0,Aa:=e} (Xb.N8 (Xb.A7 {R with step:=0,Aa:=e} {c with kind:=10})):=by
 refine nT R c [(18,0),(46,e)] [(0,10)] [] Ci ?_;rcases h with rfl|rfl|rfl|rfl<;>exact nS
theorem rb11:bgW {c with kind:=11} {R with step:=0} (Xb.scan (Xb.A7 {R with step:=0} {c with kind:=11})):=nT R c [(18,0)] [(0,11)] [] Ci
end
def mH(x:Xd)(y:Xd):Env:=Ix [x.ii,y.ii] [[x.mark,y.mark]]
def tO:St:=⟨[],[],[],10,0⟩
def eM:List SV:=[.agg ((ct [vs 0 4,[.bool (.var 0)]])),.agg ((ct [vs 4 4,[.bool (.var 1)]]))]
theorem mI(x:Xd)(y:Xd)(w:World):Calls Tryz.prog 83 #[.agg x.l.toArray,.agg y.l.toArray] w λen w'=>en=.returned (.bool (AE x y))/\Al [] w w':=by
 refine p0 (mH x y) [] 60 tO eM (AE x y) (λr=>(.bool r)) Xt Ci ?_;exact vS4
def uM(n:Int):Env:=Ix [[n]] []
def zO:St:=⟨[],[],[],10,0⟩
def oD:List SV:=[.c (.int (.var 0))]
theorem uN(n:Int)(w:World):Calls Tryz.prog 44 #[.int .i64 n] w λen w'=>en=.returned (.agg (Y5 n).l.toArray)/\Al [] w w':=by
 refine p0 (uM n) [] 60 zO oD (Y5 n) (λr=>(.agg r.l.toArray)) Xt Ci ?_;exact vS4
def Uy(k:Int):Env:=Ix [[k]] []
def Xo:St:=⟨[],[],[],10,0⟩
def Sw:List SV:=[.c (.int (.var 0))]
theorem MX(k:Int)(w:World):Calls Tryz.prog 63 #[.int .i64 k] w λen w'=>en=.returned (.agg (Pl.refused k).l.toArray)/\Al [] w w':=by
 refine p0 (Uy k) [] 60 Xo Sw (Pl.refused k) (λr=>(.agg r.l.toArray)) Xt Ci ?_;exact vS4
end Go.Proofs.YtaipogljokblkaaGreatDoor
