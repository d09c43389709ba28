/- Core: CR1, RB, CRr, CRs, CRn, Rfr, CRq, CPr. -/
import Derived.Test.YtaipogljokblkaaGreatDoorP10
set_option linter.all false
set_option maxRecDepth 100000
set_option maxHeartbeats 8000000
namespace Go.Proofs.YtaipogljokblkaaGreatDoor
open Go Go.RowKit
def rlcE(R:Xd)(c:Xi):Env:=IA [R.iL,c.ii] [R.bb,c.bb] [R.seen.v,R.Au.v,R.notes.v] (AS rfl)
def yH(R:Xd)(x:Xr):Env:=IA [R.iL,x.ii] [R.bb,x.bb] [R.seen.v,R.Au.v,R.notes.v] (AS rfl)
def v7:List SC:=(ct [vs 0 8,[.bV 0],vs 8 4,[.bV 1],vs 12 13,[.bV 2],vs 25 4,[.bV 3],vs 29 4,[.bV 4],vs 33 4,[.bV 5,.iV 37,.vt 0 (.var 38),.vt 1 (.var 39)],vs 40 8,[.bV 6],vs 48 4,[.bV 7],vs 52 4,[.bV 8],vs 56 4,[.bV 9],vs 60 4,[.bV 10],vs 64 4,[.bV 11],vs 68 4,[.bV 12],vs 72 4,[.bV 13],vs 76 4,[.bV 14,.bV 15,.iV 80,.iV 81,.vt 2 (.var 82)],vs 83 5,[.bV 16,.bV 17]])
def Yn(g:Nat)(R:Xd):List Nat:=g::(R.notes.v.ownBlock.toList++(R.Au.v.ownBlock.toList++R.seen.v.ownBlock.toList))
structure RB(w:World)(g:Nat)(R:Xd)(ns ds:List Xw)(ss:List Xe):Prop where
 bk:Bk w g 171 R.l.toArray
 on:Own w 201 7 R.notes.v ns.length (rows Xw.l ns)
 od:Own w 201 7 R.Au.v ds.length (rows Xw.l ds)
 os:Own w 51 5 R.seen.v ss.length (rows Xe.l ss)
 gn:R.notes.v.ownBlock≠some g
 gd:R.Au.v.ownBlock≠some g
 gs:R.seen.v.ownBlock≠some g
 nd:∀b,R.notes.v.ownBlock=some b->R.Au.v.ownBlock≠some b
 ns:∀b,R.notes.v.ownBlock=some b->R.seen.v.ownBlock≠some b
 ds:∀b,R.Au.v.ownBlock=some b->R.seen.v.ownBlock≠some b
section
variable{w w':World}{g:Nat}{R R':Xd}{ns ds ds':List Xw}{ss ss':List Xe}{F:List Nat}
def Xs{b:Nat}:b∈Yn g R↔b=g\/R.notes.v.ownBlock=some b\/R.Au.v.ownBlock=some b\/R.seen.v.ownBlock=some b:=by
 simp only[Yn,gf,gy,Option.mem_toList]
def Own.CJ{E:TypeId}{sz n:Nat}{v:Value}{xs:List Value}(h:Own w E sz v n xs)(c:Aq F w w')(hF:∀b,v.ownBlock=some b->b∉F):Own w' E sz v n xs:=
 h.kept λb a=>c.A5 b (h.lt a) (hF b a)
def RB.lt(h:RB w g R ns ds ss):∀b∈Yn g R,b<w.heap.size:=λb a=>by
 rcases Xs.1 a with rfl|h1|h1|h1
 ·exact h.bk.lt
 ·exact h.on.lt h1
 ·exact h.od.lt h1
 ·exact h.os.lt h1
def RB.CJ(h:RB w g R ns ds ss)(c:Aq F w w')(hF:∀b∈Yn g R,b∉F):RB w' g R ns ds ss:=
 ⟨h.bk.CJ c (hF g (Xs.2 (fq rfl))),h.on.CJ c λb a=>hF b (Xs.2 (db (fq a))),h.od.CJ c λb a=>hF b (Xs.2 (d2 (fq a))),h.os.CJ c λb a=>hF b (Xs.2 (d2 (db a))),h.gn,h.gd,h.gs,h.nd,h.ns,h.ds⟩
def RB.Ar(h:RB w g R ns ds ss)(e:Bk w' g 171 R'.l.toArray)(m:Aq [g] w w')(c:R'.notes=R.notes)(o:(R'.Au=R.Au/\ds'=ds)\/(R'.Au=Bz/\ds'=[]))(p:(R'.seen=R.seen/\ss'=ss)\/(R'.seen=Bz/\ss'=[])):
  RB w' g R' ns ds' ss':=by
 have n:∀{v:Value},v.ownBlock≠some g->∀b,v.ownBlock=some b->b∉[g]:=λq b e r=>by rw[ft.1 r] at e;exact q e
 have d:Bz.v.ownBlock=none:=rfl
 have f:=h.on.CJ m (n h.gn)
 have i:=h.od.CJ m (n h.gd)
 have j:=h.os.CJ m (n h.gs)
 have k:∀{E:TypeId} {s:Nat},Own w' E s Bz.v 0 []:=Own.nil
 rcases o with⟨d1,rfl⟩|⟨d1,rfl⟩<;>rcases p with⟨a,rfl⟩|⟨a,rfl⟩
 ·exact⟨e,c▸f,d1▸i,a▸j,c▸h.gn,d1▸h.gd,a▸h.gs,by rw[c,d1];exact h.nd,by rw[c,a];exact h.ns,by rw[d1,a];exact h.ds⟩
 ·exact⟨e,c▸f,d1▸i,by rw[a];exact k,c▸h.gn,d1▸h.gd,by rw[a,d];simp,by rw[c,d1];exact h.nd,by rw[c,a];intro b _;simp[d],by rw[d1,a];intro b _;simp[d]⟩
 ·exact⟨e,c▸f,by rw[d1];exact k,a▸j,c▸h.gn,by rw[d1,d];simp,a▸h.gs,by rw[c,d1];intro b _;simp[d],by rw[c,a];exact h.ns,by rw[d1,a];intro b e;simp[d] at e⟩
 ·exact⟨e,c▸f,by rw[d1];exact k,by rw[a];exact k,c▸h.gn,by rw[d1,d];simp,by rw[a,d];simp,by rw[c,d1];intro b _;simp[d],by rw[c,a];intro b _;simp[d],by rw[d1,a];intro b _;simp[d]⟩
def Aq.Ax{b:Nat}{row:Option Nat}(h:w.grownBy w' row)(a:∀b,row=some b->b∈F):Aq F w w':=
 ⟨h.os,h.tape,h.output,h.size,λb c d=>h.block b c (λe=>d (a b e.symm))⟩
end
def yM(x:Xe):Env:=IB [x.ii] [[x.mark]]
def v5:St:=⟨[],[],[],10,0⟩
def qR:List SV:=[.agg ((ct [vs 0 4,[.bV 0]]))]
def cW(x:Xe)(w:World):Kp 67 #[.agg x.l.toArray] w λa w'=>a=.returned (.agg (Yx x).l.toArray)/\Aq [] w w':=by
 refine p0 (yM x) [] 60 v5 qR (Yx x) (λr=>(.agg r.l.toArray)) X6 CF ?_;exact vS4
def qk:Env:=IB [] []
def yf:St:=⟨[],[],[],10,0⟩
def tY:List SV:=[]
def ql(w:World):Kp 43 #[] w λa w'=>a=.returned (.agg (root 24).l.toArray)/\Aq [] w w':=by
 refine p0 (qk) [] 60 yf tY (root 24) (λr=>(.agg r.l.toArray)) X6 CF ?_;exact vS4
def tI(x:Xe):Env:=IB [x.ii] [[x.mark]]
def zY:St:=⟨[],[],[],10,0⟩
def kX:List SV:=[.agg ((ct [vs 0 4,[.bV 0]]))]
def tJ(x:Xe)(w:World):Kp 112 #[.agg x.l.toArray] w λa w'=>a=.returned (.agg (Ei x).l.toArray)/\Aq [] w w':=by
 refine p0 (tI x) [] 60 zY kX (Ei x) (λr=>(.agg r.l.toArray)) X6 CF ?_;exact vS4
def jE(R:Xd):Env:=IA [R.ii] [R.bb] [R.seen.v,R.Au.v,R.notes.v] (AS rfl)
def qT:St:=⟨[],[(1,171,(ct [vs 0 8,[.bV 0],vs 8 4,[.bV 1],vs 12 13,[.bV 2],vs 25 4,[.bV 3],vs 29 4,[.bV 4],vs 33 4,[.bV 5,.iV 37,.Ba 0,.Ba 1],vs 38 8,[.bV 6],vs 46 4,[.bV 7],vs 50 4,[.bV 8],vs 54 4,[.bV 9],vs 58 4,[.bV 10],vs 62 4,[.bV 11],vs 66 4,[.bV 12],vs 70 4,[.bV 13],vs 74 4,[.bV 14,.bV 15,.iV 78,.iV 79,.Ba 2],vs 80 5,[.bV 16,.bV 17]]))],[],10,0⟩
def ZB:List SV:=[.c (.ptr 1 0)]
def jF(R:Xd)(a:Nat)(w:World)(b:Bk w a 171 (R.l).toArray):Kp 75 #[.pointer (some ⟨a,0,none⟩)] w λc w'=>c=.returned (.tuple #[])/\Bk w' a 171 ((Xd.done R).l).toArray/\Aq [a] w w':=by
 refine p1 (jE R) [] 120 qT ZB (Xd.done R) (λr=>(.tuple #[],(r.l).toArray)) X6 CF b ?_;exact vS2
def iW(R:Xd)(st:Int)(a:Yc):Env:=IA [R.ii,[st],a.ii] [R.bb] [R.seen.v,R.Au.v,R.notes.v] (AS rfl)
def qM:St:=⟨[],[(1,171,(ct [vs 0 8,[.bV 0],vs 8 4,[.bV 1],vs 12 13,[.bV 2],vs 25 4,[.bV 3],vs 29 4,[.bV 4],vs 33 4,[.bV 5,.iV 37,.Ba 0,.Ba 1],vs 38 8,[.bV 6],vs 46 4,[.bV 7],vs 50 4,[.bV 8],vs 54 4,[.bV 9],vs 58 4,[.bV 10],vs 62 4,[.bV 11],vs 66 4,[.bV 12],vs 70 4,[.bV 13],vs 74 4,[.bV 14,.bV 15,.iV 78,.iV 79,.Ba 2],vs 80 5,[.bV 16,.bV 17]]))],[],10,0⟩
def Z2:List SV:=[.c (.ptr 1 0),.c (.iV 85),.agg (vs 86 3)]
def iX(R:Xd)(st:Int)(a:Yc)(b:Nat)(w:World)(c:Bk w b 171 (R.l).toArray):Kp 89 #[.pointer (some ⟨b,0,none⟩),.int .i64 st,.agg a.l.toArray] w λd w'=>d=.returned (.tuple #[])/\Bk w' b 171 ((Xd.load R st a).l).toArray/\Aq [b] w w':=by
 refine p1 (iW R st a) [] 120 qM Z2 (Xd.load R st a) (λr=>(.tuple #[],(r.l).toArray)) X6 CF c ?_;exact vS2
def qW(R:Xd)(st:Int)(ac:Bx):Env:=IA [R.ii,[st],ac.ii] [R.bb,ac.bb] [R.seen.v,R.Au.v,R.notes.v] (AS rfl)
def yS:St:=⟨[],[(1,171,(ct [vs 0 8,[.bV 0],vs 8 4,[.bV 1],vs 12 13,[.bV 2],vs 25 4,[.bV 3],vs 29 4,[.bV 4],vs 33 4,[.bV 5,.iV 37,.Ba 0,.Ba 1],vs 38 8,[.bV 6],vs 46 4,[.bV 7],vs 50 4,[.bV 8],vs 54 4,[.bV 9],vs 58 4,[.bV 10],vs 62 4,[.bV 11],vs 66 4,[.bV 12],vs 70 4,[.bV 13],vs 74 4,[.bV 14,.bV 15,.iV 78,.iV 79,.Ba 2],vs 80 5,[.bV 16,.bV 17]]))],[],10,0⟩
def jI:List SV:=[.c (.ptr 1 0),.c (.iV 85),.agg ((ct [vs 86 8,[.bV 18],vs 94 4,[.bV 19]]))]
def qX(R:Xd)(st:Int)(ac:Bx)(a:Nat)(w:World)(b:Bk w a 171 (R.l).toArray):Kp 78 #[.pointer (some ⟨a,0,none⟩),.int .i64 st,.agg ac.l.toArray] w λc w'=>c=.returned (.tuple #[])/\Bk w' a 171 ((Xd.ask R st ac).l).toArray/\Aq [a] w w':=by
 refine p1 (qW R st ac) [] 120 yS jI (Xd.ask R st ac) (λr=>(.tuple #[],(r.l).toArray)) X6 CF b ?_;exact vS2
def qY(R:Xd)(st:Int):Env:=IA [R.ii,[st]] [R.bb] [R.seen.v,R.Au.v,R.notes.v] (AS rfl)
def yT:St:=⟨[],[(1,171,(ct [vs 0 8,[.bV 0],vs 8 4,[.bV 1],vs 12 13,[.bV 2],vs 25 4,[.bV 3],vs 29 4,[.bV 4],vs 33 4,[.bV 5,.iV 37,.Ba 0,.Ba 1],vs 38 8,[.bV 6],vs 46 4,[.bV 7],vs 50 4,[.bV 8],vs 54 4,[.bV 9],vs 58 4,[.bV 10],vs 62 4,[.bV 11],vs 66 4,[.bV 12],vs 70 4,[.bV 13],vs 74 4,[.bV 14,.bV 15,.iV 78,.iV 79,.Ba 2],vs 80 5,[.bV 16,.bV 17]]))],[],10,0⟩
def jJ:List SV:=[.c (.ptr 1 0),.c (.iV 85)]
def qZ(R:Xd)(st:Int)(a:Nat)(w:World)(b:Bk w a 171 (R.l).toArray):Kp 94 #[.pointer (some ⟨a,0,none⟩),.int .i64 st] w λc w'=>c=.returned (.tuple #[])/\Bk w' a 171 ((Xd.advance R st).l).toArray/\Aq [a] w w':=by
 refine p1 (qY R st) [] 120 yT jJ (Xd.advance R st) (λr=>(.tuple #[],(r.l).toArray)) X6 CF b ?_;exact vS2
def Vr(R:Xd):Env:=IA [R.ii] [R.bb] [R.seen.v,R.Au.v,R.notes.v] (AS rfl)
def ZC:St:=⟨[],[(1,171,(ct [vs 0 8,[.bV 0],vs 8 4,[.bV 1],vs 12 13,[.bV 2],vs 25 4,[.bV 3],vs 29 4,[.bV 4],vs 33 4,[.bV 5,.iV 37,.Ba 0,.Ba 1],vs 38 8,[.bV 6],vs 46 4,[.bV 7],vs 50 4,[.bV 8],vs 54 4,[.bV 9],vs 58 4,[.bV 10],vs 62 4,[.bV 11],vs 66 4,[.bV 12],vs 70 4,[.bV 13],vs 74 4,[.bV 14,.bV 15,.iV 78,.iV 79,.Ba 2],vs 80 5,[.bV 16,.bV 17]]))],[],10,0⟩
def SW:List SV:=[.c (.ptr 1 0)]
def Vs(R:Xd)(a:Nat)(w:World)(b:Bk w a 171 (R.l).toArray):Kp 90 #[.pointer (some ⟨a,0,none⟩)] w λc w'=>c=.returned (.bool ((R,Xd.dating R)).2)/\Bk w' a 171 (((R,Xd.dating R)).1.l).toArray/\Aq [a] w w':=by
 refine p1 (Vr R) [] 120 ZC SW ((R,Xd.dating R)) (λr=>(.bool r.2,(r.1.l).toArray)) X6 CF b ?_;refine Ed (show _=(bif R.Aa==3 then(R,true) else(R,R.Aa==5)) by rw[Uw];cases R.Aa==3<;>rfl) ?_;exact vS2
def iQ(R:Xd):Env:=IA [R.ii] [R.bb] [R.seen.v,R.Au.v,R.notes.v] (AS rfl)
def qK:St:=⟨[],[(1,171,(ct [vs 0 8,[.bV 0],vs 8 4,[.bV 1],vs 12 13,[.bV 2],vs 25 4,[.bV 3],vs 29 4,[.bV 4],vs 33 4,[.bV 5,.iV 37,.Ba 0,.Ba 1],vs 38 8,[.bV 6],vs 46 4,[.bV 7],vs 50 4,[.bV 8],vs 54 4,[.bV 9],vs 58 4,[.bV 10],vs 62 4,[.bV 11],vs 66 4,[.bV 12],vs 70 4,[.bV 13],vs 74 4,[.bV 14,.bV 15,.iV 78,.iV 79,.Ba 2],vs 80 5,[.bV 16,.bV 17]]))],[],10,0⟩
def Zy:List SV:=[.c (.ptr 1 0)]
def iR(R:Xd)(a:Nat)(w:World)(b:Bk w a 171 (R.l).toArray):Kp 57 #[.pointer (some ⟨a,0,none⟩)] w λc w'=>c=.returned (.tuple #[.agg ((bif R.step==0 then Bx.zero else R.AH,!(R.step==0))).1.l.toArray,.bool ((bif R.step==0 then Bx.zero else R.AH,!(R.step==0))).2])/\Bk w' a 171 (R.l).toArray/\Aq [a] w w':=by
 refine p1 (iQ R) [] 120 qK Zy ((bif R.step==0 then Bx.zero else R.AH,!(R.step==0))) (λr=>(.tuple #[.agg r.1.l.toArray,.bool r.2],(R.l).toArray)) X6 CF b ?_;refine Ed (show _=(bif R.step==0 then(Bx.zero,false) else(R.AH,true)) by cases R.step==0<;>rfl) ?_;exact vS2
def YZ(R:Xd):Env:=IA [R.ii] [R.bb] [R.seen.v,R.Au.v,R.notes.v] (AS rfl)
def iM:St:=⟨[],[(1,171,(ct [vs 0 8,[.bV 0],vs 8 4,[.bV 1],vs 12 13,[.bV 2],vs 25 4,[.bV 3],vs 29 4,[.bV 4],vs 33 4,[.bV 5,.iV 37,.Ba 0,.Ba 1],vs 38 8,[.bV 6],vs 46 4,[.bV 7],vs 50 4,[.bV 8],vs 54 4,[.bV 9],vs 58 4,[.bV 10],vs 62 4,[.bV 11],vs 66 4,[.bV 12],vs 70 4,[.bV 13],vs 74 4,[.bV 14,.bV 15,.iV 78,.iV 79,.Ba 2],vs 80 5,[.bV 16,.bV 17]]))],[],10,0⟩
def Vh:List SV:=[.c (.ptr 1 0)]
def Zl(R:Xd)(a:Nat)(w:World)(b:Bk w a 171 (R.l).toArray):Kp 73 #[.pointer (some ⟨a,0,none⟩)] w λc w'=>c=.returned (.agg (R).Az.l.toArray)/\Bk w' a 171 ((R).l).toArray/\Aq [a] w w':=by
 refine p1 (YZ R) [] 120 iM Vh (R) (λr=>(.agg r.Az.l.toArray,(r.l).toArray)) X6 CF b ?_;exact vS2
def jG(R:Xd):Env:=IA [R.ii] [R.bb] [R.seen.v,R.Au.v,R.notes.v] (AS rfl)
def qU:St:=⟨[],[(1,171,(ct [vs 0 8,[.bV 0],vs 8 4,[.bV 1],vs 12 13,[.bV 2],vs 25 4,[.bV 3],vs 29 4,[.bV 4],vs 33 4,[.bV 5,.iV 37,.Ba 0,.Ba 1],vs 38 8,[.bV 6],vs 46 4,[.bV 7],vs 50 4,[.bV 8],vs 54 4,[.bV 9],vs 58 4,[.bV 10],vs 62 4,[.bV 11],vs 66 4,[.bV 12],vs 70 4,[.bV 13],vs 74 4,[.bV 14,.bV 15,.iV 78,.iV 79,.Ba 2],vs 80 5,[.bV 16,.bV 17]]))],[],10,0⟩
def ZD:List SV:=[.c (.ptr 1 0)]
def jH(R:Xd)(a:Nat)(w:World)(b:Bk w a 171 (R.l).toArray):Kp 72 #[.pointer (some ⟨a,0,none⟩)] w λc w'=>c=.returned (.bool (!((R).step==0)))/\Bk w' a 171 ((R).l).toArray/\Aq [a] w w':=by
 refine p1 (jG R) [] 120 qU ZD (R) (λr=>(.bool (!(r.step==0)),(r.l).toArray)) X6 CF b ?_;exact vS2
def rlnE(R:Xd):Env:=IA [R.iL] [R.bb] [R.seen.v,R.Au.v,R.notes.v] (AS rfl)
def iP:St:=⟨[],[(1,171,v7)],[(.le (.lit 0) (.var 82),true)],10,0⟩
def Vk:List SV:=[.c (.ptr 1 0)]
def OA(R:Xd)(a:Nat)(w:World)(b:Bk w a 171 (R.l).toArray):Kp 95 #[.pointer (some ⟨a,0,none⟩)] w λc w'=>c=.returned (.tuple #[])/\Bk w' a 171 ((Xd.noted R).l).toArray/\Aq [a] w w':=by
 refine p1 (rlnE R) [] 120 iP Vk (Xd.noted R) (λr=>(.tuple #[],(r.l).toArray)) X6 (Cp (g5 (ma _)) CF) b ?_;exact vS2
def li(l:List (Nat × Int)):List (Nat × List SC):=l.map λp=>(p.1,[.int (.lit p.2)])
def aM(b:Gj):Gj:=(.le (.lit 0) (.var 39),true)::(.lt (.var 39) (.lit 6),true)::(.lt (.var 39) (.lit 0),false)::(.le (.lit 6) (.var 39),false)::b
def asM{e:Env}{b:Gj}{m:Int}(h:(Tm.var 39).den e=m)(a:0<=m)(c:m<6)(d:Bd e b):Bd e (aM b):=by
 subst h;exact Cp (g5 a) (Cp (g5 c) (Cp (gz (ju.mpr a)) (Cp (gz (Int.not_le.mpr c)) d)))
def sW(c:List SC)(a:Gj):St:=⟨[],[(1,171,c)],a,10,0⟩
def aW(c:List SC):List SV:=[.c (.ptr 1 0),.agg c]
abbrev rW(f:FuncId)(v:Array Value)(R R':Xd):Prop:=∀g w,Bk w g 171 R.l.toArray->0<=R.me->R.me<6->Kp f #[.pointer (some ⟨g,0,none⟩),.agg v] w λb a=>b=.returned .nilIface/\Bk a g 171 R'.l.toArray/\Aq [g] w a
def wl{p:Prop}(h:p:=by repeat' (first|with_reducible (first|refine EA (Sn _) ?_|refine pN ?_|refine pA ?_|refine pO ?_|refine pB ?_|refine EA (cG _) ?_|refine EA (Uw _) ?_|refine EA (cH _) ?_|refine EA (cI _ _ _) ?_|refine pF ?_|refine pT ?_|refine pU ?_|refine pV ?_|refine pC ?_ ?_)|refine Hl ?_|refine Hm ?_|refine Ed (DB _ _ _) ?_|exact l1)):p:=h
section
variable{f:FuncId}{v:Array Value}{R':Xd}(e:Env)(R:Xd)
def pW(c a:List SC)(s:Gj)(j:0<=R.me->R.me<6->Bd e s)(h:PO (Dq (exec Tryz.prog [] 120 (.call f (aW a)) (sW c s))) e (λx r=>Q1 e 171 (sW c s).hp x (.nilIface,r.l.toArray)) s R')(k:∀g,R.l.toArray=Yp e (DF [g]) (cellAt 1 (sW c s).hp):=by intro g;kernel_rfl)(b:Rt (Ym (sW c s).hp) (sW c s).hp=true:=by kernel_rfl)
  (d:(aW a).all (Jk (Ym (sW c s).hp))=true:=by kernel_rfl)(ha:∀g,#[.pointer (some ⟨g,0,none⟩),.agg v]=((aW a).map (SV.den e (DF [g]))).toArray:=by intro g;kernel_rfl)(i:¬f=DG:=by decide):rW f v R R':=λg _ m n o=>
 p1 e [] 120 (sW c s) (aW a) R' (λr=>(.nilIface,r.l.toArray)) X6 (j n o) m h mixed rfl (k g) b d (ha g) rfl i
end
def tA:List SC:=ct [vs 85 4,[.bV 18,.bV 19]]
abbrev YI(x:Xr):=rW 58 x.l.toArray
def tq{R R':Xd}{x:Xr}(Z:Xd)(l:List (Nat × Int))(h:PO (Dq (exec Tryz.prog [] 120 (.call 58 (aW tA)) (sW (pt jK (li l)) (aM [])))) (rxE Z x) (λy r=>Q1 (rxE Z x) 171 (sW (pt jK (li l)) (aM [])).hp y (.nilIface,r.l.toArray)) (aM []) R':=by exact wl)
  (b:R.me=Z.me:=by rfl)(c:∀g,R.l.toArray=Yp (rxE Z x) (DF [g]) (cellAt 1 (sW (pt jK (li l)) (aM [])).hp):=by intro g;kernel_rfl)(a:Rt (Ym (sW (pt jK (li l)) (aM [])).hp) (sW (pt jK (li l)) (aM [])).hp=true:=by kernel_rfl):YI x R R':=
 pW (rxE Z x) R (pt jK (li l)) tA (aM []) (λd i=>asM (m:=R.me) b.symm d i CF) h c a
def tL:List SC:=ct [vs 88 4,[.bV 18,.bV 19]]
def aL:Gj:=[(.le (.lit 0) (.var 82),true)]
def pTl{R R':Xd}{x:Xr}(Z:Xd)(l:List (Nat × Int))(h:PO (Dq (exec Tryz.prog [] 120 (.call 58 (aW tL)) (sW (pt v7 (li l)) aL))) (yH Z x) (λy r=>Q1 (yH Z x) 171 (sW (pt v7 (li l)) aL).hp y (.nilIface,r.l.toArray)) aL R':=by exact wl)
  (b:∀g,R.l.toArray=Yp (yH Z x) (DF [g]) (cellAt 1 (sW (pt v7 (li l)) aL).hp):=by intro g;kernel_rfl)(a:Rt (Ym (sW (pt v7 (li l)) aL).hp) (sW (pt v7 (li l)) aL).hp=true:=by kernel_rfl):YI x R R':=
 pW (yH Z x) R (pt v7 (li l)) tL aL (λ_ _=>Cp (g5 (ma _)) CF) h b a
def cA:List SC:=ct [vs 85 8,[.bV 18],vs 93 4,[.bV 19],vs 97 4]
abbrev X'(c:Xi):=rW 71 c.l.toArray
def rP{R R':Xd}{c:Xi}(Z:Xd)(C:Xi)(l m:List (Nat × Int))(b:Gj)(i:Bd (zc Z C) b)(h:PO (Dq (exec Tryz.prog [] 120 (.call 71 (aW (pt cA (li m)))) (sW (pt jK (li l)) (aM b)))) (zc Z C) (λy r=>Q1 (zc Z C) 171 (sW (pt jK (li l)) (aM b)).hp y (.nilIface,r.l.toArray)) (aM b) R':=by exact wl)
  (j:R.me=Z.me:=by rfl)(k:∀g,R.l.toArray=Yp (zc Z C) (DF [g]) (cellAt 1 (sW (pt jK (li l)) (aM b)).hp):=by intro g;kernel_rfl)(a:Rt (Ym (sW (pt jK (li l)) (aM b)).hp) (sW (pt jK (li l)) (aM b)).hp=true:=by kernel_rfl)
  (d:(aW (pt cA (li m))).all (Jk (Ym (sW (pt jK (li l)) (aM b)).hp))=true:=by kernel_rfl)(ha:∀g,#[.pointer (some ⟨g,0,none⟩),.agg c.l.toArray]=((aW (pt cA (li m))).map (SV.den (zc Z C) (DF [g]))).toArray:=by intro g;kernel_rfl):X' c R R':=
 pW (zc Z C) R (pt jK (li l)) (pt cA (li m)) (aM b) (λn o=>asM (m:=R.me) j.symm n o i) h k a d ha
def D'{n:Int}(a:0<=n)(b:n<9):n=0\/n=1\/n=2\/n=3\/n=4\/n=5\/n=6\/n=7\/n=8:=Zo
def qB(x:Xe)(y:Xe):Env:=IB [x.ii,y.ii] [[x.mark,y.mark]]
def yD:St:=⟨[],[],[],10,0⟩
def iI:List SV:=[.agg ((ct [vs 0 4,[.bV 0]])),.agg ((ct [vs 4 4,[.bV 1]]))]
def qC(x:Xe)(y:Xe)(w:World):Kp 83 #[.agg x.l.toArray,.agg y.l.toArray] w λa w'=>a=.returned (.bool (B7 x y))/\Aq [] w w':=by
 refine p0 (qB x y) [] 60 yD iI (B7 x y) (λr=>(.bool r)) X6 CF ?_;exact vS4
def zF(n:Int):Env:=IB [[n]] []
def wv:St:=⟨[],[],[],10,0⟩
def rZ:List SV:=[.c (.iV 0)]
def zG(n:Int)(w:World):Kp 44 #[.int .i64 n] w λa w'=>a=.returned (.agg (Y6 n).l.toArray)/\Aq [] w w':=by
 refine p0 (zF n) [] 60 wv rZ (Y6 n) (λr=>(.agg r.l.toArray)) X6 CF ?_;exact vS4
def Vp(k:Int):Env:=IB [[k]] []
def ZA:St:=⟨[],[],[],10,0⟩
def SU:List SV:=[.c (.iV 0)]
def Nm(k:Int)(w:World):Kp 63 #[.int .i64 k] w λa w'=>a=.returned (.agg (Pl.refused k).l.toArray)/\Aq [] w w':=by
 refine p0 (Vp k) [] 60 ZA SU (Pl.refused k) (λr=>(.agg r.l.toArray)) X6 CF ?_;exact vS4
