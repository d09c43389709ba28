/- Core: CR0, PU, MR, CRtA, CRbA, CRbL, CRbH. -/
import Derived.Test.YtaipogljokblkaaGreatDoorZ08
import Derived.Test.YtaipogljokblkaaGreatDoorZ12
import Derived.Test.YtaipogljokblkaaGreatDoorZ09
set_option linter.all false
set_option maxRecDepth 100000
set_option maxHeartbeats 8000000
namespace Go.Proofs.YtaipogljokblkaaGreatDoor
open Go Go.RowKit
set_option linter.unusedSimpArgs false
set_option linter.unusedVariables false
set_option linter.unusedSectionVars false
def rcE (R:Xa) (c:Xg):Env:=mkV [R.ii,c.ii] [R.bb,c.bb] [R.seen.v,R.doomed.v,R.notes.v] (Yk rfl)
def rxE (R:Xa) (x:Xi):Env:=mkV [R.ii,x.ii] [R.bb,x.bb] [R.seen.v,R.doomed.v,R.notes.v] (Yk rfl)
def rC0:List SC:=(ct [vs 0 8,[.bool (.var 0)],vs 8 4,[.bool (.var 1)],vs 12 13,[.bool (.var 2)],vs 25 4,[.bool (.var 3)],vs 29 4,[.bool (.var 4)],vs 33 4,[.bool (.var 5),.int (.var 37),.raw 0,.raw 1],vs 38 8,[.bool (.var 6)],vs 46 4,[.bool (.var 7)],vs 50 4,[.bool (.var 8)],vs 54 4,[.bool (.var 9)],vs 58 4,[.bool (.var 10)],vs 62 4,[.bool (.var 11)],vs 66 4,[.bool (.var 12)],vs 70 4,[.bool (.var 13)],vs 74 4,[.bool (.var 14),.bool (.var 15),.int (.var 78),.int (.var 79),.raw 2],vs 80 5,[.bool (.var 16),.bool (.var 17)]])
namespace Xa
def look (R:Xa) (n:Int):Xa × Bool :=
 bif R.keeping then
  bif decide (wr (R.threads*9)≤n) then (R,false) else (Xa.load { R with index:=n } 13 ⟨0,0,wr (wr (25+wr (wr (Int.tdiv n 9)*9))+Int.tmod n 9)⟩,true)
 else bif decide (R.threads≤n) then (R,false) else (Xa.load { R with index:=n } 13 ⟨0,0,wr (79+n)⟩,true)
def scan (R:Xa):Xa:=bif R.engine==1 then R.done else bif R.engine==4 then R.load 12 (root 24) else (R.look 0).1
def noted (R:Xa):Xa:=bif decide (R.most≤(R.notes.n:Int)) then R.scan else R.done
def retire1 (R:Xa):Xa:=bif R.engine==1 then R.done else bif R.engine==4 then R.load 10 (root 24) else R.load 9 (Xx R.call.old 9)
end Xa
def nilSl:GSl:=⟨none,0,0⟩
def hear (w:Xf):GSpan:=bif w.mark then ⟨true,w.nm,w.tg⟩ else ⟨false,0,0⟩
structure MR where
 R:Xa
 ns:List Xp
 ds:List Xp
 ss:List Xf
namespace MR
def wrap (M:MR) (R:Xa):MR:=bif R.step==0 then ⟨R,M.ns,[],[]⟩ else ⟨R,M.ns,M.ds,M.ss⟩
def scan (M:MR):MR:=M.wrap M.R.scan
def noted (M:MR):MR:=bif decide (M.R.most≤(M.ns.length:Int)) then M.scan else M.wrap M.R.done
def note (M:MR) (birth death:Int):MR:={ M with ns:=M.ns++[⟨wref M.R.call.old,birth,death⟩] }
def retire (M:MR):MR:=bif M.R.engine==2 then (M.note 0 0).noted else M.wrap M.R.retire1
def begin_ (M:MR) (c:Xg):MR :=
 bif c.kind==10 then MR.retire ⟨M.R.turn c,M.ns,[],[]⟩ else
 bif c.kind==11 then MR.scan ⟨M.R.turn c,M.ns,[],[]⟩ else ⟨M.R.begin1 c,M.ns,[],[]⟩
def reap (M:MR):MR :=
 match M.ds with
 | []=>M.wrap M.R.done
 | d :: _=>{ M with R:=M.R.ask 16 ⟨5,.zero,d.ref,.zero⟩ }
def stays (M:MR):Xp→Bool :=
 bif M.R.engine==2 then slotKept M.ss else bif M.R.engine==3 then erasKept (M.ss.map (·.nm)) else
 bif M.R.engine==5 then spansKept (M.ss.map hear) else epochKept M.R.clock.nm
def sift (M:MR):MR:=MR.reap { M with ds:=M.ns.filter fun n=>!M.stays n }
def tookLoad13 (M:MR) (x:Xi):MR :=
 let M:={ M with ss:=M.ss++[x.word] }
 bif (M.R.look (M.R.index+1)).2 then { M with R:=(M.R.look (M.R.index+1)).1 } else
 bif !(M.R.engine==4) then M.sift else
 bif spansMay M.R.clock.nm (M.ss.map hear) then { M with R:=M.R.advance 14 } else { M with R:=M.R.load 15 (root 24) }
def tookFree (M:MR):MR :=
 match M.ds with
 | []=>M
 | d :: ds=>MR.reap ⟨{ M.R with freed:=wr (M.R.freed+1) },M.ns.erase d,ds,M.ss⟩
def took (M:MR) (x:Xi):MR :=
 let R:=M.R
 bif R.step==1 then M.wrap (R.finish x) else
 bif R.step==2 then M.wrap R.done else
 bif R.step==3 then M.wrap (R.announce 2 ⟨true,x.word.nm,x.word.nm⟩) else
 bif R.step==4 then M.wrap (R.leave (([0,1,2,3,4,5,6,7,8]:List Int).filter fun n=>decide (R.index < n))) else
 bif R.step==5 then M.wrap (R.tookLoad x) else
 bif R.step==6 then M.wrap (R.tookClock x) else
 bif R.step==7 then M.wrap (R.load 5 R.call.adr) else
 bif R.step==8 then M.wrap (R.ask 1 ⟨4,.zero,.zero,wnum x.word.nm⟩) else
 bif R.step==9 then M.wrap (Xa.load { R with word:=x.word } 10 (root 24)) else
 bif R.step==10 then
  let M:=MR.note { M with R:={ R with clock:=x.word } } R.word.nm x.word.nm
  bif R.dating then { M with R:=M.R.advance 11 } else M.noted
 else
 bif R.step==11 then M.noted else
 bif R.step==12 then M.wrap (Xa.look { R with clock:=x.word } 0).1 else
 bif R.step==13 then M.tookLoad13 x else
 bif R.step==14 then M.wrap (R.load 15 (root 24)) else
 bif R.step==15 then MR.sift { M with R:={ R with clock:=x.word } } else
 M.tookFree
end MR
def rt1_st:St:=⟨[],[(1,171,pt rC0 [(18,[.int (.lit 1)])])],[(.le (.lit 0) (.var 39),true),(.lt (.var 39) (.lit 6),true),(.lt (.var 39) (.lit 0),false),(.le (.lit 6) (.var 39),false)],10,0⟩
def rt1_args:List SV:=[.c (.ptr 1 0),.agg ((ct [vs 85 4,[.bool (.var 18),.bool (.var 19)]]))]
theorem rt1_any (R:Xa) (x:Xi) (g1:Nat) (w:World) (h1:Bk w g1 171 (({ R with step:=1 }:Xa).l).toArray) (hm0:0≤R.me) (hm1:R.me < 6):Calls Tryz.prog 58 #[.pointer (some ⟨g1,0,none⟩),.agg x.l.toArray] w fun en w'=>en = .returned (.nilIface)∧Bk w' g1 171 ((Xa.finish ({ R with step:=1 }:Xa) x).l).toArray∧Chg [g1] w w':=by
 refine p1 (rxE R x) [] 60 rt1_st rt1_args (Xa.finish ({ R with step:=1 }:Xa) x) (fun r=>(.nilIface,(r.l).toArray)) Xd (asC (decide_eq_true hm0) (asC (decide_eq_true hm1) (asC (decide_eq_false (Int.not_lt.mpr hm0)) (asC (decide_eq_false (Int.not_le.mpr hm1)) asN)))) h1 ?_
 exact vS1
def rt2_st:St:=⟨[],[(1,171,pt rC0 [(18,[.int (.lit 2)])])],[(.le (.lit 0) (.var 39),true),(.lt (.var 39) (.lit 6),true),(.lt (.var 39) (.lit 0),false),(.le (.lit 6) (.var 39),false)],10,0⟩
def rt2_args:List SV:=[.c (.ptr 1 0),.agg ((ct [vs 85 4,[.bool (.var 18),.bool (.var 19)]]))]
theorem rt2_any (R:Xa) (x:Xi) (g1:Nat) (w:World) (h1:Bk w g1 171 (({ R with step:=2 }:Xa).l).toArray) (hm0:0≤R.me) (hm1:R.me < 6):Calls Tryz.prog 58 #[.pointer (some ⟨g1,0,none⟩),.agg x.l.toArray] w fun en w'=>en = .returned (.nilIface)∧Bk w' g1 171 ((Xa.done ({ R with step:=2 }:Xa)).l).toArray∧Chg [g1] w w':=by
 refine p1 (rxE R x) [] 60 rt2_st rt2_args (Xa.done ({ R with step:=2 }:Xa)) (fun r=>(.nilIface,(r.l).toArray)) Xd (asC (decide_eq_true hm0) (asC (decide_eq_true hm1) (asC (decide_eq_false (Int.not_lt.mpr hm0)) (asC (decide_eq_false (Int.not_le.mpr hm1)) asN)))) h1 ?_
 exact vS1
def rt3_st:St:=⟨[],[(1,171,pt rC0 [(18,[.int (.lit 3)])])],[(.le (.lit 0) (.var 39),true),(.lt (.var 39) (.lit 6),true),(.lt (.var 39) (.lit 0),false),(.le (.lit 6) (.var 39),false)],10,0⟩
def rt3_args:List SV:=[.c (.ptr 1 0),.agg ((ct [vs 85 4,[.bool (.var 18),.bool (.var 19)]]))]
theorem rt3_any (R:Xa) (x:Xi) (g1:Nat) (w:World) (h1:Bk w g1 171 (({ R with step:=3 }:Xa).l).toArray) (hm0:0≤R.me) (hm1:R.me < 6):Calls Tryz.prog 58 #[.pointer (some ⟨g1,0,none⟩),.agg x.l.toArray] w fun en w'=>en = .returned (.nilIface)∧Bk w' g1 171 ((Xa.announce ({ R with step:=3 }:Xa) 2 ⟨true,x.word.nm,x.word.nm⟩).l).toArray∧Chg [g1] w w':=by
 refine p1 (rxE R x) [] 60 rt3_st rt3_args (Xa.announce ({ R with step:=3 }:Xa) 2 ⟨true,x.word.nm,x.word.nm⟩) (fun r=>(.nilIface,(r.l).toArray)) Xd (asC (decide_eq_true hm0) (asC (decide_eq_true hm1) (asC (decide_eq_false (Int.not_lt.mpr hm0)) (asC (decide_eq_false (Int.not_le.mpr hm1)) asN)))) h1 ?_
 exact vS1
def rt7_st:St:=⟨[],[(1,171,pt rC0 [(18,[.int (.lit 7)])])],[(.le (.lit 0) (.var 39),true),(.lt (.var 39) (.lit 6),true),(.lt (.var 39) (.lit 0),false),(.le (.lit 6) (.var 39),false)],10,0⟩
def rt7_args:List SV:=[.c (.ptr 1 0),.agg ((ct [vs 85 4,[.bool (.var 18),.bool (.var 19)]]))]
theorem rt7_any (R:Xa) (x:Xi) (g1:Nat) (w:World) (h1:Bk w g1 171 (({ R with step:=7 }:Xa).l).toArray) (hm0:0≤R.me) (hm1:R.me < 6):Calls Tryz.prog 58 #[.pointer (some ⟨g1,0,none⟩),.agg x.l.toArray] w fun en w'=>en = .returned (.nilIface)∧Bk w' g1 171 ((Xa.load ({ R with step:=7 }:Xa) 5 R.call.adr).l).toArray∧Chg [g1] w w':=by
 refine p1 (rxE R x) [] 60 rt7_st rt7_args (Xa.load ({ R with step:=7 }:Xa) 5 R.call.adr) (fun r=>(.nilIface,(r.l).toArray)) Xd (asC (decide_eq_true hm0) (asC (decide_eq_true hm1) (asC (decide_eq_false (Int.not_lt.mpr hm0)) (asC (decide_eq_false (Int.not_le.mpr hm1)) asN)))) h1 ?_
 exact vS1
def rt8_st:St:=⟨[],[(1,171,pt rC0 [(18,[.int (.lit 8)])])],[(.le (.lit 0) (.var 39),true),(.lt (.var 39) (.lit 6),true),(.lt (.var 39) (.lit 0),false),(.le (.lit 6) (.var 39),false)],10,0⟩
def rt8_args:List SV:=[.c (.ptr 1 0),.agg ((ct [vs 85 4,[.bool (.var 18),.bool (.var 19)]]))]
theorem rt8_any (R:Xa) (x:Xi) (g1:Nat) (w:World) (h1:Bk w g1 171 (({ R with step:=8 }:Xa).l).toArray) (hm0:0≤R.me) (hm1:R.me < 6):Calls Tryz.prog 58 #[.pointer (some ⟨g1,0,none⟩),.agg x.l.toArray] w fun en w'=>en = .returned (.nilIface)∧Bk w' g1 171 ((Xa.ask ({ R with step:=8 }:Xa) 1 ⟨4,.zero,.zero,wnum x.word.nm⟩).l).toArray∧Chg [g1] w w':=by
 refine p1 (rxE R x) [] 60 rt8_st rt8_args (Xa.ask ({ R with step:=8 }:Xa) 1 ⟨4,.zero,.zero,wnum x.word.nm⟩) (fun r=>(.nilIface,(r.l).toArray)) Xd (asC (decide_eq_true hm0) (asC (decide_eq_true hm1) (asC (decide_eq_false (Int.not_lt.mpr hm0)) (asC (decide_eq_false (Int.not_le.mpr hm1)) asN)))) h1 ?_
 exact vS1
def rt5_e1_st:St:=⟨[],[(1,171,pt rC0 [(18,[.int (.lit 5)]),(46,[.int (.lit 1)])])],[(.le (.lit 0) (.var 39),true),(.lt (.var 39) (.lit 6),true),(.lt (.var 39) (.lit 0),false),(.le (.lit 6) (.var 39),false)],10,0⟩
def rt5_e1_args:List SV:=[.c (.ptr 1 0),.agg ((ct [vs 85 4,[.bool (.var 18),.bool (.var 19)]]))]
theorem rt5_e1_any (R:Xa) (x:Xi) (g1:Nat) (w:World) (h1:Bk w g1 171 (({ R with step:=5,engine:=1 }:Xa).l).toArray) (hm0:0≤R.me) (hm1:R.me < 6):Calls Tryz.prog 58 #[.pointer (some ⟨g1,0,none⟩),.agg x.l.toArray] w fun en w'=>en = .returned (.nilIface)∧Bk w' g1 171 ((Xa.tookLoad ({ R with step:=5,engine:=1 }:Xa) x).l).toArray∧Chg [g1] w w':=by
 refine p1 (rxE R x) [] 60 rt5_e1_st rt5_e1_args (Xa.tookLoad ({ R with step:=5,engine:=1 }:Xa) x) (fun r=>(.nilIface,(r.l).toArray)) Xd (asC (decide_eq_true hm0) (asC (decide_eq_true hm1) (asC (decide_eq_false (Int.not_lt.mpr hm0)) (asC (decide_eq_false (Int.not_le.mpr hm1)) asN)))) h1 ?_
 exact vS1
def rt5_e3_st:St:=⟨[],[(1,171,pt rC0 [(18,[.int (.lit 5)]),(46,[.int (.lit 3)])])],[(.le (.lit 0) (.var 39),true),(.lt (.var 39) (.lit 6),true),(.lt (.var 39) (.lit 0),false),(.le (.lit 6) (.var 39),false)],10,0⟩
def rt5_e3_args:List SV:=[.c (.ptr 1 0),.agg ((ct [vs 85 4,[.bool (.var 18),.bool (.var 19)]]))]
theorem rt5_e3_any (R:Xa) (x:Xi) (g1:Nat) (w:World) (h1:Bk w g1 171 (({ R with step:=5,engine:=3 }:Xa).l).toArray) (hm0:0≤R.me) (hm1:R.me < 6):Calls Tryz.prog 58 #[.pointer (some ⟨g1,0,none⟩),.agg x.l.toArray] w fun en w'=>en = .returned (.nilIface)∧Bk w' g1 171 ((Xa.tookLoad ({ R with step:=5,engine:=3 }:Xa) x).l).toArray∧Chg [g1] w w':=by
 refine p1 (rxE R x) [] 60 rt5_e3_st rt5_e3_args (Xa.tookLoad ({ R with step:=5,engine:=3 }:Xa) x) (fun r=>(.nilIface,(r.l).toArray)) Xd (asC (decide_eq_true hm0) (asC (decide_eq_true hm1) (asC (decide_eq_false (Int.not_lt.mpr hm0)) (asC (decide_eq_false (Int.not_le.mpr hm1)) asN)))) h1 ?_
 exact vS1
def rt5_e4_st:St:=⟨[],[(1,171,pt rC0 [(18,[.int (.lit 5)]),(46,[.int (.lit 4)])])],[(.le (.lit 0) (.var 39),true),(.lt (.var 39) (.lit 6),true),(.lt (.var 39) (.lit 0),false),(.le (.lit 6) (.var 39),false)],10,0⟩
def rt5_e4_args:List SV:=[.c (.ptr 1 0),.agg ((ct [vs 85 4,[.bool (.var 18),.bool (.var 19)]]))]
theorem rt5_e4_any (R:Xa) (x:Xi) (g1:Nat) (w:World) (h1:Bk w g1 171 (({ R with step:=5,engine:=4 }:Xa).l).toArray) (hm0:0≤R.me) (hm1:R.me < 6):Calls Tryz.prog 58 #[.pointer (some ⟨g1,0,none⟩),.agg x.l.toArray] w fun en w'=>en = .returned (.nilIface)∧Bk w' g1 171 ((Xa.tookLoad ({ R with step:=5,engine:=4 }:Xa) x).l).toArray∧Chg [g1] w w':=by
 refine p1 (rxE R x) [] 60 rt5_e4_st rt5_e4_args (Xa.tookLoad ({ R with step:=5,engine:=4 }:Xa) x) (fun r=>(.nilIface,(r.l).toArray)) Xd (asC (decide_eq_true hm0) (asC (decide_eq_true hm1) (asC (decide_eq_false (Int.not_lt.mpr hm0)) (asC (decide_eq_false (Int.not_le.mpr hm1)) asN)))) h1 ?_
 exact vS1
def rt5_e5_st:St:=⟨[],[(1,171,pt rC0 [(18,[.int (.lit 5)]),(46,[.int (.lit 5)])])],[(.le (.lit 0) (.var 39),true),(.lt (.var 39) (.lit 6),true),(.lt (.var 39) (.lit 0),false),(.le (.lit 6) (.var 39),false)],10,0⟩
def rt5_e5_args:List SV:=[.c (.ptr 1 0),.agg ((ct [vs 85 4,[.bool (.var 18),.bool (.var 19)]]))]
theorem rt5_e5_any (R:Xa) (x:Xi) (g1:Nat) (w:World) (h1:Bk w g1 171 (({ R with step:=5,engine:=5 }:Xa).l).toArray) (hm0:0≤R.me) (hm1:R.me < 6):Calls Tryz.prog 58 #[.pointer (some ⟨g1,0,none⟩),.agg x.l.toArray] w fun en w'=>en = .returned (.nilIface)∧Bk w' g1 171 ((Xa.tookLoad ({ R with step:=5,engine:=5 }:Xa) x).l).toArray∧Chg [g1] w w':=by
 refine p1 (rxE R x) [] 60 rt5_e5_st rt5_e5_args (Xa.tookLoad ({ R with step:=5,engine:=5 }:Xa) x) (fun r=>(.nilIface,(r.l).toArray)) Xd (asC (decide_eq_true hm0) (asC (decide_eq_true hm1) (asC (decide_eq_false (Int.not_lt.mpr hm0)) (asC (decide_eq_false (Int.not_le.mpr hm1)) asN)))) h1 ?_
 exact vS1
def rt6_e5_st:St:=⟨[],[(1,171,pt rC0 [(18,[.int (.lit 6)]),(46,[.int (.lit 5)])])],[(.le (.lit 0) (.var 39),true),(.lt (.var 39) (.lit 6),true),(.lt (.var 39) (.lit 0),false),(.le (.lit 6) (.var 39),false)],10,0⟩
def rt6_e5_args:List SV:=[.c (.ptr 1 0),.agg ((ct [vs 85 4,[.bool (.var 18),.bool (.var 19)]]))]
theorem rt6_e5_any (R:Xa) (x:Xi) (g1:Nat) (w:World) (h1:Bk w g1 171 (({ R with step:=6,engine:=5 }:Xa).l).toArray) (hm0:0≤R.me) (hm1:R.me < 6):Calls Tryz.prog 58 #[.pointer (some ⟨g1,0,none⟩),.agg x.l.toArray] w fun en w'=>en = .returned (.nilIface)∧Bk w' g1 171 ((Xa.tookClock ({ R with step:=6,engine:=5 }:Xa) x).l).toArray∧Chg [g1] w w':=by
 refine p1 (rxE R x) [] 60 rt6_e5_st rt6_e5_args (Xa.tookClock ({ R with step:=6,engine:=5 }:Xa) x) (fun r=>(.nilIface,(r.l).toArray)) Xd (asC (decide_eq_true hm0) (asC (decide_eq_true hm1) (asC (decide_eq_false (Int.not_lt.mpr hm0)) (asC (decide_eq_false (Int.not_le.mpr hm1)) asN)))) h1 ?_
 refine po_eq (show _ = (bif R.span.is then (bif R.span.high==x.word.nm then Xa.finish { R with step:=6,engine:=5 } ⟨R.word,true⟩ else Xa.announce { R with step:=6,engine:=5 } 7 ⟨true,R.span.low,x.word.nm⟩) else Xa.announce { R with step:=6,engine:=5 } 7 ⟨true,x.word.nm,x.word.nm⟩) by unfold Xa.tookClock Xa.covers;cases R.span.is <;> cases R.span.high==x.word.nm <;> rfl) ?_
 exact vS1
def rb1_st:St:=⟨[],[(1,171,pt rC0 [(18,[.int (.lit 0)])])],[(.le (.lit 0) (.var 39),true),(.lt (.var 39) (.lit 6),true),(.lt (.var 39) (.lit 0),false),(.le (.lit 6) (.var 39),false)],10,0⟩
def rb1_args:List SV:=[.c (.ptr 1 0),.agg ((ct [[.int (.lit 1)],vs 86 7,[.bool (.var 18)],vs 93 4,[.bool (.var 19)],vs 97 4]))]
theorem rb1_any (R:Xa) (c:Xg) (g1:Nat) (w:World) (h1:Bk w g1 171 (({ R with step:=0 }:Xa).l).toArray) (hm0:0≤R.me) (hm1:R.me < 6):Calls Tryz.prog 71 #[.pointer (some ⟨g1,0,none⟩),.agg ({ c with kind:=1 }:Xg).l.toArray] w fun en w'=>en = .returned (.nilIface)∧Bk w' g1 171 ((Xa.begin1 { R with step:=0 } { c with kind:=1 }).l).toArray∧Chg [g1] w w':=by
 refine p1 (rcE R c) [] 60 rb1_st rb1_args (Xa.begin1 { R with step:=0 } { c with kind:=1 }) (fun r=>(.nilIface,(r.l).toArray)) Xd (asC (decide_eq_true hm0) (asC (decide_eq_true hm1) (asC (decide_eq_false (Int.not_lt.mpr hm0)) (asC (decide_eq_false (Int.not_le.mpr hm1)) asN)))) h1 ?_
 exact vS1
def rb3_st:St:=⟨[],[(1,171,pt rC0 [(18,[.int (.lit 0)])])],[(.le (.lit 0) (.var 39),true),(.lt (.var 39) (.lit 6),true),(.lt (.var 39) (.lit 0),false),(.le (.lit 6) (.var 39),false)],10,0⟩
def rb3_args:List SV:=[.c (.ptr 1 0),.agg ((ct [[.int (.lit 3)],vs 86 7,[.bool (.var 18)],vs 93 4,[.bool (.var 19)],vs 97 4]))]
theorem rb3_any (R:Xa) (c:Xg) (g1:Nat) (w:World) (h1:Bk w g1 171 (({ R with step:=0 }:Xa).l).toArray) (hm0:0≤R.me) (hm1:R.me < 6):Calls Tryz.prog 71 #[.pointer (some ⟨g1,0,none⟩),.agg ({ c with kind:=3 }:Xg).l.toArray] w fun en w'=>en = .returned (.nilIface)∧Bk w' g1 171 ((Xa.begin1 { R with step:=0 } { c with kind:=3 }).l).toArray∧Chg [g1] w w':=by
 refine p1 (rcE R c) [] 60 rb3_st rb3_args (Xa.begin1 { R with step:=0 } { c with kind:=3 }) (fun r=>(.nilIface,(r.l).toArray)) Xd (asC (decide_eq_true hm0) (asC (decide_eq_true hm1) (asC (decide_eq_false (Int.not_lt.mpr hm0)) (asC (decide_eq_false (Int.not_le.mpr hm1)) asN)))) h1 ?_
 exact vS1
def rb4_st:St:=⟨[],[(1,171,pt rC0 [(18,[.int (.lit 0)])])],[(.le (.lit 0) (.var 39),true),(.lt (.var 39) (.lit 6),true),(.lt (.var 39) (.lit 0),false),(.le (.lit 6) (.var 39),false)],10,0⟩
def rb4_args:List SV:=[.c (.ptr 1 0),.agg ((ct [[.int (.lit 4)],vs 86 7,[.bool (.var 18)],vs 93 4,[.bool (.var 19)],vs 97 4]))]
theorem rb4_any (R:Xa) (c:Xg) (g1:Nat) (w:World) (h1:Bk w g1 171 (({ R with step:=0 }:Xa).l).toArray) (hm0:0≤R.me) (hm1:R.me < 6):Calls Tryz.prog 71 #[.pointer (some ⟨g1,0,none⟩),.agg ({ c with kind:=4 }:Xg).l.toArray] w fun en w'=>en = .returned (.nilIface)∧Bk w' g1 171 ((Xa.begin1 { R with step:=0 } { c with kind:=4 }).l).toArray∧Chg [g1] w w':=by
 refine p1 (rcE R c) [] 60 rb4_st rb4_args (Xa.begin1 { R with step:=0 } { c with kind:=4 }) (fun r=>(.nilIface,(r.l).toArray)) Xd (asC (decide_eq_true hm0) (asC (decide_eq_true hm1) (asC (decide_eq_false (Int.not_lt.mpr hm0)) (asC (decide_eq_false (Int.not_le.mpr hm1)) asN)))) h1 ?_
 exact vS1
def rb5_st:St:=⟨[],[(1,171,pt rC0 [(18,[.int (.lit 0)])])],[(.le (.lit 0) (.var 39),true),(.lt (.var 39) (.lit 6),true),(.lt (.var 39) (.lit 0),false),(.le (.lit 6) (.var 39),false)],10,0⟩
def rb5_args:List SV:=[.c (.ptr 1 0),.agg ((ct [[.int (.lit 5)],vs 86 7,[.bool (.var 18)],vs 93 4,[.bool (.var 19)],vs 97 4]))]
theorem rb5_any (R:Xa) (c:Xg) (g1:Nat) (w:World) (h1:Bk w g1 171 (({ R with step:=0 }:Xa).l).toArray) (hm0:0≤R.me) (hm1:R.me < 6):Calls Tryz.prog 71 #[.pointer (some ⟨g1,0,none⟩),.agg ({ c with kind:=5 }:Xg).l.toArray] w fun en w'=>en = .returned (.nilIface)∧Bk w' g1 171 ((Xa.begin1 { R with step:=0 } { c with kind:=5 }).l).toArray∧Chg [g1] w w':=by
 refine p1 (rcE R c) [] 60 rb5_st rb5_args (Xa.begin1 { R with step:=0 } { c with kind:=5 }) (fun r=>(.nilIface,(r.l).toArray)) Xd (asC (decide_eq_true hm0) (asC (decide_eq_true hm1) (asC (decide_eq_false (Int.not_lt.mpr hm0)) (asC (decide_eq_false (Int.not_le.mpr hm1)) asN)))) h1 ?_
 exact vS1
def rb8_st:St:=⟨[],[(1,171,pt rC0 [(18,[.int (.lit 0)])])],[(.le (.lit 0) (.var 39),true),(.lt (.var 39) (.lit 6),true),(.lt (.var 39) (.lit 0),false),(.le (.lit 6) (.var 39),false)],10,0⟩
def rb8_args:List SV:=[.c (.ptr 1 0),.agg ((ct [[.int (.lit 8)],vs 86 7,[.bool (.var 18)],vs 93 4,[.bool (.var 19)],vs 97 4]))]
theorem rb8_any (R:Xa) (c:Xg) (g1:Nat) (w:World) (h1:Bk w g1 171 (({ R with step:=0 }:Xa).l).toArray) (hm0:0≤R.me) (hm1:R.me < 6):Calls Tryz.prog 71 #[.pointer (some ⟨g1,0,none⟩),.agg ({ c with kind:=8 }:Xg).l.toArray] w fun en w'=>en = .returned (.nilIface)∧Bk w' g1 171 ((Xa.begin1 { R with step:=0 } { c with kind:=8 }).l).toArray∧Chg [g1] w w':=by
 refine p1 (rcE R c) [] 60 rb8_st rb8_args (Xa.begin1 { R with step:=0 } { c with kind:=8 }) (fun r=>(.nilIface,(r.l).toArray)) Xd (asC (decide_eq_true hm0) (asC (decide_eq_true hm1) (asC (decide_eq_false (Int.not_lt.mpr hm0)) (asC (decide_eq_false (Int.not_le.mpr hm1)) asN)))) h1 ?_
 exact vS1
def rb9_st:St:=⟨[],[(1,171,pt rC0 [(18,[.int (.lit 0)])])],[(.le (.lit 0) (.var 39),true),(.lt (.var 39) (.lit 6),true),(.lt (.var 39) (.lit 0),false),(.le (.lit 6) (.var 39),false)],10,0⟩
def rb9_args:List SV:=[.c (.ptr 1 0),.agg ((ct [[.int (.lit 9)],vs 86 7,[.bool (.var 18)],vs 93 4,[.bool (.var 19)],vs 97 4]))]
theorem rb9_any (R:Xa) (c:Xg) (g1:Nat) (w:World) (h1:Bk w g1 171 (({ R with step:=0 }:Xa).l).toArray) (hm0:0≤R.me) (hm1:R.me < 6):Calls Tryz.prog 71 #[.pointer (some ⟨g1,0,none⟩),.agg ({ c with kind:=9 }:Xg).l.toArray] w fun en w'=>en = .returned (.nilIface)∧Bk w' g1 171 ((Xa.begin1 { R with step:=0 } { c with kind:=9 }).l).toArray∧Chg [g1] w w':=by
 refine p1 (rcE R c) [] 60 rb9_st rb9_args (Xa.begin1 { R with step:=0 } { c with kind:=9 }) (fun r=>(.nilIface,(r.l).toArray)) Xd (asC (decide_eq_true hm0) (asC (decide_eq_true hm1) (asC (decide_eq_false (Int.not_lt.mpr hm0)) (asC (decide_eq_false (Int.not_le.mpr hm1)) asN)))) h1 ?_
 exact vS1
def rb6_st:St:=⟨[],[(1,171,pt rC0 [(18,[.int (.lit 0)])])],[(.le (.lit 0) (.var 39),true),(.lt (.var 39) (.lit 6),true),(.lt (.var 39) (.lit 0),false),(.le (.lit 6) (.var 39),false),(.lt (.var 97) (.lit 0),false),(.le (.lit 9) (.var 97),false)],10,0⟩
def rb6_args:List SV:=[.c (.ptr 1 0),.agg ((ct [[.int (.lit 6)],vs 86 7,[.bool (.var 18)],vs 93 4,[.bool (.var 19),.int (.var 97),.int (.lit 0),.int (.var 99),.int (.var 100)]]))]
theorem rb6_any (R:Xa) (c:Xg) (g1:Nat) (w:World) (h1:Bk w g1 171 (({ R with step:=0 }:Xa).l).toArray) (hm0:0≤R.me) (hm1:R.me < 6) (hi0:0≤c.i) (hi1:c.i < 9):Calls Tryz.prog 71 #[.pointer (some ⟨g1,0,none⟩),.agg ({ c with kind:=6,j:=0 }:Xg).l.toArray] w fun en w'=>en = .returned (.nilIface)∧Bk w' g1 171 ((Xa.begin1 { R with step:=0 } { c with kind:=6,j:=0 }).l).toArray∧Chg [g1] w w':=by
 refine p1 (rcE R c) [] 60 rb6_st rb6_args (Xa.begin1 { R with step:=0 } { c with kind:=6,j:=0 }) (fun r=>(.nilIface,(r.l).toArray)) Xd (asC (decide_eq_true hm0) (asC (decide_eq_true hm1) (asC (decide_eq_false (Int.not_lt.mpr hm0)) (asC (decide_eq_false (Int.not_le.mpr hm1)) (asC (decide_eq_false (Int.not_lt.mpr hi0)) (asC (decide_eq_false (Int.not_le.mpr hi1)) asN)))))) h1 ?_
 exact vS1
def rb2_e1_st:St:=⟨[],[(1,171,pt rC0 [(18,[.int (.lit 0)]),(46,[.int (.lit 1)])])],[(.le (.lit 0) (.var 39),true),(.lt (.var 39) (.lit 6),true),(.lt (.var 39) (.lit 0),false),(.le (.lit 6) (.var 39),false)],10,0⟩
def rb2_e1_args:List SV:=[.c (.ptr 1 0),.agg ((ct [[.int (.lit 2)],vs 86 7,[.bool (.var 18)],vs 93 4,[.bool (.var 19)],vs 97 4]))]
theorem rb2_e1_any (R:Xa) (c:Xg) (g1:Nat) (w:World) (h1:Bk w g1 171 (({ R with step:=0,engine:=1 }:Xa).l).toArray) (hm0:0≤R.me) (hm1:R.me < 6):Calls Tryz.prog 71 #[.pointer (some ⟨g1,0,none⟩),.agg ({ c with kind:=2 }:Xg).l.toArray] w fun en w'=>en = .returned (.nilIface)∧Bk w' g1 171 ((Xa.begin1 { R with step:=0,engine:=1 } { c with kind:=2 }).l).toArray∧Chg [g1] w w':=by
 refine p1 (rcE R c) [] 60 rb2_e1_st rb2_e1_args (Xa.begin1 { R with step:=0,engine:=1 } { c with kind:=2 }) (fun r=>(.nilIface,(r.l).toArray)) Xd (asC (decide_eq_true hm0) (asC (decide_eq_true hm1) (asC (decide_eq_false (Int.not_lt.mpr hm0)) (asC (decide_eq_false (Int.not_le.mpr hm1)) asN)))) h1 ?_
 exact vS1
def rb2_e2_st:St:=⟨[],[(1,171,pt rC0 [(18,[.int (.lit 0)]),(46,[.int (.lit 2)])])],[(.le (.lit 0) (.var 39),true),(.lt (.var 39) (.lit 6),true),(.lt (.var 39) (.lit 0),false),(.le (.lit 6) (.var 39),false)],10,0⟩
def rb2_e2_args:List SV:=[.c (.ptr 1 0),.agg ((ct [[.int (.lit 2)],vs 86 7,[.bool (.var 18)],vs 93 4,[.bool (.var 19)],vs 97 4]))]
theorem rb2_e2_any (R:Xa) (c:Xg) (g1:Nat) (w:World) (h1:Bk w g1 171 (({ R with step:=0,engine:=2 }:Xa).l).toArray) (hm0:0≤R.me) (hm1:R.me < 6):Calls Tryz.prog 71 #[.pointer (some ⟨g1,0,none⟩),.agg ({ c with kind:=2 }:Xg).l.toArray] w fun en w'=>en = .returned (.nilIface)∧Bk w' g1 171 ((Xa.begin1 { R with step:=0,engine:=2 } { c with kind:=2 }).l).toArray∧Chg [g1] w w':=by
 refine p1 (rcE R c) [] 60 rb2_e2_st rb2_e2_args (Xa.begin1 { R with step:=0,engine:=2 } { c with kind:=2 }) (fun r=>(.nilIface,(r.l).toArray)) Xd (asC (decide_eq_true hm0) (asC (decide_eq_true hm1) (asC (decide_eq_false (Int.not_lt.mpr hm0)) (asC (decide_eq_false (Int.not_le.mpr hm1)) asN)))) h1 ?_
 exact vS1
def rb2_e3_st:St:=⟨[],[(1,171,pt rC0 [(18,[.int (.lit 0)]),(46,[.int (.lit 3)])])],[(.le (.lit 0) (.var 39),true),(.lt (.var 39) (.lit 6),true),(.lt (.var 39) (.lit 0),false),(.le (.lit 6) (.var 39),false)],10,0⟩
def rb2_e3_args:List SV:=[.c (.ptr 1 0),.agg ((ct [[.int (.lit 2)],vs 86 7,[.bool (.var 18)],vs 93 4,[.bool (.var 19)],vs 97 4]))]
theorem rb2_e3_any (R:Xa) (c:Xg) (g1:Nat) (w:World) (h1:Bk w g1 171 (({ R with step:=0,engine:=3 }:Xa).l).toArray) (hm0:0≤R.me) (hm1:R.me < 6):Calls Tryz.prog 71 #[.pointer (some ⟨g1,0,none⟩),.agg ({ c with kind:=2 }:Xg).l.toArray] w fun en w'=>en = .returned (.nilIface)∧Bk w' g1 171 ((Xa.begin1 { R with step:=0,engine:=3 } { c with kind:=2 }).l).toArray∧Chg [g1] w w':=by
 refine p1 (rcE R c) [] 60 rb2_e3_st rb2_e3_args (Xa.begin1 { R with step:=0,engine:=3 } { c with kind:=2 }) (fun r=>(.nilIface,(r.l).toArray)) Xd (asC (decide_eq_true hm0) (asC (decide_eq_true hm1) (asC (decide_eq_false (Int.not_lt.mpr hm0)) (asC (decide_eq_false (Int.not_le.mpr hm1)) asN)))) h1 ?_
 exact vS1
def rb2_e4_st:St:=⟨[],[(1,171,pt rC0 [(18,[.int (.lit 0)]),(46,[.int (.lit 4)])])],[(.le (.lit 0) (.var 39),true),(.lt (.var 39) (.lit 6),true),(.lt (.var 39) (.lit 0),false),(.le (.lit 6) (.var 39),false)],10,0⟩
def rb2_e4_args:List SV:=[.c (.ptr 1 0),.agg ((ct [[.int (.lit 2)],vs 86 7,[.bool (.var 18)],vs 93 4,[.bool (.var 19)],vs 97 4]))]
theorem rb2_e4_any (R:Xa) (c:Xg) (g1:Nat) (w:World) (h1:Bk w g1 171 (({ R with step:=0,engine:=4 }:Xa).l).toArray) (hm0:0≤R.me) (hm1:R.me < 6):Calls Tryz.prog 71 #[.pointer (some ⟨g1,0,none⟩),.agg ({ c with kind:=2 }:Xg).l.toArray] w fun en w'=>en = .returned (.nilIface)∧Bk w' g1 171 ((Xa.begin1 { R with step:=0,engine:=4 } { c with kind:=2 }).l).toArray∧Chg [g1] w w':=by
 refine p1 (rcE R c) [] 60 rb2_e4_st rb2_e4_args (Xa.begin1 { R with step:=0,engine:=4 } { c with kind:=2 }) (fun r=>(.nilIface,(r.l).toArray)) Xd (asC (decide_eq_true hm0) (asC (decide_eq_true hm1) (asC (decide_eq_false (Int.not_lt.mpr hm0)) (asC (decide_eq_false (Int.not_le.mpr hm1)) asN)))) h1 ?_
 exact vS1
def rb2_e5_st:St:=⟨[],[(1,171,pt rC0 [(18,[.int (.lit 0)]),(46,[.int (.lit 5)])])],[(.le (.lit 0) (.var 39),true),(.lt (.var 39) (.lit 6),true),(.lt (.var 39) (.lit 0),false),(.le (.lit 6) (.var 39),false)],10,0⟩
def rb2_e5_args:List SV:=[.c (.ptr 1 0),.agg ((ct [[.int (.lit 2)],vs 86 7,[.bool (.var 18)],vs 93 4,[.bool (.var 19)],vs 97 4]))]
theorem rb2_e5_any (R:Xa) (c:Xg) (g1:Nat) (w:World) (h1:Bk w g1 171 (({ R with step:=0,engine:=5 }:Xa).l).toArray) (hm0:0≤R.me) (hm1:R.me < 6):Calls Tryz.prog 71 #[.pointer (some ⟨g1,0,none⟩),.agg ({ c with kind:=2 }:Xg).l.toArray] w fun en w'=>en = .returned (.nilIface)∧Bk w' g1 171 ((Xa.begin1 { R with step:=0,engine:=5 } { c with kind:=2 }).l).toArray∧Chg [g1] w w':=by
 refine p1 (rcE R c) [] 60 rb2_e5_st rb2_e5_args (Xa.begin1 { R with step:=0,engine:=5 } { c with kind:=2 }) (fun r=>(.nilIface,(r.l).toArray)) Xd (asC (decide_eq_true hm0) (asC (decide_eq_true hm1) (asC (decide_eq_false (Int.not_lt.mpr hm0)) (asC (decide_eq_false (Int.not_le.mpr hm1)) asN)))) h1 ?_
 exact vS1
def rb7_2_1_st:St:=⟨[],[(1,171,pt rC0 [(18,[.int (.lit 0)])])],[(.le (.lit 0) (.var 39),true),(.lt (.var 39) (.lit 6),true),(.lt (.var 39) (.lit 0),false),(.le (.lit 6) (.var 39),false)],10,0⟩
def rb7_2_1_args:List SV:=[.c (.ptr 1 0),.agg ((ct [[.int (.lit 7)],vs 86 7,[.bool (.var 18)],vs 93 4,[.bool (.var 19),.int (.lit 2),.int (.lit 1),.int (.var 99),.int (.var 100)]]))]
theorem rb7_2_1_any (R:Xa) (c:Xg) (g1:Nat) (w:World) (h1:Bk w g1 171 (({ R with step:=0 }:Xa).l).toArray) (hm0:0≤R.me) (hm1:R.me < 6):Calls Tryz.prog 71 #[.pointer (some ⟨g1,0,none⟩),.agg ({ c with kind:=7,i:=2,j:=1 }:Xg).l.toArray] w fun en w'=>en = .returned (.nilIface)∧Bk w' g1 171 ((Xa.begin1 { R with step:=0 } { c with kind:=7,i:=2,j:=1 }).l).toArray∧Chg [g1] w w':=by
 refine p1 (rcE R c) [] 60 rb7_2_1_st rb7_2_1_args (Xa.begin1 { R with step:=0 } { c with kind:=7,i:=2,j:=1 }) (fun r=>(.nilIface,(r.l).toArray)) Xd (asC (decide_eq_true hm0) (asC (decide_eq_true hm1) (asC (decide_eq_false (Int.not_lt.mpr hm0)) (asC (decide_eq_false (Int.not_le.mpr hm1)) asN)))) h1 ?_
 exact vS1
def rb7_1_0_st:St:=⟨[],[(1,171,pt rC0 [(18,[.int (.lit 0)])])],[(.le (.lit 0) (.var 39),true),(.lt (.var 39) (.lit 6),true),(.lt (.var 39) (.lit 0),false),(.le (.lit 6) (.var 39),false)],10,0⟩
def rb7_1_0_args:List SV:=[.c (.ptr 1 0),.agg ((ct [[.int (.lit 7)],vs 86 7,[.bool (.var 18)],vs 93 4,[.bool (.var 19),.int (.lit 1),.int (.lit 0),.int (.var 99),.int (.var 100)]]))]
theorem rb7_1_0_any (R:Xa) (c:Xg) (g1:Nat) (w:World) (h1:Bk w g1 171 (({ R with step:=0 }:Xa).l).toArray) (hm0:0≤R.me) (hm1:R.me < 6):Calls Tryz.prog 71 #[.pointer (some ⟨g1,0,none⟩),.agg ({ c with kind:=7,i:=1,j:=0 }:Xg).l.toArray] w fun en w'=>en = .returned (.nilIface)∧Bk w' g1 171 ((Xa.begin1 { R with step:=0 } { c with kind:=7,i:=1,j:=0 }).l).toArray∧Chg [g1] w w':=by
 refine p1 (rcE R c) [] 60 rb7_1_0_st rb7_1_0_args (Xa.begin1 { R with step:=0 } { c with kind:=7,i:=1,j:=0 }) (fun r=>(.nilIface,(r.l).toArray)) Xd (asC (decide_eq_true hm0) (asC (decide_eq_true hm1) (asC (decide_eq_false (Int.not_lt.mpr hm0)) (asC (decide_eq_false (Int.not_le.mpr hm1)) asN)))) h1 ?_
 exact vS1
def rb7_5_4_st:St:=⟨[],[(1,171,pt rC0 [(18,[.int (.lit 0)])])],[(.le (.lit 0) (.var 39),true),(.lt (.var 39) (.lit 6),true),(.lt (.var 39) (.lit 0),false),(.le (.lit 6) (.var 39),false)],10,0⟩
def rb7_5_4_args:List SV:=[.c (.ptr 1 0),.agg ((ct [[.int (.lit 7)],vs 86 7,[.bool (.var 18)],vs 93 4,[.bool (.var 19),.int (.lit 5),.int (.lit 4),.int (.var 99),.int (.var 100)]]))]
theorem rb7_5_4_any (R:Xa) (c:Xg) (g1:Nat) (w:World) (h1:Bk w g1 171 (({ R with step:=0 }:Xa).l).toArray) (hm0:0≤R.me) (hm1:R.me < 6):Calls Tryz.prog 71 #[.pointer (some ⟨g1,0,none⟩),.agg ({ c with kind:=7,i:=5,j:=4 }:Xg).l.toArray] w fun en w'=>en = .returned (.nilIface)∧Bk w' g1 171 ((Xa.begin1 { R with step:=0 } { c with kind:=7,i:=5,j:=4 }).l).toArray∧Chg [g1] w w':=by
 refine p1 (rcE R c) [] 60 rb7_5_4_st rb7_5_4_args (Xa.begin1 { R with step:=0 } { c with kind:=7,i:=5,j:=4 }) (fun r=>(.nilIface,(r.l).toArray)) Xd (asC (decide_eq_true hm0) (asC (decide_eq_true hm1) (asC (decide_eq_false (Int.not_lt.mpr hm0)) (asC (decide_eq_false (Int.not_le.mpr hm1)) asN)))) h1 ?_
 exact vS1
def rb7_4_3_st:St:=⟨[],[(1,171,pt rC0 [(18,[.int (.lit 0)])])],[(.le (.lit 0) (.var 39),true),(.lt (.var 39) (.lit 6),true),(.lt (.var 39) (.lit 0),false),(.le (.lit 6) (.var 39),false)],10,0⟩
def rb7_4_3_args:List SV:=[.c (.ptr 1 0),.agg ((ct [[.int (.lit 7)],vs 86 7,[.bool (.var 18)],vs 93 4,[.bool (.var 19),.int (.lit 4),.int (.lit 3),.int (.var 99),.int (.var 100)]]))]
theorem rb7_4_3_any (R:Xa) (c:Xg) (g1:Nat) (w:World) (h1:Bk w g1 171 (({ R with step:=0 }:Xa).l).toArray) (hm0:0≤R.me) (hm1:R.me < 6):Calls Tryz.prog 71 #[.pointer (some ⟨g1,0,none⟩),.agg ({ c with kind:=7,i:=4,j:=3 }:Xg).l.toArray] w fun en w'=>en = .returned (.nilIface)∧Bk w' g1 171 ((Xa.begin1 { R with step:=0 } { c with kind:=7,i:=4,j:=3 }).l).toArray∧Chg [g1] w w':=by
 refine p1 (rcE R c) [] 60 rb7_4_3_st rb7_4_3_args (Xa.begin1 { R with step:=0 } { c with kind:=7,i:=4,j:=3 }) (fun r=>(.nilIface,(r.l).toArray)) Xd (asC (decide_eq_true hm0) (asC (decide_eq_true hm1) (asC (decide_eq_false (Int.not_lt.mpr hm0)) (asC (decide_eq_false (Int.not_le.mpr hm1)) asN)))) h1 ?_
 exact vS1
def rb7_8_7_st:St:=⟨[],[(1,171,pt rC0 [(18,[.int (.lit 0)])])],[(.le (.lit 0) (.var 39),true),(.lt (.var 39) (.lit 6),true),(.lt (.var 39) (.lit 0),false),(.le (.lit 6) (.var 39),false)],10,0⟩
def rb7_8_7_args:List SV:=[.c (.ptr 1 0),.agg ((ct [[.int (.lit 7)],vs 86 7,[.bool (.var 18)],vs 93 4,[.bool (.var 19),.int (.lit 8),.int (.lit 7),.int (.var 99),.int (.var 100)]]))]
theorem rb7_8_7_any (R:Xa) (c:Xg) (g1:Nat) (w:World) (h1:Bk w g1 171 (({ R with step:=0 }:Xa).l).toArray) (hm0:0≤R.me) (hm1:R.me < 6):Calls Tryz.prog 71 #[.pointer (some ⟨g1,0,none⟩),.agg ({ c with kind:=7,i:=8,j:=7 }:Xg).l.toArray] w fun en w'=>en = .returned (.nilIface)∧Bk w' g1 171 ((Xa.begin1 { R with step:=0 } { c with kind:=7,i:=8,j:=7 }).l).toArray∧Chg [g1] w w':=by
 refine p1 (rcE R c) [] 60 rb7_8_7_st rb7_8_7_args (Xa.begin1 { R with step:=0 } { c with kind:=7,i:=8,j:=7 }) (fun r=>(.nilIface,(r.l).toArray)) Xd (asC (decide_eq_true hm0) (asC (decide_eq_true hm1) (asC (decide_eq_false (Int.not_lt.mpr hm0)) (asC (decide_eq_false (Int.not_le.mpr hm1)) asN)))) h1 ?_
 exact vS1
def rb7_7_6_st:St:=⟨[],[(1,171,pt rC0 [(18,[.int (.lit 0)])])],[(.le (.lit 0) (.var 39),true),(.lt (.var 39) (.lit 6),true),(.lt (.var 39) (.lit 0),false),(.le (.lit 6) (.var 39),false)],10,0⟩
def rb7_7_6_args:List SV:=[.c (.ptr 1 0),.agg ((ct [[.int (.lit 7)],vs 86 7,[.bool (.var 18)],vs 93 4,[.bool (.var 19),.int (.lit 7),.int (.lit 6),.int (.var 99),.int (.var 100)]]))]
theorem rb7_7_6_any (R:Xa) (c:Xg) (g1:Nat) (w:World) (h1:Bk w g1 171 (({ R with step:=0 }:Xa).l).toArray) (hm0:0≤R.me) (hm1:R.me < 6):Calls Tryz.prog 71 #[.pointer (some ⟨g1,0,none⟩),.agg ({ c with kind:=7,i:=7,j:=6 }:Xg).l.toArray] w fun en w'=>en = .returned (.nilIface)∧Bk w' g1 171 ((Xa.begin1 { R with step:=0 } { c with kind:=7,i:=7,j:=6 }).l).toArray∧Chg [g1] w w':=by
 refine p1 (rcE R c) [] 60 rb7_7_6_st rb7_7_6_args (Xa.begin1 { R with step:=0 } { c with kind:=7,i:=7,j:=6 }) (fun r=>(.nilIface,(r.l).toArray)) Xd (asC (decide_eq_true hm0) (asC (decide_eq_true hm1) (asC (decide_eq_false (Int.not_lt.mpr hm0)) (asC (decide_eq_false (Int.not_le.mpr hm1)) asN)))) h1 ?_
 exact vS1
def rb7_2_5_st:St:=⟨[],[(1,171,pt rC0 [(18,[.int (.lit 0)])])],[(.le (.lit 0) (.var 39),true),(.lt (.var 39) (.lit 6),true),(.lt (.var 39) (.lit 0),false),(.le (.lit 6) (.var 39),false)],10,0⟩
def rb7_2_5_args:List SV:=[.c (.ptr 1 0),.agg ((ct [[.int (.lit 7)],vs 86 7,[.bool (.var 18)],vs 93 4,[.bool (.var 19),.int (.lit 2),.int (.lit 5),.int (.var 99),.int (.var 100)]]))]
theorem rb7_2_5_any (R:Xa) (c:Xg) (g1:Nat) (w:World) (h1:Bk w g1 171 (({ R with step:=0 }:Xa).l).toArray) (hm0:0≤R.me) (hm1:R.me < 6):Calls Tryz.prog 71 #[.pointer (some ⟨g1,0,none⟩),.agg ({ c with kind:=7,i:=2,j:=5 }:Xg).l.toArray] w fun en w'=>en = .returned (.nilIface)∧Bk w' g1 171 ((Xa.begin1 { R with step:=0 } { c with kind:=7,i:=2,j:=5 }).l).toArray∧Chg [g1] w w':=by
 refine p1 (rcE R c) [] 60 rb7_2_5_st rb7_2_5_args (Xa.begin1 { R with step:=0 } { c with kind:=7,i:=2,j:=5 }) (fun r=>(.nilIface,(r.l).toArray)) Xd (asC (decide_eq_true hm0) (asC (decide_eq_true hm1) (asC (decide_eq_false (Int.not_lt.mpr hm0)) (asC (decide_eq_false (Int.not_le.mpr hm1)) asN)))) h1 ?_
 exact vS1
def rb7_5_8_st:St:=⟨[],[(1,171,pt rC0 [(18,[.int (.lit 0)])])],[(.le (.lit 0) (.var 39),true),(.lt (.var 39) (.lit 6),true),(.lt (.var 39) (.lit 0),false),(.le (.lit 6) (.var 39),false)],10,0⟩
def rb7_5_8_args:List SV:=[.c (.ptr 1 0),.agg ((ct [[.int (.lit 7)],vs 86 7,[.bool (.var 18)],vs 93 4,[.bool (.var 19),.int (.lit 5),.int (.lit 8),.int (.var 99),.int (.var 100)]]))]
theorem rb7_5_8_any (R:Xa) (c:Xg) (g1:Nat) (w:World) (h1:Bk w g1 171 (({ R with step:=0 }:Xa).l).toArray) (hm0:0≤R.me) (hm1:R.me < 6):Calls Tryz.prog 71 #[.pointer (some ⟨g1,0,none⟩),.agg ({ c with kind:=7,i:=5,j:=8 }:Xg).l.toArray] w fun en w'=>en = .returned (.nilIface)∧Bk w' g1 171 ((Xa.begin1 { R with step:=0 } { c with kind:=7,i:=5,j:=8 }).l).toArray∧Chg [g1] w w':=by
 refine p1 (rcE R c) [] 60 rb7_5_8_st rb7_5_8_args (Xa.begin1 { R with step:=0 } { c with kind:=7,i:=5,j:=8 }) (fun r=>(.nilIface,(r.l).toArray)) Xd (asC (decide_eq_true hm0) (asC (decide_eq_true hm1) (asC (decide_eq_false (Int.not_lt.mpr hm0)) (asC (decide_eq_false (Int.not_le.mpr hm1)) asN)))) h1 ?_
 exact vS1
end Go.Proofs.YtaipogljokblkaaGreatDoor
