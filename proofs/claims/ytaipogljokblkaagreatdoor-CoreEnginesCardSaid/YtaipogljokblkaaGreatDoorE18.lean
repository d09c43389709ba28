/- Core: Rba. -/
import Derived.Test.YtaipogljokblkaaGreatDoorE13
set_option linter.all false
set_option maxRecDepth 100000
set_option maxHeartbeats 8000000
namespace Go.Proofs.YtaipogljokblkaaGreatDoor
open Go Go.RowKit
set_option linter.unusedSimpArgs false
set_option linter.unusedVariables false
set_option linter.unusedSectionVars false
section
variable(R:Xb)(c:Xf)
abbrev vY(k:Int):Prop:=bgW {c with kind:=k} {R with step:=0} (Xb.Aq {R with step:=0} {c with kind:=k})
theorem rb1:vY R c 1:=mQ R c [(18,0)] [(0,1)] [] BY
theorem rb3:vY R c 3:=mQ R c [(18,0)] [(0,3)] [] BY
theorem rb4:vY R c 4:=mQ R c [(18,0)] [(0,4)] [] BY
theorem rb5:vY R c 5:=mQ R c [(18,0)] [(0,5)] [] BY
theorem rb8:vY R c 8:=mQ R c [(18,0)] [(0,8)] [] BY
theorem rb9:vY R c 9:=mQ R c [(18,0)] [(0,9)] [] BY
theorem rb6(h0:0<=c.i)(h1:c.i<9):vY R {c with j:=0} 6:=mQ R c [(18,0)] [(0,6),(15,0)] [(.lt (.var 97) (.lit 0),false),(.le (.lit 9) (.var 97),false)] (BO (decide_eq_false (Int.not_lt.mpr h0)) (BO (decide_eq_false (Int.not_le.mpr h1)) BY))
theorem rb2(e:Int)(h:e=1\/e=2\/e=3\/e=4\/e=5):vY {R with Aa:=e} c 2:=by
 refine mQ R c [(18,0),(46,e)] [(0,2)] [] BY ?_;rcases h with rfl|rfl|rfl|rfl|rfl<;>exact mP
theorem rb7(i j:Int)(h:(i=2/\j=1)\/(i=1/\j=0)\/(i=5/\j=4)\/(i=4/\j=3)\/(i=8/\j=7)\/(i=7/\j=6)\/(i=2/\j=5)\/(i=5/\j=8)):vY R {c with i:=i,j:=j} 7:=by
 refine mQ R c [(18,0)] [(0,7),(14,i),(15,j)] [] BY ?_;rcases h with⟨rfl,rfl⟩|⟨rfl,rfl⟩|⟨rfl,rfl⟩|⟨rfl,rfl⟩|⟨rfl,rfl⟩|⟨rfl,rfl⟩|⟨rfl,rfl⟩|⟨rfl,rfl⟩<;>exact mP
theorem rb10(e:Int)(h:e=1\/e=3\/e=4\/e=5):bgW {c with kind:=10} {R with step:=0,Aa:=e} (Xb.GM (Xb.Aw {R with step:=0,Aa:=e} {c with kind:=10})):=by
 refine mQ R c [(18,0),(46,e)] [(0,10)] [] BY ?_;rcases h with rfl|rfl|rfl|rfl<;>exact mP
theorem rb11:bgW {c with kind:=11} {R with step:=0} (Xb.scan (Xb.Aw {R with step:=0} {c with kind:=11})):=mQ R c [(18,0)] [(0,11)] [] BY
end
end Go.Proofs.YtaipogljokblkaaGreatDoor
