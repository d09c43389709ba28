/- Core: Rba. -/
import Derived.Test.YtaipogljokblkaaGreatDoorP17
set_option linter.all false
set_option maxRecDepth 100000
set_option maxHeartbeats 8000000
namespace Go.Proofs.YtaipogljokblkaaGreatDoor
open Go Go.RowKit
section
variable(R:Xd)(c:Xi)
abbrev rk(k:Int):Prop:=X' {c with kind:=k} {R with step:=0} (Xd.Aw {R with step:=0} {c with kind:=k})
def rb1:rk R c 1:=rP R c [(18,0)] [(0,1)] [] CF
def rb3:rk R c 3:=rP R c [(18,0)] [(0,3)] [] CF
def rb4:rk R c 4:=rP R c [(18,0)] [(0,4)] [] CF
def rb5:rk R c 5:=rP R c [(18,0)] [(0,5)] [] CF
def rb8:rk R c 8:=rP R c [(18,0)] [(0,8)] [] CF
def rb9:rk R c 9:=rP R c [(18,0)] [(0,9)] [] CF
def rb6(a:0<=c.i)(b:c.i<9):rk R {c with j:=0} 6:=rP R c [(18,0)] [(0,6),(15,0)] [(.lt (.var 97) (.lit 0),false),(.le (.lit 9) (.var 97),false)] (Cp (gz (ju.mpr a)) (Cp (gz (Int.not_le.mpr b)) CF))
def rb2(e:Int)(h:e=2\/e=4):rk {R with Aa:=e} c 2:=by
 refine rP R c [(18,0),(46,e)] [(0,2)] [] CF ?_;rcases h with rfl|rfl<;>exact wl
def rb7(i j:Int)(h:(i=2/\j=1)\/(i=1/\j=0)\/(i=5/\j=4)\/(i=4/\j=3)\/(i=8/\j=7)\/(i=7/\j=6)\/(i=2/\j=5)\/(i=5/\j=8)):rk R {c with i:=i,j:=j} 7:=by
 refine rP R c [(18,0)] [(0,7),(14,i),(15,j)] [] CF ?_;rcases h with⟨rfl,rfl⟩|⟨rfl,rfl⟩|⟨rfl,rfl⟩|⟨rfl,rfl⟩|⟨rfl,rfl⟩|⟨rfl,rfl⟩|⟨rfl,rfl⟩|⟨rfl,rfl⟩<;>exact wl
def rb10:X' {c with kind:=10} {R with step:=0,Aa:=4} (Xd.Ki (Xd.A8 {R with step:=0,Aa:=4} {c with kind:=10})):=rP R c [(18,0),(46,4)] [(0,10)] [] CF
def rb11:X' {c with kind:=11} {R with step:=0} (Xd.scan (Xd.A8 {R with step:=0} {c with kind:=11})):=rP R c [(18,0)] [(0,11)] [] CF
end
