/- Core: Rta. -/
import Derived.Test.YtaipogljokblkaaGreatDoorP17
set_option linter.all false
set_option maxRecDepth 100000
set_option maxHeartbeats 8000000
namespace Go.Proofs.YtaipogljokblkaaGreatDoor
open Go Go.RowKit
section
variable(R:Xd)(x:Xr)
def rt1:YI x {R with step:=1} (Xd.finish {R with step:=1} x):=tq R [(18,1)]
def rt2:YI x {R with step:=2} (Xd.done {R with step:=2}):=tq R [(18,2)]
def rt3:YI x {R with step:=3} (Xd.DV {R with step:=3} 2 ⟨true,x.word.nm,x.word.nm⟩):=tq R [(18,3)]
def rt7:YI x {R with step:=7} (Xd.load {R with step:=7} 5 R.call.AJ):=tq R [(18,7)]
def rt8:YI x {R with step:=8} (Xd.ask {R with step:=8} 1 ⟨4,.zero,.zero,Y6 x.word.nm⟩):=tq R [(18,8)]
def rt5:YI x {R with step:=5,Aa:=4} (Xd.FV {R with step:=5,Aa:=4} x):=tq R [(18,5),(46,4)]
def rt52(i:Int)(a:0<=i)(b:i<9):YI x {R with step:=5,Aa:=2,call:={R.call with i:=i}} (Xd.FV {R with step:=5,Aa:=2,call:={R.call with i:=i}} x):=by
 refine tq R [(18,5),(46,2),(14,i)] ?_;rcases D' a b with rfl|rfl|rfl|rfl|rfl|rfl|rfl|rfl|rfl<;>exact wl
def rt4(i:Int)(a:0<=i)(b:i<9):YI x {R with step:=4,Aa:=2,index:=i} (Xd.Cw {R with step:=4,Aa:=2,index:=i} (([0,1,2,3,4,5,6,7,8]:List Int).filter λn=>decide (i<n))):=by
 refine tq R [(18,4),(46,2),(43,i)] ?_;rcases D' a b with rfl|rfl|rfl|rfl|rfl|rfl|rfl|rfl|rfl<;>exact wl
def rt9:YI x {R with step:=9} (Xd.load {({R with step:=9}:Xd) with word:=x.word} 10 (root 24)):=pTl R [(18,9)]
def rt11:YI x {R with step:=11} (Xd.noted {R with step:=11}):=pTl R [(18,11)]
def rt12:YI x {R with step:=12} (Xd.look {({R with step:=12}:Xd) with clock:=x.word} 0).1:=pTl R [(18,12)]
def rt14:YI x {R with step:=14} (Xd.load {R with step:=14} 15 (root 24)):=pTl R [(18,14)]
end
