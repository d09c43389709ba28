/- Core: Rta. -/
import Derived.Test.YtaipogljokblkaaGreatDoorE13
set_option linter.all false
set_option maxRecDepth 100000
set_option maxHeartbeats 8000000
namespace Go.Proofs.YtaipogljokblkaaGreatDoor
open Go Go.RowKit
set_option linter.unusedSimpArgs false
set_option linter.unusedVariables false
set_option linter.unusedSectionVars false
section
variable(R:Xb)(x:Xj)
theorem rt1:SM x {R with step:=1} (Xb.finish {R with step:=1} x):=rB R [(18,1)]
theorem rt2:SM x {R with step:=2} (Xb.done {R with step:=2}):=rB R [(18,2)]
theorem rt3:SM x {R with step:=3} (Xb.Cy {R with step:=3} 2 ⟨true,x.word.nm,x.word.nm⟩):=rB R [(18,3)]
theorem rt7:SM x {R with step:=7} (Xb.load {R with step:=7} 5 R.call.Ay):=rB R [(18,7)]
theorem rt8:SM x {R with step:=8} (Xb.ask {R with step:=8} 1 ⟨4,.zero,.zero,Yy x.word.nm⟩):=rB R [(18,8)]
theorem rt5(e:Int)(h:e=1\/e=3\/e=4\/e=5):SM x {R with step:=5,Aa:=e} (Xb.Ev {R with step:=5,Aa:=e} x):=by
 refine rB R [(18,5),(46,e)] ?_;rcases h with rfl|rfl|rfl|rfl<;>exact mP
theorem rt6:SM x {R with step:=6,Aa:=5} (Xb.Cb {R with step:=6,Aa:=5} x):=by
 refine rB R [(18,6),(46,5)] ?_;refine Dr (show _=(bif R.span.is then(bif R.span.Hh==x.word.nm then Xb.finish {R with step:=6,Aa:=5} ⟨R.word,true⟩ else Xb.Cy {R with step:=6,Aa:=5} 7 ⟨true,R.span.low,x.word.nm⟩) else Xb.Cy {R with step:=6,Aa:=5} 7 ⟨true,x.word.nm,x.word.nm⟩) by unfold Xb.Cb Xb.FP;cases R.span.is<;>cases R.span.Hh==x.word.nm<;>rfl) mP
theorem rt52(i:Int)(h0:0<=i)(h1:i<9):SM x {R with step:=5,Aa:=2,call:={R.call with i:=i}} (Xb.Ev {R with step:=5,Aa:=2,call:={R.call with i:=i}} x):=by
 refine rB R [(18,5),(46,2),(14,i)] ?_;rcases zO h0 h1 with rfl|rfl|rfl|rfl|rfl|rfl|rfl|rfl|rfl<;>exact mP
theorem rt63(i:Int)(h0:0<=i)(h1:i<9):SM x {R with step:=6,Aa:=3,call:={R.call with i:=i}} (Xb.Cb {R with step:=6,Aa:=3,call:={R.call with i:=i}} x):=by
 refine rB R [(18,6),(46,3),(14,i)] ?_;rcases zO h0 h1 with rfl|rfl|rfl|rfl|rfl|rfl|rfl|rfl|rfl<;>exact mP
theorem rt4(e i:Int)(h:e=2\/e=3)(h0:0<=i)(h1:i<9):SM x {R with step:=4,Aa:=e,index:=i} (Xb.Fz {R with step:=4,Aa:=e,index:=i} (([0,1,2,3,4,5,6,7,8]:List Int).filter λn=>decide (i<n))):=by
 refine rB R [(18,4),(46,e),(43,i)] ?_;rcases h with rfl|rfl<;>rcases zO h0 h1 with rfl|rfl|rfl|rfl|rfl|rfl|rfl|rfl|rfl<;>exact mP
theorem rt9:SM x {R with step:=9} (Xb.load {({R with step:=9}:Xb) with word:=x.word} 10 (root 24)):=pTl R [(18,9)]
theorem rt11:SM x {R with step:=11} (Xb.noted {R with step:=11}):=pTl R [(18,11)]
theorem rt12:SM x {R with step:=12} (Xb.look {({R with step:=12}:Xb) with clock:=x.word} 0).1:=pTl R [(18,12)]
theorem rt14:SM x {R with step:=14} (Xb.load {R with step:=14} 15 (root 24)):=pTl R [(18,14)]
end
end Go.Proofs.YtaipogljokblkaaGreatDoor
