/- The example of the chapter, by numbers: what the functions answer at it. -/
import Derived.Test.YtibgcekekmphoaaP34B
import Derived.Test.YtibgcekekmphoaaP34X
import Derived.Test.YtibgcekekmphoaaGdist
namespace Go.Proofs.Ytibgcekekmphoaa.P34
open Go.RowKit Go.Proofs.YtibgcekekmphoaaW.PrintWords Go.Proofs.YtibgcekekmphoaaW.PrintLast Go.Proofs.YtibgcekekmphoaaW.PrintMore
set_option linter.unusedVariables false
set_option linter.unusedSimpArgs false
def exPow (a : Int) : List (List Int) := [[0, 40, 3, 1], [40, 0, 40, 3], [3, a, 0, 40], [1, 3, 40, 0]]
def exLinks : List S44 := [⟨0, 1, 0⟩, ⟨1, 0, 0⟩, ⟨2, 3, 0⟩, ⟨3, 2, 0⟩]
def exMg : List Int := [30, 30, 30, 30]
def exCells : List S36 := [⟨0, 0, 0, 1, 0⟩, ⟨0, 0, 2, 3, 0⟩]
theorem ex_f (a : Int) : hopmeshlaw34_example.f 10 a = some (4, exPow a, 1, 3000, exLinks, exMg) := by kernel_rfl
theorem ex_first : conflict_First.f 200 4 (exPow 40) 1 3000 exLinks exMg exCells = some (0, true) := by decide +kernel
theorem ex_dist40 : conflict_Disturbance.f 200 4 (exPow 40) 1 3000 exLinks exMg exCells 0 1 = some 43 := by decide +kernel
theorem ex_dist2 : conflict_Disturbance.f 200 4 (exPow 2) 1 3000 exLinks exMg exCells 0 1 = some 5 := by decide +kernel
theorem ex_good2 : conflict_Good.f 200 4 (exPow 2) 1 3000 exLinks exMg exCells = some false := by decide +kernel
theorem ex_good1 : conflict_Good.f 200 4 (exPow 2) 1 3000 exLinks exMg (exCells.take 1) = some true := by decide +kernel
end Go.Proofs.Ytibgcekekmphoaa.P34
