/- The closed facts of the program. -/
import Derived.Test.YtijgifinhbbmaaaGreatDoorCards
import Derived.Test.YtijgifinhbbmaaaGreatDoorProg
import Derived.JoinedCond
import Derived.ProofKit
set_option linter.unusedVariables false
set_option maxRecDepth 100000
namespace Go.Proofs.YtijgifinhbbmaaaGreatDoor
open Go.ChangeShapes Go.WideShapes Go.ChangeAt Go.RowKit
theorem band {a b : Bool} (h1 : a = true) (h2 : b = true) : (a && b) = true := by rw [h1, h2]; rfl
theorem joined1 : (laidOutB Tryz.prog) = true := by kernel_rfl
theorem joined2 : (mapsRowed Tryz.prog) = true := by kernel_rfl
theorem joined6 : ((Tryz.prog.stops == [])) = true := by kernel_rfl
theorem joined8 : ((Tryz.prog.stopKnobs == [])) = true := by kernel_rfl
theorem joined24 : (Tryz.prog.stopsHeard) = true := by kernel_rfl
theorem joined25 : (Tryz.prog.mayEnter) = true := by kernel_rfl
end Go.Proofs.YtijgifinhbbmaaaGreatDoor
