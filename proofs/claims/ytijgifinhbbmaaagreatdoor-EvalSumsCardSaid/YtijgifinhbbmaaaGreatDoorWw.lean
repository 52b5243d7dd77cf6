/- A world for the witnesses of the rows: the settled one, the seven listed variables laid. -/
import Derived.Test.YtijgifinhbbmaaaGreatDoorCards
import Derived.Test.YtijgifinhbbmaaaGreatDoorProg
import Derived.WalkKit
import Derived.ProofKit
import Derived.Deep.DeepWitnessRowRef
import Derived.Deep.DeepLaidRun
import Derived.Deep.DeepHandedRow
set_option linter.unusedVariables false
namespace Go.Proofs.YtijgifinhbbmaaaGreatDoor
open Go.ChangeShapes Go.WideShapes Go.ChangeAt Go.RowKit
mutual
def flatD : DataW Unit → List Value
  | .lit (.int k n) => [.int k n]
  | .agg l => flatDs l
  | _ => []
def flatDs : List (DataW Unit) → List Value
  | [] => []
  | d :: r => flatD d ++ flatDs r
end
def strBlock (s : ByteArray) : Obj := .cells #[.string s] 349 (0, 0)
def sRange : ByteArray := ⟨#[118, 97, 108, 117, 101, 32, 111, 117, 116, 32, 111, 102, 32, 114, 97, 110, 103, 101]⟩
def sSyntax : ByteArray := ⟨#[105, 110, 118, 97, 108, 105, 100, 32, 115, 121, 110, 116, 97, 120]⟩
def layCells (cs : List Value) : Obj → Obj
  | .cells _ t fr => .cells cs.toArray t fr
  | o => o
noncomputable def laidWorld (os : Os) : World :=
  let w := World.holding Tryz.prog os ⟨#[strBlock sSyntax, strBlock sRange], #[], []⟩
  let n := (World.settled Tryz.prog os).heap.size
  { w with heap := (((((((w.heap.modify 1 (layCells [.iface 347 (.pointer (some ⟨n, 0, none⟩))])).modify 2 (layCells [.iface 347 (.pointer (some ⟨n + 1, 0, none⟩))])).modify 3
    (layCells (flatD Rows.laid_unicode_utf8_first))).modify 4 (layCells (flatD Rows.laid_unicode_utf8_acceptRanges))).modify 6 (layCells (flatD Rows.laid_internal_strconv_uint64pow10))).modify 7 (layCells (flatD Rows.laid_math_bits_deBruijn32tab))).modify 8 (layCells (flatD Rows.laid_math_bits_deBruijn64tab))) }
set_option maxRecDepth 100000 in
theorem laid_met (os : Os) (args : Array Value) : laidMet Tryz.prog Rows.evalPureRow.laid ((laidWorld os).forCall (fun _ _ => 0) ⟨#[], args, []⟩).memory :=
  laidMet_of_run3 8 (by kernel_rfl) (by kernel_rfl) (by kernel_rfl)
end Go.Proofs.YtijgifinhbbmaaaGreatDoor
