/-
  The world of the witness: the tables lie as the text of the program lays them.
-/
import Derived.Test.YtejdblkohdbhaaaGreatDoorCards
import Derived.Test.YtejdblkohdbhaaaGreatDoorTie
import Derived.WalkKit
import Derived.ProofKit
import Derived.OpenShut
import Derived.Deep.DeepHandedRow
import Derived.Deep.DeepWitnessRowRef
import Derived.Lib.LaidTab
set_option linter.unusedVariables false
namespace Go.Proofs.YtejdblkohdbhaaaGreatDoor
open Go Go.ChangeShapes Go.WideShapes Go.ChangeAt Go.RowKit

theorem own : ownKnob Tryz.prog.godebug = Option.none := by kernel_rfl
theorem laidOut : laidOutB Tryz.prog = true := by kernel_rfl

mutual
/-- The cells that a table of numbers takes. -/
def cellsD : DataW Unit → List Value
  | .lit (.int k n) => [.int k n]
  | .agg l => cellsDL l
  | _ => []
def cellsDL : List (DataW Unit) → List Value
  | [] => []
  | d :: r => cellsD d ++ cellsDL r
end
/-- A world in which the tables lie as the program's text lays them: two blocks more (the two errors' structs). -/
noncomputable def laidWorld (os : Os) : World :=
  let N := (World.settled Tryz.prog os).heap.size
  let w0 := World.holding Tryz.prog os ⟨#[
    .cells #[.string ⟨#[105, 110, 118, 97, 108, 105, 100, 32, 115, 121, 110, 116, 97, 120]⟩] 447, .cells #[.string ⟨#[118, 97, 108, 117, 101, 32, 111, 117, 116, 32, 111, 102, 32, 114, 97, 110, 103, 101]⟩] 447], #[], []⟩
  let put (h : Array Obj) (g : Nat) (cs : Array Value) : Array Obj := h.modify g fun
    | .cells _ t frozen => .cells cs t frozen
    | o => o
  let h1 := put w0.heap 1 (cellsD Rows.laid_internal_strconv_uint64pow10).toArray
  let h2 := put h1 2 #[.iface 445 (.pointer (some ⟨N, 0, Option.none⟩))]
  let h3 := put h2 3 #[.iface 445 (.pointer (some ⟨N + 1, 0, Option.none⟩))]
  let h4 := put h3 4 (cellsD Rows.laid_math_bits_deBruijn32tab).toArray
  let h5 := put h4 5 (cellsD Rows.laid_math_bits_deBruijn64tab).toArray
  let h6 := put h5 6 (cellsD Rows.laid_unicode_utf8_first).toArray
  let h7 := put h6 7 (cellsD Rows.laid_unicode_utf8_acceptRanges).toArray
  { w0 with heap := h7 }
set_option maxRecDepth 1000000 in
theorem laid_met (os : Os) (args : Array Value) : laidMet Tryz.prog Rows.chooseCaseUptoRow.laid ((laidWorld os).forCall (fun _ _ => 0) ⟨#[], args, []⟩).memory :=
  laidMet_of_run' 8 (by kernel_rfl) (by kernel_rfl)
end Go.Proofs.YtejdblkohdbhaaaGreatDoor
