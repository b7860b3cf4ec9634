/-
  Closed facts of the program.
-/
import Derived.Test.YtejdblkohdbhaaaGreatDoorWa
set_option linter.unusedVariables false
namespace Go.Proofs.YtejdblkohdbhaaaGreatDoor
open Go Go.ChangeShapes Go.WideShapes Go.ChangeAt Go.RowKit
namespace prog
theorem p1 : (laidOutB Tryz.prog) = true := by kernel_rfl
theorem p2 : (mapsRowed Tryz.prog) = true := by kernel_rfl
theorem p6 : ((Tryz.prog.stops == [])) = true := by kernel_rfl
theorem p8 : ((Tryz.prog.stopKnobs == [])) = true := by kernel_rfl
theorem p22 : ((Rows.chooseCaseUptoRow.plainKeys == Tryz.prog.plainKeys)) = true := by kernel_rfl
theorem p24 : (Tryz.prog.stopsHeard) = true := by kernel_rfl
theorem p25 : (Tryz.prog.mayEnter) = true := by kernel_rfl
theorem p26 : ((Rows.chooseCaseUptoRow.lifted == Tryz.prog.liftsFinal)) = true := by kernel_rfl
theorem p27 : ((Tryz.prog.make == some Rows.chooseCaseUptoRow.make)) = true := by kernel_rfl
theorem aa {a b : Bool} (h : a = true) (k : b = true) : (a && b) = true := by rw [h, k]; rfl
theorem mainIs : Tryz.pinned.checked.prog.mainIs = some (true, "c642ca21844fff264c3d82b052719e5a231fc9259ffcc4451e619313e69de75e".toList) := by kernel_rfl
theorem looks : true = Tryz.pinned.checked.prog.looks [] := by kernel_rfl
end prog
end Go.Proofs.YtejdblkohdbhaaaGreatDoor
