/-
  Closed facts of the row of ChooseKey.
-/
import Derived.Test.YtejdblkohdbhaaaGreatDoorWp
set_option linter.unusedVariables false
namespace Go.Proofs.YtejdblkohdbhaaaGreatDoor
open Go Go.ChangeShapes Go.WideShapes Go.ChangeAt Go.RowKit
namespace chooseKey
theorem c0 : (Rows.chooseKeyUptoRow.wf (OpenSpec.ofChange (Rows.OpenSpec.upto Rows.chooseKeySpec).bare)) = true := by kernel_rfl
theorem c1 : (laidOutB Tryz.prog) = true := prog.p1
theorem c2 : (mapsRowed Tryz.prog) = true := prog.p2
theorem c3 : (Tryz.f7.params.all (Tryz.prog.readableRec ·)) = true := by kernel_rfl
theorem c4 : (namedTie Tryz.prog Rows.chooseKeyUptoRow.named (Rows.OpenSpec.upto Rows.chooseKeySpec).bare.vars) = true := by kernel_rfl
theorem c5 : ((Rows.chooseKeyUptoRow.stops == [])) = true := by kernel_rfl
theorem c6 : ((Tryz.prog.stops == [])) = true := prog.p6
theorem c7 : ((Rows.chooseKeyUptoRow.knobs == [])) = true := by kernel_rfl
theorem c8 : ((Tryz.prog.stopKnobs == [])) = true := prog.p8
theorem c9 : ((Rows.chooseKeyUptoRow.inPlace == Tryz.prog.inPlace 7)) = true := by kernel_rfl
theorem c10 : ((Rows.chooseKeyUptoRow.unfollowed == Tryz.prog.unfollowed 7)) = true := by kernel_rfl
theorem c11 : ((Rows.chooseKeyUptoRow.recurses == Tryz.prog.recurses 7)) = true := by kernel_rfl
theorem c12 : ((Rows.chooseKeyUptoRow.named == Tryz.prog.varsNamed 7)) = true := by kernel_rfl
theorem c13 : ((Rows.chooseKeyUptoRow.maps == (Tryz.f7.params.toList ++ (Rows.OpenSpec.upto Rows.chooseKeySpec).bare.plain.varTypes Tryz.prog).any (Tryz.prog.mapsRec ·))) = true := by kernel_rfl
theorem c14 : ((Rows.chooseKeyUptoRow.ifaces == (Tryz.f7.params.toList ++ (Rows.OpenSpec.upto Rows.chooseKeySpec).bare.plain.varTypes Tryz.prog).any (Tryz.prog.ifacesRec ·))) = true := by kernel_rfl
theorem c15 : ((Rows.chooseKeyUptoRow.mapsOut == Tryz.prog.mapsAmong Tryz.f7.resultTypes.toList)) = true := by kernel_rfl
theorem c16 : ((Rows.chooseKeyUptoRow.loops == (Tryz.f7.params.toList ++ (Rows.OpenSpec.upto Rows.chooseKeySpec).bare.plain.varTypes Tryz.prog).any (Tryz.prog.loopsFrom ·))) = true := by kernel_rfl
theorem c17 : ((Rows.chooseKeyUptoRow.wideKeys == ((Tryz.f7.params.toList ++ (Rows.OpenSpec.upto Rows.chooseKeySpec).bare.plain.varTypes Tryz.prog) ++ Tryz.f7.resultTypes.toList).any (Tryz.prog.wideKeysFrom ·))) = true := by kernel_rfl
theorem c18 : ((Rows.OpenSpec.upto Rows.chooseKeySpec).bare.vars.all (Tryz.prog.varReadable ·)) = true := by kernel_rfl
theorem c19 : (Tryz.f7.resultTypes.all (fun t => Tryz.prog.readableRec t && decide (t < Tryz.prog.types.size))) = true := by kernel_rfl
theorem c20 : ((Rows.chooseKeyUptoRow.ifacesOut == Tryz.f7.resultTypes.toList.any (Tryz.prog.ifacesRec ·))) = true := by kernel_rfl
theorem c21 : ((Rows.chooseKeyUptoRow.loopsOut == Tryz.f7.resultTypes.toList.any (Tryz.prog.loopsFrom ·))) = true := by kernel_rfl
theorem c22 : ((Rows.chooseKeyUptoRow.plainKeys == Tryz.prog.plainKeys)) = true := prog.p22
theorem c23 : (Rows.chooseKeyUptoRow.shortTexts.isNone) = true := by kernel_rfl
theorem c24 : (Tryz.prog.stopsHeard) = true := prog.p24
theorem c25 : (Tryz.prog.mayEnter) = true := prog.p25
theorem c26 : ((Rows.chooseKeyUptoRow.lifted == Tryz.prog.liftsFinal)) = true := prog.p26
theorem c27 : ((Tryz.prog.make == some Rows.chooseKeyUptoRow.make)) = true := prog.p27
theorem c28 : ((Rows.chooseKeyUptoRow.kinds == (if Rows.chooseKeyUptoRow.domain.isEmpty then [] else Tryz.f7.params.toList.map fun t => match Tryz.prog.underlying t with | some (.int k) => some k | _ => Option.none))) = true := by kernel_rfl
theorem c29 : ((Rows.chooseKeyUptoRow.pinned == Rows.chooseKeyUptoRow.pinnedBy)) = true := by kernel_rfl
theorem c30 : ((Rows.chooseKeyUptoRow.veiled == ((Tryz.f7.params.toList ++ (Rows.OpenSpec.upto Rows.chooseKeySpec).bare.plain.varTypes Tryz.prog) ++ Tryz.f7.resultTypes.toList).any (Tryz.prog.veiledRec ·))) = true := by kernel_rfl
theorem c31 : (Rows.chooseKeyUptoRow.veiledFits Tryz.prog Tryz.f7.params.toList ((Tryz.f7.params.toList ++ (Rows.OpenSpec.upto Rows.chooseKeySpec).bare.plain.varTypes Tryz.prog) ++ Tryz.f7.resultTypes.toList)) = true := by kernel_rfl
set_option maxRecDepth 100000 in
theorem closed : joinedFacts Tryz.pinned.checked.prog 7 Tryz.f7 (Rows.OpenSpec.upto Rows.chooseKeySpec).bare Rows.chooseKeyUptoRow = true :=
  show joinedFacts Tryz.prog 7 Tryz.f7 (Rows.OpenSpec.upto Rows.chooseKeySpec).bare Rows.chooseKeyUptoRow = true from (prog.aa (prog.aa (prog.aa (prog.aa (prog.aa (prog.aa (prog.aa (prog.aa (prog.aa (prog.aa (prog.aa (prog.aa (prog.aa (prog.aa (prog.aa (prog.aa (prog.aa (prog.aa (prog.aa (prog.aa (prog.aa (prog.aa (prog.aa (prog.aa (prog.aa (prog.aa (prog.aa (prog.aa (prog.aa (prog.aa (prog.aa c0 c1) c2) c3) c4) c5) c6) c7) c8) c9) c10) c11) c12) c13) c14) c15) c16) c17) c18) c19) c20) c21) c22) c23) c24) c25) c26) c27) c28) c29) c30) c31)
theorem hfn : Tryz.pinned.checked.prog.funcNamed Rows.chooseKeyUptoRow.func = some 7 := by kernel_rfl
theorem hinst : Tryz.f7.isInstance Tryz.pinned.checked.prog Rows.chooseKeyUptoRow.origin Rows.chooseKeyUptoRow.targs := of_decide_eq_true (by kernel_rfl)
theorem hwrap : Tryz.f7.isWrapper Tryz.pinned.checked.prog Rows.chooseKeyUptoRow.wrapper Rows.chooseKeyUptoRow.mainSum := by unfold Func.isWrapper; first | (rw [if_pos (by decide +kernel)]; kernel_rfl) | (rw [if_neg (by decide +kernel)]; exact ⟨rfl, rfl⟩)
theorem noInit : Tryz.checked.prog.inits.idxOf? 7 = Option.none := by kernel_rfl
theorem wfT : Rows.chooseKeyUptoRow.wfByText (Rows.OpenSpec.upto Rows.chooseKeySpec) = true := by kernel_rfl
theorem goes : false = Rows.chooseKeyUptoRow.goesBy Tryz.pinned.checked.prog := by kernel_rfl
end chooseKey
end Go.Proofs.YtejdblkohdbhaaaGreatDoor
