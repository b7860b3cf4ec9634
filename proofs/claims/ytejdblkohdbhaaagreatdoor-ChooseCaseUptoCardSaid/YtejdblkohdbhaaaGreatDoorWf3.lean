/-
  Closed facts of the row of ChooseCase.
-/
import Derived.Test.YtejdblkohdbhaaaGreatDoorWp
set_option linter.unusedVariables false
namespace Go.Proofs.YtejdblkohdbhaaaGreatDoor
open Go Go.ChangeShapes Go.WideShapes Go.ChangeAt Go.RowKit
namespace chooseCase
theorem c0 : (Rows.chooseCaseUptoRow.wf (OpenSpec.ofChange (Rows.OpenSpec.upto Rows.chooseCaseSpec).bare)) = true := by kernel_rfl
theorem c1 : (laidOutB Tryz.prog) = true := prog.p1
theorem c2 : (mapsRowed Tryz.prog) = true := prog.p2
theorem c3 : (Tryz.f3.params.all (Tryz.prog.readableRec ·)) = true := by kernel_rfl
theorem c4 : (namedTie Tryz.prog Rows.chooseCaseUptoRow.named (Rows.OpenSpec.upto Rows.chooseCaseSpec).bare.vars) = true := by kernel_rfl
theorem c5 : ((Rows.chooseCaseUptoRow.stops == [])) = true := by kernel_rfl
theorem c6 : ((Tryz.prog.stops == [])) = true := prog.p6
theorem c7 : ((Rows.chooseCaseUptoRow.knobs == [])) = true := by kernel_rfl
theorem c8 : ((Tryz.prog.stopKnobs == [])) = true := prog.p8
theorem c9 : ((Rows.chooseCaseUptoRow.inPlace == Tryz.prog.inPlace 3)) = true := by kernel_rfl
theorem c10 : ((Rows.chooseCaseUptoRow.unfollowed == Tryz.prog.unfollowed 3)) = true := by kernel_rfl
theorem c11 : ((Rows.chooseCaseUptoRow.recurses == Tryz.prog.recurses 3)) = true := by kernel_rfl
theorem c12 : ((Rows.chooseCaseUptoRow.named == Tryz.prog.varsNamed 3)) = true := by kernel_rfl
theorem c13 : ((Rows.chooseCaseUptoRow.maps == (Tryz.f3.params.toList ++ (Rows.OpenSpec.upto Rows.chooseCaseSpec).bare.plain.varTypes Tryz.prog).any (Tryz.prog.mapsRec ·))) = true := by kernel_rfl
theorem c14 : ((Rows.chooseCaseUptoRow.ifaces == (Tryz.f3.params.toList ++ (Rows.OpenSpec.upto Rows.chooseCaseSpec).bare.plain.varTypes Tryz.prog).any (Tryz.prog.ifacesRec ·))) = true := by kernel_rfl
theorem c15 : ((Rows.chooseCaseUptoRow.mapsOut == Tryz.prog.mapsAmong Tryz.f3.resultTypes.toList)) = true := by kernel_rfl
theorem c16 : ((Rows.chooseCaseUptoRow.loops == (Tryz.f3.params.toList ++ (Rows.OpenSpec.upto Rows.chooseCaseSpec).bare.plain.varTypes Tryz.prog).any (Tryz.prog.loopsFrom ·))) = true := by kernel_rfl
theorem c17 : ((Rows.chooseCaseUptoRow.wideKeys == ((Tryz.f3.params.toList ++ (Rows.OpenSpec.upto Rows.chooseCaseSpec).bare.plain.varTypes Tryz.prog) ++ Tryz.f3.resultTypes.toList).any (Tryz.prog.wideKeysFrom ·))) = true := by kernel_rfl
theorem c18 : ((Rows.OpenSpec.upto Rows.chooseCaseSpec).bare.vars.all (Tryz.prog.varReadable ·)) = true := by kernel_rfl
theorem c19 : (Tryz.f3.resultTypes.all (fun t => Tryz.prog.readableRec t && decide (t < Tryz.prog.types.size))) = true := by kernel_rfl
theorem c20 : ((Rows.chooseCaseUptoRow.ifacesOut == Tryz.f3.resultTypes.toList.any (Tryz.prog.ifacesRec ·))) = true := by kernel_rfl
theorem c21 : ((Rows.chooseCaseUptoRow.loopsOut == Tryz.f3.resultTypes.toList.any (Tryz.prog.loopsFrom ·))) = true := by kernel_rfl
theorem c22 : ((Rows.chooseCaseUptoRow.plainKeys == Tryz.prog.plainKeys)) = true := prog.p22
theorem c23 : (Rows.chooseCaseUptoRow.shortTexts.isNone) = true := by kernel_rfl
theorem c24 : (Tryz.prog.stopsHeard) = true := prog.p24
theorem c25 : (Tryz.prog.mayEnter) = true := prog.p25
theorem c26 : ((Rows.chooseCaseUptoRow.lifted == Tryz.prog.liftsFinal)) = true := prog.p26
theorem c27 : ((Tryz.prog.make == some Rows.chooseCaseUptoRow.make)) = true := prog.p27
theorem c28 : ((Rows.chooseCaseUptoRow.kinds == (if Rows.chooseCaseUptoRow.domain.isEmpty then [] else Tryz.f3.params.toList.map fun t => match Tryz.prog.underlying t with | some (.int k) => some k | _ => Option.none))) = true := by kernel_rfl
theorem c29 : ((Rows.chooseCaseUptoRow.pinned == Rows.chooseCaseUptoRow.pinnedBy)) = true := by kernel_rfl
theorem c30 : ((Rows.chooseCaseUptoRow.veiled == ((Tryz.f3.params.toList ++ (Rows.OpenSpec.upto Rows.chooseCaseSpec).bare.plain.varTypes Tryz.prog) ++ Tryz.f3.resultTypes.toList).any (Tryz.prog.veiledRec ·))) = true := by kernel_rfl
theorem c31 : (Rows.chooseCaseUptoRow.veiledFits Tryz.prog Tryz.f3.params.toList ((Tryz.f3.params.toList ++ (Rows.OpenSpec.upto Rows.chooseCaseSpec).bare.plain.varTypes Tryz.prog) ++ Tryz.f3.resultTypes.toList)) = true := by kernel_rfl
set_option maxRecDepth 100000 in
theorem closed : joinedFacts Tryz.pinned.checked.prog 3 Tryz.f3 (Rows.OpenSpec.upto Rows.chooseCaseSpec).bare Rows.chooseCaseUptoRow = true :=
  show joinedFacts Tryz.prog 3 Tryz.f3 (Rows.OpenSpec.upto Rows.chooseCaseSpec).bare Rows.chooseCaseUptoRow = true from (prog.aa (prog.aa (prog.aa (prog.aa (prog.aa (prog.aa (prog.aa (prog.aa (prog.aa (prog.aa (prog.aa (prog.aa (prog.aa (prog.aa (prog.aa (prog.aa (prog.aa (prog.aa (prog.aa (prog.aa (prog.aa (prog.aa (prog.aa (prog.aa (prog.aa (prog.aa (prog.aa (prog.aa (prog.aa (prog.aa (prog.aa c0 c1) c2) c3) c4) c5) c6) c7) c8) c9) c10) c11) c12) c13) c14) c15) c16) c17) c18) c19) c20) c21) c22) c23) c24) c25) c26) c27) c28) c29) c30) c31)
theorem hfn : Tryz.pinned.checked.prog.funcNamed Rows.chooseCaseUptoRow.func = some 3 := by kernel_rfl
theorem hinst : Tryz.f3.isInstance Tryz.pinned.checked.prog Rows.chooseCaseUptoRow.origin Rows.chooseCaseUptoRow.targs := of_decide_eq_true (by kernel_rfl)
theorem hwrap : Tryz.f3.isWrapper Tryz.pinned.checked.prog Rows.chooseCaseUptoRow.wrapper Rows.chooseCaseUptoRow.mainSum := by unfold Func.isWrapper; first | (rw [if_pos (by decide +kernel)]; kernel_rfl) | (rw [if_neg (by decide +kernel)]; exact ⟨rfl, rfl⟩)
theorem noInit : Tryz.checked.prog.inits.idxOf? 3 = Option.none := by kernel_rfl
theorem wfT : Rows.chooseCaseUptoRow.wfByText (Rows.OpenSpec.upto Rows.chooseCaseSpec) = true := by kernel_rfl
theorem goes : false = Rows.chooseCaseUptoRow.goesBy Tryz.pinned.checked.prog := by kernel_rfl
end chooseCase
end Go.Proofs.YtejdblkohdbhaaaGreatDoor
