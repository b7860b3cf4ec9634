/-
  Closed facts of the row of ChooseMore.
-/
import Derived.Test.YtejdblkohdbhaaaGreatDoorWp
set_option linter.unusedVariables false
namespace Go.Proofs.YtejdblkohdbhaaaGreatDoor
open Go Go.ChangeShapes Go.WideShapes Go.ChangeAt Go.RowKit
namespace chooseMore
theorem c0 : (Rows.chooseMoreUptoRow.wf (OpenSpec.ofChange (Rows.OpenSpec.upto Rows.chooseMoreSpec).bare)) = true := by kernel_rfl
theorem c1 : (laidOutB Tryz.prog) = true := prog.p1
theorem c2 : (mapsRowed Tryz.prog) = true := prog.p2
theorem c3 : (Tryz.f5.params.all (Tryz.prog.readableRec ·)) = true := by kernel_rfl
theorem c4 : (namedTie Tryz.prog Rows.chooseMoreUptoRow.named (Rows.OpenSpec.upto Rows.chooseMoreSpec).bare.vars) = true := by kernel_rfl
theorem c5 : ((Rows.chooseMoreUptoRow.stops == [])) = true := by kernel_rfl
theorem c6 : ((Tryz.prog.stops == [])) = true := prog.p6
theorem c7 : ((Rows.chooseMoreUptoRow.knobs == [])) = true := by kernel_rfl
theorem c8 : ((Tryz.prog.stopKnobs == [])) = true := prog.p8
theorem c9 : ((Rows.chooseMoreUptoRow.inPlace == Tryz.prog.inPlace 5)) = true := by kernel_rfl
theorem c10 : ((Rows.chooseMoreUptoRow.unfollowed == Tryz.prog.unfollowed 5)) = true := by kernel_rfl
theorem c11 : ((Rows.chooseMoreUptoRow.recurses == Tryz.prog.recurses 5)) = true := by kernel_rfl
theorem c12 : ((Rows.chooseMoreUptoRow.named == Tryz.prog.varsNamed 5)) = true := by kernel_rfl
theorem c13 : ((Rows.chooseMoreUptoRow.maps == (Tryz.f5.params.toList ++ (Rows.OpenSpec.upto Rows.chooseMoreSpec).bare.plain.varTypes Tryz.prog).any (Tryz.prog.mapsRec ·))) = true := by kernel_rfl
theorem c14 : ((Rows.chooseMoreUptoRow.ifaces == (Tryz.f5.params.toList ++ (Rows.OpenSpec.upto Rows.chooseMoreSpec).bare.plain.varTypes Tryz.prog).any (Tryz.prog.ifacesRec ·))) = true := by kernel_rfl
theorem c15 : ((Rows.chooseMoreUptoRow.mapsOut == Tryz.prog.mapsAmong Tryz.f5.resultTypes.toList)) = true := by kernel_rfl
theorem c16 : ((Rows.chooseMoreUptoRow.loops == (Tryz.f5.params.toList ++ (Rows.OpenSpec.upto Rows.chooseMoreSpec).bare.plain.varTypes Tryz.prog).any (Tryz.prog.loopsFrom ·))) = true := by kernel_rfl
theorem c17 : ((Rows.chooseMoreUptoRow.wideKeys == ((Tryz.f5.params.toList ++ (Rows.OpenSpec.upto Rows.chooseMoreSpec).bare.plain.varTypes Tryz.prog) ++ Tryz.f5.resultTypes.toList).any (Tryz.prog.wideKeysFrom ·))) = true := by kernel_rfl
theorem c18 : ((Rows.OpenSpec.upto Rows.chooseMoreSpec).bare.vars.all (Tryz.prog.varReadable ·)) = true := by kernel_rfl
theorem c19 : (Tryz.f5.resultTypes.all (fun t => Tryz.prog.readableRec t && decide (t < Tryz.prog.types.size))) = true := by kernel_rfl
theorem c20 : ((Rows.chooseMoreUptoRow.ifacesOut == Tryz.f5.resultTypes.toList.any (Tryz.prog.ifacesRec ·))) = true := by kernel_rfl
theorem c21 : ((Rows.chooseMoreUptoRow.loopsOut == Tryz.f5.resultTypes.toList.any (Tryz.prog.loopsFrom ·))) = true := by kernel_rfl
theorem c22 : ((Rows.chooseMoreUptoRow.plainKeys == Tryz.prog.plainKeys)) = true := prog.p22
theorem c23 : (Rows.chooseMoreUptoRow.shortTexts.isNone) = true := by kernel_rfl
theorem c24 : (Tryz.prog.stopsHeard) = true := prog.p24
theorem c25 : (Tryz.prog.mayEnter) = true := prog.p25
theorem c26 : ((Rows.chooseMoreUptoRow.lifted == Tryz.prog.liftsFinal)) = true := prog.p26
theorem c27 : ((Tryz.prog.make == some Rows.chooseMoreUptoRow.make)) = true := prog.p27
theorem c28 : ((Rows.chooseMoreUptoRow.kinds == (if Rows.chooseMoreUptoRow.domain.isEmpty then [] else Tryz.f5.params.toList.map fun t => match Tryz.prog.underlying t with | some (.int k) => some k | _ => Option.none))) = true := by kernel_rfl
theorem c29 : ((Rows.chooseMoreUptoRow.pinned == Rows.chooseMoreUptoRow.pinnedBy)) = true := by kernel_rfl
theorem c30 : ((Rows.chooseMoreUptoRow.veiled == ((Tryz.f5.params.toList ++ (Rows.OpenSpec.upto Rows.chooseMoreSpec).bare.plain.varTypes Tryz.prog) ++ Tryz.f5.resultTypes.toList).any (Tryz.prog.veiledRec ·))) = true := by kernel_rfl
theorem c31 : (Rows.chooseMoreUptoRow.veiledFits Tryz.prog Tryz.f5.params.toList ((Tryz.f5.params.toList ++ (Rows.OpenSpec.upto Rows.chooseMoreSpec).bare.plain.varTypes Tryz.prog) ++ Tryz.f5.resultTypes.toList)) = true := by kernel_rfl
set_option maxRecDepth 100000 in
theorem closed : joinedFacts Tryz.pinned.checked.prog 5 Tryz.f5 (Rows.OpenSpec.upto Rows.chooseMoreSpec).bare Rows.chooseMoreUptoRow = true :=
  show joinedFacts Tryz.prog 5 Tryz.f5 (Rows.OpenSpec.upto Rows.chooseMoreSpec).bare Rows.chooseMoreUptoRow = true from (prog.aa (prog.aa (prog.aa (prog.aa (prog.aa (prog.aa (prog.aa (prog.aa (prog.aa (prog.aa (prog.aa (prog.aa (prog.aa (prog.aa (prog.aa (prog.aa (prog.aa (prog.aa (prog.aa (prog.aa (prog.aa (prog.aa (prog.aa (prog.aa (prog.aa (prog.aa (prog.aa (prog.aa (prog.aa (prog.aa (prog.aa c0 c1) c2) c3) c4) c5) c6) c7) c8) c9) c10) c11) c12) c13) c14) c15) c16) c17) c18) c19) c20) c21) c22) c23) c24) c25) c26) c27) c28) c29) c30) c31)
theorem hfn : Tryz.pinned.checked.prog.funcNamed Rows.chooseMoreUptoRow.func = some 5 := by kernel_rfl
theorem hinst : Tryz.f5.isInstance Tryz.pinned.checked.prog Rows.chooseMoreUptoRow.origin Rows.chooseMoreUptoRow.targs := of_decide_eq_true (by kernel_rfl)
theorem hwrap : Tryz.f5.isWrapper Tryz.pinned.checked.prog Rows.chooseMoreUptoRow.wrapper Rows.chooseMoreUptoRow.mainSum := by unfold Func.isWrapper; first | (rw [if_pos (by decide +kernel)]; kernel_rfl) | (rw [if_neg (by decide +kernel)]; exact ⟨rfl, rfl⟩)
theorem noInit : Tryz.checked.prog.inits.idxOf? 5 = Option.none := by kernel_rfl
theorem wfT : Rows.chooseMoreUptoRow.wfByText (Rows.OpenSpec.upto Rows.chooseMoreSpec) = true := by kernel_rfl
theorem goes : false = Rows.chooseMoreUptoRow.goesBy Tryz.pinned.checked.prog := by kernel_rfl
end chooseMore
end Go.Proofs.YtejdblkohdbhaaaGreatDoor
