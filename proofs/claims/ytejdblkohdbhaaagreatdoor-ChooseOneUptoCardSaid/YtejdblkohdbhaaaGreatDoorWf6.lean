/-
  Closed facts of the row of ChooseOne.
-/
import Derived.Test.YtejdblkohdbhaaaGreatDoorWp
set_option linter.unusedVariables false
namespace Go.Proofs.YtejdblkohdbhaaaGreatDoor
open Go Go.ChangeShapes Go.WideShapes Go.ChangeAt Go.RowKit
namespace chooseOne
theorem c0 : (Rows.chooseOneUptoRow.wf (OpenSpec.ofChange (Rows.OpenSpec.upto Rows.chooseOneSpec).bare)) = true := by kernel_rfl
theorem c1 : (laidOutB Tryz.prog) = true := prog.p1
theorem c2 : (mapsRowed Tryz.prog) = true := prog.p2
theorem c3 : (Tryz.f6.params.all (Tryz.prog.readableRec ·)) = true := by kernel_rfl
theorem c4 : (namedTie Tryz.prog Rows.chooseOneUptoRow.named (Rows.OpenSpec.upto Rows.chooseOneSpec).bare.vars) = true := by kernel_rfl
theorem c5 : ((Rows.chooseOneUptoRow.stops == [])) = true := by kernel_rfl
theorem c6 : ((Tryz.prog.stops == [])) = true := prog.p6
theorem c7 : ((Rows.chooseOneUptoRow.knobs == [])) = true := by kernel_rfl
theorem c8 : ((Tryz.prog.stopKnobs == [])) = true := prog.p8
theorem c9 : ((Rows.chooseOneUptoRow.inPlace == Tryz.prog.inPlace 6)) = true := by kernel_rfl
theorem c10 : ((Rows.chooseOneUptoRow.unfollowed == Tryz.prog.unfollowed 6)) = true := by kernel_rfl
theorem c11 : ((Rows.chooseOneUptoRow.recurses == Tryz.prog.recurses 6)) = true := by kernel_rfl
theorem c12 : ((Rows.chooseOneUptoRow.named == Tryz.prog.varsNamed 6)) = true := by kernel_rfl
theorem c13 : ((Rows.chooseOneUptoRow.maps == (Tryz.f6.params.toList ++ (Rows.OpenSpec.upto Rows.chooseOneSpec).bare.plain.varTypes Tryz.prog).any (Tryz.prog.mapsRec ·))) = true := by kernel_rfl
theorem c14 : ((Rows.chooseOneUptoRow.ifaces == (Tryz.f6.params.toList ++ (Rows.OpenSpec.upto Rows.chooseOneSpec).bare.plain.varTypes Tryz.prog).any (Tryz.prog.ifacesRec ·))) = true := by kernel_rfl
theorem c15 : ((Rows.chooseOneUptoRow.mapsOut == Tryz.prog.mapsAmong Tryz.f6.resultTypes.toList)) = true := by kernel_rfl
theorem c16 : ((Rows.chooseOneUptoRow.loops == (Tryz.f6.params.toList ++ (Rows.OpenSpec.upto Rows.chooseOneSpec).bare.plain.varTypes Tryz.prog).any (Tryz.prog.loopsFrom ·))) = true := by kernel_rfl
theorem c17 : ((Rows.chooseOneUptoRow.wideKeys == ((Tryz.f6.params.toList ++ (Rows.OpenSpec.upto Rows.chooseOneSpec).bare.plain.varTypes Tryz.prog) ++ Tryz.f6.resultTypes.toList).any (Tryz.prog.wideKeysFrom ·))) = true := by kernel_rfl
theorem c18 : ((Rows.OpenSpec.upto Rows.chooseOneSpec).bare.vars.all (Tryz.prog.varReadable ·)) = true := by kernel_rfl
theorem c19 : (Tryz.f6.resultTypes.all (fun t => Tryz.prog.readableRec t && decide (t < Tryz.prog.types.size))) = true := by kernel_rfl
theorem c20 : ((Rows.chooseOneUptoRow.ifacesOut == Tryz.f6.resultTypes.toList.any (Tryz.prog.ifacesRec ·))) = true := by kernel_rfl
theorem c21 : ((Rows.chooseOneUptoRow.loopsOut == Tryz.f6.resultTypes.toList.any (Tryz.prog.loopsFrom ·))) = true := by kernel_rfl
theorem c22 : ((Rows.chooseOneUptoRow.plainKeys == Tryz.prog.plainKeys)) = true := prog.p22
theorem c23 : (Rows.chooseOneUptoRow.shortTexts.isNone) = true := by kernel_rfl
theorem c24 : (Tryz.prog.stopsHeard) = true := prog.p24
theorem c25 : (Tryz.prog.mayEnter) = true := prog.p25
theorem c26 : ((Rows.chooseOneUptoRow.lifted == Tryz.prog.liftsFinal)) = true := prog.p26
theorem c27 : ((Tryz.prog.make == some Rows.chooseOneUptoRow.make)) = true := prog.p27
theorem c28 : ((Rows.chooseOneUptoRow.kinds == (if Rows.chooseOneUptoRow.domain.isEmpty then [] else Tryz.f6.params.toList.map fun t => match Tryz.prog.underlying t with | some (.int k) => some k | _ => Option.none))) = true := by kernel_rfl
theorem c29 : ((Rows.chooseOneUptoRow.pinned == Rows.chooseOneUptoRow.pinnedBy)) = true := by kernel_rfl
theorem c30 : ((Rows.chooseOneUptoRow.veiled == ((Tryz.f6.params.toList ++ (Rows.OpenSpec.upto Rows.chooseOneSpec).bare.plain.varTypes Tryz.prog) ++ Tryz.f6.resultTypes.toList).any (Tryz.prog.veiledRec ·))) = true := by kernel_rfl
theorem c31 : (Rows.chooseOneUptoRow.veiledFits Tryz.prog Tryz.f6.params.toList ((Tryz.f6.params.toList ++ (Rows.OpenSpec.upto Rows.chooseOneSpec).bare.plain.varTypes Tryz.prog) ++ Tryz.f6.resultTypes.toList)) = true := by kernel_rfl
set_option maxRecDepth 100000 in
theorem closed : joinedFacts Tryz.pinned.checked.prog 6 Tryz.f6 (Rows.OpenSpec.upto Rows.chooseOneSpec).bare Rows.chooseOneUptoRow = true :=
  show joinedFacts Tryz.prog 6 Tryz.f6 (Rows.OpenSpec.upto Rows.chooseOneSpec).bare Rows.chooseOneUptoRow = true from (prog.aa (prog.aa (prog.aa (prog.aa (prog.aa (prog.aa (prog.aa (prog.aa (prog.aa (prog.aa (prog.aa (prog.aa (prog.aa (prog.aa (prog.aa (prog.aa (prog.aa (prog.aa (prog.aa (prog.aa (prog.aa (prog.aa (prog.aa (prog.aa (prog.aa (prog.aa (prog.aa (prog.aa (prog.aa (prog.aa (prog.aa c0 c1) c2) c3) c4) c5) c6) c7) c8) c9) c10) c11) c12) c13) c14) c15) c16) c17) c18) c19) c20) c21) c22) c23) c24) c25) c26) c27) c28) c29) c30) c31)
theorem hfn : Tryz.pinned.checked.prog.funcNamed Rows.chooseOneUptoRow.func = some 6 := by kernel_rfl
theorem hinst : Tryz.f6.isInstance Tryz.pinned.checked.prog Rows.chooseOneUptoRow.origin Rows.chooseOneUptoRow.targs := of_decide_eq_true (by kernel_rfl)
theorem hwrap : Tryz.f6.isWrapper Tryz.pinned.checked.prog Rows.chooseOneUptoRow.wrapper Rows.chooseOneUptoRow.mainSum := by unfold Func.isWrapper; first | (rw [if_pos (by decide +kernel)]; kernel_rfl) | (rw [if_neg (by decide +kernel)]; exact ⟨rfl, rfl⟩)
theorem noInit : Tryz.checked.prog.inits.idxOf? 6 = Option.none := by kernel_rfl
theorem wfT : Rows.chooseOneUptoRow.wfByText (Rows.OpenSpec.upto Rows.chooseOneSpec) = true := by kernel_rfl
theorem goes : false = Rows.chooseOneUptoRow.goesBy Tryz.pinned.checked.prog := by kernel_rfl
end chooseOne
end Go.Proofs.YtejdblkohdbhaaaGreatDoor
