/-
  Closed facts of the row of ChooseExact.
-/
import Derived.Test.YtejdblkohdbhaaaGreatDoorWp
set_option linter.unusedVariables false
namespace Go.Proofs.YtejdblkohdbhaaaGreatDoor
open Go Go.ChangeShapes Go.WideShapes Go.ChangeAt Go.RowKit
namespace chooseExact
theorem c0 : (Rows.chooseExactUptoRow.wf (OpenSpec.ofChange (Rows.OpenSpec.upto Rows.chooseExactSpec).bare)) = true := by kernel_rfl
theorem c1 : (laidOutB Tryz.prog) = true := prog.p1
theorem c2 : (mapsRowed Tryz.prog) = true := prog.p2
theorem c3 : (Tryz.f8.params.all (Tryz.prog.readableRec ·)) = true := by kernel_rfl
theorem c4 : (namedTie Tryz.prog Rows.chooseExactUptoRow.named (Rows.OpenSpec.upto Rows.chooseExactSpec).bare.vars) = true := by kernel_rfl
theorem c5 : ((Rows.chooseExactUptoRow.stops == [])) = true := by kernel_rfl
theorem c6 : ((Tryz.prog.stops == [])) = true := prog.p6
theorem c7 : ((Rows.chooseExactUptoRow.knobs == [])) = true := by kernel_rfl
theorem c8 : ((Tryz.prog.stopKnobs == [])) = true := prog.p8
theorem c9 : ((Rows.chooseExactUptoRow.inPlace == Tryz.prog.inPlace 8)) = true := by kernel_rfl
theorem c10 : ((Rows.chooseExactUptoRow.unfollowed == Tryz.prog.unfollowed 8)) = true := by kernel_rfl
theorem c11 : ((Rows.chooseExactUptoRow.recurses == Tryz.prog.recurses 8)) = true := by kernel_rfl
theorem c12 : ((Rows.chooseExactUptoRow.named == Tryz.prog.varsNamed 8)) = true := by kernel_rfl
theorem c13 : ((Rows.chooseExactUptoRow.maps == (Tryz.f8.params.toList ++ (Rows.OpenSpec.upto Rows.chooseExactSpec).bare.plain.varTypes Tryz.prog).any (Tryz.prog.mapsRec ·))) = true := by kernel_rfl
theorem c14 : ((Rows.chooseExactUptoRow.ifaces == (Tryz.f8.params.toList ++ (Rows.OpenSpec.upto Rows.chooseExactSpec).bare.plain.varTypes Tryz.prog).any (Tryz.prog.ifacesRec ·))) = true := by kernel_rfl
theorem c15 : ((Rows.chooseExactUptoRow.mapsOut == Tryz.prog.mapsAmong Tryz.f8.resultTypes.toList)) = true := by kernel_rfl
theorem c16 : ((Rows.chooseExactUptoRow.loops == (Tryz.f8.params.toList ++ (Rows.OpenSpec.upto Rows.chooseExactSpec).bare.plain.varTypes Tryz.prog).any (Tryz.prog.loopsFrom ·))) = true := by kernel_rfl
theorem c17 : ((Rows.chooseExactUptoRow.wideKeys == ((Tryz.f8.params.toList ++ (Rows.OpenSpec.upto Rows.chooseExactSpec).bare.plain.varTypes Tryz.prog) ++ Tryz.f8.resultTypes.toList).any (Tryz.prog.wideKeysFrom ·))) = true := by kernel_rfl
theorem c18 : ((Rows.OpenSpec.upto Rows.chooseExactSpec).bare.vars.all (Tryz.prog.varReadable ·)) = true := by kernel_rfl
theorem c19 : (Tryz.f8.resultTypes.all (fun t => Tryz.prog.readableRec t && decide (t < Tryz.prog.types.size))) = true := by kernel_rfl
theorem c20 : ((Rows.chooseExactUptoRow.ifacesOut == Tryz.f8.resultTypes.toList.any (Tryz.prog.ifacesRec ·))) = true := by kernel_rfl
theorem c21 : ((Rows.chooseExactUptoRow.loopsOut == Tryz.f8.resultTypes.toList.any (Tryz.prog.loopsFrom ·))) = true := by kernel_rfl
theorem c22 : ((Rows.chooseExactUptoRow.plainKeys == Tryz.prog.plainKeys)) = true := prog.p22
theorem c23 : (Rows.chooseExactUptoRow.shortTexts.isNone) = true := by kernel_rfl
theorem c24 : (Tryz.prog.stopsHeard) = true := prog.p24
theorem c25 : (Tryz.prog.mayEnter) = true := prog.p25
theorem c26 : ((Rows.chooseExactUptoRow.lifted == Tryz.prog.liftsFinal)) = true := prog.p26
theorem c27 : ((Tryz.prog.make == some Rows.chooseExactUptoRow.make)) = true := prog.p27
theorem c28 : ((Rows.chooseExactUptoRow.kinds == (if Rows.chooseExactUptoRow.domain.isEmpty then [] else Tryz.f8.params.toList.map fun t => match Tryz.prog.underlying t with | some (.int k) => some k | _ => Option.none))) = true := by kernel_rfl
theorem c29 : ((Rows.chooseExactUptoRow.pinned == Rows.chooseExactUptoRow.pinnedBy)) = true := by kernel_rfl
theorem c30 : ((Rows.chooseExactUptoRow.veiled == ((Tryz.f8.params.toList ++ (Rows.OpenSpec.upto Rows.chooseExactSpec).bare.plain.varTypes Tryz.prog) ++ Tryz.f8.resultTypes.toList).any (Tryz.prog.veiledRec ·))) = true := by kernel_rfl
theorem c31 : (Rows.chooseExactUptoRow.veiledFits Tryz.prog Tryz.f8.params.toList ((Tryz.f8.params.toList ++ (Rows.OpenSpec.upto Rows.chooseExactSpec).bare.plain.varTypes Tryz.prog) ++ Tryz.f8.resultTypes.toList)) = true := by kernel_rfl
set_option maxRecDepth 100000 in
theorem closed : joinedFacts Tryz.pinned.checked.prog 8 Tryz.f8 (Rows.OpenSpec.upto Rows.chooseExactSpec).bare Rows.chooseExactUptoRow = true :=
  show joinedFacts Tryz.prog 8 Tryz.f8 (Rows.OpenSpec.upto Rows.chooseExactSpec).bare Rows.chooseExactUptoRow = true from (prog.aa (prog.aa (prog.aa (prog.aa (prog.aa (prog.aa (prog.aa (prog.aa (prog.aa (prog.aa (prog.aa (prog.aa (prog.aa (prog.aa (prog.aa (prog.aa (prog.aa (prog.aa (prog.aa (prog.aa (prog.aa (prog.aa (prog.aa (prog.aa (prog.aa (prog.aa (prog.aa (prog.aa (prog.aa (prog.aa (prog.aa c0 c1) c2) c3) c4) c5) c6) c7) c8) c9) c10) c11) c12) c13) c14) c15) c16) c17) c18) c19) c20) c21) c22) c23) c24) c25) c26) c27) c28) c29) c30) c31)
theorem hfn : Tryz.pinned.checked.prog.funcNamed Rows.chooseExactUptoRow.func = some 8 := by kernel_rfl
theorem hinst : Tryz.f8.isInstance Tryz.pinned.checked.prog Rows.chooseExactUptoRow.origin Rows.chooseExactUptoRow.targs := of_decide_eq_true (by kernel_rfl)
theorem hwrap : Tryz.f8.isWrapper Tryz.pinned.checked.prog Rows.chooseExactUptoRow.wrapper Rows.chooseExactUptoRow.mainSum := by unfold Func.isWrapper; first | (rw [if_pos (by decide +kernel)]; kernel_rfl) | (rw [if_neg (by decide +kernel)]; exact ⟨rfl, rfl⟩)
theorem noInit : Tryz.checked.prog.inits.idxOf? 8 = Option.none := by kernel_rfl
theorem wfT : Rows.chooseExactUptoRow.wfByText (Rows.OpenSpec.upto Rows.chooseExactSpec) = true := by kernel_rfl
theorem goes : false = Rows.chooseExactUptoRow.goesBy Tryz.pinned.checked.prog := by kernel_rfl
end chooseExact
end Go.Proofs.YtejdblkohdbhaaaGreatDoor
