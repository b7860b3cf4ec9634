/-
  Closed facts of the row of ChooseOrder.
-/
import Derived.Test.YtejdblkohdbhaaaGreatDoorWp
set_option linter.unusedVariables false
namespace Go.Proofs.YtejdblkohdbhaaaGreatDoor
open Go Go.ChangeShapes Go.WideShapes Go.ChangeAt Go.RowKit
namespace chooseOrder
theorem c0 : (Rows.chooseOrderUptoRow.wf (OpenSpec.ofChange (Rows.OpenSpec.upto Rows.chooseOrderSpec).bare)) = true := by kernel_rfl
theorem c1 : (laidOutB Tryz.prog) = true := prog.p1
theorem c2 : (mapsRowed Tryz.prog) = true := prog.p2
theorem c3 : (Tryz.f4.params.all (Tryz.prog.readableRec ·)) = true := by kernel_rfl
theorem c4 : (namedTie Tryz.prog Rows.chooseOrderUptoRow.named (Rows.OpenSpec.upto Rows.chooseOrderSpec).bare.vars) = true := by kernel_rfl
theorem c5 : ((Rows.chooseOrderUptoRow.stops == [])) = true := by kernel_rfl
theorem c6 : ((Tryz.prog.stops == [])) = true := prog.p6
theorem c7 : ((Rows.chooseOrderUptoRow.knobs == [])) = true := by kernel_rfl
theorem c8 : ((Tryz.prog.stopKnobs == [])) = true := prog.p8
theorem c9 : ((Rows.chooseOrderUptoRow.inPlace == Tryz.prog.inPlace 4)) = true := by kernel_rfl
theorem c10 : ((Rows.chooseOrderUptoRow.unfollowed == Tryz.prog.unfollowed 4)) = true := by kernel_rfl
theorem c11 : ((Rows.chooseOrderUptoRow.recurses == Tryz.prog.recurses 4)) = true := by kernel_rfl
theorem c12 : ((Rows.chooseOrderUptoRow.named == Tryz.prog.varsNamed 4)) = true := by kernel_rfl
theorem c13 : ((Rows.chooseOrderUptoRow.maps == (Tryz.f4.params.toList ++ (Rows.OpenSpec.upto Rows.chooseOrderSpec).bare.plain.varTypes Tryz.prog).any (Tryz.prog.mapsRec ·))) = true := by kernel_rfl
theorem c14 : ((Rows.chooseOrderUptoRow.ifaces == (Tryz.f4.params.toList ++ (Rows.OpenSpec.upto Rows.chooseOrderSpec).bare.plain.varTypes Tryz.prog).any (Tryz.prog.ifacesRec ·))) = true := by kernel_rfl
theorem c15 : ((Rows.chooseOrderUptoRow.mapsOut == Tryz.prog.mapsAmong Tryz.f4.resultTypes.toList)) = true := by kernel_rfl
theorem c16 : ((Rows.chooseOrderUptoRow.loops == (Tryz.f4.params.toList ++ (Rows.OpenSpec.upto Rows.chooseOrderSpec).bare.plain.varTypes Tryz.prog).any (Tryz.prog.loopsFrom ·))) = true := by kernel_rfl
theorem c17 : ((Rows.chooseOrderUptoRow.wideKeys == ((Tryz.f4.params.toList ++ (Rows.OpenSpec.upto Rows.chooseOrderSpec).bare.plain.varTypes Tryz.prog) ++ Tryz.f4.resultTypes.toList).any (Tryz.prog.wideKeysFrom ·))) = true := by kernel_rfl
theorem c18 : ((Rows.OpenSpec.upto Rows.chooseOrderSpec).bare.vars.all (Tryz.prog.varReadable ·)) = true := by kernel_rfl
theorem c19 : (Tryz.f4.resultTypes.all (fun t => Tryz.prog.readableRec t && decide (t < Tryz.prog.types.size))) = true := by kernel_rfl
theorem c20 : ((Rows.chooseOrderUptoRow.ifacesOut == Tryz.f4.resultTypes.toList.any (Tryz.prog.ifacesRec ·))) = true := by kernel_rfl
theorem c21 : ((Rows.chooseOrderUptoRow.loopsOut == Tryz.f4.resultTypes.toList.any (Tryz.prog.loopsFrom ·))) = true := by kernel_rfl
theorem c22 : ((Rows.chooseOrderUptoRow.plainKeys == Tryz.prog.plainKeys)) = true := prog.p22
theorem c23 : (Rows.chooseOrderUptoRow.shortTexts.isNone) = true := by kernel_rfl
theorem c24 : (Tryz.prog.stopsHeard) = true := prog.p24
theorem c25 : (Tryz.prog.mayEnter) = true := prog.p25
theorem c26 : ((Rows.chooseOrderUptoRow.lifted == Tryz.prog.liftsFinal)) = true := prog.p26
theorem c27 : ((Tryz.prog.make == some Rows.chooseOrderUptoRow.make)) = true := prog.p27
theorem c28 : ((Rows.chooseOrderUptoRow.kinds == (if Rows.chooseOrderUptoRow.domain.isEmpty then [] else Tryz.f4.params.toList.map fun t => match Tryz.prog.underlying t with | some (.int k) => some k | _ => Option.none))) = true := by kernel_rfl
theorem c29 : ((Rows.chooseOrderUptoRow.pinned == Rows.chooseOrderUptoRow.pinnedBy)) = true := by kernel_rfl
theorem c30 : ((Rows.chooseOrderUptoRow.veiled == ((Tryz.f4.params.toList ++ (Rows.OpenSpec.upto Rows.chooseOrderSpec).bare.plain.varTypes Tryz.prog) ++ Tryz.f4.resultTypes.toList).any (Tryz.prog.veiledRec ·))) = true := by kernel_rfl
theorem c31 : (Rows.chooseOrderUptoRow.veiledFits Tryz.prog Tryz.f4.params.toList ((Tryz.f4.params.toList ++ (Rows.OpenSpec.upto Rows.chooseOrderSpec).bare.plain.varTypes Tryz.prog) ++ Tryz.f4.resultTypes.toList)) = true := by kernel_rfl
set_option maxRecDepth 100000 in
theorem closed : joinedFacts Tryz.pinned.checked.prog 4 Tryz.f4 (Rows.OpenSpec.upto Rows.chooseOrderSpec).bare Rows.chooseOrderUptoRow = true :=
  show joinedFacts Tryz.prog 4 Tryz.f4 (Rows.OpenSpec.upto Rows.chooseOrderSpec).bare Rows.chooseOrderUptoRow = true from (prog.aa (prog.aa (prog.aa (prog.aa (prog.aa (prog.aa (prog.aa (prog.aa (prog.aa (prog.aa (prog.aa (prog.aa (prog.aa (prog.aa (prog.aa (prog.aa (prog.aa (prog.aa (prog.aa (prog.aa (prog.aa (prog.aa (prog.aa (prog.aa (prog.aa (prog.aa (prog.aa (prog.aa (prog.aa (prog.aa (prog.aa c0 c1) c2) c3) c4) c5) c6) c7) c8) c9) c10) c11) c12) c13) c14) c15) c16) c17) c18) c19) c20) c21) c22) c23) c24) c25) c26) c27) c28) c29) c30) c31)
theorem hfn : Tryz.pinned.checked.prog.funcNamed Rows.chooseOrderUptoRow.func = some 4 := by kernel_rfl
theorem hinst : Tryz.f4.isInstance Tryz.pinned.checked.prog Rows.chooseOrderUptoRow.origin Rows.chooseOrderUptoRow.targs := of_decide_eq_true (by kernel_rfl)
theorem hwrap : Tryz.f4.isWrapper Tryz.pinned.checked.prog Rows.chooseOrderUptoRow.wrapper Rows.chooseOrderUptoRow.mainSum := by unfold Func.isWrapper; first | (rw [if_pos (by decide +kernel)]; kernel_rfl) | (rw [if_neg (by decide +kernel)]; exact ⟨rfl, rfl⟩)
theorem noInit : Tryz.checked.prog.inits.idxOf? 4 = Option.none := by kernel_rfl
theorem wfT : Rows.chooseOrderUptoRow.wfByText (Rows.OpenSpec.upto Rows.chooseOrderSpec) = true := by kernel_rfl
theorem goes : false = Rows.chooseOrderUptoRow.goesBy Tryz.pinned.checked.prog := by kernel_rfl
end chooseOrder
end Go.Proofs.YtejdblkohdbhaaaGreatDoor
