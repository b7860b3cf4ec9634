/-
  Closed facts of the row of PluralClass.
-/
import Derived.Test.YtejdblkohdbhaaaGreatDoorWp
set_option linter.unusedVariables false
namespace Go.Proofs.YtejdblkohdbhaaaGreatDoor
open Go Go.ChangeShapes Go.WideShapes Go.ChangeAt Go.RowKit
namespace pluralClass
theorem c0 : (Rows.pluralClassUptoRow.wf (OpenSpec.ofChange (Rows.OpenSpec.upto Rows.pluralClassSpec).bare)) = true := by kernel_rfl
theorem c1 : (laidOutB Tryz.prog) = true := prog.p1
theorem c2 : (mapsRowed Tryz.prog) = true := prog.p2
theorem c3 : (Tryz.f10.params.all (Tryz.prog.readableRec ·)) = true := by kernel_rfl
theorem c4 : (namedTie Tryz.prog Rows.pluralClassUptoRow.named (Rows.OpenSpec.upto Rows.pluralClassSpec).bare.vars) = true := by kernel_rfl
theorem c5 : ((Rows.pluralClassUptoRow.stops == [])) = true := by kernel_rfl
theorem c6 : ((Tryz.prog.stops == [])) = true := prog.p6
theorem c7 : ((Rows.pluralClassUptoRow.knobs == [])) = true := by kernel_rfl
theorem c8 : ((Tryz.prog.stopKnobs == [])) = true := prog.p8
theorem c9 : ((Rows.pluralClassUptoRow.inPlace == Tryz.prog.inPlace 10)) = true := by kernel_rfl
theorem c10 : ((Rows.pluralClassUptoRow.unfollowed == Tryz.prog.unfollowed 10)) = true := by kernel_rfl
theorem c11 : ((Rows.pluralClassUptoRow.recurses == Tryz.prog.recurses 10)) = true := by kernel_rfl
theorem c12 : ((Rows.pluralClassUptoRow.named == Tryz.prog.varsNamed 10)) = true := by kernel_rfl
theorem c13 : ((Rows.pluralClassUptoRow.maps == (Tryz.f10.params.toList ++ (Rows.OpenSpec.upto Rows.pluralClassSpec).bare.plain.varTypes Tryz.prog).any (Tryz.prog.mapsRec ·))) = true := by kernel_rfl
theorem c14 : ((Rows.pluralClassUptoRow.ifaces == (Tryz.f10.params.toList ++ (Rows.OpenSpec.upto Rows.pluralClassSpec).bare.plain.varTypes Tryz.prog).any (Tryz.prog.ifacesRec ·))) = true := by kernel_rfl
theorem c15 : ((Rows.pluralClassUptoRow.mapsOut == Tryz.prog.mapsAmong Tryz.f10.resultTypes.toList)) = true := by kernel_rfl
theorem c16 : ((Rows.pluralClassUptoRow.loops == (Tryz.f10.params.toList ++ (Rows.OpenSpec.upto Rows.pluralClassSpec).bare.plain.varTypes Tryz.prog).any (Tryz.prog.loopsFrom ·))) = true := by kernel_rfl
theorem c17 : ((Rows.pluralClassUptoRow.wideKeys == ((Tryz.f10.params.toList ++ (Rows.OpenSpec.upto Rows.pluralClassSpec).bare.plain.varTypes Tryz.prog) ++ Tryz.f10.resultTypes.toList).any (Tryz.prog.wideKeysFrom ·))) = true := by kernel_rfl
theorem c18 : ((Rows.OpenSpec.upto Rows.pluralClassSpec).bare.vars.all (Tryz.prog.varReadable ·)) = true := by kernel_rfl
theorem c19 : (Tryz.f10.resultTypes.all (fun t => Tryz.prog.readableRec t && decide (t < Tryz.prog.types.size))) = true := by kernel_rfl
theorem c20 : ((Rows.pluralClassUptoRow.ifacesOut == Tryz.f10.resultTypes.toList.any (Tryz.prog.ifacesRec ·))) = true := by kernel_rfl
theorem c21 : ((Rows.pluralClassUptoRow.loopsOut == Tryz.f10.resultTypes.toList.any (Tryz.prog.loopsFrom ·))) = true := by kernel_rfl
theorem c22 : ((Rows.pluralClassUptoRow.plainKeys == Tryz.prog.plainKeys)) = true := prog.p22
theorem c23 : (Rows.pluralClassUptoRow.shortTexts.isNone) = true := by kernel_rfl
theorem c24 : (Tryz.prog.stopsHeard) = true := prog.p24
theorem c25 : (Tryz.prog.mayEnter) = true := prog.p25
theorem c26 : ((Rows.pluralClassUptoRow.lifted == Tryz.prog.liftsFinal)) = true := prog.p26
theorem c27 : ((Tryz.prog.make == some Rows.pluralClassUptoRow.make)) = true := prog.p27
theorem c28 : ((Rows.pluralClassUptoRow.kinds == (if Rows.pluralClassUptoRow.domain.isEmpty then [] else Tryz.f10.params.toList.map fun t => match Tryz.prog.underlying t with | some (.int k) => some k | _ => Option.none))) = true := by kernel_rfl
theorem c29 : ((Rows.pluralClassUptoRow.pinned == Rows.pluralClassUptoRow.pinnedBy)) = true := by kernel_rfl
theorem c30 : ((Rows.pluralClassUptoRow.veiled == ((Tryz.f10.params.toList ++ (Rows.OpenSpec.upto Rows.pluralClassSpec).bare.plain.varTypes Tryz.prog) ++ Tryz.f10.resultTypes.toList).any (Tryz.prog.veiledRec ·))) = true := by kernel_rfl
theorem c31 : (Rows.pluralClassUptoRow.veiledFits Tryz.prog Tryz.f10.params.toList ((Tryz.f10.params.toList ++ (Rows.OpenSpec.upto Rows.pluralClassSpec).bare.plain.varTypes Tryz.prog) ++ Tryz.f10.resultTypes.toList)) = true := by kernel_rfl
set_option maxRecDepth 100000 in
theorem closed : joinedFacts Tryz.pinned.checked.prog 10 Tryz.f10 (Rows.OpenSpec.upto Rows.pluralClassSpec).bare Rows.pluralClassUptoRow = true :=
  show joinedFacts Tryz.prog 10 Tryz.f10 (Rows.OpenSpec.upto Rows.pluralClassSpec).bare Rows.pluralClassUptoRow = true from (prog.aa (prog.aa (prog.aa (prog.aa (prog.aa (prog.aa (prog.aa (prog.aa (prog.aa (prog.aa (prog.aa (prog.aa (prog.aa (prog.aa (prog.aa (prog.aa (prog.aa (prog.aa (prog.aa (prog.aa (prog.aa (prog.aa (prog.aa (prog.aa (prog.aa (prog.aa (prog.aa (prog.aa (prog.aa (prog.aa (prog.aa c0 c1) c2) c3) c4) c5) c6) c7) c8) c9) c10) c11) c12) c13) c14) c15) c16) c17) c18) c19) c20) c21) c22) c23) c24) c25) c26) c27) c28) c29) c30) c31)
theorem hfn : Tryz.pinned.checked.prog.funcNamed Rows.pluralClassUptoRow.func = some 10 := by kernel_rfl
theorem hinst : Tryz.f10.isInstance Tryz.pinned.checked.prog Rows.pluralClassUptoRow.origin Rows.pluralClassUptoRow.targs := of_decide_eq_true (by kernel_rfl)
theorem hwrap : Tryz.f10.isWrapper Tryz.pinned.checked.prog Rows.pluralClassUptoRow.wrapper Rows.pluralClassUptoRow.mainSum := by unfold Func.isWrapper; first | (rw [if_pos (by decide +kernel)]; kernel_rfl) | (rw [if_neg (by decide +kernel)]; exact ⟨rfl, rfl⟩)
theorem noInit : Tryz.checked.prog.inits.idxOf? 10 = Option.none := by kernel_rfl
theorem wfT : Rows.pluralClassUptoRow.wfByText (Rows.OpenSpec.upto Rows.pluralClassSpec) = true := by kernel_rfl
theorem goes : false = Rows.pluralClassUptoRow.goesBy Tryz.pinned.checked.prog := by kernel_rfl
end pluralClass
end Go.Proofs.YtejdblkohdbhaaaGreatDoor
