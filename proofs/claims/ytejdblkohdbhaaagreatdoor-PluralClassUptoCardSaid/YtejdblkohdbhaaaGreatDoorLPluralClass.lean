/-
  For every input of which the arguments, and the tables that the call reads, hold together at most 1048576 values and letters: plural.Valid and plural.Class answer as the reference does. Condition: that bound.
-/
import Derived.Test.YtejdblkohdbhaaaGreatDoorWf10
import Derived.Test.YtejdblkohdbhaaaGreatDoorNaap
set_option linter.unusedVariables false
namespace Go.Proofs.YtejdblkohdbhaaaGreatDoor
open Go Go.ChangeShapes Go.WideShapes Go.ChangeAt Go.RowKit Go.Abs Go.Proofs.Tryz

mutual
theorem bulk_eq {H : Type} : ∀ d : DataW H, bulkD d ≤ Rows.uptoBulk d
  | .lit (.string b) => by simp only [bulkD, Rows.uptoBulk]; exact Nat.le_refl _
  | .lit (.bool b) => by simp only [bulkD, Rows.uptoBulk]; exact Nat.le_refl _
  | .lit (.int k n) => by simp only [bulkD, Rows.uptoBulk]; exact Nat.le_refl _
  | .lit (.float k n) => by simp only [bulkD, Rows.uptoBulk]; exact Nat.le_refl _
  | .lit .nil => by simp only [bulkD, Rows.uptoBulk]; exact Nat.le_refl _
  | .nil => by simp only [bulkD, Rows.uptoBulk]; exact Nat.le_refl _
  | .ptr d => by simp only [bulkD, Rows.uptoBulk]; omega
  | .slice e s => by
    have h1 := bulk_eqL e
    have h2 := bulk_eqL s
    simp only [bulkD, Rows.uptoBulk]; omega
  | .agg l => by
    have h1 := bulk_eqL l
    simp only [bulkD, Rows.uptoBulk]; omega
  | .iface t d => by simp only [bulkD, Rows.uptoBulk]; omega
  | .map es => by simp only [bulkD, Rows.uptoBulk]; omega
  | .held h => by simp only [bulkD, Rows.uptoBulk]; exact Nat.le_refl _
theorem bulk_eqL {H : Type} : ∀ l : List (DataW H), bulkL l ≤ Rows.uptoBulkAll l
  | [] => by simp only [bulkL, Rows.uptoBulkAll]; exact Nat.le_refl _
  | d :: l => by
    have h1 := bulk_eq d
    have h2 := bulk_eqL l
    simp only [bulkL, Rows.uptoBulkAll]; omega
end
theorem bulk_bound {H : Type} {l : List (DataW H)} (hk : Rows.uptoSmall H l = true) : bulkL l ≤ 1048576 := by
  have h := of_decide_eq_true hk
  exact Nat.le_trans (bulk_eqL l) h


set_option maxRecDepth 100000
namespace pluralClass
theorem contract (H : Type) (enc : TypeId × Value → H) (W : World) (base : Nat) (args : Array Value) (ds gs : List (DataW H)) (before : List MemPlace)
    (hval0 : ∀ (j : Nat) t v, Tryz.f10.params[j]? = some t → args[j]? = some v → Value.okWide Tryz.prog W .any base t v)
    (hW : DataW.Whole enc Tryz.prog Tryz.f10.params.toList Rows.pluralClassSpec.vars false W args.toList ds gs before) (hk : Rows.uptoSmall H (ds ++ gs) = true) :
    Calls Tryz.prog 10 args W fun e W' => ∃ v, e = .returned v ∧ Rows.pluralClassSpec.post enc Tryz.prog Tryz.f10 false true false false W args v W' := by
  have hval : ∀ (j : Nat) t v, Tryz.f10.params[j]? = some t → args[j]? = some v → Value.okWide Tryz.prog W .any base t v := hval0
  have hW' := hW
  obtain ⟨p, q, hA0, hV, rfl, hfz, hnd⟩ := hW
  have hA : DataW.TrodAll enc Tryz.prog W 0 (fun _ => true) true Tryz.f10.params.toList args.toList ds p := hA0
  rw [Tryz.params10] at hA hval
  obtain ⟨v0, vs0, d0, ds0, p0, q0, hargs, rfl, rfl, h0, r0⟩ := trodAll_cons hA
  obtain ⟨v1, vs1, d1, ds1, p1, q1, rfl, rfl, rfl, h1, r1⟩ := trodAll_cons r0
  obtain ⟨rfl, rfl, rfl⟩ := trodAll_nil r1
  obtain rfl : args = #[v0, v1] := by cases args; simp_all
  obtain ⟨rfl, rfl⟩ := trodVars_none hV
  clear hA0 hval0
  have hb := bulk_bound hk
  simp only [List.append_nil, bulkL] at hb
  simp only [List.append_nil] at hW'
  have lt0 : ∀ x ∈ p0, x.block < W.heap.size := by obtain ⟨m, hm⟩ := h0; exact DataW.trod_lt m _ _ _ hm
  have lt1 : ∀ x ∈ p1, x.block < W.heap.size := by obtain ⟨m, hm⟩ := h1; exact DataW.trod_lt m _ _ _ hm
  obtain ⟨k0, l0, s0, a0, b0⟩ := open_arg T0_ok closed_S1 (by decide) (hval 0 22 v0 rfl rfl) h0
  obtain ⟨k1, l1, s1, a1, b1⟩ := open_arg T0_ok closed_S1 (by decide) (hval 1 9 v1 rfl rfl) h1
  obtain ⟨x0, rfl⟩ := shp_rules s0
  have e0 : boxE T0 22 [rulesAV x0] = rulesAV x0 := rfl
  rw [e0] at a0 b0
  obtain ⟨x1, rfl⟩ := shp_str s1
  have e1 : boxE T0 9 [.str x1] = .str x1 := rfl
  rw [e1] at a1 b1
  have run := FSv_run (s10 x0 x1 (by omega) (by simp only [wt] at b1; omega)) (vals := [v0, v1]) (by simp only [Reps]; exact ⟨_, _, rfl, a0, _, _, rfl, a1, rfl⟩)
  refine run.mono fun e W' ⟨he, bel⟩ => ?_
  subst he
  exact ⟨_, rfl, _, _, _, [], _, [], hW', trodAll_mk1 (shut_bool Tryz.underlying4 _), (trodAll_cons_mk (Below.trod laidOut (by kernel_rfl) (of_decide_eq_true (by kernel_rfl)) h0 bel lt0) (trodAll_cons_mk (Below.trod laidOut (by kernel_rfl) (of_decide_eq_true (by kernel_rfl)) h1 bel lt1) trodAll_mk0)), rfl, bel.frame _, fun h => by cases h⟩
noncomputable def wargs : Array Value := #[.slice Option.none 0 0, .string ⟨#[]⟩]
theorem reads (os : Os) {H : Type} (enc : TypeId × Value → H) : ∃ ds places, DataW.whole enc Tryz.prog ((laidWorld os).forCall (fun _ _ => 0) ⟨#[], wargs, []⟩).memory Tryz.f10.params.toList Rows.pluralClassSpec.vars false wargs.toList 8 = some (ds, [], places) ∧ Rows.uptoSmall H (ds ++ []) = true :=
  ⟨[.nil, .lit (.string [])], [], by kernel_rfl, by kernel_rfl⟩
theorem w1 (os : Os) : ((laidWorld os).forCall (fun _ _ => 0) ⟨#[], wargs, []⟩).variablesRefB Tryz.checked.prog = true := by kernel_rfl
theorem w2 (os : Os) : (((laidWorld os).forCall (fun _ _ => 0) ⟨#[], wargs, []⟩).heap.toList.drop Tryz.checked.prog.globals.size).take ((begin Tryz.checked.prog (fun _ _ => 0) default).world.heap.size - Tryz.checked.prog.globals.size) = (begin Tryz.checked.prog (fun _ _ => 0) default).world.heap.toList.drop Tryz.checked.prog.globals.size := by kernel_rfl
theorem w3 (os : Os) : Input.okWideB Tryz.checked.prog ((laidWorld os).forCall (fun _ _ => 0) ⟨#[], wargs, []⟩) 10 ⟨#[], wargs, []⟩ = true := by kernel_rfl
theorem lifted (os : Os) (started : os.Started) (H : Type) (enc : TypeId × Value → H) (F : Stop.Interp) :
    ReturnsInHanded {} Tryz.checked os 10 .any ((Rows.OpenSpec.upto Rows.pluralClassSpec).preRow enc Tryz.prog Tryz.f10 Rows.pluralClassUptoRow.domain false Rows.pluralClassUptoRow.laid) (((Rows.OpenSpec.upto Rows.pluralClassSpec).at F).post enc Tryz.prog Tryz.f10 false true false false) := by
  obtain ⟨ds, places, hx, hb⟩ := reads os enc
  refine returnsInHanded_of_row (C := Tryz.checked) (s := Rows.OpenSpec.upto Rows.pluralClassSpec) own started noInit Tryz.func10
    (witness_row_atRef (enc := enc) (C := Tryz.checked) false (laidWorld os) wargs rfl (w1 os) (w2 os) (w3 os)
      (OpenSpec.preRow_of_cond 8 hx (by kernel_rfl) (fun k hk => by cases hk; exact hb) (by kernel_rfl) (laid_met os _))) ?_
  intro W base args ds gs before hval hW _ hcond _ _ _ _
  exact contract H enc W base args ds gs before hval hW (hcond _ rfl)
theorem said : Rows.PluralClassUptoSaid :=
  OpenClaim.holds_of_cond 10 Tryz.f10 rfl rfl rfl rfl rfl rfl rfl ⟨rfl, rfl, rfl, rfl, rfl⟩ rfl rfl rfl rfl rfl hfn Tryz.func10 closed hinst hwrap
    (fun os started H enc _ F => by rw [OpenClaim.pre_eq_preRow]; exact lifted os started H enc F)
theorem plain (f : FuncId) (fn : Func) (hf : Tryz.pinned.checked.prog.funcNamed "calque/calquelaw14.PluralClass" = some f) (hfn' : Tryz.pinned.checked.prog.funcs[f]? = some fn) :
    true = Tryz.pinned.checked.prog.looks [] ∧ ∀ (j : Nat) t, fn.params[j]? = some t → Tryz.pinned.checked.prog.wantsStandIn t = false := by
  obtain rfl : f = 10 := Option.some.inj ((show Tryz.prog.funcNamed "calque/calquelaw14.PluralClass" = some 10 from hfn).symm.trans hf) |>.symm
  obtain rfl : fn = Tryz.f10 := (Option.some.inj (Tryz.func10.symm.trans hfn')).symm
  refine ⟨prog.looks, fun j t ht => ?_⟩
  rw [Tryz.params10] at ht
  have hm := Array.mem_of_getElem? ht
  simp only [List.mem_toArray, List.mem_cons, List.mem_nil_iff, or_false] at hm
  rcases hm with rfl | rfl
  · exact (show Tryz.prog.wantsStandIn 22 = false by kernel_rfl)
  · exact (show Tryz.prog.wantsStandIn 9 = false by kernel_rfl)
/-- The card: plural.Valid and plural.Class answer as the reference does, where what comes in holds at most 1048576 values and letters. -/
theorem cardUpto : Rows.PluralClassUptoCardSaid :=
  Claim7.holds_tied_plain_at .later [] _ _ _ _ said (fun _ h => by cases h) wfT (fun _ h => by cases h) pluralClassUpto_row_tie rfl ⟨rfl, rfl⟩ prog.mainIs rfl plain goes
end pluralClass
end Go.Proofs.YtejdblkohdbhaaaGreatDoor
