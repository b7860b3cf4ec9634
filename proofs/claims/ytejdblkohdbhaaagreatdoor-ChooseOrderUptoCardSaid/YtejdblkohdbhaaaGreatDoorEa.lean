/-
  Part of a proof: contracts of functions in abstract values.
-/
import Derived.Test.YtejdblkohdbhaaaGreatDoorDd
import Derived.Lib.AtoiErrMem
set_option linter.unusedVariables false
set_option linter.unusedSimpArgs false
namespace Go.Proofs.Tryz
open Go Go.Abs Go.RowKit Go.Shelf
set_option linter.unusedSimpArgs false
set_option maxRecDepth 100000
set_option maxHeartbeats 2000000

/-! ### The library's functions, by the kit's contracts -/
theorem s252 (s : Str) : FSv prog 252 [.str s, .str [45]] (.tup [.str (body1 s), .bool (isNeg s)]) :=
  FSv_bridge0 (entr_of func252 (by decide) rfl) fun w M vals h1 h2 => by
    obtain ⟨v1, r, rfl, a1, h2⟩ := reps_cons h2
    obtain ⟨v2, r2, rfl, a2, h3⟩ := reps_cons h2
    obtain rfl := reps_nil h3
    simp only [Rep] at a1 a2; subst a1; subst a2
    have hc := Any.strings_CutPrefix Tryz.lays103 ⟨s.toArray⟩ ⟨#[45]⟩ w
    change Calls prog 252 _ _ _ at hc
    refine hc.mono fun e w' ⟨he, hw⟩ => ⟨_, he, by rw [hw]; exact Below.refl _ _, fun M' => ?_⟩
    have e1 : Lib.hasPrefix s [45] = isNeg s := by
      cases s with
      | nil => rfl
      | cons b s =>
        simp only [Lib.hasPrefix, List.isPrefixOf, isNeg, Bool.and_true]
        rw [Bool.beq_comm]
    have e2 : Lib.trimPrefix s [45] = body1 s := by
      simp only [Lib.trimPrefix, e1, body1, List.length_cons, List.length_nil]
    simp only [Rep, Reps]
    exact ⟨[.string ⟨(Lib.trimPrefix s [45]).toArray⟩, .bool (Lib.hasPrefix s [45])], rfl, _, _, rfl, by rw [e2], _, _, rfl, by rw [e1], rfl⟩

theorem s360 (s : Str) : FSv prog 360 [.str s, .str [46]] (.int .i64 (Lib.indexByte s 46)) :=
  FSv_bridge0 (entr_of func360 (by decide) rfl) fun w M vals h1 h2 => by
    obtain ⟨v1, r, rfl, a1, h2⟩ := reps_cons h2
    obtain ⟨v2, r2, rfl, a2, h3⟩ := reps_cons h2
    obtain rfl := reps_nil h3
    simp only [Rep] at a1 a2; subst a1; subst a2
    have hc := Any.stringslite_Index_one Tryz.lays219 ⟨s.toArray⟩ 46 w
    change Calls prog 360 _ _ _ at hc
    refine hc.mono fun e w' ⟨he, hw⟩ => ⟨_, he, by rw [hw]; exact Below.refl _ _, fun M' => ?_⟩
    simp only [Rep]

/-- All bytes of a set cut off at both ends. -/
def trimSet (cs s : Str) : Str := ((s.reverse.dropWhile (cs.contains ·)).reverse).dropWhile (cs.contains ·)
theorem s348 (s cs : Str) (hx : s.length < 1099511627776) (hc : cs.length < 100) (ha : cs.all (fun b => decide (b.toNat < 128)) = true) : FSv prog 348 [.str s, .str cs] (.str (trimSet cs s)) :=
  FSv_bridge0 (entr_of func348 (by decide) rfl) fun w M vals h1 h2 => by
    obtain ⟨v1, r, rfl, a1, h2⟩ := reps_cons h2
    obtain ⟨v2, r2, rfl, a2, h3⟩ := reps_cons h2
    obtain rfl := reps_nil h3
    simp only [Rep] at a1 a2; subst a1; subst a2
    have hcon := Any.strings_Trim_laid Tryz.lays160 (by kernel_rfl) ⟨s.toArray⟩ ⟨cs.toArray⟩ w (by rw [Lib.size_eq]; simp; omega) (by rw [Lib.size_eq]; simp; omega) (ascii_of_all ha)
    change Calls prog 348 _ _ _ at hcon
    refine hcon.mono fun e w' ⟨he, hw⟩ => ⟨_, he, hw, fun M' => ?_⟩
    simp only [Rep]
    rfl

theorem s315 (s : Str) (hx : s.length < 1099511627776) : FSv prog 315 [.str s, .str [48]] (.str (trimZ s)) :=
  FSv_bridge0 (entr_of func315 (by decide) rfl) fun w M vals h1 h2 => by
    obtain ⟨v1, r, rfl, a1, h2⟩ := reps_cons h2
    obtain ⟨v2, r2, rfl, a2, h3⟩ := reps_cons h2
    obtain rfl := reps_nil h3
    simp only [Rep] at a1 a2; subst a1; subst a2
    have hcon := Any.strings_TrimRight_one Tryz.lays162 ⟨s.toArray⟩ 48 (by decide) w (by rw [Lib.size_eq]; simp; omega)
    change Calls prog 315 _ _ _ at hcon
    refine hcon.mono fun e w' ⟨he, hw⟩ => ⟨_, he, by rw [hw]; exact Below.refl _ _, fun M' => ?_⟩
    simp only [Rep]
    rfl

theorem decFrom_val : ∀ (s : Str) (n : Nat), s.all dig = true → ∃ m : Nat, Lib.decFrom n s = some m ∧ (m : Int) = s.foldl (fun a b => 10 * a + ((b.toNat : Int) - 48)) (n : Int)
  | [], n, _ => ⟨n, rfl, rfl⟩
  | b :: s, n, h => by
    simp only [List.all_cons, Bool.and_eq_true] at h
    have hb : 48 ≤ b.toNat ∧ b.toNat ≤ 57 := by
      have := h.1
      simp only [dig, Bool.not_eq_true', Bool.or_eq_false_iff, decide_eq_false_iff_not] at this
      omega
    obtain ⟨m, h1, h2⟩ := decFrom_val s (n * 10 + (b.toNat - 48)) h.2
    refine ⟨m, by simp only [Lib.decFrom, Lib.digitVal, hb, and_self, if_true, h1], ?_⟩
    rw [h2, List.foldl_cons]
    congr 1
    omega
theorem s354 (s : Str) (hd : s.all dig = true) (hx : s.length ≤ 16) : FSv prog 354 [.str (48 :: s)] (.tup [.int .i64 (valS s), .unk]) :=
  FSv_bridge0 (entr_of func354 (by decide) rfl) fun w M vals h1 h2 => by
    obtain ⟨v1, r, rfl, a1, h2⟩ := reps_cons h2
    obtain rfl := reps_nil h2
    simp only [Rep] at a1; subst a1
    obtain ⟨m, e1, e2⟩ := decFrom_val (48 :: s) 0 (by simp only [List.all_cons, hd, Bool.and_true]; decide)
    have ha : Lib.atoi (48 :: s) = some (m : Int) := by
      simp only [Lib.atoi, Lib.decNat, List.isEmpty_cons, e1, Bool.false_eq_true, if_false]
      rfl
    have hv : (m : Int) = valS s := by
      rw [e2]; simp [valS]
    have hcon := Any.strconv_Atoi Tryz.lays172 ⟨(48 :: s).toArray⟩ m (by rw [Lib.size_eq]; simp; omega) ha w
    change Calls prog 354 _ _ _ at hcon
    refine hcon.mono fun e w' ⟨he, t, hw⟩ => ⟨_, he, by rw [hw]; exact Lib.bytesWorld_below _ _ _, fun M' => ?_⟩
    simp only [Rep, Reps]
    exact ⟨[.int .i64 m, .nilIface], rfl, _, _, rfl, by rw [hv], _, _, rfl, trivial, rfl⟩
end Go.Proofs.Tryz

namespace Go.Proofs.Tryz
open Go Go.Abs Go.RowKit Go.Shelf
set_option linter.unusedSimpArgs false
set_option maxRecDepth 100000
set_option maxHeartbeats 2000000

theorem wholeOf_cons (b : UInt8) (s : Str) : wholeOf (b :: s) = if b == 46 then [] else b :: wholeOf s := by
  by_cases h : b = 46
  · subst h; rfl
  · have h1 : (b == 46) = false := by simpa using h
    have h2 : (b != 46) = true := by simp [bne, h1]
    simp [wholeOf, List.takeWhile_cons, h1, h2]
theorem indexByte_whole : ∀ s : Str, Lib.indexByte s 46 = if (wholeOf s).length < s.length then ((wholeOf s).length : Int) else -1
  | [] => rfl
  | b :: s => by
    have ih := indexByte_whole s
    have hl : (wholeOf s).length ≤ s.length := by unfold wholeOf; exact (List.takeWhile_prefix (fun b : UInt8 => b != 46) (l := s)).length_le
    rw [wholeOf_cons]
    cases hb : b == 46 with
    | true => simp [Lib.indexByte, hb]
    | false =>
      simp only [Lib.indexByte, hb, Bool.false_eq_true, if_false, ih, List.length_cons, beq_iff_eq]
      by_cases h : (wholeOf s).length < s.length
      · rw [if_pos h, if_neg (by omega), if_pos (by omega)]; omega
      · rw [if_neg h, if_pos rfl, if_neg (by omega)]
theorem take_whole (s : Str) : s.take (wholeOf s).length = wholeOf s := by
  unfold wholeOf
  exact List.prefix_iff_eq_take.1 (List.takeWhile_prefix _) |>.symm

theorem s347 (s : Str) (hx : s.length < 4294967281) : FSv prog 347 [.str s, .str [46]] (.tup [.str (wholeOf s), .str (fracOf s), .bool (pointOf s)]) := by
  refine FSv_code T0_ok mo pl347 _ func347 (by decide) rfl _ rfl (by rfl) (by simp) _ rfl ?_
  simp only [f347]
  simp -dsimp only [eWC_skip, eWC_exit, eWC_ret, eWC_seq, eWC_block, eWC_cond, eWC_regF, eWC_regT, eWC_loop, eWOps_nil, eWOps_cons, eWOp_eq, eWPl_done, eWPl_z, eWPl_q, eWPl_a, eAW_eq, ↓AW, evalQ, guardG, SV.noU, SV.un, beq_iff_eq, quiet, evO, ofConst, St.put, SV.of, SV.no, binQ, unQ, arQ, loadQ, sliceQ, partsQ, fillAV, fillOk, isU8, byteOf, shapeOk, isAggD, isAggV, cell1, cellsOf, isSeq, pOk, capsOk, pureCall, pickB_or, pickB_and, belowV, belowL, elemsOf, Proms, Prom, svLe, tagLe, isLoad, lk, thenQ, blockQ, retV, retQ, resL, resQ, oneRes, if_false, if_true, reduceIte, forall_const, true_implies, false_implies, implies_true, Nat.reduceEqDiff, Nat.reduceAdd, Nat.reduceSub, Nat.reduceLT, Nat.reduceLeDiff, Nat.reduceMul, Nat.reduceBEq, Nat.reduceBNe, Int.reduceToNat, Int.reduceLT, Int.reduceLE, Int.reduceEq, Int.reduceNeg, Int.reduceAdd, Int.reduceSub, reduceCtorEq, List.filter_nil, List.filter_cons, List.find?_cons, List.find?_nil, ne_eq, beq_self_eq_true, eq_self, imp_self, wz, T0_3, T0_4, T0_5, T0_9, T0_22, T0_28, T0_30, T0_31, T0_32, T0_34, T0_35, T0_38, T0_44, T0_46, T0_47, T0_55, T0_64, T0_66, T0_107, T0_133, T0_137, T0_138, T0_140, T0_141, T0_307, S0]
  refine callG_v _ (s360 s) (by simp) (by simp [belowL, belowV]) (by simp [belowV]) ?_
  rw [indexByte_whole]
  by_cases h : (wholeOf s).length < s.length
  · rw [if_pos h]
    simp -dsimp only [eWC_skip, eWC_exit, eWC_ret, eWC_seq, eWC_block, eWC_cond, eWC_regF, eWC_regT, eWC_loop, eWOps_nil, eWOps_cons, eWOp_eq, eWPl_done, eWPl_z, eWPl_q, eWPl_a, eAW_eq, ↓AW, evalQ, guardG, SV.noU, SV.un, beq_iff_eq, quiet, evO, ofConst, St.put, SV.of, SV.no, binQ, unQ, arQ, loadQ, sliceQ, partsQ, fillAV, fillOk, isU8, byteOf, shapeOk, isAggD, isAggV, cell1, cellsOf, isSeq, pOk, capsOk, pureCall, pickB_or, pickB_and, belowV, belowL, elemsOf, Proms, Prom, svLe, tagLe, isLoad, lk, thenQ, blockQ, retV, retQ, resL, resQ, oneRes, if_false, if_true, reduceIte, forall_const, true_implies, false_implies, implies_true, Nat.reduceEqDiff, Nat.reduceAdd, Nat.reduceSub, Nat.reduceLT, Nat.reduceLeDiff, Nat.reduceMul, Nat.reduceBEq, Nat.reduceBNe, Int.reduceToNat, Int.reduceLT, Int.reduceLE, Int.reduceEq, Int.reduceNeg, Int.reduceAdd, Int.reduceSub, reduceCtorEq, List.filter_nil, List.filter_cons, List.find?_cons, List.find?_nil, ne_eq, beq_self_eq_true, eq_self, imp_self, wz, T0_3, T0_4, T0_5, T0_9, T0_22, T0_28, T0_30, T0_31, T0_32, T0_34, T0_35, T0_38, T0_44, T0_46, T0_47, T0_55, T0_64, T0_66, T0_107, T0_133, T0_137, T0_138, T0_140, T0_141, T0_307, pl347_3]
    refine ⟨fun _ => ⟨by omega, by unfold I64; omega, by omega, ?_⟩, fun h' => by omega⟩
    have e1 : s.take ((wholeOf s).length : Int).toNat = wholeOf s := by
      rw [Int.toNat_natCast]; exact take_whole s
    have e2 : (s.take ((s.length : Nat) : Int).toNat).drop (((wholeOf s).length : Int) + ((1 : Nat) : Int)).toNat = fracOf s := by
      rw [Int.toNat_natCast, List.take_length]; rfl
    have e3 : pointOf s = true := by simp [pointOf, h]
    rw [e1, e2, e3]
    simp [avLe, avsLe]
  · rw [if_neg h]
    simp -dsimp only [eWC_skip, eWC_exit, eWC_ret, eWC_seq, eWC_block, eWC_cond, eWC_regF, eWC_regT, eWC_loop, eWOps_nil, eWOps_cons, eWOp_eq, eWPl_done, eWPl_z, eWPl_q, eWPl_a, eAW_eq, ↓AW, evalQ, guardG, SV.noU, SV.un, beq_iff_eq, quiet, evO, ofConst, St.put, SV.of, SV.no, binQ, unQ, arQ, loadQ, sliceQ, partsQ, fillAV, fillOk, isU8, byteOf, shapeOk, isAggD, isAggV, cell1, cellsOf, isSeq, pOk, capsOk, pureCall, pickB_or, pickB_and, belowV, belowL, elemsOf, Proms, Prom, svLe, tagLe, isLoad, lk, thenQ, blockQ, retV, retQ, resL, resQ, oneRes, if_false, if_true, reduceIte, forall_const, true_implies, false_implies, implies_true, Nat.reduceEqDiff, Nat.reduceAdd, Nat.reduceSub, Nat.reduceLT, Nat.reduceLeDiff, Nat.reduceMul, Nat.reduceBEq, Nat.reduceBNe, Int.reduceToNat, Int.reduceLT, Int.reduceLE, Int.reduceEq, Int.reduceNeg, Int.reduceAdd, Int.reduceSub, reduceCtorEq, List.filter_nil, List.filter_cons, List.find?_cons, List.find?_nil, ne_eq, beq_self_eq_true, eq_self, imp_self, wz, T0_3, T0_4, T0_5, T0_9, T0_22, T0_28, T0_30, T0_31, T0_32, T0_34, T0_35, T0_38, T0_44, T0_46, T0_47, T0_55, T0_64, T0_66, T0_107, T0_133, T0_137, T0_138, T0_140, T0_141, T0_307, pl347_3]
    have hl : (wholeOf s).length ≤ s.length := by unfold wholeOf; exact (List.takeWhile_prefix (fun b : UInt8 => b != 46) (l := s)).length_le
    have e1 : wholeOf s = s := by
      have := take_whole s
      rw [List.take_of_length_le (by omega)] at this
      exact this.symm
    have e2 : fracOf s = [] := by unfold fracOf; rw [e1]; simp
    have e3 : pointOf s = false := by simp [pointOf]; omega
    rw [e2, e3, e1]
    simp [avLe, avsLe]

theorem s312 (s : Str) (hx : s.length < 4294967281) : FSv prog 312 [.str s, .str [46]] (.tup [.str (wholeOf s), .str (fracOf s), .bool (pointOf s)]) := by
  refine FSv_code T0_ok mo pl0 _ func312 (by decide) rfl _ rfl (by rfl) (by simp) _ rfl ?_
  simp only [f312]
  simp -dsimp only [eWC_skip, eWC_exit, eWC_ret, eWC_seq, eWC_block, eWC_cond, eWC_regF, eWC_regT, eWC_loop, eWOps_nil, eWOps_cons, eWOp_eq, eWPl_done, eWPl_z, eWPl_q, eWPl_a, eAW_eq, ↓AW, evalQ, guardG, SV.noU, SV.un, beq_iff_eq, quiet, evO, ofConst, St.put, SV.of, SV.no, binQ, unQ, arQ, loadQ, sliceQ, partsQ, fillAV, fillOk, isU8, byteOf, shapeOk, isAggD, isAggV, cell1, cellsOf, isSeq, pOk, capsOk, pureCall, pickB_or, pickB_and, belowV, belowL, elemsOf, Proms, Prom, svLe, tagLe, isLoad, lk, thenQ, blockQ, retV, retQ, resL, resQ, oneRes, if_false, if_true, reduceIte, forall_const, true_implies, false_implies, implies_true, Nat.reduceEqDiff, Nat.reduceAdd, Nat.reduceSub, Nat.reduceLT, Nat.reduceLeDiff, Nat.reduceMul, Nat.reduceBEq, Nat.reduceBNe, Int.reduceToNat, Int.reduceLT, Int.reduceLE, Int.reduceEq, Int.reduceNeg, Int.reduceAdd, Int.reduceSub, reduceCtorEq, List.filter_nil, List.filter_cons, List.find?_cons, List.find?_nil, ne_eq, beq_self_eq_true, eq_self, imp_self, wz, T0_3, T0_4, T0_5, T0_9, T0_22, T0_28, T0_30, T0_31, T0_32, T0_34, T0_35, T0_38, T0_44, T0_46, T0_47, T0_55, T0_64, T0_66, T0_107, T0_133, T0_137, T0_138, T0_140, T0_141, T0_307, S0]
  refine callG_v _ (s347 s hx) (by simp) (by simp [belowL, belowV]) (by simp [belowV, belowL]) ?_
  simp -dsimp only [eWC_skip, eWC_exit, eWC_ret, eWC_seq, eWC_block, eWC_cond, eWC_regF, eWC_regT, eWC_loop, eWOps_nil, eWOps_cons, eWOp_eq, eWPl_done, eWPl_z, eWPl_q, eWPl_a, eAW_eq, ↓AW, evalQ, guardG, SV.noU, SV.un, beq_iff_eq, quiet, evO, ofConst, St.put, SV.of, SV.no, binQ, unQ, arQ, loadQ, sliceQ, partsQ, fillAV, fillOk, isU8, byteOf, shapeOk, isAggD, isAggV, cell1, cellsOf, isSeq, pOk, capsOk, pureCall, pickB_or, pickB_and, belowV, belowL, elemsOf, Proms, Prom, svLe, tagLe, isLoad, lk, thenQ, blockQ, retV, retQ, resL, resQ, oneRes, if_false, if_true, reduceIte, forall_const, true_implies, false_implies, implies_true, Nat.reduceEqDiff, Nat.reduceAdd, Nat.reduceSub, Nat.reduceLT, Nat.reduceLeDiff, Nat.reduceMul, Nat.reduceBEq, Nat.reduceBNe, Int.reduceToNat, Int.reduceLT, Int.reduceLE, Int.reduceEq, Int.reduceNeg, Int.reduceAdd, Int.reduceSub, reduceCtorEq, List.filter_nil, List.filter_cons, List.find?_cons, List.find?_nil, ne_eq, beq_self_eq_true, eq_self, imp_self, wz, T0_3, T0_4, T0_5, T0_9, T0_22, T0_28, T0_30, T0_31, T0_32, T0_34, T0_35, T0_38, T0_44, T0_46, T0_47, T0_55, T0_64, T0_66, T0_107, T0_133, T0_137, T0_138, T0_140, T0_141, T0_307]
  simp [avLe, avsLe]

theorem s169 (l : List Str) (hx : l.length < 1099511627776) : FSv prog 169 [strs l] (strs l) :=
  FSv_bridge (entr_of func169 (by decide) rfl) fun w M vals h1 h2 => by
    obtain ⟨v1, r, rfl, a1, h2⟩ := reps_cons h2
    obtain rfl := reps_nil h2
    simp only [strs, Rep] at a1
    obtain ⟨a, c, rfl, hc, ha⟩ := a1
    have nilRep : ∀ (M' : Snap) (a : Option Addr) (c : Nat), l = [] → Rep M' [] (strs l) (.slice a 0 c) := fun M' a c hl => by
      subst hl
      simp only [strs, List.map_nil, Rep, List.length_nil]
      exact ⟨a, c, rfl, Nat.zero_le _, fun h => absurd rfl h⟩
    by_cases hl : l = []
    · have hlen : (l.map AV.str).length = 0 := by simp [hl]
      rw [hlen]
      cases a with
      | none =>
        have hcon := Any.slices_Clone_string_nil Tryz.lays16 0 c w
        change Calls prog 169 _ _ _ at hcon
        exact hcon.mono fun e w' ⟨he, hw⟩ => ⟨_, he, by rw [hw]; exact Below.refl _ _, nilRep _ _ _ hl⟩
      | some a =>
        have hcon := Any.slices_Clone_string_zero Tryz.lays16 a c w
        change Calls prog 169 _ _ _ at hcon
        refine hcon.mono fun e w' ⟨v', he, hown, _, hB⟩ => ⟨v', he, hB, ?_⟩
        obtain ⟨_, h | ⟨g, cap, cur, h, _⟩⟩ := hown
        · rw [h.1]; exact nilRep _ _ _ hl
        · rw [h]; exact nilRep _ _ _ hl
    · obtain ⟨b, o, rfl, hrow⟩ := ha (by simpa using hl)
      have hlen : (l.map AV.str).length = l.length := by simp
      rw [hlen] at hc ⊢
      have hcell : ∀ j, j < (l.map fun s : Str => (⟨s.toArray⟩ : ByteArray)).length → w.cell? ⟨b, o + j, none⟩ = some (.string ((l.map fun s : Str => (⟨s.toArray⟩ : ByteArray)).getD j ByteArray.empty)) := fun j hj => by
        have hj' : j < l.length := by simpa using hj
        obtain ⟨_, q2⟩ := Row_get hrow j (by simpa using hj')
        simp only [List.getElem_map, cellsOf, Cells, Rep, Nat.mul_one] at q2
        obtain ⟨⟨v, q3, _, rfl⟩, _⟩ := q2
        rw [h1 _ _ _ q3]
        simp [List.getD, hj']
      have hcon := Any.slices_Clone_string Tryz.lays16 b o l.length c (l.map fun s : Str => (⟨s.toArray⟩ : ByteArray)) w (by simp) (by omega) hcell
      change Calls prog 169 _ _ _ at hcon
      refine hcon.mono fun e w' ⟨v', he, hown, _, hB⟩ => ⟨v', he, hB, ?_⟩
      obtain ⟨_, h | ⟨g, cap, cur, rfl, hg, hheap, hcap, _, _, htake⟩⟩ := hown
      · exact absurd (List.length_eq_zero_iff.1 h.2) hl
      · simp only [strs, Rep]
        refine ⟨_, cap, by rw [hlen], by rw [hlen]; exact hcap, fun _ => ⟨g, 0, rfl, Row_ofC _ _ fun i hi => ?_⟩⟩
        have hi' : i < l.length := by simpa using hi
        simp only [List.getElem_map, cellsOf, Cells, List.length_cons, List.length_nil, Rep, Nat.zero_add, Nat.mul_one, and_true, true_and]
        refine ⟨.string ⟨l[i].toArray⟩, ?_, rfl, rfl⟩
        have hgn : ¬ g < w.heap.size := by omega
        simp only [Snap.new, hgn, if_false]
        have hcur : cur[i]? = some (.string ⟨l[i].toArray⟩) := by
          have e1 : (cur.toList.take (l.length * 1))[i]? = cur[i]? := by
            rw [List.getElem?_take, if_pos (by omega)]; simp
          rw [← e1, htake]
          simp [hi']
        simp only [World.cell?, hheap]
        simpa using hcur
end Go.Proofs.Tryz

namespace Go.Proofs.Tryz
open Go Go.Abs
set_option linter.unusedSimpArgs false
set_option maxRecDepth 100000
set_option maxHeartbeats 2000000

theorem dropWhile_nil {p : UInt8 → Bool} {s : Str} : s.dropWhile p = [] ↔ s.all p = true := by
  induction s with
  | nil => simp
  | cons a s ih => by_cases h : p a = true <;> simp [List.dropWhile_cons, h, ih]
theorem all_dropWhile (p : UInt8 → Bool) (s : Str) : (s.dropWhile p).all p = s.all p := by
  conv => rhs; rw [← List.takeWhile_append_dropWhile (p := p) (l := s), List.all_append, List.all_takeWhile, Bool.true_and]
theorem trimSet_nil (cs s : Str) : (trimSet cs s == []) = s.all (cs.contains ·) := by
  rw [Bool.eq_iff_iff]
  simp only [beq_iff_eq, trimSet, dropWhile_nil, List.all_reverse, all_dropWhile]
def digs : Str := [48, 49, 50, 51, 52, 53, 54, 55, 56, 57]
theorem byte_all {p : UInt8 → Prop} (h : ∀ n : Fin 256, p (UInt8.ofNat n.val)) (b : UInt8) : p b := by
  have := h ⟨b.toNat, b.toNat_lt⟩
  simpa using this
theorem digs_dig (b : UInt8) : digs.contains b = dig b := byte_all (p := fun b => digs.contains b = dig b) (by decide) b
theorem zer_eq (b : UInt8) : [(48 : UInt8)].contains b = zer b := byte_all (p := fun b => [(48 : UInt8)].contains b = zer b) (by decide) b

theorem s313 (s : Str) (hx : s.length < 1099511627776) : FSv prog 313 [.str s] (.bool (s.all dig)) := by
  refine FSv_code T0_ok mo pl0 _ func313 (by decide) rfl _ rfl (by rfl) (by simp) _ rfl ?_
  simp only [f313]
  simp -dsimp only [eWC_skip, eWC_exit, eWC_ret, eWC_seq, eWC_block, eWC_cond, eWC_regF, eWC_regT, eWC_loop, eWOps_nil, eWOps_cons, eWOp_eq, eWPl_done, eWPl_z, eWPl_q, eWPl_a, eAW_eq, ↓AW, evalQ, guardG, SV.noU, SV.un, beq_iff_eq, quiet, evO, ofConst, St.put, SV.of, SV.no, binQ, unQ, arQ, loadQ, sliceQ, partsQ, fillAV, fillOk, isU8, byteOf, shapeOk, isAggD, isAggV, cell1, cellsOf, isSeq, pOk, capsOk, pureCall, pickB_or, pickB_and, belowV, belowL, elemsOf, Proms, Prom, svLe, tagLe, isLoad, lk, thenQ, blockQ, retV, retQ, resL, resQ, oneRes, if_false, if_true, reduceIte, forall_const, true_implies, false_implies, implies_true, Nat.reduceEqDiff, Nat.reduceAdd, Nat.reduceSub, Nat.reduceLT, Nat.reduceLeDiff, Nat.reduceMul, Nat.reduceBEq, Nat.reduceBNe, Int.reduceToNat, Int.reduceLT, Int.reduceLE, Int.reduceEq, Int.reduceNeg, Int.reduceAdd, Int.reduceSub, reduceCtorEq, List.filter_nil, List.filter_cons, List.find?_cons, List.find?_nil, ne_eq, beq_self_eq_true, eq_self, imp_self, wz, T0_3, T0_4, T0_5, T0_9, T0_22, T0_28, T0_30, T0_31, T0_32, T0_34, T0_35, T0_38, T0_44, T0_46, T0_47, T0_55, T0_64, T0_66, T0_107, T0_133, T0_137, T0_138, T0_140, T0_141, T0_307, S0]
  refine callG_v _ (s348 s digs hx (by decide) (by decide)) (by simp [digs]) (by simp [belowL, belowV]) (by simp [belowV]) ?_
  simp -dsimp only [eWC_skip, eWC_exit, eWC_ret, eWC_seq, eWC_block, eWC_cond, eWC_regF, eWC_regT, eWC_loop, eWOps_nil, eWOps_cons, eWOp_eq, eWPl_done, eWPl_z, eWPl_q, eWPl_a, eAW_eq, ↓AW, evalQ, guardG, SV.noU, SV.un, beq_iff_eq, quiet, evO, ofConst, St.put, SV.of, SV.no, binQ, unQ, arQ, loadQ, sliceQ, partsQ, fillAV, fillOk, isU8, byteOf, shapeOk, isAggD, isAggV, cell1, cellsOf, isSeq, pOk, capsOk, pureCall, pickB_or, pickB_and, belowV, belowL, elemsOf, Proms, Prom, svLe, tagLe, isLoad, lk, thenQ, blockQ, retV, retQ, resL, resQ, oneRes, if_false, if_true, reduceIte, forall_const, true_implies, false_implies, implies_true, Nat.reduceEqDiff, Nat.reduceAdd, Nat.reduceSub, Nat.reduceLT, Nat.reduceLeDiff, Nat.reduceMul, Nat.reduceBEq, Nat.reduceBNe, Int.reduceToNat, Int.reduceLT, Int.reduceLE, Int.reduceEq, Int.reduceNeg, Int.reduceAdd, Int.reduceSub, reduceCtorEq, List.filter_nil, List.filter_cons, List.find?_cons, List.find?_nil, ne_eq, beq_self_eq_true, eq_self, imp_self, wz, T0_3, T0_4, T0_5, T0_9, T0_22, T0_28, T0_30, T0_31, T0_32, T0_34, T0_35, T0_38, T0_44, T0_46, T0_47, T0_55, T0_64, T0_66, T0_107, T0_133, T0_137, T0_138, T0_140, T0_141, T0_307]
  have : (trimSet digs s == []) = s.all dig := by rw [trimSet_nil]; congr 1; funext b; exact digs_dig b
  simp [avLe, this]
theorem s349 (s : Str) (hx : s.length < 1099511627776) : FSv prog 349 [.str s] (.bool (s.all zer)) := by
  refine FSv_code T0_ok mo pl0 _ func349 (by decide) rfl _ rfl (by rfl) (by simp) _ rfl ?_
  simp only [f349]
  simp -dsimp only [eWC_skip, eWC_exit, eWC_ret, eWC_seq, eWC_block, eWC_cond, eWC_regF, eWC_regT, eWC_loop, eWOps_nil, eWOps_cons, eWOp_eq, eWPl_done, eWPl_z, eWPl_q, eWPl_a, eAW_eq, ↓AW, evalQ, guardG, SV.noU, SV.un, beq_iff_eq, quiet, evO, ofConst, St.put, SV.of, SV.no, binQ, unQ, arQ, loadQ, sliceQ, partsQ, fillAV, fillOk, isU8, byteOf, shapeOk, isAggD, isAggV, cell1, cellsOf, isSeq, pOk, capsOk, pureCall, pickB_or, pickB_and, belowV, belowL, elemsOf, Proms, Prom, svLe, tagLe, isLoad, lk, thenQ, blockQ, retV, retQ, resL, resQ, oneRes, if_false, if_true, reduceIte, forall_const, true_implies, false_implies, implies_true, Nat.reduceEqDiff, Nat.reduceAdd, Nat.reduceSub, Nat.reduceLT, Nat.reduceLeDiff, Nat.reduceMul, Nat.reduceBEq, Nat.reduceBNe, Int.reduceToNat, Int.reduceLT, Int.reduceLE, Int.reduceEq, Int.reduceNeg, Int.reduceAdd, Int.reduceSub, reduceCtorEq, List.filter_nil, List.filter_cons, List.find?_cons, List.find?_nil, ne_eq, beq_self_eq_true, eq_self, imp_self, wz, T0_3, T0_4, T0_5, T0_9, T0_22, T0_28, T0_30, T0_31, T0_32, T0_34, T0_35, T0_38, T0_44, T0_46, T0_47, T0_55, T0_64, T0_66, T0_107, T0_133, T0_137, T0_138, T0_140, T0_141, T0_307, S0]
  refine callG_v _ (s348 s [48] hx (by decide) (by decide)) (by simp) (by simp [belowL, belowV]) (by simp [belowV]) ?_
  simp -dsimp only [eWC_skip, eWC_exit, eWC_ret, eWC_seq, eWC_block, eWC_cond, eWC_regF, eWC_regT, eWC_loop, eWOps_nil, eWOps_cons, eWOp_eq, eWPl_done, eWPl_z, eWPl_q, eWPl_a, eAW_eq, ↓AW, evalQ, guardG, SV.noU, SV.un, beq_iff_eq, quiet, evO, ofConst, St.put, SV.of, SV.no, binQ, unQ, arQ, loadQ, sliceQ, partsQ, fillAV, fillOk, isU8, byteOf, shapeOk, isAggD, isAggV, cell1, cellsOf, isSeq, pOk, capsOk, pureCall, pickB_or, pickB_and, belowV, belowL, elemsOf, Proms, Prom, svLe, tagLe, isLoad, lk, thenQ, blockQ, retV, retQ, resL, resQ, oneRes, if_false, if_true, reduceIte, forall_const, true_implies, false_implies, implies_true, Nat.reduceEqDiff, Nat.reduceAdd, Nat.reduceSub, Nat.reduceLT, Nat.reduceLeDiff, Nat.reduceMul, Nat.reduceBEq, Nat.reduceBNe, Int.reduceToNat, Int.reduceLT, Int.reduceLE, Int.reduceEq, Int.reduceNeg, Int.reduceAdd, Int.reduceSub, reduceCtorEq, List.filter_nil, List.filter_cons, List.find?_cons, List.find?_nil, ne_eq, beq_self_eq_true, eq_self, imp_self, wz, T0_3, T0_4, T0_5, T0_9, T0_22, T0_28, T0_30, T0_31, T0_32, T0_34, T0_35, T0_38, T0_44, T0_46, T0_47, T0_55, T0_64, T0_66, T0_107, T0_133, T0_137, T0_138, T0_140, T0_141, T0_307]
  have : (trimSet [48] s == []) = s.all zer := by rw [trimSet_nil]; congr 1; funext b; exact zer_eq b
  simp [avLe, this]

theorem s314 (x : Num) (hw : x.whole.length < 1099511627776) (hf : x.frac.length < 1099511627776) : FSv prog 314 [x.av] (.bool (x.whole.all zer && x.frac.all zer)) := by
  refine FSv_code T0_ok mo pl0 _ func314 (by decide) rfl _ rfl (by rfl) (by simp) _ rfl ?_
  simp only [f314]
  simp -dsimp only [eWC_skip, eWC_exit, eWC_ret, eWC_seq, eWC_block, eWC_cond, eWC_regF, eWC_regT, eWC_loop, eWOps_nil, eWOps_cons, eWOp_eq, eWPl_done, eWPl_z, eWPl_q, eWPl_a, eAW_eq, ↓AW, evalQ, guardG, SV.noU, SV.un, beq_iff_eq, quiet, evO, ofConst, St.put, SV.of, SV.no, binQ, unQ, arQ, loadQ, sliceQ, partsQ, fillAV, fillOk, isU8, byteOf, shapeOk, isAggD, isAggV, cell1, cellsOf, isSeq, pOk, capsOk, pureCall, pickB_or, pickB_and, belowV, belowL, elemsOf, Proms, Prom, svLe, tagLe, isLoad, lk, thenQ, blockQ, retV, retQ, resL, resQ, oneRes, if_false, if_true, reduceIte, forall_const, true_implies, false_implies, implies_true, Nat.reduceEqDiff, Nat.reduceAdd, Nat.reduceSub, Nat.reduceLT, Nat.reduceLeDiff, Nat.reduceMul, Nat.reduceBEq, Nat.reduceBNe, Int.reduceToNat, Int.reduceLT, Int.reduceLE, Int.reduceEq, Int.reduceNeg, Int.reduceAdd, Int.reduceSub, reduceCtorEq, List.filter_nil, List.filter_cons, List.find?_cons, List.find?_nil, ne_eq, beq_self_eq_true, eq_self, imp_self, wz, T0_3, T0_4, T0_5, T0_9, T0_22, T0_28, T0_30, T0_31, T0_32, T0_34, T0_35, T0_38, T0_44, T0_46, T0_47, T0_55, T0_64, T0_66, T0_107, T0_133, T0_137, T0_138, T0_140, T0_141, T0_307, S0, Num.av]
  refine callG_v _ (s349 _ hw) (by simp) (by simp [belowL, belowV]) (by simp [belowV]) ?_
  simp -dsimp only [eWC_skip, eWC_exit, eWC_ret, eWC_seq, eWC_block, eWC_cond, eWC_regF, eWC_regT, eWC_loop, eWOps_nil, eWOps_cons, eWOp_eq, eWPl_done, eWPl_z, eWPl_q, eWPl_a, eAW_eq, ↓AW, evalQ, guardG, SV.noU, SV.un, beq_iff_eq, quiet, evO, ofConst, St.put, SV.of, SV.no, binQ, unQ, arQ, loadQ, sliceQ, partsQ, fillAV, fillOk, isU8, byteOf, shapeOk, isAggD, isAggV, cell1, cellsOf, isSeq, pOk, capsOk, pureCall, pickB_or, pickB_and, belowV, belowL, elemsOf, Proms, Prom, svLe, tagLe, isLoad, lk, thenQ, blockQ, retV, retQ, resL, resQ, oneRes, if_false, if_true, reduceIte, forall_const, true_implies, false_implies, implies_true, Nat.reduceEqDiff, Nat.reduceAdd, Nat.reduceSub, Nat.reduceLT, Nat.reduceLeDiff, Nat.reduceMul, Nat.reduceBEq, Nat.reduceBNe, Int.reduceToNat, Int.reduceLT, Int.reduceLE, Int.reduceEq, Int.reduceNeg, Int.reduceAdd, Int.reduceSub, reduceCtorEq, List.filter_nil, List.filter_cons, List.find?_cons, List.find?_nil, ne_eq, beq_self_eq_true, eq_self, imp_self, wz, T0_3, T0_4, T0_5, T0_9, T0_22, T0_28, T0_30, T0_31, T0_32, T0_34, T0_35, T0_38, T0_44, T0_46, T0_47, T0_55, T0_64, T0_66, T0_107, T0_133, T0_137, T0_138, T0_140, T0_141, T0_307]
  refine eGA_v (.bool (x.frac.all zer)) (fun h => ?_) ?_
  · simp -dsimp only [eWC_skip, eWC_exit, eWC_ret, eWC_seq, eWC_block, eWC_cond, eWC_regF, eWC_regT, eWC_loop, eWOps_nil, eWOps_cons, eWOp_eq, eWPl_done, eWPl_z, eWPl_q, eWPl_a, eAW_eq, ↓AW, evalQ, guardG, SV.noU, SV.un, beq_iff_eq, quiet, evO, ofConst, St.put, SV.of, SV.no, binQ, unQ, arQ, loadQ, sliceQ, partsQ, fillAV, fillOk, isU8, byteOf, shapeOk, isAggD, isAggV, cell1, cellsOf, isSeq, pOk, capsOk, pureCall, pickB_or, pickB_and, belowV, belowL, elemsOf, Proms, Prom, svLe, tagLe, isLoad, lk, thenQ, blockQ, retV, retQ, resL, resQ, oneRes, if_false, if_true, reduceIte, forall_const, true_implies, false_implies, implies_true, Nat.reduceEqDiff, Nat.reduceAdd, Nat.reduceSub, Nat.reduceLT, Nat.reduceLeDiff, Nat.reduceMul, Nat.reduceBEq, Nat.reduceBNe, Int.reduceToNat, Int.reduceLT, Int.reduceLE, Int.reduceEq, Int.reduceNeg, Int.reduceAdd, Int.reduceSub, reduceCtorEq, List.filter_nil, List.filter_cons, List.find?_cons, List.find?_nil, ne_eq, beq_self_eq_true, eq_self, imp_self, wz, T0_3, T0_4, T0_5, T0_9, T0_22, T0_28, T0_30, T0_31, T0_32, T0_34, T0_35, T0_38, T0_44, T0_46, T0_47, T0_55, T0_64, T0_66, T0_107, T0_133, T0_137, T0_138, T0_140, T0_141, T0_307]
    exact ⟨by simpa using h, s349 _ hf⟩
  simp -dsimp only [eWC_skip, eWC_exit, eWC_ret, eWC_seq, eWC_block, eWC_cond, eWC_regF, eWC_regT, eWC_loop, eWOps_nil, eWOps_cons, eWOp_eq, eWPl_done, eWPl_z, eWPl_q, eWPl_a, eAW_eq, ↓AW, evalQ, guardG, SV.noU, SV.un, beq_iff_eq, quiet, evO, ofConst, St.put, SV.of, SV.no, binQ, unQ, arQ, loadQ, sliceQ, partsQ, fillAV, fillOk, isU8, byteOf, shapeOk, isAggD, isAggV, cell1, cellsOf, isSeq, pOk, capsOk, pureCall, pickB_or, pickB_and, belowV, belowL, elemsOf, Proms, Prom, svLe, tagLe, isLoad, lk, thenQ, blockQ, retV, retQ, resL, resQ, oneRes, if_false, if_true, reduceIte, forall_const, true_implies, false_implies, implies_true, Nat.reduceEqDiff, Nat.reduceAdd, Nat.reduceSub, Nat.reduceLT, Nat.reduceLeDiff, Nat.reduceMul, Nat.reduceBEq, Nat.reduceBNe, Int.reduceToNat, Int.reduceLT, Int.reduceLE, Int.reduceEq, Int.reduceNeg, Int.reduceAdd, Int.reduceSub, reduceCtorEq, List.filter_nil, List.filter_cons, List.find?_cons, List.find?_nil, ne_eq, beq_self_eq_true, eq_self, imp_self, wz, T0_3, T0_4, T0_5, T0_9, T0_22, T0_28, T0_30, T0_31, T0_32, T0_34, T0_35, T0_38, T0_44, T0_46, T0_47, T0_55, T0_64, T0_66, T0_107, T0_133, T0_137, T0_138, T0_140, T0_141, T0_307]
  simp [avLe]
end Go.Proofs.Tryz

namespace Go.Proofs.Tryz
open Go Go.Abs
set_option linter.unusedSimpArgs false
set_option maxRecDepth 100000
set_option maxHeartbeats 2000000

theorem body1_len (s : Str) : (body1 s).length ≤ s.length := by unfold body1; split <;> simp
theorem wholeOf_len (s : Str) : (wholeOf s).length ≤ s.length := by
  unfold wholeOf; exact (List.takeWhile_prefix (fun b : UInt8 => b != 46) (l := s)).length_le
theorem fracOf_len (s : Str) : (fracOf s).length ≤ s.length := by unfold fracOf; simp
theorem numOf_len (s : Str) : (numOf s).whole.length ≤ s.length ∧ (numOf s).frac.length ≤ s.length := by
  have h1 := body1_len s
  have h2 := wholeOf_len (body1 s)
  have h3 := fracOf_len (body1 s)
  simp only [numOf]
  omega

theorem decOk_eq (s : Str) (N : Num) (hN : numOf s = N) : decOk s = (!(decide ((N.whole.length : Int) < 1) || decide (15 < (N.whole.length : Int)) || !N.whole.all dig || decide (1 < (N.whole.length : Int)) && decide (((N.whole.getD 0 0).toNat : Int) = 48)) &&
    !(pointOf (body1 s) && decide ((N.frac.length : Int) = 0) || decide (6 < (N.frac.length : Int)) || !N.frac.all dig) && (!isNeg s || !(N.whole.all zer && N.frac.all zer))) := by
  have h1 : N.neg = isNeg s := by rw [← hN]; rfl
  have h2 : fracOf (body1 s) = N.frac := by rw [← hN]; rfl
  have h3 : N.frac.isEmpty = decide ((N.frac.length : Int) = 0) := by
    cases N.frac <;> simp
    omega
  simp only [decOk, numOk, hN, h1, h2, h3, List.all_append]
  cases N.whole.all dig <;> cases N.frac.all dig <;> cases N.whole.all zer <;> cases N.frac.all zer <;> cases isNeg s <;> cases pointOf (body1 s) <;> cases decide ((N.whole.length : Int) < 1) <;> cases decide (15 < (N.whole.length : Int)) <;>
    cases (decide (1 < (N.whole.length : Int)) && decide (((N.whole.getD 0 0).toNat : Int) = 48)) <;> cases decide ((N.frac.length : Int) = 0) <;> cases decide (6 < (N.frac.length : Int)) <;> rfl

theorem s260 (s : Str) (hx : s.length < 4294967281) : FSv prog 260 [.str s] (.tup [(numOf s).av, .bool (decOk s)]) := by
  refine FSv_code T0_ok mo pl260 _ func260 (by decide) rfl _ rfl (by rfl) (by simp) _ rfl ?_
  simp only [f260]
  simp -dsimp only [eWC_skip, eWC_exit, eWC_ret, eWC_seq, eWC_block, eWC_cond, eWC_regF, eWC_regT, eWC_loop, eWOps_nil, eWOps_cons, eWOp_eq, eWPl_done, eWPl_z, eWPl_q, eWPl_a, eAW_eq, ↓AW, evalQ, guardG, SV.noU, SV.un, beq_iff_eq, quiet, evO, ofConst, St.put, SV.of, SV.no, binQ, unQ, arQ, loadQ, sliceQ, partsQ, fillAV, fillOk, isU8, byteOf, shapeOk, isAggD, isAggV, cell1, cellsOf, isSeq, pOk, capsOk, pureCall, pickB_or, pickB_and, belowV, belowL, elemsOf, Proms, Prom, svLe, tagLe, isLoad, lk, thenQ, blockQ, retV, retQ, resL, resQ, oneRes, if_false, if_true, reduceIte, forall_const, true_implies, false_implies, implies_true, Nat.reduceEqDiff, Nat.reduceAdd, Nat.reduceSub, Nat.reduceLT, Nat.reduceLeDiff, Nat.reduceMul, Nat.reduceBEq, Nat.reduceBNe, Int.reduceToNat, Int.reduceLT, Int.reduceLE, Int.reduceEq, Int.reduceNeg, Int.reduceAdd, Int.reduceSub, reduceCtorEq, List.filter_nil, List.filter_cons, List.find?_cons, List.find?_nil, ne_eq, beq_self_eq_true, eq_self, imp_self, wz, T0_3, T0_4, T0_5, T0_9, T0_22, T0_28, T0_30, T0_31, T0_32, T0_34, T0_35, T0_38, T0_44, T0_46, T0_47, T0_55, T0_64, T0_66, T0_107, T0_133, T0_137, T0_138, T0_140, T0_141, T0_307, S0]
  refine callG_v _ (s252 s) (by simp) (by simp [belowL, belowV]) (by simp [belowV, belowL]) ?_
  simp -dsimp only [eWC_skip, eWC_exit, eWC_ret, eWC_seq, eWC_block, eWC_cond, eWC_regF, eWC_regT, eWC_loop, eWOps_nil, eWOps_cons, eWOp_eq, eWPl_done, eWPl_z, eWPl_q, eWPl_a, eAW_eq, ↓AW, evalQ, guardG, SV.noU, SV.un, beq_iff_eq, quiet, evO, ofConst, St.put, SV.of, SV.no, binQ, unQ, arQ, loadQ, sliceQ, partsQ, fillAV, fillOk, isU8, byteOf, shapeOk, isAggD, isAggV, cell1, cellsOf, isSeq, pOk, capsOk, pureCall, pickB_or, pickB_and, belowV, belowL, elemsOf, Proms, Prom, svLe, tagLe, isLoad, lk, thenQ, blockQ, retV, retQ, resL, resQ, oneRes, if_false, if_true, reduceIte, forall_const, true_implies, false_implies, implies_true, Nat.reduceEqDiff, Nat.reduceAdd, Nat.reduceSub, Nat.reduceLT, Nat.reduceLeDiff, Nat.reduceMul, Nat.reduceBEq, Nat.reduceBNe, Int.reduceToNat, Int.reduceLT, Int.reduceLE, Int.reduceEq, Int.reduceNeg, Int.reduceAdd, Int.reduceSub, reduceCtorEq, List.filter_nil, List.filter_cons, List.find?_cons, List.find?_nil, ne_eq, beq_self_eq_true, eq_self, imp_self, wz, T0_3, T0_4, T0_5, T0_9, T0_22, T0_28, T0_30, T0_31, T0_32, T0_34, T0_35, T0_38, T0_44, T0_46, T0_47, T0_55, T0_64, T0_66, T0_107, T0_133, T0_137, T0_138, T0_140, T0_141, T0_307]
  have hb := body1_len s
  refine callG_v _ (s312 (body1 s) (by omega)) (by simp) (by simp [belowL, belowV]) (by simp [belowV, belowL]) ?_
  simp -dsimp only [eWC_skip, eWC_exit, eWC_ret, eWC_seq, eWC_block, eWC_cond, eWC_regF, eWC_regT, eWC_loop, eWOps_nil, eWOps_cons, eWOp_eq, eWPl_done, eWPl_z, eWPl_q, eWPl_a, eAW_eq, ↓AW, evalQ, guardG, SV.noU, SV.un, beq_iff_eq, quiet, evO, ofConst, St.put, SV.of, SV.no, binQ, unQ, arQ, loadQ, sliceQ, partsQ, fillAV, fillOk, isU8, byteOf, shapeOk, isAggD, isAggV, cell1, cellsOf, isSeq, pOk, capsOk, pureCall, pickB_or, pickB_and, belowV, belowL, elemsOf, Proms, Prom, svLe, tagLe, isLoad, lk, thenQ, blockQ, retV, retQ, resL, resQ, oneRes, if_false, if_true, reduceIte, forall_const, true_implies, false_implies, implies_true, Nat.reduceEqDiff, Nat.reduceAdd, Nat.reduceSub, Nat.reduceLT, Nat.reduceLeDiff, Nat.reduceMul, Nat.reduceBEq, Nat.reduceBNe, Int.reduceToNat, Int.reduceLT, Int.reduceLE, Int.reduceEq, Int.reduceNeg, Int.reduceAdd, Int.reduceSub, reduceCtorEq, List.filter_nil, List.filter_cons, List.find?_cons, List.find?_nil, ne_eq, beq_self_eq_true, eq_self, imp_self, wz, T0_3, T0_4, T0_5, T0_9, T0_22, T0_28, T0_30, T0_31, T0_32, T0_34, T0_35, T0_38, T0_44, T0_46, T0_47, T0_55, T0_64, T0_66, T0_107, T0_133, T0_137, T0_138, T0_140, T0_141, T0_307]
  have hn := numOf_len s
  have e1 : wholeOf (body1 s) = (numOf s).whole := rfl
  have e2 : fracOf (body1 s) = (numOf s).frac := rfl
  rw [e1, e2]
  generalize hN : numOf s = N at *
  refine eGA_v (.bool (N.whole.all dig)) (fun h => ?_) ?_
  · simp -dsimp only [eWC_skip, eWC_exit, eWC_ret, eWC_seq, eWC_block, eWC_cond, eWC_regF, eWC_regT, eWC_loop, eWOps_nil, eWOps_cons, eWOp_eq, eWPl_done, eWPl_z, eWPl_q, eWPl_a, eAW_eq, ↓AW, evalQ, guardG, SV.noU, SV.un, beq_iff_eq, quiet, evO, ofConst, St.put, SV.of, SV.no, binQ, unQ, arQ, loadQ, sliceQ, partsQ, fillAV, fillOk, isU8, byteOf, shapeOk, isAggD, isAggV, cell1, cellsOf, isSeq, pOk, capsOk, pureCall, pickB_or, pickB_and, belowV, belowL, elemsOf, Proms, Prom, svLe, tagLe, isLoad, lk, thenQ, blockQ, retV, retQ, resL, resQ, oneRes, if_false, if_true, reduceIte, forall_const, true_implies, false_implies, implies_true, Nat.reduceEqDiff, Nat.reduceAdd, Nat.reduceSub, Nat.reduceLT, Nat.reduceLeDiff, Nat.reduceMul, Nat.reduceBEq, Nat.reduceBNe, Int.reduceToNat, Int.reduceLT, Int.reduceLE, Int.reduceEq, Int.reduceNeg, Int.reduceAdd, Int.reduceSub, reduceCtorEq, List.filter_nil, List.filter_cons, List.find?_cons, List.find?_nil, ne_eq, beq_self_eq_true, eq_self, imp_self, wz, T0_3, T0_4, T0_5, T0_9, T0_22, T0_28, T0_30, T0_31, T0_32, T0_34, T0_35, T0_38, T0_44, T0_46, T0_47, T0_55, T0_64, T0_66, T0_107, T0_133, T0_137, T0_138, T0_140, T0_141, T0_307]
    exact ⟨by simpa using h, s313 _ (by omega)⟩
  simp -dsimp only [eWC_skip, eWC_exit, eWC_ret, eWC_seq, eWC_block, eWC_cond, eWC_regF, eWC_regT, eWC_loop, eWOps_nil, eWOps_cons, eWOp_eq, eWPl_done, eWPl_z, eWPl_q, eWPl_a, eAW_eq, ↓AW, evalQ, guardG, SV.noU, SV.un, beq_iff_eq, quiet, evO, ofConst, St.put, SV.of, SV.no, binQ, unQ, arQ, loadQ, sliceQ, partsQ, fillAV, fillOk, isU8, byteOf, shapeOk, isAggD, isAggV, cell1, cellsOf, isSeq, pOk, capsOk, pureCall, pickB_or, pickB_and, belowV, belowL, elemsOf, Proms, Prom, svLe, tagLe, isLoad, lk, thenQ, blockQ, retV, retQ, resL, resQ, oneRes, if_false, if_true, reduceIte, forall_const, true_implies, false_implies, implies_true, Nat.reduceEqDiff, Nat.reduceAdd, Nat.reduceSub, Nat.reduceLT, Nat.reduceLeDiff, Nat.reduceMul, Nat.reduceBEq, Nat.reduceBNe, Int.reduceToNat, Int.reduceLT, Int.reduceLE, Int.reduceEq, Int.reduceNeg, Int.reduceAdd, Int.reduceSub, reduceCtorEq, List.filter_nil, List.filter_cons, List.find?_cons, List.find?_nil, ne_eq, beq_self_eq_true, eq_self, imp_self, wz, T0_3, T0_4, T0_5, T0_9, T0_22, T0_28, T0_30, T0_31, T0_32, T0_34, T0_35, T0_38, T0_44, T0_46, T0_47, T0_55, T0_64, T0_66, T0_107, T0_133, T0_137, T0_138, T0_140, T0_141, T0_307]
  have hneg : N.neg = isNeg s := by rw [← hN]; rfl
  have hdec := decOk_eq s N hN
  refine ⟨fun h => ⟨h, by omega⟩, fun h => ⟨h, fun h2 => ⟨h, h2⟩⟩, fun h => ?_, fun h => ?_⟩
  · rw [h] at hdec
    simp only [Bool.not_true, Bool.false_and] at hdec
    simp [avLe, avsLe, Num.av, hdec, hneg]
  rw [h] at hdec
  refine eGA_v (.bool (N.frac.all dig)) (fun h => ?_) ?_
  · simp -dsimp only [eWC_skip, eWC_exit, eWC_ret, eWC_seq, eWC_block, eWC_cond, eWC_regF, eWC_regT, eWC_loop, eWOps_nil, eWOps_cons, eWOp_eq, eWPl_done, eWPl_z, eWPl_q, eWPl_a, eAW_eq, ↓AW, evalQ, guardG, SV.noU, SV.un, beq_iff_eq, quiet, evO, ofConst, St.put, SV.of, SV.no, binQ, unQ, arQ, loadQ, sliceQ, partsQ, fillAV, fillOk, isU8, byteOf, shapeOk, isAggD, isAggV, cell1, cellsOf, isSeq, pOk, capsOk, pureCall, pickB_or, pickB_and, belowV, belowL, elemsOf, Proms, Prom, svLe, tagLe, isLoad, lk, thenQ, blockQ, retV, retQ, resL, resQ, oneRes, if_false, if_true, reduceIte, forall_const, true_implies, false_implies, implies_true, Nat.reduceEqDiff, Nat.reduceAdd, Nat.reduceSub, Nat.reduceLT, Nat.reduceLeDiff, Nat.reduceMul, Nat.reduceBEq, Nat.reduceBNe, Int.reduceToNat, Int.reduceLT, Int.reduceLE, Int.reduceEq, Int.reduceNeg, Int.reduceAdd, Int.reduceSub, reduceCtorEq, List.filter_nil, List.filter_cons, List.find?_cons, List.find?_nil, ne_eq, beq_self_eq_true, eq_self, imp_self, wz, T0_3, T0_4, T0_5, T0_9, T0_22, T0_28, T0_30, T0_31, T0_32, T0_34, T0_35, T0_38, T0_44, T0_46, T0_47, T0_55, T0_64, T0_66, T0_107, T0_133, T0_137, T0_138, T0_140, T0_141, T0_307]
    exact ⟨by simpa using h, s313 _ (by omega)⟩
  simp -dsimp only [eWC_skip, eWC_exit, eWC_ret, eWC_seq, eWC_block, eWC_cond, eWC_regF, eWC_regT, eWC_loop, eWOps_nil, eWOps_cons, eWOp_eq, eWPl_done, eWPl_z, eWPl_q, eWPl_a, eAW_eq, ↓AW, evalQ, guardG, SV.noU, SV.un, beq_iff_eq, quiet, evO, ofConst, St.put, SV.of, SV.no, binQ, unQ, arQ, loadQ, sliceQ, partsQ, fillAV, fillOk, isU8, byteOf, shapeOk, isAggD, isAggV, cell1, cellsOf, isSeq, pOk, capsOk, pureCall, pickB_or, pickB_and, belowV, belowL, elemsOf, Proms, Prom, svLe, tagLe, isLoad, lk, thenQ, blockQ, retV, retQ, resL, resQ, oneRes, if_false, if_true, reduceIte, forall_const, true_implies, false_implies, implies_true, Nat.reduceEqDiff, Nat.reduceAdd, Nat.reduceSub, Nat.reduceLT, Nat.reduceLeDiff, Nat.reduceMul, Nat.reduceBEq, Nat.reduceBNe, Int.reduceToNat, Int.reduceLT, Int.reduceLE, Int.reduceEq, Int.reduceNeg, Int.reduceAdd, Int.reduceSub, reduceCtorEq, List.filter_nil, List.filter_cons, List.find?_cons, List.find?_nil, ne_eq, beq_self_eq_true, eq_self, imp_self, wz, T0_3, T0_4, T0_5, T0_9, T0_22, T0_28, T0_30, T0_31, T0_32, T0_34, T0_35, T0_38, T0_44, T0_46, T0_47, T0_55, T0_64, T0_66, T0_107, T0_133, T0_137, T0_138, T0_140, T0_141, T0_307]
  refine ⟨fun h => ?_, fun h => ?_⟩
  · rw [h] at hdec
    simp only [Bool.not_true, Bool.false_and, Bool.and_false] at hdec
    simp [avLe, avsLe, Num.av, hdec, hneg]
  rw [h] at hdec
  simp -dsimp only [eWC_skip, eWC_exit, eWC_ret, eWC_seq, eWC_block, eWC_cond, eWC_regF, eWC_regT, eWC_loop, eWOps_nil, eWOps_cons, eWOp_eq, eWPl_done, eWPl_z, eWPl_q, eWPl_a, eAW_eq, ↓AW, evalQ, guardG, SV.noU, SV.un, beq_iff_eq, quiet, evO, ofConst, St.put, SV.of, SV.no, binQ, unQ, arQ, loadQ, sliceQ, partsQ, fillAV, fillOk, isU8, byteOf, shapeOk, isAggD, isAggV, cell1, cellsOf, isSeq, pOk, capsOk, pureCall, pickB_or, pickB_and, belowV, belowL, elemsOf, Proms, Prom, svLe, tagLe, isLoad, lk, thenQ, blockQ, retV, retQ, resL, resQ, oneRes, if_false, if_true, reduceIte, forall_const, true_implies, false_implies, implies_true, Nat.reduceEqDiff, Nat.reduceAdd, Nat.reduceSub, Nat.reduceLT, Nat.reduceLeDiff, Nat.reduceMul, Nat.reduceBEq, Nat.reduceBNe, Int.reduceToNat, Int.reduceLT, Int.reduceLE, Int.reduceEq, Int.reduceNeg, Int.reduceAdd, Int.reduceSub, reduceCtorEq, List.filter_nil, List.filter_cons, List.find?_cons, List.find?_nil, ne_eq, beq_self_eq_true, eq_self, imp_self, wz, T0_3, T0_4, T0_5, T0_9, T0_22, T0_28, T0_30, T0_31, T0_32, T0_34, T0_35, T0_38, T0_44, T0_46, T0_47, T0_55, T0_64, T0_66, T0_107, T0_133, T0_137, T0_138, T0_140, T0_141, T0_307, pl260_8]
  refine eGA_v (.bool (N.whole.all zer && N.frac.all zer)) (fun h => ?_) ?_
  · simp -dsimp only [eWC_skip, eWC_exit, eWC_ret, eWC_seq, eWC_block, eWC_cond, eWC_regF, eWC_regT, eWC_loop, eWOps_nil, eWOps_cons, eWOp_eq, eWPl_done, eWPl_z, eWPl_q, eWPl_a, eAW_eq, ↓AW, evalQ, guardG, SV.noU, SV.un, beq_iff_eq, quiet, evO, ofConst, St.put, SV.of, SV.no, binQ, unQ, arQ, loadQ, sliceQ, partsQ, fillAV, fillOk, isU8, byteOf, shapeOk, isAggD, isAggV, cell1, cellsOf, isSeq, pOk, capsOk, pureCall, pickB_or, pickB_and, belowV, belowL, elemsOf, Proms, Prom, svLe, tagLe, isLoad, lk, thenQ, blockQ, retV, retQ, resL, resQ, oneRes, if_false, if_true, reduceIte, forall_const, true_implies, false_implies, implies_true, Nat.reduceEqDiff, Nat.reduceAdd, Nat.reduceSub, Nat.reduceLT, Nat.reduceLeDiff, Nat.reduceMul, Nat.reduceBEq, Nat.reduceBNe, Int.reduceToNat, Int.reduceLT, Int.reduceLE, Int.reduceEq, Int.reduceNeg, Int.reduceAdd, Int.reduceSub, reduceCtorEq, List.filter_nil, List.filter_cons, List.find?_cons, List.find?_nil, ne_eq, beq_self_eq_true, eq_self, imp_self, wz, T0_3, T0_4, T0_5, T0_9, T0_22, T0_28, T0_30, T0_31, T0_32, T0_34, T0_35, T0_38, T0_44, T0_46, T0_47, T0_55, T0_64, T0_66, T0_107, T0_133, T0_137, T0_138, T0_140, T0_141, T0_307]
    have hN2 : N.av = .agg [.bool (isNeg s), .str N.whole, .str N.frac] := by simp [Num.av, hneg]
    rw [← hN2]
    exact ⟨by simpa using h, s314 N (by omega) (by omega)⟩
  simp -dsimp only [eWC_skip, eWC_exit, eWC_ret, eWC_seq, eWC_block, eWC_cond, eWC_regF, eWC_regT, eWC_loop, eWOps_nil, eWOps_cons, eWOp_eq, eWPl_done, eWPl_z, eWPl_q, eWPl_a, eAW_eq, ↓AW, evalQ, guardG, SV.noU, SV.un, beq_iff_eq, quiet, evO, ofConst, St.put, SV.of, SV.no, binQ, unQ, arQ, loadQ, sliceQ, partsQ, fillAV, fillOk, isU8, byteOf, shapeOk, isAggD, isAggV, cell1, cellsOf, isSeq, pOk, capsOk, pureCall, pickB_or, pickB_and, belowV, belowL, elemsOf, Proms, Prom, svLe, tagLe, isLoad, lk, thenQ, blockQ, retV, retQ, resL, resQ, oneRes, if_false, if_true, reduceIte, forall_const, true_implies, false_implies, implies_true, Nat.reduceEqDiff, Nat.reduceAdd, Nat.reduceSub, Nat.reduceLT, Nat.reduceLeDiff, Nat.reduceMul, Nat.reduceBEq, Nat.reduceBNe, Int.reduceToNat, Int.reduceLT, Int.reduceLE, Int.reduceEq, Int.reduceNeg, Int.reduceAdd, Int.reduceSub, reduceCtorEq, List.filter_nil, List.filter_cons, List.find?_cons, List.find?_nil, ne_eq, beq_self_eq_true, eq_self, imp_self, wz, T0_3, T0_4, T0_5, T0_9, T0_22, T0_28, T0_30, T0_31, T0_32, T0_34, T0_35, T0_38, T0_44, T0_46, T0_47, T0_55, T0_64, T0_66, T0_107, T0_133, T0_137, T0_138, T0_140, T0_141, T0_307, pl260_8]
  simp only [Bool.not_false, Bool.true_and] at hdec
  simp [avLe, avsLe, Num.av, hdec, hneg]

theorem s187 (s : Str) (hx : s.length < 4294967281) : FSv prog 187 [.str s] (.bool (decOk s)) := by
  refine FSv_code T0_ok mo pl0 _ func187 (by decide) rfl _ rfl (by rfl) (by simp) _ rfl ?_
  simp only [f187]
  simp -dsimp only [eWC_skip, eWC_exit, eWC_ret, eWC_seq, eWC_block, eWC_cond, eWC_regF, eWC_regT, eWC_loop, eWOps_nil, eWOps_cons, eWOp_eq, eWPl_done, eWPl_z, eWPl_q, eWPl_a, eAW_eq, ↓AW, evalQ, guardG, SV.noU, SV.un, beq_iff_eq, quiet, evO, ofConst, St.put, SV.of, SV.no, binQ, unQ, arQ, loadQ, sliceQ, partsQ, fillAV, fillOk, isU8, byteOf, shapeOk, isAggD, isAggV, cell1, cellsOf, isSeq, pOk, capsOk, pureCall, pickB_or, pickB_and, belowV, belowL, elemsOf, Proms, Prom, svLe, tagLe, isLoad, lk, thenQ, blockQ, retV, retQ, resL, resQ, oneRes, if_false, if_true, reduceIte, forall_const, true_implies, false_implies, implies_true, Nat.reduceEqDiff, Nat.reduceAdd, Nat.reduceSub, Nat.reduceLT, Nat.reduceLeDiff, Nat.reduceMul, Nat.reduceBEq, Nat.reduceBNe, Int.reduceToNat, Int.reduceLT, Int.reduceLE, Int.reduceEq, Int.reduceNeg, Int.reduceAdd, Int.reduceSub, reduceCtorEq, List.filter_nil, List.filter_cons, List.find?_cons, List.find?_nil, ne_eq, beq_self_eq_true, eq_self, imp_self, wz, T0_3, T0_4, T0_5, T0_9, T0_22, T0_28, T0_30, T0_31, T0_32, T0_34, T0_35, T0_38, T0_44, T0_46, T0_47, T0_55, T0_64, T0_66, T0_107, T0_133, T0_137, T0_138, T0_140, T0_141, T0_307, S0]
  refine callG_v _ (s260 s hx) (by simp) (by simp [belowL, belowV]) (by simp [belowV, belowL, Num.av]) ?_
  simp -dsimp only [eWC_skip, eWC_exit, eWC_ret, eWC_seq, eWC_block, eWC_cond, eWC_regF, eWC_regT, eWC_loop, eWOps_nil, eWOps_cons, eWOp_eq, eWPl_done, eWPl_z, eWPl_q, eWPl_a, eAW_eq, ↓AW, evalQ, guardG, SV.noU, SV.un, beq_iff_eq, quiet, evO, ofConst, St.put, SV.of, SV.no, binQ, unQ, arQ, loadQ, sliceQ, partsQ, fillAV, fillOk, isU8, byteOf, shapeOk, isAggD, isAggV, cell1, cellsOf, isSeq, pOk, capsOk, pureCall, pickB_or, pickB_and, belowV, belowL, elemsOf, Proms, Prom, svLe, tagLe, isLoad, lk, thenQ, blockQ, retV, retQ, resL, resQ, oneRes, if_false, if_true, reduceIte, forall_const, true_implies, false_implies, implies_true, Nat.reduceEqDiff, Nat.reduceAdd, Nat.reduceSub, Nat.reduceLT, Nat.reduceLeDiff, Nat.reduceMul, Nat.reduceBEq, Nat.reduceBNe, Int.reduceToNat, Int.reduceLT, Int.reduceLE, Int.reduceEq, Int.reduceNeg, Int.reduceAdd, Int.reduceSub, reduceCtorEq, List.filter_nil, List.filter_cons, List.find?_cons, List.find?_nil, ne_eq, beq_self_eq_true, eq_self, imp_self, wz, T0_3, T0_4, T0_5, T0_9, T0_22, T0_28, T0_30, T0_31, T0_32, T0_34, T0_35, T0_38, T0_44, T0_46, T0_47, T0_55, T0_64, T0_66, T0_107, T0_133, T0_137, T0_138, T0_140, T0_141, T0_307, Num.av]
  simp [avLe]

theorem s316 (s : Str) (hd : s.all dig = true) (hx : s.length ≤ 16) : FSv prog 316 [.str s] (.int .i64 (valS s)) := by
  refine FSv_code T0_ok mo pl0 _ func316 (by decide) rfl _ rfl (by rfl) (by simp) _ rfl ?_
  simp only [f316]
  simp -dsimp only [eWC_skip, eWC_exit, eWC_ret, eWC_seq, eWC_block, eWC_cond, eWC_regF, eWC_regT, eWC_loop, eWOps_nil, eWOps_cons, eWOp_eq, eWPl_done, eWPl_z, eWPl_q, eWPl_a, eAW_eq, ↓AW, evalQ, guardG, SV.noU, SV.un, beq_iff_eq, quiet, evO, ofConst, St.put, SV.of, SV.no, binQ, unQ, arQ, loadQ, sliceQ, partsQ, fillAV, fillOk, isU8, byteOf, shapeOk, isAggD, isAggV, cell1, cellsOf, isSeq, pOk, capsOk, pureCall, pickB_or, pickB_and, belowV, belowL, elemsOf, Proms, Prom, svLe, tagLe, isLoad, lk, thenQ, blockQ, retV, retQ, resL, resQ, oneRes, if_false, if_true, reduceIte, forall_const, true_implies, false_implies, implies_true, Nat.reduceEqDiff, Nat.reduceAdd, Nat.reduceSub, Nat.reduceLT, Nat.reduceLeDiff, Nat.reduceMul, Nat.reduceBEq, Nat.reduceBNe, Int.reduceToNat, Int.reduceLT, Int.reduceLE, Int.reduceEq, Int.reduceNeg, Int.reduceAdd, Int.reduceSub, reduceCtorEq, List.filter_nil, List.filter_cons, List.find?_cons, List.find?_nil, ne_eq, beq_self_eq_true, eq_self, imp_self, wz, T0_3, T0_4, T0_5, T0_9, T0_22, T0_28, T0_30, T0_31, T0_32, T0_34, T0_35, T0_38, T0_44, T0_46, T0_47, T0_55, T0_64, T0_66, T0_107, T0_133, T0_137, T0_138, T0_140, T0_141, T0_307, S0]
  refine ⟨by omega, ?_⟩
  refine callG_v _ (s354 s hd hx) (by simp) (by simp [belowL, belowV]) (by simp [belowV, belowL]) ?_
  simp -dsimp only [eWC_skip, eWC_exit, eWC_ret, eWC_seq, eWC_block, eWC_cond, eWC_regF, eWC_regT, eWC_loop, eWOps_nil, eWOps_cons, eWOp_eq, eWPl_done, eWPl_z, eWPl_q, eWPl_a, eAW_eq, ↓AW, evalQ, guardG, SV.noU, SV.un, beq_iff_eq, quiet, evO, ofConst, St.put, SV.of, SV.no, binQ, unQ, arQ, loadQ, sliceQ, partsQ, fillAV, fillOk, isU8, byteOf, shapeOk, isAggD, isAggV, cell1, cellsOf, isSeq, pOk, capsOk, pureCall, pickB_or, pickB_and, belowV, belowL, elemsOf, Proms, Prom, svLe, tagLe, isLoad, lk, thenQ, blockQ, retV, retQ, resL, resQ, oneRes, if_false, if_true, reduceIte, forall_const, true_implies, false_implies, implies_true, Nat.reduceEqDiff, Nat.reduceAdd, Nat.reduceSub, Nat.reduceLT, Nat.reduceLeDiff, Nat.reduceMul, Nat.reduceBEq, Nat.reduceBNe, Int.reduceToNat, Int.reduceLT, Int.reduceLE, Int.reduceEq, Int.reduceNeg, Int.reduceAdd, Int.reduceSub, reduceCtorEq, List.filter_nil, List.filter_cons, List.find?_cons, List.find?_nil, ne_eq, beq_self_eq_true, eq_self, imp_self, wz, T0_3, T0_4, T0_5, T0_9, T0_22, T0_28, T0_30, T0_31, T0_32, T0_34, T0_35, T0_38, T0_44, T0_46, T0_47, T0_55, T0_64, T0_66, T0_107, T0_133, T0_137, T0_138, T0_140, T0_141, T0_307]
  simp [avLe]

theorem trimZ_ne (s : Str) : (trimZ s == []) = s.all zer := by
  have : trimZ s = [] ↔ s.all (· == 48) = true := by
    simp only [trimZ, List.reverse_eq_nil_iff, dropWhile_nil, List.all_reverse]
  rw [Bool.eq_iff_iff, beq_iff_eq, this]
  have e : (fun b : UInt8 => b == 48) = zer := by
    funext b
    exact byte_all (p := fun b => (b == 48) = zer b) (by decide) b
  rw [e]

theorem s263 (s : Str) (op : Int) (hx : s.length < 4294967281) : FSv prog 263 [.str s, .int .i64 op] (.tup [.int .i64 (opVal s op).1, .int .i64 (opVal s op).2]) := by
  refine FSv_code T0_ok mo pl0 _ func263 (by decide) rfl _ rfl (by rfl) (by simp) _ rfl ?_
  simp only [f263]
  simp -dsimp only [eWC_skip, eWC_exit, eWC_ret, eWC_seq, eWC_block, eWC_cond, eWC_regF, eWC_regT, eWC_loop, eWOps_nil, eWOps_cons, eWOp_eq, eWPl_done, eWPl_z, eWPl_q, eWPl_a, eAW_eq, ↓AW, evalQ, guardG, SV.noU, SV.un, beq_iff_eq, quiet, evO, ofConst, St.put, SV.of, SV.no, binQ, unQ, arQ, loadQ, sliceQ, partsQ, fillAV, fillOk, isU8, byteOf, shapeOk, isAggD, isAggV, cell1, cellsOf, isSeq, pOk, capsOk, pureCall, pickB_or, pickB_and, belowV, belowL, elemsOf, Proms, Prom, svLe, tagLe, isLoad, lk, thenQ, blockQ, retV, retQ, resL, resQ, oneRes, if_false, if_true, reduceIte, forall_const, true_implies, false_implies, implies_true, Nat.reduceEqDiff, Nat.reduceAdd, Nat.reduceSub, Nat.reduceLT, Nat.reduceLeDiff, Nat.reduceMul, Nat.reduceBEq, Nat.reduceBNe, Int.reduceToNat, Int.reduceLT, Int.reduceLE, Int.reduceEq, Int.reduceNeg, Int.reduceAdd, Int.reduceSub, reduceCtorEq, List.filter_nil, List.filter_cons, List.find?_cons, List.find?_nil, ne_eq, beq_self_eq_true, eq_self, imp_self, wz, T0_3, T0_4, T0_5, T0_9, T0_22, T0_28, T0_30, T0_31, T0_32, T0_34, T0_35, T0_38, T0_44, T0_46, T0_47, T0_55, T0_64, T0_66, T0_107, T0_133, T0_137, T0_138, T0_140, T0_141, T0_307, S0]
  refine callG_v _ (s260 s hx) (by simp) (by simp [belowL, belowV]) (by simp [belowV, belowL, Num.av]) ?_
  have hnl := numOf_len s
  cases hd : decOk s with
  | false =>
    simp -dsimp only [eWC_skip, eWC_exit, eWC_ret, eWC_seq, eWC_block, eWC_cond, eWC_regF, eWC_regT, eWC_loop, eWOps_nil, eWOps_cons, eWOp_eq, eWPl_done, eWPl_z, eWPl_q, eWPl_a, eAW_eq, ↓AW, evalQ, guardG, SV.noU, SV.un, beq_iff_eq, quiet, evO, ofConst, St.put, SV.of, SV.no, binQ, unQ, arQ, loadQ, sliceQ, partsQ, fillAV, fillOk, isU8, byteOf, shapeOk, isAggD, isAggV, cell1, cellsOf, isSeq, pOk, capsOk, pureCall, pickB_or, pickB_and, belowV, belowL, elemsOf, Proms, Prom, svLe, tagLe, isLoad, lk, thenQ, blockQ, retV, retQ, resL, resQ, oneRes, if_false, if_true, reduceIte, forall_const, true_implies, false_implies, implies_true, Nat.reduceEqDiff, Nat.reduceAdd, Nat.reduceSub, Nat.reduceLT, Nat.reduceLeDiff, Nat.reduceMul, Nat.reduceBEq, Nat.reduceBNe, Int.reduceToNat, Int.reduceLT, Int.reduceLE, Int.reduceEq, Int.reduceNeg, Int.reduceAdd, Int.reduceSub, reduceCtorEq, List.filter_nil, List.filter_cons, List.find?_cons, List.find?_nil, ne_eq, beq_self_eq_true, eq_self, imp_self, wz, T0_3, T0_4, T0_5, T0_9, T0_22, T0_28, T0_30, T0_31, T0_32, T0_34, T0_35, T0_38, T0_44, T0_46, T0_47, T0_55, T0_64, T0_66, T0_107, T0_133, T0_137, T0_138, T0_140, T0_141, T0_307, Num.av]
    simp [avLe, avsLe, opVal, hd]
  | true =>
    have hn : numOk (numOf s) = true := by
      simp only [decOk, Bool.and_eq_true] at hd
      exact hd.2
    obtain ⟨h1, h2, h3, h4, h5⟩ := numOk_facts hn
    have ht := (trimZ_sub (numOf s).frac).2
    have hz := trimZ_ne (numOf s).frac
    simp -dsimp only [eWC_skip, eWC_exit, eWC_ret, eWC_seq, eWC_block, eWC_cond, eWC_regF, eWC_regT, eWC_loop, eWOps_nil, eWOps_cons, eWOp_eq, eWPl_done, eWPl_z, eWPl_q, eWPl_a, eAW_eq, ↓AW, evalQ, guardG, SV.noU, SV.un, beq_iff_eq, quiet, evO, ofConst, St.put, SV.of, SV.no, binQ, unQ, arQ, loadQ, sliceQ, partsQ, fillAV, fillOk, isU8, byteOf, shapeOk, isAggD, isAggV, cell1, cellsOf, isSeq, pOk, capsOk, pureCall, pickB_or, pickB_and, belowV, belowL, elemsOf, Proms, Prom, svLe, tagLe, isLoad, lk, thenQ, blockQ, retV, retQ, resL, resQ, oneRes, if_false, if_true, reduceIte, forall_const, true_implies, false_implies, implies_true, Nat.reduceEqDiff, Nat.reduceAdd, Nat.reduceSub, Nat.reduceLT, Nat.reduceLeDiff, Nat.reduceMul, Nat.reduceBEq, Nat.reduceBNe, Int.reduceToNat, Int.reduceLT, Int.reduceLE, Int.reduceEq, Int.reduceNeg, Int.reduceAdd, Int.reduceSub, reduceCtorEq, List.filter_nil, List.filter_cons, List.find?_cons, List.find?_nil, ne_eq, beq_self_eq_true, eq_self, imp_self, wz, T0_3, T0_4, T0_5, T0_9, T0_22, T0_28, T0_30, T0_31, T0_32, T0_34, T0_35, T0_38, T0_44, T0_46, T0_47, T0_55, T0_64, T0_66, T0_107, T0_133, T0_137, T0_138, T0_140, T0_141, T0_307, Num.av]
    refine callG_v _ (s315 _ (by omega)) (by simp) (by simp [belowL, belowV]) (by simp [belowV]) ?_
    simp -dsimp only [eWC_skip, eWC_exit, eWC_ret, eWC_seq, eWC_block, eWC_cond, eWC_regF, eWC_regT, eWC_loop, eWOps_nil, eWOps_cons, eWOp_eq, eWPl_done, eWPl_z, eWPl_q, eWPl_a, eAW_eq, ↓AW, evalQ, guardG, SV.noU, SV.un, beq_iff_eq, quiet, evO, ofConst, St.put, SV.of, SV.no, binQ, unQ, arQ, loadQ, sliceQ, partsQ, fillAV, fillOk, isU8, byteOf, shapeOk, isAggD, isAggV, cell1, cellsOf, isSeq, pOk, capsOk, pureCall, pickB_or, pickB_and, belowV, belowL, elemsOf, Proms, Prom, svLe, tagLe, isLoad, lk, thenQ, blockQ, retV, retQ, resL, resQ, oneRes, if_false, if_true, reduceIte, forall_const, true_implies, false_implies, implies_true, Nat.reduceEqDiff, Nat.reduceAdd, Nat.reduceSub, Nat.reduceLT, Nat.reduceLeDiff, Nat.reduceMul, Nat.reduceBEq, Nat.reduceBNe, Int.reduceToNat, Int.reduceLT, Int.reduceLE, Int.reduceEq, Int.reduceNeg, Int.reduceAdd, Int.reduceSub, reduceCtorEq, List.filter_nil, List.filter_cons, List.find?_cons, List.find?_nil, ne_eq, beq_self_eq_true, eq_self, imp_self, wz, T0_3, T0_4, T0_5, T0_9, T0_22, T0_28, T0_30, T0_31, T0_32, T0_34, T0_35, T0_38, T0_44, T0_46, T0_47, T0_55, T0_64, T0_66, T0_107, T0_133, T0_137, T0_138, T0_140, T0_141, T0_307]
    refine ⟨fun o1 => ?_, fun o1 => ⟨fun o2 => ?_, fun o2 => ⟨fun o3 => ?_, fun o3 => ⟨fun o4 => ?_, fun o4 => ⟨fun o5 => ?_, fun o5 => ⟨fun o6 => ?_, fun o6 => ?_⟩⟩⟩⟩⟩⟩
    · rw [hz]
      refine ⟨fun h => ?_, fun h => ?_⟩
      · have h' : (numOf s).frac.all zer = false := by simpa using h
        simp only [opVal, hd, o1, h']
        simp [avLe, avsLe]
      · have h' : (numOf s).frac.all zer = true := by simpa using h
        refine callG_v _ (s316 _ h1 (by omega)) (by simp) (by simp [belowL, belowV]) (by simp [belowV]) ?_
        simp -dsimp only [eWC_skip, eWC_exit, eWC_ret, eWC_seq, eWC_block, eWC_cond, eWC_regF, eWC_regT, eWC_loop, eWOps_nil, eWOps_cons, eWOp_eq, eWPl_done, eWPl_z, eWPl_q, eWPl_a, eAW_eq, ↓AW, evalQ, guardG, SV.noU, SV.un, beq_iff_eq, quiet, evO, ofConst, St.put, SV.of, SV.no, binQ, unQ, arQ, loadQ, sliceQ, partsQ, fillAV, fillOk, isU8, byteOf, shapeOk, isAggD, isAggV, cell1, cellsOf, isSeq, pOk, capsOk, pureCall, pickB_or, pickB_and, belowV, belowL, elemsOf, Proms, Prom, svLe, tagLe, isLoad, lk, thenQ, blockQ, retV, retQ, resL, resQ, oneRes, if_false, if_true, reduceIte, forall_const, true_implies, false_implies, implies_true, Nat.reduceEqDiff, Nat.reduceAdd, Nat.reduceSub, Nat.reduceLT, Nat.reduceLeDiff, Nat.reduceMul, Nat.reduceBEq, Nat.reduceBNe, Int.reduceToNat, Int.reduceLT, Int.reduceLE, Int.reduceEq, Int.reduceNeg, Int.reduceAdd, Int.reduceSub, reduceCtorEq, List.filter_nil, List.filter_cons, List.find?_cons, List.find?_nil, ne_eq, beq_self_eq_true, eq_self, imp_self, wz, T0_3, T0_4, T0_5, T0_9, T0_22, T0_28, T0_30, T0_31, T0_32, T0_34, T0_35, T0_38, T0_44, T0_46, T0_47, T0_55, T0_64, T0_66, T0_107, T0_133, T0_137, T0_138, T0_140, T0_141, T0_307]
        simp only [opVal, hd, o1, h']
        simp [avLe, avsLe]
    · refine callG_v _ (s316 _ h1 (by omega)) (by simp) (by simp [belowL, belowV]) (by simp [belowV]) ?_
      simp -dsimp only [eWC_skip, eWC_exit, eWC_ret, eWC_seq, eWC_block, eWC_cond, eWC_regF, eWC_regT, eWC_loop, eWOps_nil, eWOps_cons, eWOp_eq, eWPl_done, eWPl_z, eWPl_q, eWPl_a, eAW_eq, ↓AW, evalQ, guardG, SV.noU, SV.un, beq_iff_eq, quiet, evO, ofConst, St.put, SV.of, SV.no, binQ, unQ, arQ, loadQ, sliceQ, partsQ, fillAV, fillOk, isU8, byteOf, shapeOk, isAggD, isAggV, cell1, cellsOf, isSeq, pOk, capsOk, pureCall, pickB_or, pickB_and, belowV, belowL, elemsOf, Proms, Prom, svLe, tagLe, isLoad, lk, thenQ, blockQ, retV, retQ, resL, resQ, oneRes, if_false, if_true, reduceIte, forall_const, true_implies, false_implies, implies_true, Nat.reduceEqDiff, Nat.reduceAdd, Nat.reduceSub, Nat.reduceLT, Nat.reduceLeDiff, Nat.reduceMul, Nat.reduceBEq, Nat.reduceBNe, Int.reduceToNat, Int.reduceLT, Int.reduceLE, Int.reduceEq, Int.reduceNeg, Int.reduceAdd, Int.reduceSub, reduceCtorEq, List.filter_nil, List.filter_cons, List.find?_cons, List.find?_nil, ne_eq, beq_self_eq_true, eq_self, imp_self, wz, T0_3, T0_4, T0_5, T0_9, T0_22, T0_28, T0_30, T0_31, T0_32, T0_34, T0_35, T0_38, T0_44, T0_46, T0_47, T0_55, T0_64, T0_66, T0_107, T0_133, T0_137, T0_138, T0_140, T0_141, T0_307]
      simp [avLe, avsLe, opVal, hd, o2]
    · simp [avLe, avsLe, opVal, hd, o3]
    · simp [avLe, avsLe, opVal, hd, o4]
    · refine callG_v _ (s316 _ h2 (by omega)) (by simp) (by simp [belowL, belowV]) (by simp [belowV]) ?_
      simp -dsimp only [eWC_skip, eWC_exit, eWC_ret, eWC_seq, eWC_block, eWC_cond, eWC_regF, eWC_regT, eWC_loop, eWOps_nil, eWOps_cons, eWOp_eq, eWPl_done, eWPl_z, eWPl_q, eWPl_a, eAW_eq, ↓AW, evalQ, guardG, SV.noU, SV.un, beq_iff_eq, quiet, evO, ofConst, St.put, SV.of, SV.no, binQ, unQ, arQ, loadQ, sliceQ, partsQ, fillAV, fillOk, isU8, byteOf, shapeOk, isAggD, isAggV, cell1, cellsOf, isSeq, pOk, capsOk, pureCall, pickB_or, pickB_and, belowV, belowL, elemsOf, Proms, Prom, svLe, tagLe, isLoad, lk, thenQ, blockQ, retV, retQ, resL, resQ, oneRes, if_false, if_true, reduceIte, forall_const, true_implies, false_implies, implies_true, Nat.reduceEqDiff, Nat.reduceAdd, Nat.reduceSub, Nat.reduceLT, Nat.reduceLeDiff, Nat.reduceMul, Nat.reduceBEq, Nat.reduceBNe, Int.reduceToNat, Int.reduceLT, Int.reduceLE, Int.reduceEq, Int.reduceNeg, Int.reduceAdd, Int.reduceSub, reduceCtorEq, List.filter_nil, List.filter_cons, List.find?_cons, List.find?_nil, ne_eq, beq_self_eq_true, eq_self, imp_self, wz, T0_3, T0_4, T0_5, T0_9, T0_22, T0_28, T0_30, T0_31, T0_32, T0_34, T0_35, T0_38, T0_44, T0_46, T0_47, T0_55, T0_64, T0_66, T0_107, T0_133, T0_137, T0_138, T0_140, T0_141, T0_307]
      simp [avLe, avsLe, opVal, hd, o5]
    · refine callG_v _ (s316 _ (trimZ_dig h2) (by omega)) (by simp) (by simp [belowL, belowV]) (by simp [belowV]) ?_
      simp -dsimp only [eWC_skip, eWC_exit, eWC_ret, eWC_seq, eWC_block, eWC_cond, eWC_regF, eWC_regT, eWC_loop, eWOps_nil, eWOps_cons, eWOp_eq, eWPl_done, eWPl_z, eWPl_q, eWPl_a, eAW_eq, ↓AW, evalQ, guardG, SV.noU, SV.un, beq_iff_eq, quiet, evO, ofConst, St.put, SV.of, SV.no, binQ, unQ, arQ, loadQ, sliceQ, partsQ, fillAV, fillOk, isU8, byteOf, shapeOk, isAggD, isAggV, cell1, cellsOf, isSeq, pOk, capsOk, pureCall, pickB_or, pickB_and, belowV, belowL, elemsOf, Proms, Prom, svLe, tagLe, isLoad, lk, thenQ, blockQ, retV, retQ, resL, resQ, oneRes, if_false, if_true, reduceIte, forall_const, true_implies, false_implies, implies_true, Nat.reduceEqDiff, Nat.reduceAdd, Nat.reduceSub, Nat.reduceLT, Nat.reduceLeDiff, Nat.reduceMul, Nat.reduceBEq, Nat.reduceBNe, Int.reduceToNat, Int.reduceLT, Int.reduceLE, Int.reduceEq, Int.reduceNeg, Int.reduceAdd, Int.reduceSub, reduceCtorEq, List.filter_nil, List.filter_cons, List.find?_cons, List.find?_nil, ne_eq, beq_self_eq_true, eq_self, imp_self, wz, T0_3, T0_4, T0_5, T0_9, T0_22, T0_28, T0_30, T0_31, T0_32, T0_34, T0_35, T0_38, T0_44, T0_46, T0_47, T0_55, T0_64, T0_66, T0_107, T0_133, T0_137, T0_138, T0_140, T0_141, T0_307]
      simp [avLe, avsLe, opVal, hd, o6]
    · simp [avLe, avsLe, opVal, hd, o1, o2, o3, o4, o5, o6]
end Go.Proofs.Tryz
