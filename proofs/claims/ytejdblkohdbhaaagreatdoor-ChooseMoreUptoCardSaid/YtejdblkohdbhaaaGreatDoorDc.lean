/-
  Part of a proof: contracts of functions in abstract values.
-/
import Derived.Test.YtejdblkohdbhaaaGreatDoorDb
set_option linter.unusedVariables false
set_option linter.unusedSimpArgs false
namespace Go.Proofs.Tryz
open Go Go.Abs
set_option linter.unusedSimpArgs false
set_option maxRecDepth 100000
set_option maxHeartbeats 2000000

def valS (s : Str) : Int := s.foldl (fun n b => 10 * n + ((b.toNat : Int) - 48)) 0
theorem valS_succ (s : Str) (i : Nat) (h : i < s.length) : valS (s.take (i + 1)) = 10 * valS (s.take i) + ((s[i].toNat : Int) - 48) := by
  rw [List.take_succ_eq_append_getElem h]; unfold valS; rw [List.foldl_append]; rfl
theorem dig_le {b : UInt8} (h : dig b = true) : 48 ≤ (b.toNat : Int) ∧ (b.toNat : Int) ≤ 57 := by
  simp only [dig, Bool.not_eq_true', Bool.or_eq_false_iff, decide_eq_false_iff_not] at h
  omega
theorem valS_lt (s : Str) (hd : s.all dig = true) : ∀ i, i ≤ s.length → 0 ≤ valS (s.take i) ∧ valS (s.take i) < 10 ^ i := by
  intro i
  induction i with
  | zero => intro _; simp [valS]
  | succ i ih =>
    intro hi
    obtain ⟨h1, h2⟩ := ih (by omega)
    rw [valS_succ s i (by omega)]
    have := dig_le (List.all_eq_true.1 hd s[i] (List.getElem_mem _))
    have e : (10 : Int) ^ (i + 1) = 10 * 10 ^ i := by rw [Int.pow_succ]; omega
    rw [e]
    omega

theorem s327 (s : Str) (hd : s.all dig = true) (hx : s.length ≤ 16) : FSv prog 327 [.str s] (.int .i64 (valS s)) := by
  refine FSv_code T0_ok mo pl0 _ func327 (by decide) rfl _ rfl (by rfl) (by simp) _ rfl ?_
  simp only [f327]
  simp -dsimp only [eWC_skip, eWC_exit, eWC_ret, eWC_seq, eWC_block, eWC_cond, eWC_regF, eWC_regT, eWC_loop, eWOps_nil, eWOps_cons, eWOp_eq, eWPl_done, eWPl_z, eWPl_q, eWPl_a, eAW_eq, ↓AW, evalQ, guardG, SV.noU, SV.un, beq_iff_eq, quiet, evO, ofConst, St.put, SV.of, SV.no, binQ, unQ, arQ, loadQ, sliceQ, partsQ, fillAV, fillOk, isU8, byteOf, shapeOk, isAggD, isAggV, cell1, cellsOf, isSeq, pOk, capsOk, pureCall, pickB_or, pickB_and, belowV, belowL, elemsOf, Proms, Prom, svLe, tagLe, isLoad, lk, thenQ, blockQ, retV, retQ, resL, resQ, oneRes, if_false, if_true, reduceIte, forall_const, true_implies, false_implies, implies_true, Nat.reduceEqDiff, Nat.reduceAdd, Nat.reduceSub, Nat.reduceLT, Nat.reduceLeDiff, Nat.reduceMul, Nat.reduceBEq, Nat.reduceBNe, Int.reduceToNat, Int.reduceLT, Int.reduceLE, Int.reduceEq, Int.reduceNeg, Int.reduceAdd, Int.reduceSub, reduceCtorEq, List.filter_nil, List.filter_cons, List.find?_cons, List.find?_nil, ne_eq, beq_self_eq_true, eq_self, imp_self, wz, T0_3, T0_4, T0_5, T0_9, T0_22, T0_28, T0_30, T0_31, T0_32, T0_34, T0_35, T0_38, T0_44, T0_46, T0_47, T0_55, T0_64, T0_66, T0_107, T0_133, T0_137, T0_138, T0_140, T0_141, T0_307, S0]
  refine T3_for T0_ok mo pl0 s.length (fun i (_ : Unit) => ⟨[(4, SV.of (.int .i64 (i : Nat))), (3, SV.of (.int .i64 (valS (s.take i)))), (0, SV.of (.str s))], 20, ⟨1, [], [], 0⟩, 0⟩)
    (fun i _ => True) 20 (fun _ _ => rfl) (by rfl) () trivial (Le_lit ?_) (fun i _ hi _ => ?_) (fun _ _ => ?_)
  · simp [frLe, lk, SV.of, avLe, valS]
  · have hdi := dig_le (List.all_eq_true.1 hd s[i] (List.getElem_mem hi))
    have hlt := valS_lt s hd i (by omega)
    have hp : (10 : Int) ^ i ≤ 10 ^ 16 := by exact_mod_cast Nat.pow_le_pow_right (by omega) (by omega : i ≤ 16)
    have hw : IntKind.u8.wrap ((s[i].toNat : Int) - 48) = (s[i].toNat : Int) - 48 := by
      unfold IntKind.wrap
      have : ((s[i].toNat : Int) - 48) % 2 ^ IntKind.u8.bits = (s[i].toNat : Int) - 48 := Int.emod_eq_of_lt (by omega) (by simp only [IntKind.bits]; omega)
      simp only [this, IntKind.signed, Bool.false_and, Bool.false_eq_true, if_false]
    simp -dsimp only [eWC_skip, eWC_exit, eWC_ret, eWC_seq, eWC_block, eWC_cond, eWC_regF, eWC_regT, eWC_loop, eWOps_nil, eWOps_cons, eWOp_eq, eWPl_done, eWPl_z, eWPl_q, eWPl_a, eAW_eq, ↓AW, evalQ, guardG, SV.noU, SV.un, beq_iff_eq, quiet, evO, ofConst, St.put, SV.of, SV.no, binQ, unQ, arQ, loadQ, sliceQ, partsQ, fillAV, fillOk, isU8, byteOf, shapeOk, isAggD, isAggV, cell1, cellsOf, isSeq, pOk, capsOk, pureCall, pickB_or, pickB_and, belowV, belowL, elemsOf, Proms, Prom, svLe, tagLe, isLoad, lk, thenQ, blockQ, retV, retQ, resL, resQ, oneRes, if_false, if_true, reduceIte, forall_const, true_implies, false_implies, implies_true, Nat.reduceEqDiff, Nat.reduceAdd, Nat.reduceSub, Nat.reduceLT, Nat.reduceLeDiff, Nat.reduceMul, Nat.reduceBEq, Nat.reduceBNe, Int.reduceToNat, Int.reduceLT, Int.reduceLE, Int.reduceEq, Int.reduceNeg, Int.reduceAdd, Int.reduceSub, reduceCtorEq, List.filter_nil, List.filter_cons, List.find?_cons, List.find?_nil, ne_eq, beq_self_eq_true, eq_self, imp_self, wz, T0_3, T0_4, T0_5, T0_9, T0_22, T0_28, T0_30, T0_31, T0_32, T0_34, T0_35, T0_38, T0_44, T0_46, T0_47, T0_55, T0_64, T0_66, T0_107, T0_133, T0_137, T0_138, T0_140, T0_141, T0_307, dlt hi, gs s i hi, hw]
    have hp2 : (10 : Int) ^ 16 = 10000000000000000 := by decide
    refine ⟨by unfold I64; omega, by omega, by unfold I64; omega, by unfold I64; omega, by unfold I64; omega, (), Le_lit ?_⟩
    have e := valS_succ s i hi
    simp [frLe, lk, avLe, e]
  · simp -dsimp only [eWC_skip, eWC_exit, eWC_ret, eWC_seq, eWC_block, eWC_cond, eWC_regF, eWC_regT, eWC_loop, eWOps_nil, eWOps_cons, eWOp_eq, eWPl_done, eWPl_z, eWPl_q, eWPl_a, eAW_eq, ↓AW, evalQ, guardG, SV.noU, SV.un, beq_iff_eq, quiet, evO, ofConst, St.put, SV.of, SV.no, binQ, unQ, arQ, loadQ, sliceQ, partsQ, fillAV, fillOk, isU8, byteOf, shapeOk, isAggD, isAggV, cell1, cellsOf, isSeq, pOk, capsOk, pureCall, pickB_or, pickB_and, belowV, belowL, elemsOf, Proms, Prom, svLe, tagLe, isLoad, lk, thenQ, blockQ, retV, retQ, resL, resQ, oneRes, if_false, if_true, reduceIte, forall_const, true_implies, false_implies, implies_true, Nat.reduceEqDiff, Nat.reduceAdd, Nat.reduceSub, Nat.reduceLT, Nat.reduceLeDiff, Nat.reduceMul, Nat.reduceBEq, Nat.reduceBNe, Int.reduceToNat, Int.reduceLT, Int.reduceLE, Int.reduceEq, Int.reduceNeg, Int.reduceAdd, Int.reduceSub, reduceCtorEq, List.filter_nil, List.filter_cons, List.find?_cons, List.find?_nil, ne_eq, beq_self_eq_true, eq_self, imp_self, wz, T0_3, T0_4, T0_5, T0_9, T0_22, T0_28, T0_30, T0_31, T0_32, T0_34, T0_35, T0_38, T0_44, T0_46, T0_47, T0_55, T0_64, T0_66, T0_107, T0_133, T0_137, T0_138, T0_140, T0_141, T0_307, dge (Nat.le_refl s.length)]
    simp [avLe]
end Go.Proofs.Tryz

namespace Go.Proofs.Tryz
open Go Go.Abs
set_option linter.unusedSimpArgs false
set_option maxRecDepth 100000
set_option maxHeartbeats 2000000

/-- Without zeros at the end. -/
def trimZ (s : Str) : Str := (s.reverse.dropWhile (· == 48)).reverse

theorem trimZ_step (s : Str) (n : Nat) (h : n < s.length) (hz : (s[n].toNat : Int) = 48) : trimZ (s.take (n + 1)) = trimZ (s.take n) := by
  have : s[n] = 48 := by
    apply UInt8.toNat_inj.1
    have : (48 : UInt8).toNat = 48 := rfl
    omega
  rw [List.take_succ_eq_append_getElem h, this]
  simp [trimZ]
theorem trimZ_end (s : Str) (n : Nat) (h : n < s.length) (hz : ¬ (s[n].toNat : Int) = 48) : trimZ (s.take (n + 1)) = s.take (n + 1) := by
  have : (s[n] == 48) = false := by
    rw [beq_eq_false_iff_ne]
    intro he
    rw [he] at hz
    exact hz rfl
  rw [List.take_succ_eq_append_getElem h]
  simp only [trimZ, List.reverse_append, List.reverse_cons, List.reverse_nil, List.nil_append, List.cons_append, List.dropWhile_cons, this, Bool.false_eq_true, if_false, List.reverse_reverse]

theorem s328 (s : Str) (hx : s.length < 1099511627776) : FSv prog 328 [.str s] (.str (trimZ s)) := by
  refine FSv_code T0_ok mo pl0 _ func328 (by decide) rfl _ rfl (by rfl) (by simp) _ rfl ?_
  simp only [f328]
  simp -dsimp only [eWC_skip, eWC_exit, eWC_ret, eWC_seq, eWC_block, eWC_cond, eWC_regF, eWC_regT, eWC_loop, eWOps_nil, eWOps_cons, eWOp_eq, eWPl_done, eWPl_z, eWPl_q, eWPl_a, eAW_eq, ↓AW, evalQ, guardG, SV.noU, SV.un, beq_iff_eq, quiet, evO, ofConst, St.put, SV.of, SV.no, binQ, unQ, arQ, loadQ, sliceQ, partsQ, fillAV, fillOk, isU8, byteOf, shapeOk, isAggD, isAggV, cell1, cellsOf, isSeq, pOk, capsOk, pureCall, pickB_or, pickB_and, belowV, belowL, elemsOf, Proms, Prom, svLe, tagLe, isLoad, lk, thenQ, blockQ, retV, retQ, resL, resQ, oneRes, if_false, if_true, reduceIte, forall_const, true_implies, false_implies, implies_true, Nat.reduceEqDiff, Nat.reduceAdd, Nat.reduceSub, Nat.reduceLT, Nat.reduceLeDiff, Nat.reduceMul, Nat.reduceBEq, Nat.reduceBNe, Int.reduceToNat, Int.reduceLT, Int.reduceLE, Int.reduceEq, Int.reduceNeg, Int.reduceAdd, Int.reduceSub, reduceCtorEq, List.filter_nil, List.filter_cons, List.find?_cons, List.find?_nil, ne_eq, beq_self_eq_true, eq_self, imp_self, wz, T0_3, T0_4, T0_5, T0_9, T0_22, T0_28, T0_30, T0_31, T0_32, T0_34, T0_35, T0_38, T0_44, T0_46, T0_47, T0_55, T0_64, T0_66, T0_107, T0_133, T0_137, T0_138, T0_140, T0_141, T0_307, S0]
  refine T3_loopI (fun n => ⟨[(0, SV.of (.str (s.take n)))], 20, ⟨1, [], [], 0⟩, 0⟩) (fun n => n ≤ s.length ∧ trimZ s = trimZ (s.take n)) (fun n => n) s.length ⟨Nat.le_refl _, by rw [List.take_length]⟩ (Le_lit ?_) (fun n hn => ?_)
  · simp [frLe, lk, SV.of, avLe]
  · refine LP_run T0_ok mo pl0 20 rfl (by rfl) ?_
    obtain ⟨hle, he⟩ := hn
    have hlen : (s.take n).length = n := by simp; omega
    cases n with
    | zero =>
      simp -dsimp only [eWC_skip, eWC_exit, eWC_ret, eWC_seq, eWC_block, eWC_cond, eWC_regF, eWC_regT, eWC_loop, eWOps_nil, eWOps_cons, eWOp_eq, eWPl_done, eWPl_z, eWPl_q, eWPl_a, eAW_eq, ↓AW, evalQ, guardG, SV.noU, SV.un, beq_iff_eq, quiet, evO, ofConst, St.put, SV.of, SV.no, binQ, unQ, arQ, loadQ, sliceQ, partsQ, fillAV, fillOk, isU8, byteOf, shapeOk, isAggD, isAggV, cell1, cellsOf, isSeq, pOk, capsOk, pureCall, pickB_or, pickB_and, belowV, belowL, elemsOf, Proms, Prom, svLe, tagLe, isLoad, lk, thenQ, blockQ, retV, retQ, resL, resQ, oneRes, if_false, if_true, reduceIte, forall_const, true_implies, false_implies, implies_true, Nat.reduceEqDiff, Nat.reduceAdd, Nat.reduceSub, Nat.reduceLT, Nat.reduceLeDiff, Nat.reduceMul, Nat.reduceBEq, Nat.reduceBNe, Int.reduceToNat, Int.reduceLT, Int.reduceLE, Int.reduceEq, Int.reduceNeg, Int.reduceAdd, Int.reduceSub, reduceCtorEq, List.filter_nil, List.filter_cons, List.find?_cons, List.find?_nil, ne_eq, beq_self_eq_true, eq_self, imp_self, wz, T0_3, T0_4, T0_5, T0_9, T0_22, T0_28, T0_30, T0_31, T0_32, T0_34, T0_35, T0_38, T0_44, T0_46, T0_47, T0_55, T0_64, T0_66, T0_107, T0_133, T0_137, T0_138, T0_140, T0_141, T0_307]
      rw [he]
      simp [avLe, trimZ]
    | succ m =>
      have hm : m < s.length := by omega
      have hm2 : m < (s.take (m + 1)).length := by omega
      have g : (s.take (m + 1)).getD (((m + 1 : Nat) : Int) - 1).toNat 0 = s[m] := by
        have e : (((m + 1 : Nat) : Int) - 1).toNat = m := by omega
        rw [e]
        simp [List.getD, hm]
      have hpos : ((0 : Int) < ((m + 1 : Nat) : Int)) = True := by simp
      have e2 : (((m + 1 : Nat) : Int) - 1).toNat = m := by omega
      by_cases hz : (s[m].toNat : Int) = 48
      · simp -dsimp only [eWC_skip, eWC_exit, eWC_ret, eWC_seq, eWC_block, eWC_cond, eWC_regF, eWC_regT, eWC_loop, eWOps_nil, eWOps_cons, eWOp_eq, eWPl_done, eWPl_z, eWPl_q, eWPl_a, eAW_eq, ↓AW, evalQ, guardG, SV.noU, SV.un, beq_iff_eq, quiet, evO, ofConst, St.put, SV.of, SV.no, binQ, unQ, arQ, loadQ, sliceQ, partsQ, fillAV, fillOk, isU8, byteOf, shapeOk, isAggD, isAggV, cell1, cellsOf, isSeq, pOk, capsOk, pureCall, pickB_or, pickB_and, belowV, belowL, elemsOf, Proms, Prom, svLe, tagLe, isLoad, lk, thenQ, blockQ, retV, retQ, resL, resQ, oneRes, if_false, if_true, reduceIte, forall_const, true_implies, false_implies, implies_true, Nat.reduceEqDiff, Nat.reduceAdd, Nat.reduceSub, Nat.reduceLT, Nat.reduceLeDiff, Nat.reduceMul, Nat.reduceBEq, Nat.reduceBNe, Int.reduceToNat, Int.reduceLT, Int.reduceLE, Int.reduceEq, Int.reduceNeg, Int.reduceAdd, Int.reduceSub, reduceCtorEq, List.filter_nil, List.filter_cons, List.find?_cons, List.find?_nil, ne_eq, beq_self_eq_true, eq_self, imp_self, wz, T0_3, T0_4, T0_5, T0_9, T0_22, T0_28, T0_30, T0_31, T0_32, T0_34, T0_35, T0_38, T0_44, T0_46, T0_47, T0_55, T0_64, T0_66, T0_107, T0_133, T0_137, T0_138, T0_140, T0_141, T0_307, hlen, g, hz, hpos]
        refine ⟨by unfold I64; omega, ⟨by omega, by omega⟩, by unfold I64; omega, ⟨by omega, by omega⟩, m, ⟨by omega, by rw [he, trimZ_step s m hm hz]⟩, by omega, Le_lit ?_⟩
        simp [frLe, lk, avLe, e2, List.take_take, Nat.min_eq_left]
      · simp -dsimp only [eWC_skip, eWC_exit, eWC_ret, eWC_seq, eWC_block, eWC_cond, eWC_regF, eWC_regT, eWC_loop, eWOps_nil, eWOps_cons, eWOp_eq, eWPl_done, eWPl_z, eWPl_q, eWPl_a, eAW_eq, ↓AW, evalQ, guardG, SV.noU, SV.un, beq_iff_eq, quiet, evO, ofConst, St.put, SV.of, SV.no, binQ, unQ, arQ, loadQ, sliceQ, partsQ, fillAV, fillOk, isU8, byteOf, shapeOk, isAggD, isAggV, cell1, cellsOf, isSeq, pOk, capsOk, pureCall, pickB_or, pickB_and, belowV, belowL, elemsOf, Proms, Prom, svLe, tagLe, isLoad, lk, thenQ, blockQ, retV, retQ, resL, resQ, oneRes, if_false, if_true, reduceIte, forall_const, true_implies, false_implies, implies_true, Nat.reduceEqDiff, Nat.reduceAdd, Nat.reduceSub, Nat.reduceLT, Nat.reduceLeDiff, Nat.reduceMul, Nat.reduceBEq, Nat.reduceBNe, Int.reduceToNat, Int.reduceLT, Int.reduceLE, Int.reduceEq, Int.reduceNeg, Int.reduceAdd, Int.reduceSub, reduceCtorEq, List.filter_nil, List.filter_cons, List.find?_cons, List.find?_nil, ne_eq, beq_self_eq_true, eq_self, imp_self, wz, T0_3, T0_4, T0_5, T0_9, T0_22, T0_28, T0_30, T0_31, T0_32, T0_34, T0_35, T0_38, T0_44, T0_46, T0_47, T0_55, T0_64, T0_66, T0_107, T0_133, T0_137, T0_138, T0_140, T0_141, T0_307, hlen, g, hz, hpos]
        refine ⟨by unfold I64; omega, ⟨by omega, by omega⟩, ?_⟩
        rw [he, trimZ_end s m hm hz]
        simp [avLe]
end Go.Proofs.Tryz

namespace Go.Proofs.Tryz
open Go Go.Abs
set_option linter.unusedSimpArgs false
set_option maxRecDepth 100000
set_option maxHeartbeats 2000000

def opVal (s : Str) (op : Int) : Int × Int :=
  if decOk s = false then (0, 1)
  else if op = 1 then (if (numOf s).frac.all zer = false then (0, 8) else (valS (numOf s).whole, 0))
  else if op = 2 then (valS (numOf s).whole, 0)
  else if op = 3 then ((numOf s).frac.length, 0)
  else if op = 4 then ((trimZ (numOf s).frac).length, 0)
  else if op = 5 then (valS (numOf s).frac, 0)
  else if op = 6 then (valS (trimZ (numOf s).frac), 0)
  else (0, 1)

theorem numOk_facts {x : Num} (h : numOk x = true) : x.whole.all dig = true ∧ x.frac.all dig = true ∧ x.whole.length ≤ 15 ∧ 1 ≤ x.whole.length ∧ x.frac.length ≤ 6 := by
  simp only [numOk, Bool.not_eq_true', Bool.or_eq_false_iff, Bool.not_eq_false', List.all_append, Bool.and_eq_true, decide_eq_false_iff_not] at h
  obtain ⟨⟨⟨⟨⟨⟨h1, h2⟩, h3⟩, h4⟩, _⟩, h5⟩, _⟩ := h
  exact ⟨h1, h2, by omega, by omega, by omega⟩
theorem trimZ_sub (s : Str) : (∀ x ∈ trimZ s, x ∈ s) ∧ (trimZ s).length ≤ s.length := by
  constructor
  · intro x hx
    simp only [trimZ, List.mem_reverse] at hx
    have := (List.dropWhile_suffix (fun b : UInt8 => b == 48) (l := s.reverse)).subset hx
    simpa using this
  · simp only [trimZ, List.length_reverse]
    have := (List.dropWhile_suffix (fun b : UInt8 => b == 48) (l := s.reverse)).length_le
    simpa using this
theorem trimZ_dig {s : Str} (h : s.all dig = true) : (trimZ s).all dig = true := List.all_eq_true.2 fun x hx => List.all_eq_true.1 h x ((trimZ_sub s).1 x hx)

theorem s280 (s : Str) (op : Int) (hx : s.length < 1099511627776) : FSv prog 280 [.str s, .int .i64 op] (.tup [.int .i64 (opVal s op).1, .int .i64 (opVal s op).2]) := by
  refine FSv_code T0_ok mo pl0 _ func280 (by decide) rfl _ rfl (by rfl) (by simp) _ rfl ?_
  simp only [f280]
  simp -dsimp only [eWC_skip, eWC_exit, eWC_ret, eWC_seq, eWC_block, eWC_cond, eWC_regF, eWC_regT, eWC_loop, eWOps_nil, eWOps_cons, eWOp_eq, eWPl_done, eWPl_z, eWPl_q, eWPl_a, eAW_eq, ↓AW, evalQ, guardG, SV.noU, SV.un, beq_iff_eq, quiet, evO, ofConst, St.put, SV.of, SV.no, binQ, unQ, arQ, loadQ, sliceQ, partsQ, fillAV, fillOk, isU8, byteOf, shapeOk, isAggD, isAggV, cell1, cellsOf, isSeq, pOk, capsOk, pureCall, pickB_or, pickB_and, belowV, belowL, elemsOf, Proms, Prom, svLe, tagLe, isLoad, lk, thenQ, blockQ, retV, retQ, resL, resQ, oneRes, if_false, if_true, reduceIte, forall_const, true_implies, false_implies, implies_true, Nat.reduceEqDiff, Nat.reduceAdd, Nat.reduceSub, Nat.reduceLT, Nat.reduceLeDiff, Nat.reduceMul, Nat.reduceBEq, Nat.reduceBNe, Int.reduceToNat, Int.reduceLT, Int.reduceLE, Int.reduceEq, Int.reduceNeg, Int.reduceAdd, Int.reduceSub, reduceCtorEq, List.filter_nil, List.filter_cons, List.find?_cons, List.find?_nil, ne_eq, beq_self_eq_true, eq_self, imp_self, wz, T0_3, T0_4, T0_5, T0_9, T0_22, T0_28, T0_30, T0_31, T0_32, T0_34, T0_35, T0_38, T0_44, T0_46, T0_47, T0_55, T0_64, T0_66, T0_107, T0_133, T0_137, T0_138, T0_140, T0_141, T0_307, S0]
  refine callG_v _ (s70 s hx) (by simp) (by simp [belowL, belowV]) (by simp [belowV, belowL, Num.av]) ?_
  cases hd : decOk s with
  | false =>
    simp -dsimp only [eWC_skip, eWC_exit, eWC_ret, eWC_seq, eWC_block, eWC_cond, eWC_regF, eWC_regT, eWC_loop, eWOps_nil, eWOps_cons, eWOp_eq, eWPl_done, eWPl_z, eWPl_q, eWPl_a, eAW_eq, ↓AW, evalQ, guardG, SV.noU, SV.un, beq_iff_eq, quiet, evO, ofConst, St.put, SV.of, SV.no, binQ, unQ, arQ, loadQ, sliceQ, partsQ, fillAV, fillOk, isU8, byteOf, shapeOk, isAggD, isAggV, cell1, cellsOf, isSeq, pOk, capsOk, pureCall, pickB_or, pickB_and, belowV, belowL, elemsOf, Proms, Prom, svLe, tagLe, isLoad, lk, thenQ, blockQ, retV, retQ, resL, resQ, oneRes, if_false, if_true, reduceIte, forall_const, true_implies, false_implies, implies_true, Nat.reduceEqDiff, Nat.reduceAdd, Nat.reduceSub, Nat.reduceLT, Nat.reduceLeDiff, Nat.reduceMul, Nat.reduceBEq, Nat.reduceBNe, Int.reduceToNat, Int.reduceLT, Int.reduceLE, Int.reduceEq, Int.reduceNeg, Int.reduceAdd, Int.reduceSub, reduceCtorEq, List.filter_nil, List.filter_cons, List.find?_cons, List.find?_nil, ne_eq, beq_self_eq_true, eq_self, imp_self, wz, T0_3, T0_4, T0_5, T0_9, T0_22, T0_28, T0_30, T0_31, T0_32, T0_34, T0_35, T0_38, T0_44, T0_46, T0_47, T0_55, T0_64, T0_66, T0_107, T0_133, T0_137, T0_138, T0_140, T0_141, T0_307, Num.av]
    simp [avLe, avsLe, opVal, hd]
  | true =>
    have hn : numOk (numOf s) = true := by
      simp only [decOk, Bool.and_eq_true] at hd
      exact hd.2
    obtain ⟨h1, h2, h3, h4, h5⟩ := numOk_facts hn
    simp -dsimp only [eWC_skip, eWC_exit, eWC_ret, eWC_seq, eWC_block, eWC_cond, eWC_regF, eWC_regT, eWC_loop, eWOps_nil, eWOps_cons, eWOp_eq, eWPl_done, eWPl_z, eWPl_q, eWPl_a, eAW_eq, ↓AW, evalQ, guardG, SV.noU, SV.un, beq_iff_eq, quiet, evO, ofConst, St.put, SV.of, SV.no, binQ, unQ, arQ, loadQ, sliceQ, partsQ, fillAV, fillOk, isU8, byteOf, shapeOk, isAggD, isAggV, cell1, cellsOf, isSeq, pOk, capsOk, pureCall, pickB_or, pickB_and, belowV, belowL, elemsOf, Proms, Prom, svLe, tagLe, isLoad, lk, thenQ, blockQ, retV, retQ, resL, resQ, oneRes, if_false, if_true, reduceIte, forall_const, true_implies, false_implies, implies_true, Nat.reduceEqDiff, Nat.reduceAdd, Nat.reduceSub, Nat.reduceLT, Nat.reduceLeDiff, Nat.reduceMul, Nat.reduceBEq, Nat.reduceBNe, Int.reduceToNat, Int.reduceLT, Int.reduceLE, Int.reduceEq, Int.reduceNeg, Int.reduceAdd, Int.reduceSub, reduceCtorEq, List.filter_nil, List.filter_cons, List.find?_cons, List.find?_nil, ne_eq, beq_self_eq_true, eq_self, imp_self, wz, T0_3, T0_4, T0_5, T0_9, T0_22, T0_28, T0_30, T0_31, T0_32, T0_34, T0_35, T0_38, T0_44, T0_46, T0_47, T0_55, T0_64, T0_66, T0_107, T0_133, T0_137, T0_138, T0_140, T0_141, T0_307, Num.av]
    refine ⟨fun o1 => ?_, fun o1 => ⟨fun o2 => ?_, fun o2 => ⟨fun o3 => ?_, fun o3 => ⟨fun o4 => ?_, fun o4 => ⟨fun o5 => ?_, fun o5 => ⟨fun o6 => ?_, fun o6 => ?_⟩⟩⟩⟩⟩⟩
    · refine callG_v _ (s163 _ (by omega)) (by simp) (by simp [belowL, belowV]) (by simp [belowV]) ?_
      simp -dsimp only [eWC_skip, eWC_exit, eWC_ret, eWC_seq, eWC_block, eWC_cond, eWC_regF, eWC_regT, eWC_loop, eWOps_nil, eWOps_cons, eWOp_eq, eWPl_done, eWPl_z, eWPl_q, eWPl_a, eAW_eq, ↓AW, evalQ, guardG, SV.noU, SV.un, beq_iff_eq, quiet, evO, ofConst, St.put, SV.of, SV.no, binQ, unQ, arQ, loadQ, sliceQ, partsQ, fillAV, fillOk, isU8, byteOf, shapeOk, isAggD, isAggV, cell1, cellsOf, isSeq, pOk, capsOk, pureCall, pickB_or, pickB_and, belowV, belowL, elemsOf, Proms, Prom, svLe, tagLe, isLoad, lk, thenQ, blockQ, retV, retQ, resL, resQ, oneRes, if_false, if_true, reduceIte, forall_const, true_implies, false_implies, implies_true, Nat.reduceEqDiff, Nat.reduceAdd, Nat.reduceSub, Nat.reduceLT, Nat.reduceLeDiff, Nat.reduceMul, Nat.reduceBEq, Nat.reduceBNe, Int.reduceToNat, Int.reduceLT, Int.reduceLE, Int.reduceEq, Int.reduceNeg, Int.reduceAdd, Int.reduceSub, reduceCtorEq, List.filter_nil, List.filter_cons, List.find?_cons, List.find?_nil, ne_eq, beq_self_eq_true, eq_self, imp_self, wz, T0_3, T0_4, T0_5, T0_9, T0_22, T0_28, T0_30, T0_31, T0_32, T0_34, T0_35, T0_38, T0_44, T0_46, T0_47, T0_55, T0_64, T0_66, T0_107, T0_133, T0_137, T0_138, T0_140, T0_141, T0_307]
      refine ⟨fun h => ?_, fun h => ?_⟩
      · have h' : (numOf s).frac.all zer = false := by simpa using h
        simp only [opVal, hd, o1, h']
        simp [avLe, avsLe]
      · have h' : (numOf s).frac.all zer = true := by simpa using h
        refine callG_v _ (s327 _ h1 (by omega)) (by simp) (by simp [belowL, belowV]) (by simp [belowV]) ?_
        simp -dsimp only [eWC_skip, eWC_exit, eWC_ret, eWC_seq, eWC_block, eWC_cond, eWC_regF, eWC_regT, eWC_loop, eWOps_nil, eWOps_cons, eWOp_eq, eWPl_done, eWPl_z, eWPl_q, eWPl_a, eAW_eq, ↓AW, evalQ, guardG, SV.noU, SV.un, beq_iff_eq, quiet, evO, ofConst, St.put, SV.of, SV.no, binQ, unQ, arQ, loadQ, sliceQ, partsQ, fillAV, fillOk, isU8, byteOf, shapeOk, isAggD, isAggV, cell1, cellsOf, isSeq, pOk, capsOk, pureCall, pickB_or, pickB_and, belowV, belowL, elemsOf, Proms, Prom, svLe, tagLe, isLoad, lk, thenQ, blockQ, retV, retQ, resL, resQ, oneRes, if_false, if_true, reduceIte, forall_const, true_implies, false_implies, implies_true, Nat.reduceEqDiff, Nat.reduceAdd, Nat.reduceSub, Nat.reduceLT, Nat.reduceLeDiff, Nat.reduceMul, Nat.reduceBEq, Nat.reduceBNe, Int.reduceToNat, Int.reduceLT, Int.reduceLE, Int.reduceEq, Int.reduceNeg, Int.reduceAdd, Int.reduceSub, reduceCtorEq, List.filter_nil, List.filter_cons, List.find?_cons, List.find?_nil, ne_eq, beq_self_eq_true, eq_self, imp_self, wz, T0_3, T0_4, T0_5, T0_9, T0_22, T0_28, T0_30, T0_31, T0_32, T0_34, T0_35, T0_38, T0_44, T0_46, T0_47, T0_55, T0_64, T0_66, T0_107, T0_133, T0_137, T0_138, T0_140, T0_141, T0_307]
        simp only [opVal, hd, o1, h']
        simp [avLe, avsLe]
    · refine callG_v _ (s327 _ h1 (by omega)) (by simp) (by simp [belowL, belowV]) (by simp [belowV]) ?_
      simp -dsimp only [eWC_skip, eWC_exit, eWC_ret, eWC_seq, eWC_block, eWC_cond, eWC_regF, eWC_regT, eWC_loop, eWOps_nil, eWOps_cons, eWOp_eq, eWPl_done, eWPl_z, eWPl_q, eWPl_a, eAW_eq, ↓AW, evalQ, guardG, SV.noU, SV.un, beq_iff_eq, quiet, evO, ofConst, St.put, SV.of, SV.no, binQ, unQ, arQ, loadQ, sliceQ, partsQ, fillAV, fillOk, isU8, byteOf, shapeOk, isAggD, isAggV, cell1, cellsOf, isSeq, pOk, capsOk, pureCall, pickB_or, pickB_and, belowV, belowL, elemsOf, Proms, Prom, svLe, tagLe, isLoad, lk, thenQ, blockQ, retV, retQ, resL, resQ, oneRes, if_false, if_true, reduceIte, forall_const, true_implies, false_implies, implies_true, Nat.reduceEqDiff, Nat.reduceAdd, Nat.reduceSub, Nat.reduceLT, Nat.reduceLeDiff, Nat.reduceMul, Nat.reduceBEq, Nat.reduceBNe, Int.reduceToNat, Int.reduceLT, Int.reduceLE, Int.reduceEq, Int.reduceNeg, Int.reduceAdd, Int.reduceSub, reduceCtorEq, List.filter_nil, List.filter_cons, List.find?_cons, List.find?_nil, ne_eq, beq_self_eq_true, eq_self, imp_self, wz, T0_3, T0_4, T0_5, T0_9, T0_22, T0_28, T0_30, T0_31, T0_32, T0_34, T0_35, T0_38, T0_44, T0_46, T0_47, T0_55, T0_64, T0_66, T0_107, T0_133, T0_137, T0_138, T0_140, T0_141, T0_307]
      simp [avLe, avsLe, opVal, hd, o1, o2]
    · simp [avLe, avsLe, opVal, hd, o1, o2, o3]
    · refine callG_v _ (s328 _ (by omega)) (by simp) (by simp [belowL, belowV]) (by simp [belowV]) ?_
      simp -dsimp only [eWC_skip, eWC_exit, eWC_ret, eWC_seq, eWC_block, eWC_cond, eWC_regF, eWC_regT, eWC_loop, eWOps_nil, eWOps_cons, eWOp_eq, eWPl_done, eWPl_z, eWPl_q, eWPl_a, eAW_eq, ↓AW, evalQ, guardG, SV.noU, SV.un, beq_iff_eq, quiet, evO, ofConst, St.put, SV.of, SV.no, binQ, unQ, arQ, loadQ, sliceQ, partsQ, fillAV, fillOk, isU8, byteOf, shapeOk, isAggD, isAggV, cell1, cellsOf, isSeq, pOk, capsOk, pureCall, pickB_or, pickB_and, belowV, belowL, elemsOf, Proms, Prom, svLe, tagLe, isLoad, lk, thenQ, blockQ, retV, retQ, resL, resQ, oneRes, if_false, if_true, reduceIte, forall_const, true_implies, false_implies, implies_true, Nat.reduceEqDiff, Nat.reduceAdd, Nat.reduceSub, Nat.reduceLT, Nat.reduceLeDiff, Nat.reduceMul, Nat.reduceBEq, Nat.reduceBNe, Int.reduceToNat, Int.reduceLT, Int.reduceLE, Int.reduceEq, Int.reduceNeg, Int.reduceAdd, Int.reduceSub, reduceCtorEq, List.filter_nil, List.filter_cons, List.find?_cons, List.find?_nil, ne_eq, beq_self_eq_true, eq_self, imp_self, wz, T0_3, T0_4, T0_5, T0_9, T0_22, T0_28, T0_30, T0_31, T0_32, T0_34, T0_35, T0_38, T0_44, T0_46, T0_47, T0_55, T0_64, T0_66, T0_107, T0_133, T0_137, T0_138, T0_140, T0_141, T0_307]
      simp [avLe, avsLe, opVal, hd, o1, o2, o3, o4]
    · refine callG_v _ (s327 _ h2 (by omega)) (by simp) (by simp [belowL, belowV]) (by simp [belowV]) ?_
      simp -dsimp only [eWC_skip, eWC_exit, eWC_ret, eWC_seq, eWC_block, eWC_cond, eWC_regF, eWC_regT, eWC_loop, eWOps_nil, eWOps_cons, eWOp_eq, eWPl_done, eWPl_z, eWPl_q, eWPl_a, eAW_eq, ↓AW, evalQ, guardG, SV.noU, SV.un, beq_iff_eq, quiet, evO, ofConst, St.put, SV.of, SV.no, binQ, unQ, arQ, loadQ, sliceQ, partsQ, fillAV, fillOk, isU8, byteOf, shapeOk, isAggD, isAggV, cell1, cellsOf, isSeq, pOk, capsOk, pureCall, pickB_or, pickB_and, belowV, belowL, elemsOf, Proms, Prom, svLe, tagLe, isLoad, lk, thenQ, blockQ, retV, retQ, resL, resQ, oneRes, if_false, if_true, reduceIte, forall_const, true_implies, false_implies, implies_true, Nat.reduceEqDiff, Nat.reduceAdd, Nat.reduceSub, Nat.reduceLT, Nat.reduceLeDiff, Nat.reduceMul, Nat.reduceBEq, Nat.reduceBNe, Int.reduceToNat, Int.reduceLT, Int.reduceLE, Int.reduceEq, Int.reduceNeg, Int.reduceAdd, Int.reduceSub, reduceCtorEq, List.filter_nil, List.filter_cons, List.find?_cons, List.find?_nil, ne_eq, beq_self_eq_true, eq_self, imp_self, wz, T0_3, T0_4, T0_5, T0_9, T0_22, T0_28, T0_30, T0_31, T0_32, T0_34, T0_35, T0_38, T0_44, T0_46, T0_47, T0_55, T0_64, T0_66, T0_107, T0_133, T0_137, T0_138, T0_140, T0_141, T0_307]
      simp [avLe, avsLe, opVal, hd, o1, o2, o3, o4, o5]
    · refine callG_v _ (s328 _ (by omega)) (by simp) (by simp [belowL, belowV]) (by simp [belowV]) ?_
      simp -dsimp only [eWC_skip, eWC_exit, eWC_ret, eWC_seq, eWC_block, eWC_cond, eWC_regF, eWC_regT, eWC_loop, eWOps_nil, eWOps_cons, eWOp_eq, eWPl_done, eWPl_z, eWPl_q, eWPl_a, eAW_eq, ↓AW, evalQ, guardG, SV.noU, SV.un, beq_iff_eq, quiet, evO, ofConst, St.put, SV.of, SV.no, binQ, unQ, arQ, loadQ, sliceQ, partsQ, fillAV, fillOk, isU8, byteOf, shapeOk, isAggD, isAggV, cell1, cellsOf, isSeq, pOk, capsOk, pureCall, pickB_or, pickB_and, belowV, belowL, elemsOf, Proms, Prom, svLe, tagLe, isLoad, lk, thenQ, blockQ, retV, retQ, resL, resQ, oneRes, if_false, if_true, reduceIte, forall_const, true_implies, false_implies, implies_true, Nat.reduceEqDiff, Nat.reduceAdd, Nat.reduceSub, Nat.reduceLT, Nat.reduceLeDiff, Nat.reduceMul, Nat.reduceBEq, Nat.reduceBNe, Int.reduceToNat, Int.reduceLT, Int.reduceLE, Int.reduceEq, Int.reduceNeg, Int.reduceAdd, Int.reduceSub, reduceCtorEq, List.filter_nil, List.filter_cons, List.find?_cons, List.find?_nil, ne_eq, beq_self_eq_true, eq_self, imp_self, wz, T0_3, T0_4, T0_5, T0_9, T0_22, T0_28, T0_30, T0_31, T0_32, T0_34, T0_35, T0_38, T0_44, T0_46, T0_47, T0_55, T0_64, T0_66, T0_107, T0_133, T0_137, T0_138, T0_140, T0_141, T0_307]
      have hl := (trimZ_sub (numOf s).frac).2
      refine callG_v _ (s327 _ (trimZ_dig h2) (by omega)) (by simp) (by simp [belowL, belowV]) (by simp [belowV]) ?_
      simp -dsimp only [eWC_skip, eWC_exit, eWC_ret, eWC_seq, eWC_block, eWC_cond, eWC_regF, eWC_regT, eWC_loop, eWOps_nil, eWOps_cons, eWOp_eq, eWPl_done, eWPl_z, eWPl_q, eWPl_a, eAW_eq, ↓AW, evalQ, guardG, SV.noU, SV.un, beq_iff_eq, quiet, evO, ofConst, St.put, SV.of, SV.no, binQ, unQ, arQ, loadQ, sliceQ, partsQ, fillAV, fillOk, isU8, byteOf, shapeOk, isAggD, isAggV, cell1, cellsOf, isSeq, pOk, capsOk, pureCall, pickB_or, pickB_and, belowV, belowL, elemsOf, Proms, Prom, svLe, tagLe, isLoad, lk, thenQ, blockQ, retV, retQ, resL, resQ, oneRes, if_false, if_true, reduceIte, forall_const, true_implies, false_implies, implies_true, Nat.reduceEqDiff, Nat.reduceAdd, Nat.reduceSub, Nat.reduceLT, Nat.reduceLeDiff, Nat.reduceMul, Nat.reduceBEq, Nat.reduceBNe, Int.reduceToNat, Int.reduceLT, Int.reduceLE, Int.reduceEq, Int.reduceNeg, Int.reduceAdd, Int.reduceSub, reduceCtorEq, List.filter_nil, List.filter_cons, List.find?_cons, List.find?_nil, ne_eq, beq_self_eq_true, eq_self, imp_self, wz, T0_3, T0_4, T0_5, T0_9, T0_22, T0_28, T0_30, T0_31, T0_32, T0_34, T0_35, T0_38, T0_44, T0_46, T0_47, T0_55, T0_64, T0_66, T0_107, T0_133, T0_137, T0_138, T0_140, T0_141, T0_307]
      simp [avLe, avsLe, opVal, hd, o1, o2, o3, o4, o5, o6]
    · simp [avLe, avsLe, opVal, hd, o1, o2, o3, o4, o5, o6]
end Go.Proofs.Tryz

namespace Go.Proofs.Tryz
open Go Go.Abs
set_option linter.unusedSimpArgs false
set_option maxRecDepth 100000
set_option maxHeartbeats 2000000

theorem valS_nonneg {s : Str} (h : s.all dig = true) : 0 ≤ valS s := by
  have := (valS_lt s h s.length (Nat.le_refl _)).1
  rwa [List.take_length] at this
theorem opVal_nonneg (s : Str) (op : Int) : 0 ≤ (opVal s op).1 := by
  unfold opVal
  by_cases hd : decOk s = false
  · simp [hd]
  · rw [if_neg hd]
    have hd' : decOk s = true := by simpa using hd
    have hn : numOk (numOf s) = true := by
      simp only [decOk, Bool.and_eq_true] at hd'
      exact hd'.2
    obtain ⟨h1, h2, _, _, _⟩ := numOk_facts hn
    have v1 := valS_nonneg h1
    have v2 := valS_nonneg h2
    have v3 := valS_nonneg (trimZ_dig h2)
    repeat' split
    all_goals first | exact v1 | exact v2 | exact v3 | (simp only; omega)
theorem modsOf_pos {op m : Int} (h : (modsOf op).contains m = true) : 0 < m := by
  rw [List.contains_iff_mem] at h
  unfold modsOf at h
  repeat' split at h
  all_goals (simp at h; try omega)
theorem proper_mod {r : Rln} (h : properR r = true) : r.mod = 0 ∨ 0 < r.mod := by
  by_cases h0 : r.mod = 0
  · exact .inl h0
  · refine .inr (modsOf_pos (op := r.operand) ?_)
    simp only [properR, headOk, Bool.and_eq_true, Bool.not_eq_true', Bool.or_eq_false_iff] at h
    have := h.1.1.1.2
    simpa [h0] using this

/-- Does a number meet a relation? -/
def relHolds (r : Rln) (s : Str) : Bool :=
  if (opVal s r.operand).2 = 0 then decide (r.spans.any (inSp (if r.mod = 0 then (opVal s r.operand).1 else (opVal s r.operand).1 % r.mod)) ≠ r.not)
  else r.not

theorem s204 (r : Rln) (s : Str) (hp : properR r = true) (hs : s.length < 1099511627776) (hl : r.spans.length < 1099511627776) : FSv prog 204 [r.av, .str s] (.bool (relHolds r s)) := by
  refine FSv_code T0_ok mo pl204 _ func204 (by decide) rfl _ rfl (by rfl) (by simp) _ rfl ?_
  simp only [f204]
  simp -dsimp only [eWC_skip, eWC_exit, eWC_ret, eWC_seq, eWC_block, eWC_cond, eWC_regF, eWC_regT, eWC_loop, eWOps_nil, eWOps_cons, eWOp_eq, eWPl_done, eWPl_z, eWPl_q, eWPl_a, eAW_eq, ↓AW, evalQ, guardG, SV.noU, SV.un, beq_iff_eq, quiet, evO, ofConst, St.put, SV.of, SV.no, binQ, unQ, arQ, loadQ, sliceQ, partsQ, fillAV, fillOk, isU8, byteOf, shapeOk, isAggD, isAggV, cell1, cellsOf, isSeq, pOk, capsOk, pureCall, pickB_or, pickB_and, belowV, belowL, elemsOf, Proms, Prom, svLe, tagLe, isLoad, lk, thenQ, blockQ, retV, retQ, resL, resQ, oneRes, if_false, if_true, reduceIte, forall_const, true_implies, false_implies, implies_true, Nat.reduceEqDiff, Nat.reduceAdd, Nat.reduceSub, Nat.reduceLT, Nat.reduceLeDiff, Nat.reduceMul, Nat.reduceBEq, Nat.reduceBNe, Int.reduceToNat, Int.reduceLT, Int.reduceLE, Int.reduceEq, Int.reduceNeg, Int.reduceAdd, Int.reduceSub, reduceCtorEq, List.filter_nil, List.filter_cons, List.find?_cons, List.find?_nil, ne_eq, beq_self_eq_true, eq_self, imp_self, wz, T0_3, T0_4, T0_5, T0_9, T0_22, T0_28, T0_30, T0_31, T0_32, T0_34, T0_35, T0_38, T0_44, T0_46, T0_47, T0_55, T0_64, T0_66, T0_107, T0_133, T0_137, T0_138, T0_140, T0_141, T0_307, S0, Rln.av]
  refine callG_v _ (s280 s r.operand hs) (by simp) (by simp [belowL, belowV]) (by simp [belowV, belowL]) ?_
  have hn := opVal_nonneg s r.operand
  have hm := proper_mod hp
  simp -dsimp only [eWC_skip, eWC_exit, eWC_ret, eWC_seq, eWC_block, eWC_cond, eWC_regF, eWC_regT, eWC_loop, eWOps_nil, eWOps_cons, eWOp_eq, eWPl_done, eWPl_z, eWPl_q, eWPl_a, eAW_eq, ↓AW, evalQ, guardG, SV.noU, SV.un, beq_iff_eq, quiet, evO, ofConst, St.put, SV.of, SV.no, binQ, unQ, arQ, loadQ, sliceQ, partsQ, fillAV, fillOk, isU8, byteOf, shapeOk, isAggD, isAggV, cell1, cellsOf, isSeq, pOk, capsOk, pureCall, pickB_or, pickB_and, belowV, belowL, elemsOf, Proms, Prom, svLe, tagLe, isLoad, lk, thenQ, blockQ, retV, retQ, resL, resQ, oneRes, if_false, if_true, reduceIte, forall_const, true_implies, false_implies, implies_true, Nat.reduceEqDiff, Nat.reduceAdd, Nat.reduceSub, Nat.reduceLT, Nat.reduceLeDiff, Nat.reduceMul, Nat.reduceBEq, Nat.reduceBNe, Int.reduceToNat, Int.reduceLT, Int.reduceLE, Int.reduceEq, Int.reduceNeg, Int.reduceAdd, Int.reduceSub, reduceCtorEq, List.filter_nil, List.filter_cons, List.find?_cons, List.find?_nil, ne_eq, beq_self_eq_true, eq_self, imp_self, wz, T0_3, T0_4, T0_5, T0_9, T0_22, T0_28, T0_30, T0_31, T0_32, T0_34, T0_35, T0_38, T0_44, T0_46, T0_47, T0_55, T0_64, T0_66, T0_107, T0_133, T0_137, T0_138, T0_140, T0_141, T0_307]
  refine ⟨fun h => ?_, fun h => ⟨fun h2 => ⟨⟨by omega, by omega⟩, ?_⟩, fun h2 => ?_⟩⟩
  · simp [avLe, relHolds, h]
  · simp -dsimp only [eWC_skip, eWC_exit, eWC_ret, eWC_seq, eWC_block, eWC_cond, eWC_regF, eWC_regT, eWC_loop, eWOps_nil, eWOps_cons, eWOp_eq, eWPl_done, eWPl_z, eWPl_q, eWPl_a, eAW_eq, ↓AW, evalQ, guardG, SV.noU, SV.un, beq_iff_eq, quiet, evO, ofConst, St.put, SV.of, SV.no, binQ, unQ, arQ, loadQ, sliceQ, partsQ, fillAV, fillOk, isU8, byteOf, shapeOk, isAggD, isAggV, cell1, cellsOf, isSeq, pOk, capsOk, pureCall, pickB_or, pickB_and, belowV, belowL, elemsOf, Proms, Prom, svLe, tagLe, isLoad, lk, thenQ, blockQ, retV, retQ, resL, resQ, oneRes, if_false, if_true, reduceIte, forall_const, true_implies, false_implies, implies_true, Nat.reduceEqDiff, Nat.reduceAdd, Nat.reduceSub, Nat.reduceLT, Nat.reduceLeDiff, Nat.reduceMul, Nat.reduceBEq, Nat.reduceBNe, Int.reduceToNat, Int.reduceLT, Int.reduceLE, Int.reduceEq, Int.reduceNeg, Int.reduceAdd, Int.reduceSub, reduceCtorEq, List.filter_nil, List.filter_cons, List.find?_cons, List.find?_nil, ne_eq, beq_self_eq_true, eq_self, imp_self, wz, T0_3, T0_4, T0_5, T0_9, T0_22, T0_28, T0_30, T0_31, T0_32, T0_34, T0_35, T0_38, T0_44, T0_46, T0_47, T0_55, T0_64, T0_66, T0_107, T0_133, T0_137, T0_138, T0_140, T0_141, T0_307, pl204_6]
    refine callG_v _ (s281 _ _ hl) (by simp) (by simp [belowL, belowV]) (by simp [belowV]) ?_
    simp -dsimp only [eWC_skip, eWC_exit, eWC_ret, eWC_seq, eWC_block, eWC_cond, eWC_regF, eWC_regT, eWC_loop, eWOps_nil, eWOps_cons, eWOp_eq, eWPl_done, eWPl_z, eWPl_q, eWPl_a, eAW_eq, ↓AW, evalQ, guardG, SV.noU, SV.un, beq_iff_eq, quiet, evO, ofConst, St.put, SV.of, SV.no, binQ, unQ, arQ, loadQ, sliceQ, partsQ, fillAV, fillOk, isU8, byteOf, shapeOk, isAggD, isAggV, cell1, cellsOf, isSeq, pOk, capsOk, pureCall, pickB_or, pickB_and, belowV, belowL, elemsOf, Proms, Prom, svLe, tagLe, isLoad, lk, thenQ, blockQ, retV, retQ, resL, resQ, oneRes, if_false, if_true, reduceIte, forall_const, true_implies, false_implies, implies_true, Nat.reduceEqDiff, Nat.reduceAdd, Nat.reduceSub, Nat.reduceLT, Nat.reduceLeDiff, Nat.reduceMul, Nat.reduceBEq, Nat.reduceBNe, Int.reduceToNat, Int.reduceLT, Int.reduceLE, Int.reduceEq, Int.reduceNeg, Int.reduceAdd, Int.reduceSub, reduceCtorEq, List.filter_nil, List.filter_cons, List.find?_cons, List.find?_nil, ne_eq, beq_self_eq_true, eq_self, imp_self, wz, T0_3, T0_4, T0_5, T0_9, T0_22, T0_28, T0_30, T0_31, T0_32, T0_34, T0_35, T0_38, T0_44, T0_46, T0_47, T0_55, T0_64, T0_66, T0_107, T0_133, T0_137, T0_138, T0_140, T0_141, T0_307, pl204_6]
    have h' := Decidable.not_not.1 h
    simp [avLe, relHolds, h', h2]
  · simp -dsimp only [eWC_skip, eWC_exit, eWC_ret, eWC_seq, eWC_block, eWC_cond, eWC_regF, eWC_regT, eWC_loop, eWOps_nil, eWOps_cons, eWOp_eq, eWPl_done, eWPl_z, eWPl_q, eWPl_a, eAW_eq, ↓AW, evalQ, guardG, SV.noU, SV.un, beq_iff_eq, quiet, evO, ofConst, St.put, SV.of, SV.no, binQ, unQ, arQ, loadQ, sliceQ, partsQ, fillAV, fillOk, isU8, byteOf, shapeOk, isAggD, isAggV, cell1, cellsOf, isSeq, pOk, capsOk, pureCall, pickB_or, pickB_and, belowV, belowL, elemsOf, Proms, Prom, svLe, tagLe, isLoad, lk, thenQ, blockQ, retV, retQ, resL, resQ, oneRes, if_false, if_true, reduceIte, forall_const, true_implies, false_implies, implies_true, Nat.reduceEqDiff, Nat.reduceAdd, Nat.reduceSub, Nat.reduceLT, Nat.reduceLeDiff, Nat.reduceMul, Nat.reduceBEq, Nat.reduceBNe, Int.reduceToNat, Int.reduceLT, Int.reduceLE, Int.reduceEq, Int.reduceNeg, Int.reduceAdd, Int.reduceSub, reduceCtorEq, List.filter_nil, List.filter_cons, List.find?_cons, List.find?_nil, ne_eq, beq_self_eq_true, eq_self, imp_self, wz, T0_3, T0_4, T0_5, T0_9, T0_22, T0_28, T0_30, T0_31, T0_32, T0_34, T0_35, T0_38, T0_44, T0_46, T0_47, T0_55, T0_64, T0_66, T0_107, T0_133, T0_137, T0_138, T0_140, T0_141, T0_307, pl204_6]
    refine callG_v _ (s281 _ _ hl) (by simp) (by simp [belowL, belowV]) (by simp [belowV]) ?_
    simp -dsimp only [eWC_skip, eWC_exit, eWC_ret, eWC_seq, eWC_block, eWC_cond, eWC_regF, eWC_regT, eWC_loop, eWOps_nil, eWOps_cons, eWOp_eq, eWPl_done, eWPl_z, eWPl_q, eWPl_a, eAW_eq, ↓AW, evalQ, guardG, SV.noU, SV.un, beq_iff_eq, quiet, evO, ofConst, St.put, SV.of, SV.no, binQ, unQ, arQ, loadQ, sliceQ, partsQ, fillAV, fillOk, isU8, byteOf, shapeOk, isAggD, isAggV, cell1, cellsOf, isSeq, pOk, capsOk, pureCall, pickB_or, pickB_and, belowV, belowL, elemsOf, Proms, Prom, svLe, tagLe, isLoad, lk, thenQ, blockQ, retV, retQ, resL, resQ, oneRes, if_false, if_true, reduceIte, forall_const, true_implies, false_implies, implies_true, Nat.reduceEqDiff, Nat.reduceAdd, Nat.reduceSub, Nat.reduceLT, Nat.reduceLeDiff, Nat.reduceMul, Nat.reduceBEq, Nat.reduceBNe, Int.reduceToNat, Int.reduceLT, Int.reduceLE, Int.reduceEq, Int.reduceNeg, Int.reduceAdd, Int.reduceSub, reduceCtorEq, List.filter_nil, List.filter_cons, List.find?_cons, List.find?_nil, ne_eq, beq_self_eq_true, eq_self, imp_self, wz, T0_3, T0_4, T0_5, T0_9, T0_22, T0_28, T0_30, T0_31, T0_32, T0_34, T0_35, T0_38, T0_44, T0_46, T0_47, T0_55, T0_64, T0_66, T0_107, T0_133, T0_137, T0_138, T0_140, T0_141, T0_307, pl204_6]
    have h' := Decidable.not_not.1 h
    have h2' := Decidable.not_not.1 h2
    simp [avLe, relHolds, h', h2']
end Go.Proofs.Tryz
