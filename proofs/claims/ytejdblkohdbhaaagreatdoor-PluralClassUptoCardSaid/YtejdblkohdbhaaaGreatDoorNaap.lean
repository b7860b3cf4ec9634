/-
  Part of a proof: contracts of functions in abstract values.
-/
import Derived.Test.YtejdblkohdbhaaaGreatDoorNaao
set_option linter.unusedVariables false
set_option linter.unusedSimpArgs false
namespace Go.Proofs.Tryz
open Go Go.Abs Go.RowKit Go.Shelf
set_option linter.unusedSimpArgs false
set_option maxRecDepth 100000
set_option maxHeartbeats 8000000

theorem s360c (s : Str) (c : UInt8) : FSv prog 360 [.str s, .str [c]] (.int .i64 (Lib.indexByte s c)) :=
  FSv_bridge0 (entr_of func360 (by decide) rfl) fun w M vals h1 h2 => by
    obtain ⟨v1, r, rfl, a1, h2⟩ := reps_cons h2
    obtain ⟨v2, r2, rfl, a2, h3⟩ := reps_cons h2
    obtain rfl := reps_nil h3
    simp only [Rep] at a1 a2; subst a1; subst a2
    have hc := Any.stringslite_Index_one Tryz.lays219 ⟨s.toArray⟩ c w
    change Calls prog 360 _ _ _ at hc
    refine hc.mono fun e w' ⟨he, hw⟩ => ⟨_, he, by rw [hw]; exact Below.refl _ _, fun M' => ?_⟩
    simp only [Rep]
theorem s321 (s : Str) (c : UInt8) : FSv prog 321 [.str s, .str [c]] (.int .i64 (Lib.indexByte s c)) := by
  refine FSv_code T0_ok mo pl0 _ func321 (by decide) rfl _ rfl (by rfl) (by simp) _ rfl ?_
  simp only [f321]
  simp -dsimp only [eWC_skip, eWC_exit, eWC_ret, eWC_seq, eWC_block, eWC_cond, eWC_regF, eWC_regT, eWC_loop, eWOps_nil, eWOps_cons, eWOp_eq, eWPl_done, eWPl_z, eWPl_q, eWPl_a, eAW_eq, ↓AW, evalQ, guardG, SV.noU, SV.un, beq_iff_eq, quiet, evO, ofConst, St.put, SV.of, SV.no, binQ, unQ, arQ, loadQ, sliceQ, partsQ, fillAV, fillOk, isU8, byteOf, shapeOk, isAggD, isAggV, cell1, cellsOf, isSeq, pOk, capsOk, pureCall, pickB_or, pickB_and, belowV, belowL, elemsOf, Proms, Prom, svLe, tagLe, isLoad, lk, thenQ, blockQ, retV, retQ, resL, resQ, oneRes, if_false, if_true, reduceIte, forall_const, true_implies, false_implies, implies_true, Nat.reduceEqDiff, Nat.reduceAdd, Nat.reduceSub, Nat.reduceLT, Nat.reduceLeDiff, Nat.reduceMul, Nat.reduceBEq, Nat.reduceBNe, Int.reduceToNat, Int.reduceLT, Int.reduceLE, Int.reduceEq, Int.reduceNeg, Int.reduceAdd, Int.reduceSub, reduceCtorEq, List.filter_nil, List.filter_cons, List.find?_cons, List.find?_nil, ne_eq, beq_self_eq_true, eq_self, imp_self, wz, T0_3, T0_4, T0_5, T0_9, T0_22, T0_28, T0_30, T0_31, T0_32, T0_34, T0_35, T0_38, T0_44, T0_46, T0_47, T0_55, T0_64, T0_66, T0_107, T0_133, T0_137, T0_138, T0_140, T0_141, T0_307, T0_286, T0_329, T0_331, T0_363, S0]
  refine callG_v _ (s360c s c) (by simp) (by simp [belowL, belowV]) (by simp [belowV]) ?_
  simp -dsimp only [eWC_skip, eWC_exit, eWC_ret, eWC_seq, eWC_block, eWC_cond, eWC_regF, eWC_regT, eWC_loop, eWOps_nil, eWOps_cons, eWOp_eq, eWPl_done, eWPl_z, eWPl_q, eWPl_a, eAW_eq, ↓AW, evalQ, guardG, SV.noU, SV.un, beq_iff_eq, quiet, evO, ofConst, St.put, SV.of, SV.no, binQ, unQ, arQ, loadQ, sliceQ, partsQ, fillAV, fillOk, isU8, byteOf, shapeOk, isAggD, isAggV, cell1, cellsOf, isSeq, pOk, capsOk, pureCall, pickB_or, pickB_and, belowV, belowL, elemsOf, Proms, Prom, svLe, tagLe, isLoad, lk, thenQ, blockQ, retV, retQ, resL, resQ, oneRes, if_false, if_true, reduceIte, forall_const, true_implies, false_implies, implies_true, Nat.reduceEqDiff, Nat.reduceAdd, Nat.reduceSub, Nat.reduceLT, Nat.reduceLeDiff, Nat.reduceMul, Nat.reduceBEq, Nat.reduceBNe, Int.reduceToNat, Int.reduceLT, Int.reduceLE, Int.reduceEq, Int.reduceNeg, Int.reduceAdd, Int.reduceSub, reduceCtorEq, List.filter_nil, List.filter_cons, List.find?_cons, List.find?_nil, ne_eq, beq_self_eq_true, eq_self, imp_self, wz, T0_3, T0_4, T0_5, T0_9, T0_22, T0_28, T0_30, T0_31, T0_32, T0_34, T0_35, T0_38, T0_44, T0_46, T0_47, T0_55, T0_64, T0_66, T0_107, T0_133, T0_137, T0_138, T0_140, T0_141, T0_307, T0_286, T0_329, T0_331, T0_363]
  simp only [avLe]

/-! ### A relation, of one span -/
def relOp (c : UInt8) : Int := Lib.indexByte [32, 110, 105, 118, 119, 102, 116] c
def relA (p : Prs) : Prs := ⟨p.skip.txt, p.skip.at_, p.skip.n + 1, p.skip.err⟩
def relB (p : Prs) (c : UInt8) : Prs := ((relA p).take [[c]]).2
def relC (p : Prs) (c : UInt8) : Bool × Prs := (relB p c).next [37]
def relD (p : Prs) (c : UInt8) : Int × Prs := if (relC p c).1 then (relC p c).2.number (chkMod (relOp c)) else (0, (relC p c).2)
def relE (p : Prs) (c : UInt8) : Str × Prs := (relD p c).2.take [[61], [33, 61]]
def relF (p : Prs) (c : UInt8) : Spn × Prs := (relE p c).2.span (relOp c) 0
def relG (p : Prs) (c : UInt8) : Bool × Prs := (relF p c).2.next [44]
def relR (p : Prs) (c : UInt8) : Rln := ⟨relOp c, (relD p c).1, (relE p c).1 == [33, 61], [(relF p c).1]⟩
theorem relA_ok {p : Prs} (h : p.Ok) (hn : p.n < 6) : (relA p).Ok := by
  obtain ⟨h1, h2, h3, h4⟩ := skip_ok h
  have e : p.skip.n = p.n := rfl
  exact ⟨h1, h2, by simp only [relA]; omega, by simp only [relA]; omega⟩
theorem relD_ok {p : Prs} (h : p.Ok) (hn : p.n < 6) (c : UInt8) : (relB p c).Ok ∧ (relC p c).2.Ok ∧ (relD p c).2.Ok := by
  have h1 := relA_ok h hn
  have h2 : (relB p c).Ok := take_ok h1 _
  have h3 : (relC p c).2.Ok := next_ok h2 _
  refine ⟨h2, h3, ?_⟩
  unfold relD
  split
  · exact number_ok h3 _
  · exact h3
theorem relG_ok {p : Prs} (h : p.Ok) (hn : p.n < 6) (c : UInt8) : (relE p c).2.Ok ∧ (relF p c).2.Ok ∧ (relG p c).2.Ok := by
  have h1 := (relD_ok h hn c).2.2
  have h2 : (relE p c).2.Ok := take_ok h1 _
  have h3 : (relF p c).2.Ok := span_ok h2 _ _
  exact ⟨h2, h3, next_ok h3 _⟩
def pk {α : Type} (a b : α) : Nat → α
  | 0 => a
  | _ + 1 => b

theorem s277 (p : Prs) (hp : p.Ok) (hn : p.n < 6) (c : UInt8) (htok : p.tok = [c]) (hop : ¬ relOp c < 1) (h8 : (relE p c).2.err = 0) (hb : (relG p c).1 = false) :
    FSw prog 277 [.ptr 0 0] [p.box] (relR p c).av [(relG p c).2.box] := by
  refine FSw_code T0_ok mo pl277 _ func277 (by decide) rfl _ rfl (by rfl) 1 (by simp) (by simp [belowV, Rln.av, belowL]) (by simp) _ rfl ?_
  simp only [f277]
  have hpk := s320 p hp
  rw [htok] at hpk
  have okA := relA_ok hp hn
  obtain ⟨okB, okC, okD⟩ := relD_ok hp hn c
  obtain ⟨okE, okF, okG⟩ := relG_ok hp hn c
  simp -dsimp only [eWC_skip, eWC_exit, eWC_ret, eWC_seq, eWC_block, eWC_cond, eWC_regF, eWC_regT, eWC_loop, eWOps_nil, eWOps_cons, eWOp_eq, eWPl_done, eWPl_z, eWPl_q, eWPl_a, eAW_eq, ↓AW, evalQ, guardG, SV.noU, SV.un, beq_iff_eq, quiet, evO, ofConst, St.put, SV.of, SV.no, binQ, unQ, arQ, loadQ, sliceQ, partsQ, fillAV, fillOk, isU8, byteOf, shapeOk, isAggD, isAggV, cell1, cellsOf, isSeq, pOk, capsOk, pureCall, pickB_or, pickB_and, belowV, belowL, elemsOf, Proms, Prom, svLe, tagLe, isLoad, lk, thenQ, blockQ, retV, retQ, resL, resQ, oneRes, if_false, if_true, reduceIte, forall_const, true_implies, false_implies, implies_true, Nat.reduceEqDiff, Nat.reduceAdd, Nat.reduceSub, Nat.reduceLT, Nat.reduceLeDiff, Nat.reduceMul, Nat.reduceBEq, Nat.reduceBNe, Int.reduceToNat, Int.reduceLT, Int.reduceLE, Int.reduceEq, Int.reduceNeg, Int.reduceAdd, Int.reduceSub, reduceCtorEq, List.filter_nil, List.filter_cons, List.find?_cons, List.find?_nil, ne_eq, beq_self_eq_true, eq_self, imp_self, wz, T0_3, T0_4, T0_5, T0_9, T0_22, T0_28, T0_30, T0_31, T0_32, T0_34, T0_35, T0_38, T0_44, T0_46, T0_47, T0_55, T0_64, T0_66, T0_107, T0_133, T0_137, T0_138, T0_140, T0_141, T0_307, T0_286, T0_329, T0_331, T0_363, S0, retW]
  refine callG_w _ _ (hpk _) (by simp) ?_
  simp -dsimp only [eWC_skip, eWC_exit, eWC_ret, eWC_seq, eWC_block, eWC_cond, eWC_regF, eWC_regT, eWC_loop, eWOps_nil, eWOps_cons, eWOp_eq, eWPl_done, eWPl_z, eWPl_q, eWPl_a, eAW_eq, ↓AW, evalQ, guardG, SV.noU, SV.un, beq_iff_eq, quiet, evO, ofConst, St.put, SV.of, SV.no, binQ, unQ, arQ, loadQ, sliceQ, partsQ, fillAV, fillOk, isU8, byteOf, shapeOk, isAggD, isAggV, cell1, cellsOf, isSeq, pOk, capsOk, pureCall, pickB_or, pickB_and, belowV, belowL, elemsOf, Proms, Prom, svLe, tagLe, isLoad, lk, thenQ, blockQ, retV, retQ, resL, resQ, oneRes, if_false, if_true, reduceIte, forall_const, true_implies, false_implies, implies_true, Nat.reduceEqDiff, Nat.reduceAdd, Nat.reduceSub, Nat.reduceLT, Nat.reduceLeDiff, Nat.reduceMul, Nat.reduceBEq, Nat.reduceBNe, Int.reduceToNat, Int.reduceLT, Int.reduceLE, Int.reduceEq, Int.reduceNeg, Int.reduceAdd, Int.reduceSub, reduceCtorEq, List.filter_nil, List.filter_cons, List.find?_cons, List.find?_nil, ne_eq, beq_self_eq_true, eq_self, imp_self, wz, T0_3, T0_4, T0_5, T0_9, T0_22, T0_28, T0_30, T0_31, T0_32, T0_34, T0_35, T0_38, T0_44, T0_46, T0_47, T0_55, T0_64, T0_66, T0_107, T0_133, T0_137, T0_138, T0_140, T0_141, T0_307, T0_286, T0_329, T0_331, T0_363]
  refine callG_v _ (s321 [32, 110, 105, 118, 119, 102, 116] c) (by simp) (by simp [belowL, belowV]) (by simp [belowV]) ?_
  have eop : Lib.indexByte [32, 110, 105, 118, 119, 102, 116] c = relOp c := rfl
  rw [eop]
  have es : p.skip.n = p.n := rfl
  have d1 : decide (¬ (((1 : Nat) : Int) = 1)) = false := by decide
  have d2 : decide (relOp c < 1) = false := by simp; omega
  have d3 : decide (6 < p.skip.n + 1) = false := by rw [es]; simp; omega
  simp -dsimp only [eWC_skip, eWC_exit, eWC_ret, eWC_seq, eWC_block, eWC_cond, eWC_regF, eWC_regT, eWC_loop, eWOps_nil, eWOps_cons, eWOp_eq, eWPl_done, eWPl_z, eWPl_q, eWPl_a, eAW_eq, ↓AW, evalQ, guardG, SV.noU, SV.un, beq_iff_eq, quiet, evO, ofConst, St.put, SV.of, SV.no, binQ, unQ, arQ, loadQ, sliceQ, partsQ, fillAV, fillOk, isU8, byteOf, shapeOk, isAggD, isAggV, cell1, cellsOf, isSeq, pOk, capsOk, pureCall, pickB_or, pickB_and, belowV, belowL, elemsOf, Proms, Prom, svLe, tagLe, isLoad, lk, thenQ, blockQ, retV, retQ, resL, resQ, oneRes, if_false, if_true, reduceIte, forall_const, true_implies, false_implies, implies_true, Nat.reduceEqDiff, Nat.reduceAdd, Nat.reduceSub, Nat.reduceLT, Nat.reduceLeDiff, Nat.reduceMul, Nat.reduceBEq, Nat.reduceBNe, Int.reduceToNat, Int.reduceLT, Int.reduceLE, Int.reduceEq, Int.reduceNeg, Int.reduceAdd, Int.reduceSub, reduceCtorEq, List.filter_nil, List.filter_cons, List.find?_cons, List.find?_nil, ne_eq, beq_self_eq_true, eq_self, imp_self, wz, T0_3, T0_4, T0_5, T0_9, T0_22, T0_28, T0_30, T0_31, T0_32, T0_34, T0_35, T0_38, T0_44, T0_46, T0_47, T0_55, T0_64, T0_66, T0_107, T0_133, T0_137, T0_138, T0_140, T0_141, T0_307, T0_286, T0_329, T0_331, T0_363, d1, d2, d3, Prs.box]
  refine ⟨by unfold I64; rw [es]; have := hp.lo; omega, ?_⟩
  refine callG_w _ _ (s322 (relA p) okA [[c]] (by simp) _) (by simp) ?_
  have eB : ((relA p).take [[c]]).2 = relB p c := rfl
  rw [eB]
  simp -dsimp only [eWC_skip, eWC_exit, eWC_ret, eWC_seq, eWC_block, eWC_cond, eWC_regF, eWC_regT, eWC_loop, eWOps_nil, eWOps_cons, eWOp_eq, eWPl_done, eWPl_z, eWPl_q, eWPl_a, eAW_eq, ↓AW, evalQ, guardG, SV.noU, SV.un, beq_iff_eq, quiet, evO, ofConst, St.put, SV.of, SV.no, binQ, unQ, arQ, loadQ, sliceQ, partsQ, fillAV, fillOk, isU8, byteOf, shapeOk, isAggD, isAggV, cell1, cellsOf, isSeq, pOk, capsOk, pureCall, pickB_or, pickB_and, belowV, belowL, elemsOf, Proms, Prom, svLe, tagLe, isLoad, lk, thenQ, blockQ, retV, retQ, resL, resQ, oneRes, if_false, if_true, reduceIte, forall_const, true_implies, false_implies, implies_true, Nat.reduceEqDiff, Nat.reduceAdd, Nat.reduceSub, Nat.reduceLT, Nat.reduceLeDiff, Nat.reduceMul, Nat.reduceBEq, Nat.reduceBNe, Int.reduceToNat, Int.reduceLT, Int.reduceLE, Int.reduceEq, Int.reduceNeg, Int.reduceAdd, Int.reduceSub, reduceCtorEq, List.filter_nil, List.filter_cons, List.find?_cons, List.find?_nil, ne_eq, beq_self_eq_true, eq_self, imp_self, wz, T0_3, T0_4, T0_5, T0_9, T0_22, T0_28, T0_30, T0_31, T0_32, T0_34, T0_35, T0_38, T0_44, T0_46, T0_47, T0_55, T0_64, T0_66, T0_107, T0_133, T0_137, T0_138, T0_140, T0_141, T0_307, T0_286, T0_329, T0_331, T0_363]
  refine callG_w _ _ (s276 (relB p c) okB [37] _) (by simp) ?_
  have eC : (relB p c).next [37] = relC p c := rfl
  rw [eC]
  cases hC : (relC p c).1 with
  | true =>
    have hD : relD p c = (relC p c).2.number (chkMod (relOp c)) := by unfold relD; rw [hC]; rfl
    simp -dsimp only [eWC_skip, eWC_exit, eWC_ret, eWC_seq, eWC_block, eWC_cond, eWC_regF, eWC_regT, eWC_loop, eWOps_nil, eWOps_cons, eWOp_eq, eWPl_done, eWPl_z, eWPl_q, eWPl_a, eAW_eq, ↓AW, evalQ, guardG, SV.noU, SV.un, beq_iff_eq, quiet, evO, ofConst, St.put, SV.of, SV.no, binQ, unQ, arQ, loadQ, sliceQ, partsQ, fillAV, fillOk, isU8, byteOf, shapeOk, isAggD, isAggV, cell1, cellsOf, isSeq, pOk, capsOk, pureCall, pickB_or, pickB_and, belowV, belowL, elemsOf, Proms, Prom, svLe, tagLe, isLoad, lk, thenQ, blockQ, retV, retQ, resL, resQ, oneRes, if_false, if_true, reduceIte, forall_const, true_implies, false_implies, implies_true, Nat.reduceEqDiff, Nat.reduceAdd, Nat.reduceSub, Nat.reduceLT, Nat.reduceLeDiff, Nat.reduceMul, Nat.reduceBEq, Nat.reduceBNe, Int.reduceToNat, Int.reduceLT, Int.reduceLE, Int.reduceEq, Int.reduceNeg, Int.reduceAdd, Int.reduceSub, reduceCtorEq, List.filter_nil, List.filter_cons, List.find?_cons, List.find?_nil, ne_eq, beq_self_eq_true, eq_self, imp_self, wz, T0_3, T0_4, T0_5, T0_9, T0_22, T0_28, T0_30, T0_31, T0_32, T0_34, T0_35, T0_38, T0_44, T0_46, T0_47, T0_55, T0_64, T0_66, T0_107, T0_133, T0_137, T0_138, T0_140, T0_141, T0_307, T0_286, T0_329, T0_331, T0_363]
    refine callG_w _ _ (s323 (relC p c).2 okC 324 [.ptr 2 0] (chkMod (relOp c)) _ (fun q n => s324 n (relOp c) _ _ _)) (by simp) ?_
    rw [← hD]
    simp -dsimp only [eWC_skip, eWC_exit, eWC_ret, eWC_seq, eWC_block, eWC_cond, eWC_regF, eWC_regT, eWC_loop, eWOps_nil, eWOps_cons, eWOp_eq, eWPl_done, eWPl_z, eWPl_q, eWPl_a, eAW_eq, ↓AW, evalQ, guardG, SV.noU, SV.un, beq_iff_eq, quiet, evO, ofConst, St.put, SV.of, SV.no, binQ, unQ, arQ, loadQ, sliceQ, partsQ, fillAV, fillOk, isU8, byteOf, shapeOk, isAggD, isAggV, cell1, cellsOf, isSeq, pOk, capsOk, pureCall, pickB_or, pickB_and, belowV, belowL, elemsOf, Proms, Prom, svLe, tagLe, isLoad, lk, thenQ, blockQ, retV, retQ, resL, resQ, oneRes, if_false, if_true, reduceIte, forall_const, true_implies, false_implies, implies_true, Nat.reduceEqDiff, Nat.reduceAdd, Nat.reduceSub, Nat.reduceLT, Nat.reduceLeDiff, Nat.reduceMul, Nat.reduceBEq, Nat.reduceBNe, Int.reduceToNat, Int.reduceLT, Int.reduceLE, Int.reduceEq, Int.reduceNeg, Int.reduceAdd, Int.reduceSub, reduceCtorEq, List.filter_nil, List.filter_cons, List.find?_cons, List.find?_nil, ne_eq, beq_self_eq_true, eq_self, imp_self, wz, T0_3, T0_4, T0_5, T0_9, T0_22, T0_28, T0_30, T0_31, T0_32, T0_34, T0_35, T0_38, T0_44, T0_46, T0_47, T0_55, T0_64, T0_66, T0_107, T0_133, T0_137, T0_138, T0_140, T0_141, T0_307, T0_286, T0_329, T0_331, T0_363]
    refine callG_w _ _ (s322 (relD p c).2 okD [[61], [33, 61]] (by simp) _) (by simp) ?_
    have eE : (relD p c).2.take [[61], [33, 61]] = relE p c := rfl
    rw [eE]
    simp -dsimp only [eWC_skip, eWC_exit, eWC_ret, eWC_seq, eWC_block, eWC_cond, eWC_regF, eWC_regT, eWC_loop, eWOps_nil, eWOps_cons, eWOp_eq, eWPl_done, eWPl_z, eWPl_q, eWPl_a, eAW_eq, ↓AW, evalQ, guardG, SV.noU, SV.un, beq_iff_eq, quiet, evO, ofConst, St.put, SV.of, SV.no, binQ, unQ, arQ, loadQ, sliceQ, partsQ, fillAV, fillOk, isU8, byteOf, shapeOk, isAggD, isAggV, cell1, cellsOf, isSeq, pOk, capsOk, pureCall, pickB_or, pickB_and, belowV, belowL, elemsOf, Proms, Prom, svLe, tagLe, isLoad, lk, thenQ, blockQ, retV, retQ, resL, resQ, oneRes, if_false, if_true, reduceIte, forall_const, true_implies, false_implies, implies_true, Nat.reduceEqDiff, Nat.reduceAdd, Nat.reduceSub, Nat.reduceLT, Nat.reduceLeDiff, Nat.reduceMul, Nat.reduceBEq, Nat.reduceBNe, Int.reduceToNat, Int.reduceLT, Int.reduceLE, Int.reduceEq, Int.reduceNeg, Int.reduceAdd, Int.reduceSub, reduceCtorEq, List.filter_nil, List.filter_cons, List.find?_cons, List.find?_nil, ne_eq, beq_self_eq_true, eq_self, imp_self, wz, T0_3, T0_4, T0_5, T0_9, T0_22, T0_28, T0_30, T0_31, T0_32, T0_34, T0_35, T0_38, T0_44, T0_46, T0_47, T0_55, T0_64, T0_66, T0_107, T0_133, T0_137, T0_138, T0_140, T0_141, T0_307, T0_286, T0_329, T0_331, T0_363]
    refine T3_for T0_ok mo pl277 1 (fun i (x : Nat × Nat) => ⟨[(6, SV.of (.bool (pk true false i))), (5, SV.of (.ptr 3 0)), (4, SV.of (.ptr 2 0)), (2, SV.of (.ptr 1 0)), (0, SV.of (.ptr 0 0))], 73,
      ⟨x.1, [], [(pk (relE p c).2 (relG p c).2 i).box, .cells [.int .i64 0, .int .i64 0, .bool false, .snil] [], .cells [.int .i64 (relOp c)] [],
        .cells [.int .i64 (relOp c), .int .i64 (relD p c).1, .bool ((relE p c).1 == [33, 61]), pk .snil (.sl 2 [(relF p c).1.av]) i] (pk [] [(3, 137)] i)], x.2⟩, 1⟩)
      (fun _ _ => True) 73 (fun _ _ => rfl) (by rfl) (100, 100) trivial (Le_of rfl (Nat.le_refl _) (by simp) (by simp) (by simp [pk, hD]) (by simp) ?_) (fun i x hi _ => ?_) (fun x _ => ?_)
    · simp [frLe, lk, SV.of, avLe, pk]
    · obtain rfl : i = 0 := by omega
      obtain ⟨nt, st⟩ := x
      have hs := fun A B C => s325 (relE p c).2 okE (relOp c) 0 A B C
      have hbx : (relE p c).2.box = .cells [.str (relE p c).2.txt, .int .i64 ((relE p c).2.at_ : Nat), .int .i64 (relE p c).2.n, .int .i64 0] [] := by simp [Prs.box, h8]
      simp only [hbx] at hs
      have eF : (relE p c).2.span (relOp c) 0 = relF p c := rfl
      rw [eF] at hs
      simp -dsimp only [eWC_skip, eWC_exit, eWC_ret, eWC_seq, eWC_block, eWC_cond, eWC_regF, eWC_regT, eWC_loop, eWOps_nil, eWOps_cons, eWOp_eq, eWPl_done, eWPl_z, eWPl_q, eWPl_a, eAW_eq, ↓AW, evalQ, guardG, SV.noU, SV.un, beq_iff_eq, quiet, evO, ofConst, St.put, SV.of, SV.no, binQ, unQ, arQ, loadQ, sliceQ, partsQ, fillAV, fillOk, isU8, byteOf, shapeOk, isAggD, isAggV, cell1, cellsOf, isSeq, pOk, capsOk, pureCall, pickB_or, pickB_and, belowV, belowL, elemsOf, Proms, Prom, svLe, tagLe, isLoad, lk, thenQ, blockQ, retV, retQ, resL, resQ, oneRes, if_false, if_true, reduceIte, forall_const, true_implies, false_implies, implies_true, Nat.reduceEqDiff, Nat.reduceAdd, Nat.reduceSub, Nat.reduceLT, Nat.reduceLeDiff, Nat.reduceMul, Nat.reduceBEq, Nat.reduceBNe, Int.reduceToNat, Int.reduceLT, Int.reduceLE, Int.reduceEq, Int.reduceNeg, Int.reduceAdd, Int.reduceSub, reduceCtorEq, List.filter_nil, List.filter_cons, List.find?_cons, List.find?_nil, ne_eq, beq_self_eq_true, eq_self, imp_self, wz, T0_3, T0_4, T0_5, T0_9, T0_22, T0_28, T0_30, T0_31, T0_32, T0_34, T0_35, T0_38, T0_44, T0_46, T0_47, T0_55, T0_64, T0_66, T0_107, T0_133, T0_137, T0_138, T0_140, T0_141, T0_307, T0_286, T0_329, T0_331, T0_363, pk, h8, Prs.box, pl277_16]
      refine callG_w _ _ (hs _ _ _) (by simp) ?_
      simp -dsimp only [eWC_skip, eWC_exit, eWC_ret, eWC_seq, eWC_block, eWC_cond, eWC_regF, eWC_regT, eWC_loop, eWOps_nil, eWOps_cons, eWOp_eq, eWPl_done, eWPl_z, eWPl_q, eWPl_a, eAW_eq, ↓AW, evalQ, guardG, SV.noU, SV.un, beq_iff_eq, quiet, evO, ofConst, St.put, SV.of, SV.no, binQ, unQ, arQ, loadQ, sliceQ, partsQ, fillAV, fillOk, isU8, byteOf, shapeOk, isAggD, isAggV, cell1, cellsOf, isSeq, pOk, capsOk, pureCall, pickB_or, pickB_and, belowV, belowL, elemsOf, Proms, Prom, svLe, tagLe, isLoad, lk, thenQ, blockQ, retV, retQ, resL, resQ, oneRes, if_false, if_true, reduceIte, forall_const, true_implies, false_implies, implies_true, Nat.reduceEqDiff, Nat.reduceAdd, Nat.reduceSub, Nat.reduceLT, Nat.reduceLeDiff, Nat.reduceMul, Nat.reduceBEq, Nat.reduceBNe, Int.reduceToNat, Int.reduceLT, Int.reduceLE, Int.reduceEq, Int.reduceNeg, Int.reduceAdd, Int.reduceSub, reduceCtorEq, List.filter_nil, List.filter_cons, List.find?_cons, List.find?_nil, ne_eq, beq_self_eq_true, eq_self, imp_self, wz, T0_3, T0_4, T0_5, T0_9, T0_22, T0_28, T0_30, T0_31, T0_32, T0_34, T0_35, T0_38, T0_44, T0_46, T0_47, T0_55, T0_64, T0_66, T0_107, T0_133, T0_137, T0_138, T0_140, T0_141, T0_307, T0_286, T0_329, T0_331, T0_363, pk, pl277_16, Spn.av]
      refine callG_w _ _ (s276 (relF p c).2 okF [44] _) (by simp) ?_
      have eG : (relF p c).2.next [44] = relG p c := rfl
      rw [eG, hb]
      simp -dsimp only [eWC_skip, eWC_exit, eWC_ret, eWC_seq, eWC_block, eWC_cond, eWC_regF, eWC_regT, eWC_loop, eWOps_nil, eWOps_cons, eWOp_eq, eWPl_done, eWPl_z, eWPl_q, eWPl_a, eAW_eq, ↓AW, evalQ, guardG, SV.noU, SV.un, beq_iff_eq, quiet, evO, ofConst, St.put, SV.of, SV.no, binQ, unQ, arQ, loadQ, sliceQ, partsQ, fillAV, fillOk, isU8, byteOf, shapeOk, isAggD, isAggV, cell1, cellsOf, isSeq, pOk, capsOk, pureCall, pickB_or, pickB_and, belowV, belowL, elemsOf, Proms, Prom, svLe, tagLe, isLoad, lk, thenQ, blockQ, retV, retQ, resL, resQ, oneRes, if_false, if_true, reduceIte, forall_const, true_implies, false_implies, implies_true, Nat.reduceEqDiff, Nat.reduceAdd, Nat.reduceSub, Nat.reduceLT, Nat.reduceLeDiff, Nat.reduceMul, Nat.reduceBEq, Nat.reduceBNe, Int.reduceToNat, Int.reduceLT, Int.reduceLE, Int.reduceEq, Int.reduceNeg, Int.reduceAdd, Int.reduceSub, reduceCtorEq, List.filter_nil, List.filter_cons, List.find?_cons, List.find?_nil, ne_eq, beq_self_eq_true, eq_self, imp_self, wz, T0_3, T0_4, T0_5, T0_9, T0_22, T0_28, T0_30, T0_31, T0_32, T0_34, T0_35, T0_38, T0_44, T0_46, T0_47, T0_55, T0_64, T0_66, T0_107, T0_133, T0_137, T0_138, T0_140, T0_141, T0_307, T0_286, T0_329, T0_331, T0_363, pk, pl277_16]
      refine ⟨(nt + 2, st + 3), Le_of rfl (Nat.le_refl _) (Nat.le_refl _) (Nat.le_refl _) (by simp [Spn.av]) (by simp) ?_⟩
      simp [frLe, lk, SV.of, avLe]
    · obtain ⟨nt, st⟩ := x
      simp -dsimp only [eWC_skip, eWC_exit, eWC_ret, eWC_seq, eWC_block, eWC_cond, eWC_regF, eWC_regT, eWC_loop, eWOps_nil, eWOps_cons, eWOp_eq, eWPl_done, eWPl_z, eWPl_q, eWPl_a, eAW_eq, ↓AW, evalQ, guardG, SV.noU, SV.un, beq_iff_eq, quiet, evO, ofConst, St.put, SV.of, SV.no, binQ, unQ, arQ, loadQ, sliceQ, partsQ, fillAV, fillOk, isU8, byteOf, shapeOk, isAggD, isAggV, cell1, cellsOf, isSeq, pOk, capsOk, pureCall, pickB_or, pickB_and, belowV, belowL, elemsOf, Proms, Prom, svLe, tagLe, isLoad, lk, thenQ, blockQ, retV, retQ, resL, resQ, oneRes, if_false, if_true, reduceIte, forall_const, true_implies, false_implies, implies_true, Nat.reduceEqDiff, Nat.reduceAdd, Nat.reduceSub, Nat.reduceLT, Nat.reduceLeDiff, Nat.reduceMul, Nat.reduceBEq, Nat.reduceBNe, Int.reduceToNat, Int.reduceLT, Int.reduceLE, Int.reduceEq, Int.reduceNeg, Int.reduceAdd, Int.reduceSub, reduceCtorEq, List.filter_nil, List.filter_cons, List.find?_cons, List.find?_nil, ne_eq, beq_self_eq_true, eq_self, imp_self, wz, T0_3, T0_4, T0_5, T0_9, T0_22, T0_28, T0_30, T0_31, T0_32, T0_34, T0_35, T0_38, T0_44, T0_46, T0_47, T0_55, T0_64, T0_66, T0_107, T0_133, T0_137, T0_138, T0_140, T0_141, T0_307, T0_286, T0_329, T0_331, T0_363, pk, Prs.box, retW]
      simp [relR, Rln.av, avLe, avsLe]
  | false =>
    have hD : relD p c = (0, (relC p c).2) := by unfold relD; rw [hC]; rfl
    have hD2 : (relC p c).2 = (relD p c).2 := by rw [hD]
    have hD1 : (relD p c).1 = 0 := by rw [hD]
    rw [hD2]
    simp -dsimp only [eWC_skip, eWC_exit, eWC_ret, eWC_seq, eWC_block, eWC_cond, eWC_regF, eWC_regT, eWC_loop, eWOps_nil, eWOps_cons, eWOp_eq, eWPl_done, eWPl_z, eWPl_q, eWPl_a, eAW_eq, ↓AW, evalQ, guardG, SV.noU, SV.un, beq_iff_eq, quiet, evO, ofConst, St.put, SV.of, SV.no, binQ, unQ, arQ, loadQ, sliceQ, partsQ, fillAV, fillOk, isU8, byteOf, shapeOk, isAggD, isAggV, cell1, cellsOf, isSeq, pOk, capsOk, pureCall, pickB_or, pickB_and, belowV, belowL, elemsOf, Proms, Prom, svLe, tagLe, isLoad, lk, thenQ, blockQ, retV, retQ, resL, resQ, oneRes, if_false, if_true, reduceIte, forall_const, true_implies, false_implies, implies_true, Nat.reduceEqDiff, Nat.reduceAdd, Nat.reduceSub, Nat.reduceLT, Nat.reduceLeDiff, Nat.reduceMul, Nat.reduceBEq, Nat.reduceBNe, Int.reduceToNat, Int.reduceLT, Int.reduceLE, Int.reduceEq, Int.reduceNeg, Int.reduceAdd, Int.reduceSub, reduceCtorEq, List.filter_nil, List.filter_cons, List.find?_cons, List.find?_nil, ne_eq, beq_self_eq_true, eq_self, imp_self, wz, T0_3, T0_4, T0_5, T0_9, T0_22, T0_28, T0_30, T0_31, T0_32, T0_34, T0_35, T0_38, T0_44, T0_46, T0_47, T0_55, T0_64, T0_66, T0_107, T0_133, T0_137, T0_138, T0_140, T0_141, T0_307, T0_286, T0_329, T0_331, T0_363]
    refine callG_w _ _ (s322 (relD p c).2 okD [[61], [33, 61]] (by simp) _) (by simp) ?_
    have eE : (relD p c).2.take [[61], [33, 61]] = relE p c := rfl
    rw [eE]
    simp -dsimp only [eWC_skip, eWC_exit, eWC_ret, eWC_seq, eWC_block, eWC_cond, eWC_regF, eWC_regT, eWC_loop, eWOps_nil, eWOps_cons, eWOp_eq, eWPl_done, eWPl_z, eWPl_q, eWPl_a, eAW_eq, ↓AW, evalQ, guardG, SV.noU, SV.un, beq_iff_eq, quiet, evO, ofConst, St.put, SV.of, SV.no, binQ, unQ, arQ, loadQ, sliceQ, partsQ, fillAV, fillOk, isU8, byteOf, shapeOk, isAggD, isAggV, cell1, cellsOf, isSeq, pOk, capsOk, pureCall, pickB_or, pickB_and, belowV, belowL, elemsOf, Proms, Prom, svLe, tagLe, isLoad, lk, thenQ, blockQ, retV, retQ, resL, resQ, oneRes, if_false, if_true, reduceIte, forall_const, true_implies, false_implies, implies_true, Nat.reduceEqDiff, Nat.reduceAdd, Nat.reduceSub, Nat.reduceLT, Nat.reduceLeDiff, Nat.reduceMul, Nat.reduceBEq, Nat.reduceBNe, Int.reduceToNat, Int.reduceLT, Int.reduceLE, Int.reduceEq, Int.reduceNeg, Int.reduceAdd, Int.reduceSub, reduceCtorEq, List.filter_nil, List.filter_cons, List.find?_cons, List.find?_nil, ne_eq, beq_self_eq_true, eq_self, imp_self, wz, T0_3, T0_4, T0_5, T0_9, T0_22, T0_28, T0_30, T0_31, T0_32, T0_34, T0_35, T0_38, T0_44, T0_46, T0_47, T0_55, T0_64, T0_66, T0_107, T0_133, T0_137, T0_138, T0_140, T0_141, T0_307, T0_286, T0_329, T0_331, T0_363]
    refine T3_for T0_ok mo pl277 1 (fun i (x : Nat × Nat) => ⟨[(6, SV.of (.bool (pk true false i))), (5, SV.of (.ptr 3 0)), (4, SV.of (.ptr 2 0)), (2, SV.of (.ptr 1 0)), (0, SV.of (.ptr 0 0))], 73,
      ⟨x.1, [], [(pk (relE p c).2 (relG p c).2 i).box, .cells [.int .i64 0, .int .i64 0, .bool false, .snil] [], .cells [.int .i64 (relOp c)] [],
        .cells [.int .i64 (relOp c), .int .i64 (relD p c).1, .bool ((relE p c).1 == [33, 61]), pk .snil (.sl 2 [(relF p c).1.av]) i] (pk [] [(3, 137)] i)], x.2⟩, 1⟩)
      (fun _ _ => True) 73 (fun _ _ => rfl) (by rfl) (100, 100) trivial (Le_of rfl (Nat.le_refl _) (by simp) (by simp) (by simp [pk, hD1]) (by simp) ?_) (fun i x hi _ => ?_) (fun x _ => ?_)
    · simp [frLe, lk, SV.of, avLe, pk]
    · obtain rfl : i = 0 := by omega
      obtain ⟨nt, st⟩ := x
      have hs := fun A B C => s325 (relE p c).2 okE (relOp c) 0 A B C
      have hbx : (relE p c).2.box = .cells [.str (relE p c).2.txt, .int .i64 ((relE p c).2.at_ : Nat), .int .i64 (relE p c).2.n, .int .i64 0] [] := by simp [Prs.box, h8]
      simp only [hbx] at hs
      have eF : (relE p c).2.span (relOp c) 0 = relF p c := rfl
      rw [eF] at hs
      simp -dsimp only [eWC_skip, eWC_exit, eWC_ret, eWC_seq, eWC_block, eWC_cond, eWC_regF, eWC_regT, eWC_loop, eWOps_nil, eWOps_cons, eWOp_eq, eWPl_done, eWPl_z, eWPl_q, eWPl_a, eAW_eq, ↓AW, evalQ, guardG, SV.noU, SV.un, beq_iff_eq, quiet, evO, ofConst, St.put, SV.of, SV.no, binQ, unQ, arQ, loadQ, sliceQ, partsQ, fillAV, fillOk, isU8, byteOf, shapeOk, isAggD, isAggV, cell1, cellsOf, isSeq, pOk, capsOk, pureCall, pickB_or, pickB_and, belowV, belowL, elemsOf, Proms, Prom, svLe, tagLe, isLoad, lk, thenQ, blockQ, retV, retQ, resL, resQ, oneRes, if_false, if_true, reduceIte, forall_const, true_implies, false_implies, implies_true, Nat.reduceEqDiff, Nat.reduceAdd, Nat.reduceSub, Nat.reduceLT, Nat.reduceLeDiff, Nat.reduceMul, Nat.reduceBEq, Nat.reduceBNe, Int.reduceToNat, Int.reduceLT, Int.reduceLE, Int.reduceEq, Int.reduceNeg, Int.reduceAdd, Int.reduceSub, reduceCtorEq, List.filter_nil, List.filter_cons, List.find?_cons, List.find?_nil, ne_eq, beq_self_eq_true, eq_self, imp_self, wz, T0_3, T0_4, T0_5, T0_9, T0_22, T0_28, T0_30, T0_31, T0_32, T0_34, T0_35, T0_38, T0_44, T0_46, T0_47, T0_55, T0_64, T0_66, T0_107, T0_133, T0_137, T0_138, T0_140, T0_141, T0_307, T0_286, T0_329, T0_331, T0_363, pk, h8, Prs.box, pl277_16]
      refine callG_w _ _ (hs _ _ _) (by simp) ?_
      simp -dsimp only [eWC_skip, eWC_exit, eWC_ret, eWC_seq, eWC_block, eWC_cond, eWC_regF, eWC_regT, eWC_loop, eWOps_nil, eWOps_cons, eWOp_eq, eWPl_done, eWPl_z, eWPl_q, eWPl_a, eAW_eq, ↓AW, evalQ, guardG, SV.noU, SV.un, beq_iff_eq, quiet, evO, ofConst, St.put, SV.of, SV.no, binQ, unQ, arQ, loadQ, sliceQ, partsQ, fillAV, fillOk, isU8, byteOf, shapeOk, isAggD, isAggV, cell1, cellsOf, isSeq, pOk, capsOk, pureCall, pickB_or, pickB_and, belowV, belowL, elemsOf, Proms, Prom, svLe, tagLe, isLoad, lk, thenQ, blockQ, retV, retQ, resL, resQ, oneRes, if_false, if_true, reduceIte, forall_const, true_implies, false_implies, implies_true, Nat.reduceEqDiff, Nat.reduceAdd, Nat.reduceSub, Nat.reduceLT, Nat.reduceLeDiff, Nat.reduceMul, Nat.reduceBEq, Nat.reduceBNe, Int.reduceToNat, Int.reduceLT, Int.reduceLE, Int.reduceEq, Int.reduceNeg, Int.reduceAdd, Int.reduceSub, reduceCtorEq, List.filter_nil, List.filter_cons, List.find?_cons, List.find?_nil, ne_eq, beq_self_eq_true, eq_self, imp_self, wz, T0_3, T0_4, T0_5, T0_9, T0_22, T0_28, T0_30, T0_31, T0_32, T0_34, T0_35, T0_38, T0_44, T0_46, T0_47, T0_55, T0_64, T0_66, T0_107, T0_133, T0_137, T0_138, T0_140, T0_141, T0_307, T0_286, T0_329, T0_331, T0_363, pk, pl277_16, Spn.av]
      refine callG_w _ _ (s276 (relF p c).2 okF [44] _) (by simp) ?_
      have eG : (relF p c).2.next [44] = relG p c := rfl
      rw [eG, hb]
      simp -dsimp only [eWC_skip, eWC_exit, eWC_ret, eWC_seq, eWC_block, eWC_cond, eWC_regF, eWC_regT, eWC_loop, eWOps_nil, eWOps_cons, eWOp_eq, eWPl_done, eWPl_z, eWPl_q, eWPl_a, eAW_eq, ↓AW, evalQ, guardG, SV.noU, SV.un, beq_iff_eq, quiet, evO, ofConst, St.put, SV.of, SV.no, binQ, unQ, arQ, loadQ, sliceQ, partsQ, fillAV, fillOk, isU8, byteOf, shapeOk, isAggD, isAggV, cell1, cellsOf, isSeq, pOk, capsOk, pureCall, pickB_or, pickB_and, belowV, belowL, elemsOf, Proms, Prom, svLe, tagLe, isLoad, lk, thenQ, blockQ, retV, retQ, resL, resQ, oneRes, if_false, if_true, reduceIte, forall_const, true_implies, false_implies, implies_true, Nat.reduceEqDiff, Nat.reduceAdd, Nat.reduceSub, Nat.reduceLT, Nat.reduceLeDiff, Nat.reduceMul, Nat.reduceBEq, Nat.reduceBNe, Int.reduceToNat, Int.reduceLT, Int.reduceLE, Int.reduceEq, Int.reduceNeg, Int.reduceAdd, Int.reduceSub, reduceCtorEq, List.filter_nil, List.filter_cons, List.find?_cons, List.find?_nil, ne_eq, beq_self_eq_true, eq_self, imp_self, wz, T0_3, T0_4, T0_5, T0_9, T0_22, T0_28, T0_30, T0_31, T0_32, T0_34, T0_35, T0_38, T0_44, T0_46, T0_47, T0_55, T0_64, T0_66, T0_107, T0_133, T0_137, T0_138, T0_140, T0_141, T0_307, T0_286, T0_329, T0_331, T0_363, pk, pl277_16]
      refine ⟨(nt + 2, st + 3), Le_of rfl (Nat.le_refl _) (Nat.le_refl _) (Nat.le_refl _) (by simp [Spn.av]) (by simp) ?_⟩
      simp [frLe, lk, SV.of, avLe]
    · obtain ⟨nt, st⟩ := x
      simp -dsimp only [eWC_skip, eWC_exit, eWC_ret, eWC_seq, eWC_block, eWC_cond, eWC_regF, eWC_regT, eWC_loop, eWOps_nil, eWOps_cons, eWOp_eq, eWPl_done, eWPl_z, eWPl_q, eWPl_a, eAW_eq, ↓AW, evalQ, guardG, SV.noU, SV.un, beq_iff_eq, quiet, evO, ofConst, St.put, SV.of, SV.no, binQ, unQ, arQ, loadQ, sliceQ, partsQ, fillAV, fillOk, isU8, byteOf, shapeOk, isAggD, isAggV, cell1, cellsOf, isSeq, pOk, capsOk, pureCall, pickB_or, pickB_and, belowV, belowL, elemsOf, Proms, Prom, svLe, tagLe, isLoad, lk, thenQ, blockQ, retV, retQ, resL, resQ, oneRes, if_false, if_true, reduceIte, forall_const, true_implies, false_implies, implies_true, Nat.reduceEqDiff, Nat.reduceAdd, Nat.reduceSub, Nat.reduceLT, Nat.reduceLeDiff, Nat.reduceMul, Nat.reduceBEq, Nat.reduceBNe, Int.reduceToNat, Int.reduceLT, Int.reduceLE, Int.reduceEq, Int.reduceNeg, Int.reduceAdd, Int.reduceSub, reduceCtorEq, List.filter_nil, List.filter_cons, List.find?_cons, List.find?_nil, ne_eq, beq_self_eq_true, eq_self, imp_self, wz, T0_3, T0_4, T0_5, T0_9, T0_22, T0_28, T0_30, T0_31, T0_32, T0_34, T0_35, T0_38, T0_44, T0_46, T0_47, T0_55, T0_64, T0_66, T0_107, T0_133, T0_137, T0_138, T0_140, T0_141, T0_307, T0_286, T0_329, T0_331, T0_363, pk, Prs.box, retW]
      simp [relR, Rln.av, avLe, avsLe]
end Go.Proofs.Tryz

namespace Go.Proofs.Tryz
open Go Go.Abs Go.RowKit Go.Shelf
set_option linter.unusedSimpArgs false
set_option maxRecDepth 100000
set_option maxHeartbeats 8000000

/-! ### A condition without or, of relations of one span -/
def andS : Str := [97, 110, 100]
def orS : Str := [111, 114]
def hd1 (s : Str) : UInt8 := s.getD 0 0
def relsV : Nat → Prs → Option (List Rln × Prs)
  | 0, _ => none
  | k + 1, p =>
    if p.tok = [hd1 p.tok] ∧ ¬ relOp (hd1 p.tok) < 1 ∧ p.n < 6 ∧ (relE p (hd1 p.tok)).2.err = 0 ∧ (relG p (hd1 p.tok)).1 = false ∧ (relG p (hd1 p.tok)).2.err = 0 then
      (if ((relG p (hd1 p.tok)).2.next andS).1 = true then (relsV k ((relG p (hd1 p.tok)).2.next andS).2).map (fun r => (relR p (hd1 p.tok) :: r.1, r.2))
       else some ([relR p (hd1 p.tok)], ((relG p (hd1 p.tok)).2.next andS).2))
    else none
theorem next_err (p : Prs) (w : Str) : (p.next w).2.err = p.err := by
  unfold Prs.next
  split
  · split <;> rfl
  · rfl
theorem relsV_ok : ∀ (k : Nat) (p : Prs) (r : List Rln) (p1 : Prs), p.Ok → relsV k p = some (r, p1) → p1.Ok ∧ p1.err = 0
  | 0, _, _, _, _, h => by simp [relsV] at h
  | k + 1, p, r, p1, hp, h => by
    simp only [relsV] at h
    split at h
    · rename_i hc
      obtain ⟨h1, h2, h3, h4, h5, h6⟩ := hc
      have hg := (relG_ok hp h3 (hd1 p.tok)).2.2
      have hn := next_ok hg andS
      split at h
      · simp only [Option.map_eq_some_iff] at h
        obtain ⟨⟨r', p'⟩, h7, h8⟩ := h
        simp only [Prod.mk.injEq] at h8
        obtain ⟨_, rfl⟩ := h8
        exact relsV_ok k _ _ _ hn h7
      · simp only [Option.some.injEq, Prod.mk.injEq] at h
        obtain ⟨_, rfl⟩ := h
        exact ⟨hn, by rw [next_err]; exact h6⟩
    · cases h

structure LI where
  k : Nat
  p : Prs
  acc : List Rln
  more : Bool
  nt : Nat
  st : Nat

theorem s203 (s : Str) (hl : s.length < 4294967296) (K : Nat) (rl : List Rln) (p1 : Prs) (h : relsV K ⟨s, 0, 0, 0⟩ = some (rl, p1)) (hor : (p1.next orS).1 = false) (hend : (p1.next orS).2.skip.at_ = s.length) (hrl : rl.length < 1000) :
    FSv prog 203 [.str s] (.tup [condAV [rl], .int .i64 0, .int .i64 0]) := by
  refine FSv_code T0_ok mo pl203 _ func203 (by decide) rfl _ rfl (by rfl) (by simp) _ rfl ?_
  simp only [f203]
  have hp0 : (⟨s, 0, 0, 0⟩ : Prs).Ok := ⟨by simp, hl, by simp, by simp⟩
  obtain ⟨ok1, er1⟩ := relsV_ok K _ _ _ hp0 h
  have ok2 := next_ok ok1 orS
  have er2 : (p1.next orS).2.err = 0 := by rw [next_err]; exact er1
  simp -dsimp only [eWC_skip, eWC_exit, eWC_ret, eWC_seq, eWC_block, eWC_cond, eWC_regF, eWC_regT, eWC_loop, eWOps_nil, eWOps_cons, eWOp_eq, eWPl_done, eWPl_z, eWPl_q, eWPl_a, eAW_eq, ↓AW, evalQ, guardG, SV.noU, SV.un, beq_iff_eq, quiet, evO, ofConst, St.put, SV.of, SV.no, binQ, unQ, arQ, loadQ, sliceQ, partsQ, fillAV, fillOk, isU8, byteOf, shapeOk, isAggD, isAggV, cell1, cellsOf, isSeq, pOk, capsOk, pureCall, pickB_or, pickB_and, belowV, belowL, elemsOf, Proms, Prom, svLe, tagLe, isLoad, lk, thenQ, blockQ, retV, retQ, resL, resQ, oneRes, if_false, if_true, reduceIte, forall_const, true_implies, false_implies, implies_true, Nat.reduceEqDiff, Nat.reduceAdd, Nat.reduceSub, Nat.reduceLT, Nat.reduceLeDiff, Nat.reduceMul, Nat.reduceBEq, Nat.reduceBNe, Int.reduceToNat, Int.reduceLT, Int.reduceLE, Int.reduceEq, Int.reduceNeg, Int.reduceAdd, Int.reduceSub, reduceCtorEq, List.filter_nil, List.filter_cons, List.find?_cons, List.find?_nil, ne_eq, beq_self_eq_true, eq_self, imp_self, wz, T0_3, T0_4, T0_5, T0_9, T0_22, T0_28, T0_30, T0_31, T0_32, T0_34, T0_35, T0_38, T0_44, T0_46, T0_47, T0_55, T0_64, T0_66, T0_107, T0_133, T0_137, T0_138, T0_140, T0_141, T0_307, T0_286, T0_329, T0_331, T0_363, S0]
  refine T3_for T0_ok mo pl203 1 (fun i (x : Nat × Nat) => ⟨[(7, SV.of (.bool (pk true false i))), (6, SV.of (pk .snil (condAV [rl]) i)), (5, SV.of (.ptr 0 0)), (0, SV.of (.str s))], 67,
      ⟨x.1, [], [(pk ⟨s, 0, 0, 0⟩ (p1.next orS).2 i).box], x.2⟩, 0⟩)
      (fun _ _ => True) 67 (fun _ _ => rfl) (by rfl) (100, 100) trivial (Le_of rfl (Nat.le_refl _) (by simp) (by simp) (by simp [pk, Prs.box]) (by simp) ?_) (fun i x hi _ => ?_) (fun x _ => ?_)
  · simp [frLe, lk, SV.of, avLe, pk]
  · obtain rfl : i = 0 := by omega
    obtain ⟨nt, st⟩ := x
    simp -dsimp only [eWC_skip, eWC_exit, eWC_ret, eWC_seq, eWC_block, eWC_cond, eWC_regF, eWC_regT, eWC_loop, eWOps_nil, eWOps_cons, eWOp_eq, eWPl_done, eWPl_z, eWPl_q, eWPl_a, eAW_eq, ↓AW, evalQ, guardG, SV.noU, SV.un, beq_iff_eq, quiet, evO, ofConst, St.put, SV.of, SV.no, binQ, unQ, arQ, loadQ, sliceQ, partsQ, fillAV, fillOk, isU8, byteOf, shapeOk, isAggD, isAggV, cell1, cellsOf, isSeq, pOk, capsOk, pureCall, pickB_or, pickB_and, belowV, belowL, elemsOf, Proms, Prom, svLe, tagLe, isLoad, lk, thenQ, blockQ, retV, retQ, resL, resQ, oneRes, if_false, if_true, reduceIte, forall_const, true_implies, false_implies, implies_true, Nat.reduceEqDiff, Nat.reduceAdd, Nat.reduceSub, Nat.reduceLT, Nat.reduceLeDiff, Nat.reduceMul, Nat.reduceBEq, Nat.reduceBNe, Int.reduceToNat, Int.reduceLT, Int.reduceLE, Int.reduceEq, Int.reduceNeg, Int.reduceAdd, Int.reduceSub, reduceCtorEq, List.filter_nil, List.filter_cons, List.find?_cons, List.find?_nil, ne_eq, beq_self_eq_true, eq_self, imp_self, wz, T0_3, T0_4, T0_5, T0_9, T0_22, T0_28, T0_30, T0_31, T0_32, T0_34, T0_35, T0_38, T0_44, T0_46, T0_47, T0_55, T0_64, T0_66, T0_107, T0_133, T0_137, T0_138, T0_140, T0_141, T0_307, T0_286, T0_329, T0_331, T0_363, pk, Prs.box]
    refine T3_loopI (fun (x : LI) => ⟨[(9, SV.of (.bool x.more)), (8, ⟨True, listAV x.acc, .tok x.nt⟩), (7, SV.of (.bool true)), (6, SV.of .snil), (5, SV.of (.ptr 0 0)), (0, SV.of (.str s))], 67, ⟨x.nt + 1, [(x.nt, 140)], [x.p.box], x.st⟩, 0⟩)
      (fun x => x.p.Ok ∧ x.p.err = 0 ∧ (x.more = true → ∃ r, relsV x.k x.p = some (r, p1) ∧ x.acc ++ r = rl) ∧ (x.more = false → x.p = p1 ∧ x.acc = rl)) (fun x => if x.more = true then x.k + 1 else 0)
      ⟨K, ⟨s, 0, 0, 0⟩, [], true, nt, st⟩ ⟨hp0, rfl, fun _ => ⟨rl, h, rfl⟩, fun h => by cases h⟩ ?_ (fun x hx => ?_)
    · refine (Le_nil 8 140 4 (by simp [lk]) (by simp [lk])).trans (Le_of rfl (Nat.le_refl _) (by simp) (by simp) (by simp [Prs.box]) (by simp) ?_)
      simp [frLe, lk, SV.of, avLe, listAV, avsLe]
    · obtain ⟨k, p, acc, more, nt, st⟩ := x
      simp only at hx
      obtain ⟨okp, erp, hm1, hm2⟩ := hx
      refine LP_run T0_ok mo pl203 67 rfl (by rfl) ?_
      cases more with
      | false =>
        obtain ⟨rfl, rfl⟩ := hm2 rfl
        have hbx : p.box = .cells [.str p.txt, .int .i64 (p.at_ : Nat), .int .i64 p.n, .int .i64 0] [] := by simp [Prs.box, erp]
        have hs := s276 p okp orS []
        rw [hbx, hor] at hs
        simp -dsimp only [eWC_skip, eWC_exit, eWC_ret, eWC_seq, eWC_block, eWC_cond, eWC_regF, eWC_regT, eWC_loop, eWOps_nil, eWOps_cons, eWOp_eq, eWPl_done, eWPl_z, eWPl_q, eWPl_a, eAW_eq, ↓AW, evalQ, guardG, SV.noU, SV.un, beq_iff_eq, quiet, evO, ofConst, St.put, SV.of, SV.no, binQ, unQ, arQ, loadQ, sliceQ, partsQ, fillAV, fillOk, isU8, byteOf, shapeOk, isAggD, isAggV, cell1, cellsOf, isSeq, pOk, capsOk, pureCall, pickB_or, pickB_and, belowV, belowL, elemsOf, Proms, Prom, svLe, tagLe, isLoad, lk, thenQ, blockQ, retV, retQ, resL, resQ, oneRes, if_false, if_true, reduceIte, forall_const, true_implies, false_implies, implies_true, Nat.reduceEqDiff, Nat.reduceAdd, Nat.reduceSub, Nat.reduceLT, Nat.reduceLeDiff, Nat.reduceMul, Nat.reduceBEq, Nat.reduceBNe, Int.reduceToNat, Int.reduceLT, Int.reduceLE, Int.reduceEq, Int.reduceNeg, Int.reduceAdd, Int.reduceSub, reduceCtorEq, List.filter_nil, List.filter_cons, List.find?_cons, List.find?_nil, ne_eq, beq_self_eq_true, eq_self, imp_self, wz, T0_3, T0_4, T0_5, T0_9, T0_22, T0_28, T0_30, T0_31, T0_32, T0_34, T0_35, T0_38, T0_44, T0_46, T0_47, T0_55, T0_64, T0_66, T0_107, T0_133, T0_137, T0_138, T0_140, T0_141, T0_307, T0_286, T0_329, T0_331, T0_363, pk, Prs.box, erp, listAV]
        refine callG_w _ _ hs (by simp) ?_
        simp -dsimp only [eWC_skip, eWC_exit, eWC_ret, eWC_seq, eWC_block, eWC_cond, eWC_regF, eWC_regT, eWC_loop, eWOps_nil, eWOps_cons, eWOp_eq, eWPl_done, eWPl_z, eWPl_q, eWPl_a, eAW_eq, ↓AW, evalQ, guardG, SV.noU, SV.un, beq_iff_eq, quiet, evO, ofConst, St.put, SV.of, SV.no, binQ, unQ, arQ, loadQ, sliceQ, partsQ, fillAV, fillOk, isU8, byteOf, shapeOk, isAggD, isAggV, cell1, cellsOf, isSeq, pOk, capsOk, pureCall, pickB_or, pickB_and, belowV, belowL, elemsOf, Proms, Prom, svLe, tagLe, isLoad, lk, thenQ, blockQ, retV, retQ, resL, resQ, oneRes, if_false, if_true, reduceIte, forall_const, true_implies, false_implies, implies_true, Nat.reduceEqDiff, Nat.reduceAdd, Nat.reduceSub, Nat.reduceLT, Nat.reduceLeDiff, Nat.reduceMul, Nat.reduceBEq, Nat.reduceBNe, Int.reduceToNat, Int.reduceLT, Int.reduceLE, Int.reduceEq, Int.reduceNeg, Int.reduceAdd, Int.reduceSub, reduceCtorEq, List.filter_nil, List.filter_cons, List.find?_cons, List.find?_nil, ne_eq, beq_self_eq_true, eq_self, imp_self, wz, T0_3, T0_4, T0_5, T0_9, T0_22, T0_28, T0_30, T0_31, T0_32, T0_34, T0_35, T0_38, T0_44, T0_46, T0_47, T0_55, T0_64, T0_66, T0_107, T0_133, T0_137, T0_138, T0_140, T0_141, T0_307, T0_286, T0_329, T0_331, T0_363, pk, Prs.box, er2]
        refine ⟨(nt + 3, st + 1), Le_of rfl (Nat.le_refl _) (Nat.le_refl _) (Nat.le_refl _) rfl (by simp) ?_⟩
        simp [frLe, lk, SV.of, avLe, condAV, listAV]
      | true =>
        obtain ⟨r, hr, har⟩ := hm1 rfl
        cases k with
        | zero => simp [relsV] at hr
        | succ k =>
          simp only [relsV] at hr
          split at hr
          · rename_i hc
            obtain ⟨c1, c2, c3, c4, c5, c6⟩ := hc
            have okg := (relG_ok okp c3 (hd1 p.tok)).2.2
            have hs := s277 p okp c3 (hd1 p.tok) c1 c2 c4 c5
            have hbx : p.box = .cells [.str p.txt, .int .i64 (p.at_ : Nat), .int .i64 p.n, .int .i64 0] [] := by simp [Prs.box, erp]
            rw [hbx] at hs
            simp -dsimp only [eWC_skip, eWC_exit, eWC_ret, eWC_seq, eWC_block, eWC_cond, eWC_regF, eWC_regT, eWC_loop, eWOps_nil, eWOps_cons, eWOp_eq, eWPl_done, eWPl_z, eWPl_q, eWPl_a, eAW_eq, ↓AW, evalQ, guardG, SV.noU, SV.un, beq_iff_eq, quiet, evO, ofConst, St.put, SV.of, SV.no, binQ, unQ, arQ, loadQ, sliceQ, partsQ, fillAV, fillOk, isU8, byteOf, shapeOk, isAggD, isAggV, cell1, cellsOf, isSeq, pOk, capsOk, pureCall, pickB_or, pickB_and, belowV, belowL, elemsOf, Proms, Prom, svLe, tagLe, isLoad, lk, thenQ, blockQ, retV, retQ, resL, resQ, oneRes, if_false, if_true, reduceIte, forall_const, true_implies, false_implies, implies_true, Nat.reduceEqDiff, Nat.reduceAdd, Nat.reduceSub, Nat.reduceLT, Nat.reduceLeDiff, Nat.reduceMul, Nat.reduceBEq, Nat.reduceBNe, Int.reduceToNat, Int.reduceLT, Int.reduceLE, Int.reduceEq, Int.reduceNeg, Int.reduceAdd, Int.reduceSub, reduceCtorEq, List.filter_nil, List.filter_cons, List.find?_cons, List.find?_nil, ne_eq, beq_self_eq_true, eq_self, imp_self, wz, T0_3, T0_4, T0_5, T0_9, T0_22, T0_28, T0_30, T0_31, T0_32, T0_34, T0_35, T0_38, T0_44, T0_46, T0_47, T0_55, T0_64, T0_66, T0_107, T0_133, T0_137, T0_138, T0_140, T0_141, T0_307, T0_286, T0_329, T0_331, T0_363, pk, Prs.box, erp, listAV]
            refine callG_w _ _ hs (by simp) ?_
            have hrav : (relR p (hd1 p.tok)).av = .agg [.int .i64 (relR p (hd1 p.tok)).operand, .int .i64 (relR p (hd1 p.tok)).mod, .bool (relR p (hd1 p.tok)).not, .sl 2 ((relR p (hd1 p.tok)).spans.map Spn.av)] := rfl
            have hal : acc.length < 1000 := by have := congrArg List.length har; simp only [List.length_append] at this; omega
            simp -dsimp only [eWC_skip, eWC_exit, eWC_ret, eWC_seq, eWC_block, eWC_cond, eWC_regF, eWC_regT, eWC_loop, eWOps_nil, eWOps_cons, eWOp_eq, eWPl_done, eWPl_z, eWPl_q, eWPl_a, eAW_eq, ↓AW, evalQ, guardG, SV.noU, SV.un, beq_iff_eq, quiet, evO, ofConst, St.put, SV.of, SV.no, binQ, unQ, arQ, loadQ, sliceQ, partsQ, fillAV, fillOk, isU8, byteOf, shapeOk, isAggD, isAggV, cell1, cellsOf, isSeq, pOk, capsOk, pureCall, pickB_or, pickB_and, belowV, belowL, elemsOf, Proms, Prom, svLe, tagLe, isLoad, lk, thenQ, blockQ, retV, retQ, resL, resQ, oneRes, if_false, if_true, reduceIte, forall_const, true_implies, false_implies, implies_true, Nat.reduceEqDiff, Nat.reduceAdd, Nat.reduceSub, Nat.reduceLT, Nat.reduceLeDiff, Nat.reduceMul, Nat.reduceBEq, Nat.reduceBNe, Int.reduceToNat, Int.reduceLT, Int.reduceLE, Int.reduceEq, Int.reduceNeg, Int.reduceAdd, Int.reduceSub, reduceCtorEq, List.filter_nil, List.filter_cons, List.find?_cons, List.find?_nil, ne_eq, beq_self_eq_true, eq_self, imp_self, wz, T0_3, T0_4, T0_5, T0_9, T0_22, T0_28, T0_30, T0_31, T0_32, T0_34, T0_35, T0_38, T0_44, T0_46, T0_47, T0_55, T0_64, T0_66, T0_107, T0_133, T0_137, T0_138, T0_140, T0_141, T0_307, T0_286, T0_329, T0_331, T0_363, pk, Prs.box, c6, listAV, hrav]
            refine ⟨fun z' es' h => by injection h with h1 h2; exact h1.symm, by omega, by omega, by simp, ?_⟩
            have hs2 := s276 (relG p (hd1 p.tok)).2 okg andS []
            have hbx2 : (relG p (hd1 p.tok)).2.box = .cells [.str (relG p (hd1 p.tok)).2.txt, .int .i64 ((relG p (hd1 p.tok)).2.at_ : Nat), .int .i64 (relG p (hd1 p.tok)).2.n, .int .i64 0] [] := by simp [Prs.box, c6]
            rw [hbx2] at hs2
            refine callG_w _ _ hs2 (by simp) ?_
            have okn := next_ok okg andS
            have ern : ((relG p (hd1 p.tok)).2.next andS).2.err = 0 := by rw [next_err]; exact c6
            cases hb : ((relG p (hd1 p.tok)).2.next andS).1 with
            | true =>
              rw [hb, if_pos rfl] at hr
              simp only [Option.map_eq_some_iff, Prod.mk.injEq] at hr
              obtain ⟨⟨r', p'⟩, e1, e2, e3⟩ := hr
              simp only at e1 e2 e3
              subst e2; subst e3
              simp -dsimp only [eWC_skip, eWC_exit, eWC_ret, eWC_seq, eWC_block, eWC_cond, eWC_regF, eWC_regT, eWC_loop, eWOps_nil, eWOps_cons, eWOp_eq, eWPl_done, eWPl_z, eWPl_q, eWPl_a, eAW_eq, ↓AW, evalQ, guardG, SV.noU, SV.un, beq_iff_eq, quiet, evO, ofConst, St.put, SV.of, SV.no, binQ, unQ, arQ, loadQ, sliceQ, partsQ, fillAV, fillOk, isU8, byteOf, shapeOk, isAggD, isAggV, cell1, cellsOf, isSeq, pOk, capsOk, pureCall, pickB_or, pickB_and, belowV, belowL, elemsOf, Proms, Prom, svLe, tagLe, isLoad, lk, thenQ, blockQ, retV, retQ, resL, resQ, oneRes, if_false, if_true, reduceIte, forall_const, true_implies, false_implies, implies_true, Nat.reduceEqDiff, Nat.reduceAdd, Nat.reduceSub, Nat.reduceLT, Nat.reduceLeDiff, Nat.reduceMul, Nat.reduceBEq, Nat.reduceBNe, Int.reduceToNat, Int.reduceLT, Int.reduceLE, Int.reduceEq, Int.reduceNeg, Int.reduceAdd, Int.reduceSub, reduceCtorEq, List.filter_nil, List.filter_cons, List.find?_cons, List.find?_nil, ne_eq, beq_self_eq_true, eq_self, imp_self, wz, T0_3, T0_4, T0_5, T0_9, T0_22, T0_28, T0_30, T0_31, T0_32, T0_34, T0_35, T0_38, T0_44, T0_46, T0_47, T0_55, T0_64, T0_66, T0_107, T0_133, T0_137, T0_138, T0_140, T0_141, T0_307, T0_286, T0_329, T0_331, T0_363, pk, Prs.box, ern, listAV]
              refine ⟨⟨k, ((relG p (hd1 p.tok)).2.next andS).2, acc ++ [relR p (hd1 p.tok)], true, nt + 2, st + 2⟩, ⟨okn, ern, fun _ => ⟨r', e1, by simpa using har⟩, fun h => by cases h⟩, by simp, ?_⟩
              refine Le_of rfl (Nat.le_refl _) (by simp) (by simp) (by simp [Prs.box, ern]) (by simp) ?_
              simp [frLe, lk, SV.of, avLe, listAV, hrav]
            | false =>
              rw [hb, if_neg (by simp)] at hr
              simp only [Option.some.injEq, Prod.mk.injEq] at hr
              obtain ⟨e2, e3⟩ := hr
              subst e2
              simp -dsimp only [eWC_skip, eWC_exit, eWC_ret, eWC_seq, eWC_block, eWC_cond, eWC_regF, eWC_regT, eWC_loop, eWOps_nil, eWOps_cons, eWOp_eq, eWPl_done, eWPl_z, eWPl_q, eWPl_a, eAW_eq, ↓AW, evalQ, guardG, SV.noU, SV.un, beq_iff_eq, quiet, evO, ofConst, St.put, SV.of, SV.no, binQ, unQ, arQ, loadQ, sliceQ, partsQ, fillAV, fillOk, isU8, byteOf, shapeOk, isAggD, isAggV, cell1, cellsOf, isSeq, pOk, capsOk, pureCall, pickB_or, pickB_and, belowV, belowL, elemsOf, Proms, Prom, svLe, tagLe, isLoad, lk, thenQ, blockQ, retV, retQ, resL, resQ, oneRes, if_false, if_true, reduceIte, forall_const, true_implies, false_implies, implies_true, Nat.reduceEqDiff, Nat.reduceAdd, Nat.reduceSub, Nat.reduceLT, Nat.reduceLeDiff, Nat.reduceMul, Nat.reduceBEq, Nat.reduceBNe, Int.reduceToNat, Int.reduceLT, Int.reduceLE, Int.reduceEq, Int.reduceNeg, Int.reduceAdd, Int.reduceSub, reduceCtorEq, List.filter_nil, List.filter_cons, List.find?_cons, List.find?_nil, ne_eq, beq_self_eq_true, eq_self, imp_self, wz, T0_3, T0_4, T0_5, T0_9, T0_22, T0_28, T0_30, T0_31, T0_32, T0_34, T0_35, T0_38, T0_44, T0_46, T0_47, T0_55, T0_64, T0_66, T0_107, T0_133, T0_137, T0_138, T0_140, T0_141, T0_307, T0_286, T0_329, T0_331, T0_363, pk, Prs.box, ern, listAV]
              refine ⟨⟨k, ((relG p (hd1 p.tok)).2.next andS).2, acc ++ [relR p (hd1 p.tok)], false, nt + 2, st + 2⟩, ⟨okn, ern, fun h => (by cases h), fun _ => ⟨e3, har⟩⟩, by simp, ?_⟩
              refine Le_of rfl (Nat.le_refl _) (by simp) (by simp) (by simp [Prs.box, ern]) (by simp) ?_
              simp [frLe, lk, SV.of, avLe, listAV, hrav]
          · cases hr
  · obtain ⟨nt, st⟩ := x
    have hs := s278 (p1.next orS).2 ok2 []
    have hbx : (p1.next orS).2.box = .cells [.str (p1.next orS).2.txt, .int .i64 ((p1.next orS).2.at_ : Nat), .int .i64 (p1.next orS).2.n, .int .i64 0] [] := by simp [Prs.box, er2]
    have hbx2 : (p1.next orS).2.skip.box = .cells [.str (p1.next orS).2.skip.txt, .int .i64 (s.length : Nat), .int .i64 (p1.next orS).2.skip.n, .int .i64 0] [] := by
      have : (p1.next orS).2.skip.err = 0 := er2
      simp [Prs.box, this, hend]
    rw [hbx, hbx2] at hs
    simp -dsimp only [eWC_skip, eWC_exit, eWC_ret, eWC_seq, eWC_block, eWC_cond, eWC_regF, eWC_regT, eWC_loop, eWOps_nil, eWOps_cons, eWOp_eq, eWPl_done, eWPl_z, eWPl_q, eWPl_a, eAW_eq, ↓AW, evalQ, guardG, SV.noU, SV.un, beq_iff_eq, quiet, evO, ofConst, St.put, SV.of, SV.no, binQ, unQ, arQ, loadQ, sliceQ, partsQ, fillAV, fillOk, isU8, byteOf, shapeOk, isAggD, isAggV, cell1, cellsOf, isSeq, pOk, capsOk, pureCall, pickB_or, pickB_and, belowV, belowL, elemsOf, Proms, Prom, svLe, tagLe, isLoad, lk, thenQ, blockQ, retV, retQ, resL, resQ, oneRes, if_false, if_true, reduceIte, forall_const, true_implies, false_implies, implies_true, Nat.reduceEqDiff, Nat.reduceAdd, Nat.reduceSub, Nat.reduceLT, Nat.reduceLeDiff, Nat.reduceMul, Nat.reduceBEq, Nat.reduceBNe, Int.reduceToNat, Int.reduceLT, Int.reduceLE, Int.reduceEq, Int.reduceNeg, Int.reduceAdd, Int.reduceSub, reduceCtorEq, List.filter_nil, List.filter_cons, List.find?_cons, List.find?_nil, ne_eq, beq_self_eq_true, eq_self, imp_self, wz, T0_3, T0_4, T0_5, T0_9, T0_22, T0_28, T0_30, T0_31, T0_32, T0_34, T0_35, T0_38, T0_44, T0_46, T0_47, T0_55, T0_64, T0_66, T0_107, T0_133, T0_137, T0_138, T0_140, T0_141, T0_307, T0_286, T0_329, T0_331, T0_363, pk, Prs.box, er2]
    refine callG_w _ _ hs (by simp) ?_
    have d1 : decide (((s.length : Nat) : Int) < ((s.length : Nat) : Int)) = false := by simp
    simp -dsimp only [eWC_skip, eWC_exit, eWC_ret, eWC_seq, eWC_block, eWC_cond, eWC_regF, eWC_regT, eWC_loop, eWOps_nil, eWOps_cons, eWOp_eq, eWPl_done, eWPl_z, eWPl_q, eWPl_a, eAW_eq, ↓AW, evalQ, guardG, SV.noU, SV.un, beq_iff_eq, quiet, evO, ofConst, St.put, SV.of, SV.no, binQ, unQ, arQ, loadQ, sliceQ, partsQ, fillAV, fillOk, isU8, byteOf, shapeOk, isAggD, isAggV, cell1, cellsOf, isSeq, pOk, capsOk, pureCall, pickB_or, pickB_and, belowV, belowL, elemsOf, Proms, Prom, svLe, tagLe, isLoad, lk, thenQ, blockQ, retV, retQ, resL, resQ, oneRes, if_false, if_true, reduceIte, forall_const, true_implies, false_implies, implies_true, Nat.reduceEqDiff, Nat.reduceAdd, Nat.reduceSub, Nat.reduceLT, Nat.reduceLeDiff, Nat.reduceMul, Nat.reduceBEq, Nat.reduceBNe, Int.reduceToNat, Int.reduceLT, Int.reduceLE, Int.reduceEq, Int.reduceNeg, Int.reduceAdd, Int.reduceSub, reduceCtorEq, List.filter_nil, List.filter_cons, List.find?_cons, List.find?_nil, ne_eq, beq_self_eq_true, eq_self, imp_self, wz, T0_3, T0_4, T0_5, T0_9, T0_22, T0_28, T0_30, T0_31, T0_32, T0_34, T0_35, T0_38, T0_44, T0_46, T0_47, T0_55, T0_64, T0_66, T0_107, T0_133, T0_137, T0_138, T0_140, T0_141, T0_307, T0_286, T0_329, T0_331, T0_363, d1]
    simp [avLe, avsLe, condAV, listAV]
end Go.Proofs.Tryz

namespace Go.Proofs.Tryz
open Go Go.Abs
set_option linter.unusedSimpArgs false
set_option maxRecDepth 100000
set_option maxHeartbeats 4000000

def plA : Str := [105, 32, 61, 32, 49, 32, 97, 110, 100, 32, 118, 32, 61, 32, 48]
def plB : Str := [118, 32, 61, 32, 48, 32, 97, 110, 100, 32, 105, 32, 37, 32, 49, 48, 32, 61, 32, 50, 46, 46, 52, 32, 97, 110, 100, 32, 105, 32, 37, 32, 49, 48, 48, 32, 33, 61, 32, 49, 50, 46, 46, 49, 52]
def plRA : List Rln := [⟨2, 0, false, [⟨1, 1⟩]⟩, ⟨3, 0, false, [⟨0, 0⟩]⟩]
def plRB : List Rln := [⟨3, 0, false, [⟨0, 0⟩]⟩, ⟨2, 10, false, [⟨2, 4⟩]⟩, ⟨2, 100, true, [⟨12, 14⟩]⟩]
def plRules : List Rul := [⟨[111, 110, 101], [plRA]⟩, ⟨[102, 101, 119], [plRB]⟩]
theorem parseA : relsV 5 ⟨plA, 0, 0, 0⟩ = some (plRA, ⟨plA, 15, 2, 0⟩) := by rfl
theorem parseB : relsV 5 ⟨plB, 0, 0, 0⟩ = some (plRB, ⟨plB, 45, 3, 0⟩) := by rfl
theorem s119 : FSv prog 119 [] (rulesAV plRules) := by
  refine FSv_code T0_ok mo pl0 _ func119 (by decide) rfl _ rfl (by rfl) (by simp) _ rfl ?_
  simp only [f119]
  have hA := s203 plA (by decide) 5 plRA _ parseA (by decide) (by decide) (by decide)
  have hB := s203 plB (by decide) 5 plRB _ parseB (by decide) (by decide) (by decide)
  simp -dsimp only [eWC_skip, eWC_exit, eWC_ret, eWC_seq, eWC_block, eWC_cond, eWC_regF, eWC_regT, eWC_loop, eWOps_nil, eWOps_cons, eWOp_eq, eWPl_done, eWPl_z, eWPl_q, eWPl_a, eAW_eq, ↓AW, evalQ, guardG, SV.noU, SV.un, beq_iff_eq, quiet, evO, ofConst, St.put, SV.of, SV.no, binQ, unQ, arQ, loadQ, sliceQ, partsQ, fillAV, fillOk, isU8, byteOf, shapeOk, isAggD, isAggV, cell1, cellsOf, isSeq, pOk, capsOk, pureCall, pickB_or, pickB_and, belowV, belowL, elemsOf, Proms, Prom, svLe, tagLe, isLoad, lk, thenQ, blockQ, retV, retQ, resL, resQ, oneRes, if_false, if_true, reduceIte, forall_const, true_implies, false_implies, implies_true, Nat.reduceEqDiff, Nat.reduceAdd, Nat.reduceSub, Nat.reduceLT, Nat.reduceLeDiff, Nat.reduceMul, Nat.reduceBEq, Nat.reduceBNe, Int.reduceToNat, Int.reduceLT, Int.reduceLE, Int.reduceEq, Int.reduceNeg, Int.reduceAdd, Int.reduceSub, reduceCtorEq, List.filter_nil, List.filter_cons, List.find?_cons, List.find?_nil, ne_eq, beq_self_eq_true, eq_self, imp_self, wz, T0_3, T0_4, T0_5, T0_9, T0_22, T0_28, T0_30, T0_31, T0_32, T0_34, T0_35, T0_38, T0_44, T0_46, T0_47, T0_55, T0_64, T0_66, T0_107, T0_133, T0_137, T0_138, T0_140, T0_141, T0_307, S0]
  refine callG_v _ hA (by simp) (by simp [belowL, belowV]) (by simp [belowV, belowL, condAV]) ?_
  simp -dsimp only [eWC_skip, eWC_exit, eWC_ret, eWC_seq, eWC_block, eWC_cond, eWC_regF, eWC_regT, eWC_loop, eWOps_nil, eWOps_cons, eWOp_eq, eWPl_done, eWPl_z, eWPl_q, eWPl_a, eAW_eq, ↓AW, evalQ, guardG, SV.noU, SV.un, beq_iff_eq, quiet, evO, ofConst, St.put, SV.of, SV.no, binQ, unQ, arQ, loadQ, sliceQ, partsQ, fillAV, fillOk, isU8, byteOf, shapeOk, isAggD, isAggV, cell1, cellsOf, isSeq, pOk, capsOk, pureCall, pickB_or, pickB_and, belowV, belowL, elemsOf, Proms, Prom, svLe, tagLe, isLoad, lk, thenQ, blockQ, retV, retQ, resL, resQ, oneRes, if_false, if_true, reduceIte, forall_const, true_implies, false_implies, implies_true, Nat.reduceEqDiff, Nat.reduceAdd, Nat.reduceSub, Nat.reduceLT, Nat.reduceLeDiff, Nat.reduceMul, Nat.reduceBEq, Nat.reduceBNe, Int.reduceToNat, Int.reduceLT, Int.reduceLE, Int.reduceEq, Int.reduceNeg, Int.reduceAdd, Int.reduceSub, reduceCtorEq, List.filter_nil, List.filter_cons, List.find?_cons, List.find?_nil, ne_eq, beq_self_eq_true, eq_self, imp_self, wz, T0_3, T0_4, T0_5, T0_9, T0_22, T0_28, T0_30, T0_31, T0_32, T0_34, T0_35, T0_38, T0_44, T0_46, T0_47, T0_55, T0_64, T0_66, T0_107, T0_133, T0_137, T0_138, T0_140, T0_141, T0_307, condAV]
  refine callG_v _ hB (by simp) (by simp [belowL, belowV]) (by simp [belowV, belowL, condAV]) ?_
  simp -dsimp only [eWC_skip, eWC_exit, eWC_ret, eWC_seq, eWC_block, eWC_cond, eWC_regF, eWC_regT, eWC_loop, eWOps_nil, eWOps_cons, eWOp_eq, eWPl_done, eWPl_z, eWPl_q, eWPl_a, eAW_eq, ↓AW, evalQ, guardG, SV.noU, SV.un, beq_iff_eq, quiet, evO, ofConst, St.put, SV.of, SV.no, binQ, unQ, arQ, loadQ, sliceQ, partsQ, fillAV, fillOk, isU8, byteOf, shapeOk, isAggD, isAggV, cell1, cellsOf, isSeq, pOk, capsOk, pureCall, pickB_or, pickB_and, belowV, belowL, elemsOf, Proms, Prom, svLe, tagLe, isLoad, lk, thenQ, blockQ, retV, retQ, resL, resQ, oneRes, if_false, if_true, reduceIte, forall_const, true_implies, false_implies, implies_true, Nat.reduceEqDiff, Nat.reduceAdd, Nat.reduceSub, Nat.reduceLT, Nat.reduceLeDiff, Nat.reduceMul, Nat.reduceBEq, Nat.reduceBNe, Int.reduceToNat, Int.reduceLT, Int.reduceLE, Int.reduceEq, Int.reduceNeg, Int.reduceAdd, Int.reduceSub, reduceCtorEq, List.filter_nil, List.filter_cons, List.find?_cons, List.find?_nil, ne_eq, beq_self_eq_true, eq_self, imp_self, wz, T0_3, T0_4, T0_5, T0_9, T0_22, T0_28, T0_30, T0_31, T0_32, T0_34, T0_35, T0_38, T0_44, T0_46, T0_47, T0_55, T0_64, T0_66, T0_107, T0_133, T0_137, T0_138, T0_140, T0_141, T0_307, condAV]
  simp [avLe, avsLe, rulesAV, plRules, Rul.av, condAV]
theorem pl_ok : RulesOk plRules := ⟨by decide, fun r hr => by
  simp only [plRules, List.mem_cons, List.not_mem_nil, or_false] at hr
  rcases hr with rfl | rfl
  · exact ⟨by decide, by decide, by decide, by decide⟩
  · exact ⟨by decide, by decide, by decide, by decide⟩⟩
theorem plC : classV plRules [50, 50] = ([102, 101, 119], 0) := by rfl
theorem plD : classV plRules [49, 46, 53] = ([111, 116, 104, 101, 114], 0) := by rfl
theorem s45 : FSv prog 45 [] (.bool true) := by
  refine FSv_code T0_ok mo pl0 _ func45 (by decide) rfl _ rfl (by rfl) (by simp) _ rfl ?_
  simp only [f45]
  have hC := s35 plRules [50, 50] pl_ok (by decide)
  have hD := s35 plRules [49, 46, 53] pl_ok (by decide)
  rw [plC] at hC
  rw [plD] at hD
  simp -dsimp only [eWC_skip, eWC_exit, eWC_ret, eWC_seq, eWC_block, eWC_cond, eWC_regF, eWC_regT, eWC_loop, eWOps_nil, eWOps_cons, eWOp_eq, eWPl_done, eWPl_z, eWPl_q, eWPl_a, eAW_eq, ↓AW, evalQ, guardG, SV.noU, SV.un, beq_iff_eq, quiet, evO, ofConst, St.put, SV.of, SV.no, binQ, unQ, arQ, loadQ, sliceQ, partsQ, fillAV, fillOk, isU8, byteOf, shapeOk, isAggD, isAggV, cell1, cellsOf, isSeq, pOk, capsOk, pureCall, pickB_or, pickB_and, belowV, belowL, elemsOf, Proms, Prom, svLe, tagLe, isLoad, lk, thenQ, blockQ, retV, retQ, resL, resQ, oneRes, if_false, if_true, reduceIte, forall_const, true_implies, false_implies, implies_true, Nat.reduceEqDiff, Nat.reduceAdd, Nat.reduceSub, Nat.reduceLT, Nat.reduceLeDiff, Nat.reduceMul, Nat.reduceBEq, Nat.reduceBNe, Int.reduceToNat, Int.reduceLT, Int.reduceLE, Int.reduceEq, Int.reduceNeg, Int.reduceAdd, Int.reduceSub, reduceCtorEq, List.filter_nil, List.filter_cons, List.find?_cons, List.find?_nil, ne_eq, beq_self_eq_true, eq_self, imp_self, wz, T0_3, T0_4, T0_5, T0_9, T0_22, T0_28, T0_30, T0_31, T0_32, T0_34, T0_35, T0_38, T0_44, T0_46, T0_47, T0_55, T0_64, T0_66, T0_107, T0_133, T0_137, T0_138, T0_140, T0_141, T0_307, S0]
  refine callG_v _ s119 (by simp) (by simp [belowL, belowV]) (by simp [belowV, belowL, rulesAV]) ?_
  simp -dsimp only [eWC_skip, eWC_exit, eWC_ret, eWC_seq, eWC_block, eWC_cond, eWC_regF, eWC_regT, eWC_loop, eWOps_nil, eWOps_cons, eWOp_eq, eWPl_done, eWPl_z, eWPl_q, eWPl_a, eAW_eq, ↓AW, evalQ, guardG, SV.noU, SV.un, beq_iff_eq, quiet, evO, ofConst, St.put, SV.of, SV.no, binQ, unQ, arQ, loadQ, sliceQ, partsQ, fillAV, fillOk, isU8, byteOf, shapeOk, isAggD, isAggV, cell1, cellsOf, isSeq, pOk, capsOk, pureCall, pickB_or, pickB_and, belowV, belowL, elemsOf, Proms, Prom, svLe, tagLe, isLoad, lk, thenQ, blockQ, retV, retQ, resL, resQ, oneRes, if_false, if_true, reduceIte, forall_const, true_implies, false_implies, implies_true, Nat.reduceEqDiff, Nat.reduceAdd, Nat.reduceSub, Nat.reduceLT, Nat.reduceLeDiff, Nat.reduceMul, Nat.reduceBEq, Nat.reduceBNe, Int.reduceToNat, Int.reduceLT, Int.reduceLE, Int.reduceEq, Int.reduceNeg, Int.reduceAdd, Int.reduceSub, reduceCtorEq, List.filter_nil, List.filter_cons, List.find?_cons, List.find?_nil, ne_eq, beq_self_eq_true, eq_self, imp_self, wz, T0_3, T0_4, T0_5, T0_9, T0_22, T0_28, T0_30, T0_31, T0_32, T0_34, T0_35, T0_38, T0_44, T0_46, T0_47, T0_55, T0_64, T0_66, T0_107, T0_133, T0_137, T0_138, T0_140, T0_141, T0_307, rulesAV]
  refine callG_v _ hC (by simp) (by simp [belowL, belowV]) (by simp [belowV, belowL]) ?_
  simp -dsimp only [eWC_skip, eWC_exit, eWC_ret, eWC_seq, eWC_block, eWC_cond, eWC_regF, eWC_regT, eWC_loop, eWOps_nil, eWOps_cons, eWOp_eq, eWPl_done, eWPl_z, eWPl_q, eWPl_a, eAW_eq, ↓AW, evalQ, guardG, SV.noU, SV.un, beq_iff_eq, quiet, evO, ofConst, St.put, SV.of, SV.no, binQ, unQ, arQ, loadQ, sliceQ, partsQ, fillAV, fillOk, isU8, byteOf, shapeOk, isAggD, isAggV, cell1, cellsOf, isSeq, pOk, capsOk, pureCall, pickB_or, pickB_and, belowV, belowL, elemsOf, Proms, Prom, svLe, tagLe, isLoad, lk, thenQ, blockQ, retV, retQ, resL, resQ, oneRes, if_false, if_true, reduceIte, forall_const, true_implies, false_implies, implies_true, Nat.reduceEqDiff, Nat.reduceAdd, Nat.reduceSub, Nat.reduceLT, Nat.reduceLeDiff, Nat.reduceMul, Nat.reduceBEq, Nat.reduceBNe, Int.reduceToNat, Int.reduceLT, Int.reduceLE, Int.reduceEq, Int.reduceNeg, Int.reduceAdd, Int.reduceSub, reduceCtorEq, List.filter_nil, List.filter_cons, List.find?_cons, List.find?_nil, ne_eq, beq_self_eq_true, eq_self, imp_self, wz, T0_3, T0_4, T0_5, T0_9, T0_22, T0_28, T0_30, T0_31, T0_32, T0_34, T0_35, T0_38, T0_44, T0_46, T0_47, T0_55, T0_64, T0_66, T0_107, T0_133, T0_137, T0_138, T0_140, T0_141, T0_307, rulesAV]
  refine callG_v _ s119 (by simp) (by simp [belowL, belowV]) (by simp [belowV, belowL, rulesAV]) ?_
  simp -dsimp only [eWC_skip, eWC_exit, eWC_ret, eWC_seq, eWC_block, eWC_cond, eWC_regF, eWC_regT, eWC_loop, eWOps_nil, eWOps_cons, eWOp_eq, eWPl_done, eWPl_z, eWPl_q, eWPl_a, eAW_eq, ↓AW, evalQ, guardG, SV.noU, SV.un, beq_iff_eq, quiet, evO, ofConst, St.put, SV.of, SV.no, binQ, unQ, arQ, loadQ, sliceQ, partsQ, fillAV, fillOk, isU8, byteOf, shapeOk, isAggD, isAggV, cell1, cellsOf, isSeq, pOk, capsOk, pureCall, pickB_or, pickB_and, belowV, belowL, elemsOf, Proms, Prom, svLe, tagLe, isLoad, lk, thenQ, blockQ, retV, retQ, resL, resQ, oneRes, if_false, if_true, reduceIte, forall_const, true_implies, false_implies, implies_true, Nat.reduceEqDiff, Nat.reduceAdd, Nat.reduceSub, Nat.reduceLT, Nat.reduceLeDiff, Nat.reduceMul, Nat.reduceBEq, Nat.reduceBNe, Int.reduceToNat, Int.reduceLT, Int.reduceLE, Int.reduceEq, Int.reduceNeg, Int.reduceAdd, Int.reduceSub, reduceCtorEq, List.filter_nil, List.filter_cons, List.find?_cons, List.find?_nil, ne_eq, beq_self_eq_true, eq_self, imp_self, wz, T0_3, T0_4, T0_5, T0_9, T0_22, T0_28, T0_30, T0_31, T0_32, T0_34, T0_35, T0_38, T0_44, T0_46, T0_47, T0_55, T0_64, T0_66, T0_107, T0_133, T0_137, T0_138, T0_140, T0_141, T0_307, rulesAV]
  refine callG_v _ hD (by simp) (by simp [belowL, belowV]) (by simp [belowV, belowL]) ?_
  simp -dsimp only [eWC_skip, eWC_exit, eWC_ret, eWC_seq, eWC_block, eWC_cond, eWC_regF, eWC_regT, eWC_loop, eWOps_nil, eWOps_cons, eWOp_eq, eWPl_done, eWPl_z, eWPl_q, eWPl_a, eAW_eq, ↓AW, evalQ, guardG, SV.noU, SV.un, beq_iff_eq, quiet, evO, ofConst, St.put, SV.of, SV.no, binQ, unQ, arQ, loadQ, sliceQ, partsQ, fillAV, fillOk, isU8, byteOf, shapeOk, isAggD, isAggV, cell1, cellsOf, isSeq, pOk, capsOk, pureCall, pickB_or, pickB_and, belowV, belowL, elemsOf, Proms, Prom, svLe, tagLe, isLoad, lk, thenQ, blockQ, retV, retQ, resL, resQ, oneRes, if_false, if_true, reduceIte, forall_const, true_implies, false_implies, implies_true, Nat.reduceEqDiff, Nat.reduceAdd, Nat.reduceSub, Nat.reduceLT, Nat.reduceLeDiff, Nat.reduceMul, Nat.reduceBEq, Nat.reduceBNe, Int.reduceToNat, Int.reduceLT, Int.reduceLE, Int.reduceEq, Int.reduceNeg, Int.reduceAdd, Int.reduceSub, reduceCtorEq, List.filter_nil, List.filter_cons, List.find?_cons, List.find?_nil, ne_eq, beq_self_eq_true, eq_self, imp_self, wz, T0_3, T0_4, T0_5, T0_9, T0_22, T0_28, T0_30, T0_31, T0_32, T0_34, T0_35, T0_38, T0_44, T0_46, T0_47, T0_55, T0_64, T0_66, T0_107, T0_133, T0_137, T0_138, T0_140, T0_141, T0_307, rulesAV]
  simp [avLe]
end Go.Proofs.Tryz

namespace Go.Proofs.Tryz
open Go Go.Abs
set_option linter.unusedSimpArgs false
set_option maxRecDepth 100000
set_option maxHeartbeats 4000000

theorem s10 (l : List Rul) (s : Str) (hw : wt (rulesAV l) < 4294967281) (hs : s.length < 4294967281) : FSv prog 10 [rulesAV l, .str s] (.bool true) := by
  refine FSv_code T0_ok mo pl0 _ func10 (by decide) rfl _ rfl (by rfl) (by simp) _ rfl ?_
  simp only [f10]
  have hl : RulesOk l := RulesOk_of (by omega)
  simp -dsimp only [eWC_skip, eWC_exit, eWC_ret, eWC_seq, eWC_block, eWC_cond, eWC_regF, eWC_regT, eWC_loop, eWOps_nil, eWOps_cons, eWOp_eq, eWPl_done, eWPl_z, eWPl_q, eWPl_a, eAW_eq, ↓AW, evalQ, guardG, SV.noU, SV.un, beq_iff_eq, quiet, evO, ofConst, St.put, SV.of, SV.no, binQ, unQ, arQ, loadQ, sliceQ, partsQ, fillAV, fillOk, isU8, byteOf, shapeOk, isAggD, isAggV, cell1, cellsOf, isSeq, pOk, capsOk, pureCall, pickB_or, pickB_and, belowV, belowL, elemsOf, Proms, Prom, svLe, tagLe, isLoad, lk, thenQ, blockQ, retV, retQ, resL, resQ, oneRes, if_false, if_true, reduceIte, forall_const, true_implies, false_implies, implies_true, Nat.reduceEqDiff, Nat.reduceAdd, Nat.reduceSub, Nat.reduceLT, Nat.reduceLeDiff, Nat.reduceMul, Nat.reduceBEq, Nat.reduceBNe, Int.reduceToNat, Int.reduceLT, Int.reduceLE, Int.reduceEq, Int.reduceNeg, Int.reduceAdd, Int.reduceSub, reduceCtorEq, List.filter_nil, List.filter_cons, List.find?_cons, List.find?_nil, ne_eq, beq_self_eq_true, eq_self, imp_self, wz, T0_3, T0_4, T0_5, T0_9, T0_22, T0_28, T0_30, T0_31, T0_32, T0_34, T0_35, T0_38, T0_44, T0_46, T0_47, T0_55, T0_64, T0_66, T0_107, T0_133, T0_137, T0_138, T0_140, T0_141, T0_307, S0, rulesAV]
  refine callG_v _ s45 (by simp) (by simp [belowL]) (by simp [belowV]) ?_
  simp -dsimp only [eWC_skip, eWC_exit, eWC_ret, eWC_seq, eWC_block, eWC_cond, eWC_regF, eWC_regT, eWC_loop, eWOps_nil, eWOps_cons, eWOp_eq, eWPl_done, eWPl_z, eWPl_q, eWPl_a, eAW_eq, ↓AW, evalQ, guardG, SV.noU, SV.un, beq_iff_eq, quiet, evO, ofConst, St.put, SV.of, SV.no, binQ, unQ, arQ, loadQ, sliceQ, partsQ, fillAV, fillOk, isU8, byteOf, shapeOk, isAggD, isAggV, cell1, cellsOf, isSeq, pOk, capsOk, pureCall, pickB_or, pickB_and, belowV, belowL, elemsOf, Proms, Prom, svLe, tagLe, isLoad, lk, thenQ, blockQ, retV, retQ, resL, resQ, oneRes, if_false, if_true, reduceIte, forall_const, true_implies, false_implies, implies_true, Nat.reduceEqDiff, Nat.reduceAdd, Nat.reduceSub, Nat.reduceLT, Nat.reduceLeDiff, Nat.reduceMul, Nat.reduceBEq, Nat.reduceBNe, Int.reduceToNat, Int.reduceLT, Int.reduceLE, Int.reduceEq, Int.reduceNeg, Int.reduceAdd, Int.reduceSub, reduceCtorEq, List.filter_nil, List.filter_cons, List.find?_cons, List.find?_nil, ne_eq, beq_self_eq_true, eq_self, imp_self, wz, T0_3, T0_4, T0_5, T0_9, T0_22, T0_28, T0_30, T0_31, T0_32, T0_34, T0_35, T0_38, T0_44, T0_46, T0_47, T0_55, T0_64, T0_66, T0_107, T0_133, T0_137, T0_138, T0_140, T0_141, T0_307]
  refine eGA_split ⟨fun _ => ?_, fun h => absurd trivial h⟩
  simp -dsimp only [eWC_skip, eWC_exit, eWC_ret, eWC_seq, eWC_block, eWC_cond, eWC_regF, eWC_regT, eWC_loop, eWOps_nil, eWOps_cons, eWOp_eq, eWPl_done, eWPl_z, eWPl_q, eWPl_a, eAW_eq, ↓AW, evalQ, guardG, SV.noU, SV.un, beq_iff_eq, quiet, evO, ofConst, St.put, SV.of, SV.no, binQ, unQ, arQ, loadQ, sliceQ, partsQ, fillAV, fillOk, isU8, byteOf, shapeOk, isAggD, isAggV, cell1, cellsOf, isSeq, pOk, capsOk, pureCall, pickB_or, pickB_and, belowV, belowL, elemsOf, Proms, Prom, svLe, tagLe, isLoad, lk, thenQ, blockQ, retV, retQ, resL, resQ, oneRes, if_false, if_true, reduceIte, forall_const, true_implies, false_implies, implies_true, Nat.reduceEqDiff, Nat.reduceAdd, Nat.reduceSub, Nat.reduceLT, Nat.reduceLeDiff, Nat.reduceMul, Nat.reduceBEq, Nat.reduceBNe, Int.reduceToNat, Int.reduceLT, Int.reduceLE, Int.reduceEq, Int.reduceNeg, Int.reduceAdd, Int.reduceSub, reduceCtorEq, List.filter_nil, List.filter_cons, List.find?_cons, List.find?_nil, ne_eq, beq_self_eq_true, eq_self, imp_self, wz, T0_3, T0_4, T0_5, T0_9, T0_22, T0_28, T0_30, T0_31, T0_32, T0_34, T0_35, T0_38, T0_44, T0_46, T0_47, T0_55, T0_64, T0_66, T0_107, T0_133, T0_137, T0_138, T0_140, T0_141, T0_307]
  refine callG_p _ (s36 l (by omega)) (by simp [rulesAV]) (by simp [belowL, belowV, rulesAV]) isBool_below ?_
  rintro v ⟨b, rfl⟩
  simp -dsimp only [eWC_skip, eWC_exit, eWC_ret, eWC_seq, eWC_block, eWC_cond, eWC_regF, eWC_regT, eWC_loop, eWOps_nil, eWOps_cons, eWOp_eq, eWPl_done, eWPl_z, eWPl_q, eWPl_a, eAW_eq, ↓AW, evalQ, guardG, SV.noU, SV.un, beq_iff_eq, quiet, evO, ofConst, St.put, SV.of, SV.no, binQ, unQ, arQ, loadQ, sliceQ, partsQ, fillAV, fillOk, isU8, byteOf, shapeOk, isAggD, isAggV, cell1, cellsOf, isSeq, pOk, capsOk, pureCall, pickB_or, pickB_and, belowV, belowL, elemsOf, Proms, Prom, svLe, tagLe, isLoad, lk, thenQ, blockQ, retV, retQ, resL, resQ, oneRes, if_false, if_true, reduceIte, forall_const, true_implies, false_implies, implies_true, Nat.reduceEqDiff, Nat.reduceAdd, Nat.reduceSub, Nat.reduceLT, Nat.reduceLeDiff, Nat.reduceMul, Nat.reduceBEq, Nat.reduceBNe, Int.reduceToNat, Int.reduceLT, Int.reduceLE, Int.reduceEq, Int.reduceNeg, Int.reduceAdd, Int.reduceSub, reduceCtorEq, List.filter_nil, List.filter_cons, List.find?_cons, List.find?_nil, ne_eq, beq_self_eq_true, eq_self, imp_self, wz, T0_3, T0_4, T0_5, T0_9, T0_22, T0_28, T0_30, T0_31, T0_32, T0_34, T0_35, T0_38, T0_44, T0_46, T0_47, T0_55, T0_64, T0_66, T0_107, T0_133, T0_137, T0_138, T0_140, T0_141, T0_307]
  refine ⟨fun _ => ?_, fun _ => ?_⟩
  · refine callG_v _ s45 (by simp) (by simp [belowL]) (by simp [belowV]) ?_
    simp -dsimp only [eWC_skip, eWC_exit, eWC_ret, eWC_seq, eWC_block, eWC_cond, eWC_regF, eWC_regT, eWC_loop, eWOps_nil, eWOps_cons, eWOp_eq, eWPl_done, eWPl_z, eWPl_q, eWPl_a, eAW_eq, ↓AW, evalQ, guardG, SV.noU, SV.un, beq_iff_eq, quiet, evO, ofConst, St.put, SV.of, SV.no, binQ, unQ, arQ, loadQ, sliceQ, partsQ, fillAV, fillOk, isU8, byteOf, shapeOk, isAggD, isAggV, cell1, cellsOf, isSeq, pOk, capsOk, pureCall, pickB_or, pickB_and, belowV, belowL, elemsOf, Proms, Prom, svLe, tagLe, isLoad, lk, thenQ, blockQ, retV, retQ, resL, resQ, oneRes, if_false, if_true, reduceIte, forall_const, true_implies, false_implies, implies_true, Nat.reduceEqDiff, Nat.reduceAdd, Nat.reduceSub, Nat.reduceLT, Nat.reduceLeDiff, Nat.reduceMul, Nat.reduceBEq, Nat.reduceBNe, Int.reduceToNat, Int.reduceLT, Int.reduceLE, Int.reduceEq, Int.reduceNeg, Int.reduceAdd, Int.reduceSub, reduceCtorEq, List.filter_nil, List.filter_cons, List.find?_cons, List.find?_nil, ne_eq, beq_self_eq_true, eq_self, imp_self, wz, T0_3, T0_4, T0_5, T0_9, T0_22, T0_28, T0_30, T0_31, T0_32, T0_34, T0_35, T0_38, T0_44, T0_46, T0_47, T0_55, T0_64, T0_66, T0_107, T0_133, T0_137, T0_138, T0_140, T0_141, T0_307]
    simp only [avLe]
  · refine callG_v _ (s35 l s hl (by omega)) (by simp [rulesAV]) (by simp [belowL, belowV, rulesAV]) (by simp [belowV, belowL]) ?_
    simp -dsimp only [eWC_skip, eWC_exit, eWC_ret, eWC_seq, eWC_block, eWC_cond, eWC_regF, eWC_regT, eWC_loop, eWOps_nil, eWOps_cons, eWOp_eq, eWPl_done, eWPl_z, eWPl_q, eWPl_a, eAW_eq, ↓AW, evalQ, guardG, SV.noU, SV.un, beq_iff_eq, quiet, evO, ofConst, St.put, SV.of, SV.no, binQ, unQ, arQ, loadQ, sliceQ, partsQ, fillAV, fillOk, isU8, byteOf, shapeOk, isAggD, isAggV, cell1, cellsOf, isSeq, pOk, capsOk, pureCall, pickB_or, pickB_and, belowV, belowL, elemsOf, Proms, Prom, svLe, tagLe, isLoad, lk, thenQ, blockQ, retV, retQ, resL, resQ, oneRes, if_false, if_true, reduceIte, forall_const, true_implies, false_implies, implies_true, Nat.reduceEqDiff, Nat.reduceAdd, Nat.reduceSub, Nat.reduceLT, Nat.reduceLeDiff, Nat.reduceMul, Nat.reduceBEq, Nat.reduceBNe, Int.reduceToNat, Int.reduceLT, Int.reduceLE, Int.reduceEq, Int.reduceNeg, Int.reduceAdd, Int.reduceSub, reduceCtorEq, List.filter_nil, List.filter_cons, List.find?_cons, List.find?_nil, ne_eq, beq_self_eq_true, eq_self, imp_self, wz, T0_3, T0_4, T0_5, T0_9, T0_22, T0_28, T0_30, T0_31, T0_32, T0_34, T0_35, T0_38, T0_44, T0_46, T0_47, T0_55, T0_64, T0_66, T0_107, T0_133, T0_137, T0_138, T0_140, T0_141, T0_307]
    refine callG_v _ (s46 l s hl (by omega)) (by simp [rulesAV]) (by simp [belowL, belowV, rulesAV]) (by simp [belowV, belowL]) ?_
    simp -dsimp only [eWC_skip, eWC_exit, eWC_ret, eWC_seq, eWC_block, eWC_cond, eWC_regF, eWC_regT, eWC_loop, eWOps_nil, eWOps_cons, eWOp_eq, eWPl_done, eWPl_z, eWPl_q, eWPl_a, eAW_eq, ↓AW, evalQ, guardG, SV.noU, SV.un, beq_iff_eq, quiet, evO, ofConst, St.put, SV.of, SV.no, binQ, unQ, arQ, loadQ, sliceQ, partsQ, fillAV, fillOk, isU8, byteOf, shapeOk, isAggD, isAggV, cell1, cellsOf, isSeq, pOk, capsOk, pureCall, pickB_or, pickB_and, belowV, belowL, elemsOf, Proms, Prom, svLe, tagLe, isLoad, lk, thenQ, blockQ, retV, retQ, resL, resQ, oneRes, if_false, if_true, reduceIte, forall_const, true_implies, false_implies, implies_true, Nat.reduceEqDiff, Nat.reduceAdd, Nat.reduceSub, Nat.reduceLT, Nat.reduceLeDiff, Nat.reduceMul, Nat.reduceBEq, Nat.reduceBNe, Int.reduceToNat, Int.reduceLT, Int.reduceLE, Int.reduceEq, Int.reduceNeg, Int.reduceAdd, Int.reduceSub, reduceCtorEq, List.filter_nil, List.filter_cons, List.find?_cons, List.find?_nil, ne_eq, beq_self_eq_true, eq_self, imp_self, wz, T0_3, T0_4, T0_5, T0_9, T0_22, T0_28, T0_30, T0_31, T0_32, T0_34, T0_35, T0_38, T0_44, T0_46, T0_47, T0_55, T0_64, T0_66, T0_107, T0_133, T0_137, T0_138, T0_140, T0_141, T0_307]
    refine eGA_split ⟨fun _ => ?_, fun h => absurd trivial h⟩
    simp -dsimp only [eWC_skip, eWC_exit, eWC_ret, eWC_seq, eWC_block, eWC_cond, eWC_regF, eWC_regT, eWC_loop, eWOps_nil, eWOps_cons, eWOp_eq, eWPl_done, eWPl_z, eWPl_q, eWPl_a, eAW_eq, ↓AW, evalQ, guardG, SV.noU, SV.un, beq_iff_eq, quiet, evO, ofConst, St.put, SV.of, SV.no, binQ, unQ, arQ, loadQ, sliceQ, partsQ, fillAV, fillOk, isU8, byteOf, shapeOk, isAggD, isAggV, cell1, cellsOf, isSeq, pOk, capsOk, pureCall, pickB_or, pickB_and, belowV, belowL, elemsOf, Proms, Prom, svLe, tagLe, isLoad, lk, thenQ, blockQ, retV, retQ, resL, resQ, oneRes, if_false, if_true, reduceIte, forall_const, true_implies, false_implies, implies_true, Nat.reduceEqDiff, Nat.reduceAdd, Nat.reduceSub, Nat.reduceLT, Nat.reduceLeDiff, Nat.reduceMul, Nat.reduceBEq, Nat.reduceBNe, Int.reduceToNat, Int.reduceLT, Int.reduceLE, Int.reduceEq, Int.reduceNeg, Int.reduceAdd, Int.reduceSub, reduceCtorEq, List.filter_nil, List.filter_cons, List.find?_cons, List.find?_nil, ne_eq, beq_self_eq_true, eq_self, imp_self, wz, T0_3, T0_4, T0_5, T0_9, T0_22, T0_28, T0_30, T0_31, T0_32, T0_34, T0_35, T0_38, T0_44, T0_46, T0_47, T0_55, T0_64, T0_66, T0_107, T0_133, T0_137, T0_138, T0_140, T0_141, T0_307]
    refine callG_v _ (s47 l hl) (by simp [rulesAV]) (by simp [belowL, belowV, rulesAV]) (by simp [belowV, belowL]) ?_
    simp -dsimp only [eWC_skip, eWC_exit, eWC_ret, eWC_seq, eWC_block, eWC_cond, eWC_regF, eWC_regT, eWC_loop, eWOps_nil, eWOps_cons, eWOp_eq, eWPl_done, eWPl_z, eWPl_q, eWPl_a, eAW_eq, ↓AW, evalQ, guardG, SV.noU, SV.un, beq_iff_eq, quiet, evO, ofConst, St.put, SV.of, SV.no, binQ, unQ, arQ, loadQ, sliceQ, partsQ, fillAV, fillOk, isU8, byteOf, shapeOk, isAggD, isAggV, cell1, cellsOf, isSeq, pOk, capsOk, pureCall, pickB_or, pickB_and, belowV, belowL, elemsOf, Proms, Prom, svLe, tagLe, isLoad, lk, thenQ, blockQ, retV, retQ, resL, resQ, oneRes, if_false, if_true, reduceIte, forall_const, true_implies, false_implies, implies_true, Nat.reduceEqDiff, Nat.reduceAdd, Nat.reduceSub, Nat.reduceLT, Nat.reduceLeDiff, Nat.reduceMul, Nat.reduceBEq, Nat.reduceBNe, Int.reduceToNat, Int.reduceLT, Int.reduceLE, Int.reduceEq, Int.reduceNeg, Int.reduceAdd, Int.reduceSub, reduceCtorEq, List.filter_nil, List.filter_cons, List.find?_cons, List.find?_nil, ne_eq, beq_self_eq_true, eq_self, imp_self, wz, T0_3, T0_4, T0_5, T0_9, T0_22, T0_28, T0_30, T0_31, T0_32, T0_34, T0_35, T0_38, T0_44, T0_46, T0_47, T0_55, T0_64, T0_66, T0_107, T0_133, T0_137, T0_138, T0_140, T0_141, T0_307]
    refine eGA_split ⟨fun _ => ?_, fun h => absurd trivial h⟩
    simp -dsimp only [eWC_skip, eWC_exit, eWC_ret, eWC_seq, eWC_block, eWC_cond, eWC_regF, eWC_regT, eWC_loop, eWOps_nil, eWOps_cons, eWOp_eq, eWPl_done, eWPl_z, eWPl_q, eWPl_a, eAW_eq, ↓AW, evalQ, guardG, SV.noU, SV.un, beq_iff_eq, quiet, evO, ofConst, St.put, SV.of, SV.no, binQ, unQ, arQ, loadQ, sliceQ, partsQ, fillAV, fillOk, isU8, byteOf, shapeOk, isAggD, isAggV, cell1, cellsOf, isSeq, pOk, capsOk, pureCall, pickB_or, pickB_and, belowV, belowL, elemsOf, Proms, Prom, svLe, tagLe, isLoad, lk, thenQ, blockQ, retV, retQ, resL, resQ, oneRes, if_false, if_true, reduceIte, forall_const, true_implies, false_implies, implies_true, Nat.reduceEqDiff, Nat.reduceAdd, Nat.reduceSub, Nat.reduceLT, Nat.reduceLeDiff, Nat.reduceMul, Nat.reduceBEq, Nat.reduceBNe, Int.reduceToNat, Int.reduceLT, Int.reduceLE, Int.reduceEq, Int.reduceNeg, Int.reduceAdd, Int.reduceSub, reduceCtorEq, List.filter_nil, List.filter_cons, List.find?_cons, List.find?_nil, ne_eq, beq_self_eq_true, eq_self, imp_self, wz, T0_3, T0_4, T0_5, T0_9, T0_22, T0_28, T0_30, T0_31, T0_32, T0_34, T0_35, T0_38, T0_44, T0_46, T0_47, T0_55, T0_64, T0_66, T0_107, T0_133, T0_137, T0_138, T0_140, T0_141, T0_307]
    refine callG_v _ (s37 l hl) (by simp [rulesAV]) (by simp [belowL, belowV, rulesAV]) (by simp [belowV, belowL]) ?_
    simp -dsimp only [eWC_skip, eWC_exit, eWC_ret, eWC_seq, eWC_block, eWC_cond, eWC_regF, eWC_regT, eWC_loop, eWOps_nil, eWOps_cons, eWOp_eq, eWPl_done, eWPl_z, eWPl_q, eWPl_a, eAW_eq, ↓AW, evalQ, guardG, SV.noU, SV.un, beq_iff_eq, quiet, evO, ofConst, St.put, SV.of, SV.no, binQ, unQ, arQ, loadQ, sliceQ, partsQ, fillAV, fillOk, isU8, byteOf, shapeOk, isAggD, isAggV, cell1, cellsOf, isSeq, pOk, capsOk, pureCall, pickB_or, pickB_and, belowV, belowL, elemsOf, Proms, Prom, svLe, tagLe, isLoad, lk, thenQ, blockQ, retV, retQ, resL, resQ, oneRes, if_false, if_true, reduceIte, forall_const, true_implies, false_implies, implies_true, Nat.reduceEqDiff, Nat.reduceAdd, Nat.reduceSub, Nat.reduceLT, Nat.reduceLeDiff, Nat.reduceMul, Nat.reduceBEq, Nat.reduceBNe, Int.reduceToNat, Int.reduceLT, Int.reduceLE, Int.reduceEq, Int.reduceNeg, Int.reduceAdd, Int.reduceSub, reduceCtorEq, List.filter_nil, List.filter_cons, List.find?_cons, List.find?_nil, ne_eq, beq_self_eq_true, eq_self, imp_self, wz, T0_3, T0_4, T0_5, T0_9, T0_22, T0_28, T0_30, T0_31, T0_32, T0_34, T0_35, T0_38, T0_44, T0_46, T0_47, T0_55, T0_64, T0_66, T0_107, T0_133, T0_137, T0_138, T0_140, T0_141, T0_307]
    simp only [avLe]
end Go.Proofs.Tryz
