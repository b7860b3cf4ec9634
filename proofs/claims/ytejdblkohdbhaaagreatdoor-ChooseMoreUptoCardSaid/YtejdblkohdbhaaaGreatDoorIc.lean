/-
  Part of a proof: contracts of functions in abstract values.
-/
import Derived.Test.YtejdblkohdbhaaaGreatDoorIa
set_option linter.unusedVariables false
set_option linter.unusedSimpArgs false
namespace Go.Proofs.Tryz
open Go Go.Abs
set_option linter.unusedSimpArgs false
set_option maxRecDepth 100000
set_option maxHeartbeats 8000000

structure MArg (x : Lcl) (p : Prt) (q : Str × Str) : Prop where
  len : x.rest.length = 11
  bel : belowL 0 x.rest
  wx : wt x.av < 1073741824
  wp : wt (partsAV [p]) < 1073741824
  pv : ∃ k, PV k [p]
  wq : wt (pairAV q.1 q.2) < 1000000000
theorem MArg.q {x : Lcl} {p : Prt} {q : Str × Str} (h : MArg x p q) : q.1.length < 1073741824 ∧ q.2.length < 1073741824 := by
  have := h.wq
  simp only [pairAV, wt, wts] at this
  omega
theorem MArg.oarg {x : Lcl} {p : Prt} {q : Str × Str} (h : MArg x p q) (t : Int) : OArg x p ⟨[], t, q.1, 0, []⟩ := by
  have h1 := h.wq
  have h2 : wt (Val.av ⟨[], t, q.1, 0, []⟩) = 5 + 0 + q.1.length + wt (strs []) := wt_val ⟨[], t, q.1, 0, []⟩
  simp only [pairAV, wt, wts] at h1
  refine ⟨h.len, h.bel, h.wx, h.wp, h.pv, ?_⟩
  rw [h2]
  have h3 : wt (strs []) = 1 := rfl
  omega

theorem s5an (x : Lcl) (p : Prt) (q : Str × Str) (h : MArg x p q) (h9 : p.kind = 9) (hcs : p.cases = []) : FSv prog 5 [x.av, p.av, pairAV q.1 q.2] (.bool true) := by
  refine FSv_code T0_ok mo pl5 _ func5 (by decide) rfl _ rfl (by rfl) (by simp) _ rfl ?_
  simp only [f5]
  have ha := (h.oarg 1).arg
  have hl := ha.len
  have hbl := ha.bel
  have htk : x.rest.take 11 = x.rest := List.take_of_length_le (by omega)
  obtain ⟨k, hk⟩ := ha.pv
  have hpo := ha.prt
  have hpb := hpo.bel
  have hv := ha.val
  have hlc := ha.lcl
  have w1 := ha.w1
  have hwp := ha.wp
  have hwv := ha.wv
  have hq := h.q
  obtain ⟨q0, q1⟩ := q
  simp only at ha hv hwv hq ⊢
  obtain ⟨ps, hps⟩ := hpo.psl
  obtain ⟨es, hps⟩ := hps
  have hvt := (hv.2 _ (List.mem_singleton.2 rfl)).1
  have hvl := (hv.2 _ (List.mem_singleton.2 rfl)).2
  simp -dsimp only [eWC_skip, eWC_exit, eWC_ret, eWC_seq, eWC_block, eWC_cond, eWC_regF, eWC_regT, eWC_loop, eWOps_nil, eWOps_cons, eWOp_eq, eWPl_done, eWPl_z, eWPl_q, eWPl_a, eAW_eq, ↓AW, evalQ, guardG, SV.noU, SV.un, beq_iff_eq, quiet, evO, ofConst, St.put, SV.of, SV.no, binQ, unQ, arQ, loadQ, sliceQ, partsQ, fillAV, fillOk, isU8, byteOf, shapeOk, isAggD, isAggV, cell1, cellsOf, isSeq, pOk, capsOk, pureCall, pickB_or, pickB_and, belowV, belowL, elemsOf, Proms, Prom, svLe, tagLe, isLoad, lk, thenQ, blockQ, retV, retQ, resL, resQ, oneRes, if_false, if_true, reduceIte, forall_const, true_implies, false_implies, implies_true, Nat.reduceEqDiff, Nat.reduceAdd, Nat.reduceSub, Nat.reduceLT, Nat.reduceLeDiff, Nat.reduceMul, Nat.reduceBEq, Nat.reduceBNe, Int.reduceToNat, Int.reduceLT, Int.reduceLE, Int.reduceEq, Int.reduceNeg, Int.reduceAdd, Int.reduceSub, reduceCtorEq, List.filter_nil, List.filter_cons, List.find?_cons, List.find?_nil, ne_eq, beq_self_eq_true, eq_self, imp_self, wz, T0_3, T0_4, T0_5, T0_9, T0_22, T0_28, T0_30, T0_31, T0_32, T0_34, T0_35, T0_38, T0_44, T0_46, T0_47, T0_55, T0_64, T0_66, T0_107, T0_133, T0_137, T0_138, T0_140, T0_141, T0_307, S0, Lcl.av, Prt.av, pairAV]
  refine callG_v _ s22 (by simp) (by simp [belowL]) (by simp [belowV]) ?_
  simp -dsimp only [eWC_skip, eWC_exit, eWC_ret, eWC_seq, eWC_block, eWC_cond, eWC_regF, eWC_regT, eWC_loop, eWOps_nil, eWOps_cons, eWOp_eq, eWPl_done, eWPl_z, eWPl_q, eWPl_a, eAW_eq, ↓AW, evalQ, guardG, SV.noU, SV.un, beq_iff_eq, quiet, evO, ofConst, St.put, SV.of, SV.no, binQ, unQ, arQ, loadQ, sliceQ, partsQ, fillAV, fillOk, isU8, byteOf, shapeOk, isAggD, isAggV, cell1, cellsOf, isSeq, pOk, capsOk, pureCall, pickB_or, pickB_and, belowV, belowL, elemsOf, Proms, Prom, svLe, tagLe, isLoad, lk, thenQ, blockQ, retV, retQ, resL, resQ, oneRes, if_false, if_true, reduceIte, forall_const, true_implies, false_implies, implies_true, Nat.reduceEqDiff, Nat.reduceAdd, Nat.reduceSub, Nat.reduceLT, Nat.reduceLeDiff, Nat.reduceMul, Nat.reduceBEq, Nat.reduceBNe, Int.reduceToNat, Int.reduceLT, Int.reduceLE, Int.reduceEq, Int.reduceNeg, Int.reduceAdd, Int.reduceSub, reduceCtorEq, List.filter_nil, List.filter_cons, List.find?_cons, List.find?_nil, ne_eq, beq_self_eq_true, eq_self, imp_self, wz, T0_3, T0_4, T0_5, T0_9, T0_22, T0_28, T0_30, T0_31, T0_32, T0_34, T0_35, T0_38, T0_44, T0_46, T0_47, T0_55, T0_64, T0_66, T0_107, T0_133, T0_137, T0_138, T0_140, T0_141, T0_307, h9, pairAV]
  refine ⟨by omega, by omega, ?_⟩
  rw [htk]
  refine callG_p _ (FSp.args (s23 x p [⟨p.name, 1, q0, 0, []⟩] k (by omega) (by omega) hl hbl hk (by omega) (by omega)) ?_) (by simp) (by simp [belowL, belowV, rulesAV, hbl, hpb]) isBool_below ?_
  · simp [Lcl.av, Prt.av, Val.av, strs, avsLe2, avLe2, avsLe2_refl, avLe2_refl, rulesAV, h9]
  rintro w ⟨b, rfl⟩
  simp -dsimp only [eWC_skip, eWC_exit, eWC_ret, eWC_seq, eWC_block, eWC_cond, eWC_regF, eWC_regT, eWC_loop, eWOps_nil, eWOps_cons, eWOp_eq, eWPl_done, eWPl_z, eWPl_q, eWPl_a, eAW_eq, ↓AW, evalQ, guardG, SV.noU, SV.un, beq_iff_eq, quiet, evO, ofConst, St.put, SV.of, SV.no, binQ, unQ, arQ, loadQ, sliceQ, partsQ, fillAV, fillOk, isU8, byteOf, shapeOk, isAggD, isAggV, cell1, cellsOf, isSeq, pOk, capsOk, pureCall, pickB_or, pickB_and, belowV, belowL, elemsOf, Proms, Prom, svLe, tagLe, isLoad, lk, thenQ, blockQ, retV, retQ, resL, resQ, oneRes, if_false, if_true, reduceIte, forall_const, true_implies, false_implies, implies_true, Nat.reduceEqDiff, Nat.reduceAdd, Nat.reduceSub, Nat.reduceLT, Nat.reduceLeDiff, Nat.reduceMul, Nat.reduceBEq, Nat.reduceBNe, Int.reduceToNat, Int.reduceLT, Int.reduceLE, Int.reduceEq, Int.reduceNeg, Int.reduceAdd, Int.reduceSub, reduceCtorEq, List.filter_nil, List.filter_cons, List.find?_cons, List.find?_nil, ne_eq, beq_self_eq_true, eq_self, imp_self, wz, T0_3, T0_4, T0_5, T0_9, T0_22, T0_28, T0_30, T0_31, T0_32, T0_34, T0_35, T0_38, T0_44, T0_46, T0_47, T0_55, T0_64, T0_66, T0_107, T0_133, T0_137, T0_138, T0_140, T0_141, T0_307]
  refine ⟨by omega, by omega, ?_⟩
  cases hg : (!b || decide (60 < (q1.length : Int))) with
  | true =>
    refine eGA_v (.bool false) (fun h => by cases h) ?_
    simp -dsimp only [eWC_skip, eWC_exit, eWC_ret, eWC_seq, eWC_block, eWC_cond, eWC_regF, eWC_regT, eWC_loop, eWOps_nil, eWOps_cons, eWOp_eq, eWPl_done, eWPl_z, eWPl_q, eWPl_a, eAW_eq, ↓AW, evalQ, guardG, SV.noU, SV.un, beq_iff_eq, quiet, evO, ofConst, St.put, SV.of, SV.no, binQ, unQ, arQ, loadQ, sliceQ, partsQ, fillAV, fillOk, isU8, byteOf, shapeOk, isAggD, isAggV, cell1, cellsOf, isSeq, pOk, capsOk, pureCall, pickB_or, pickB_and, belowV, belowL, elemsOf, Proms, Prom, svLe, tagLe, isLoad, lk, thenQ, blockQ, retV, retQ, resL, resQ, oneRes, if_false, if_true, reduceIte, forall_const, true_implies, false_implies, implies_true, Nat.reduceEqDiff, Nat.reduceAdd, Nat.reduceSub, Nat.reduceLT, Nat.reduceLeDiff, Nat.reduceMul, Nat.reduceBEq, Nat.reduceBNe, Int.reduceToNat, Int.reduceLT, Int.reduceLE, Int.reduceEq, Int.reduceNeg, Int.reduceAdd, Int.reduceSub, reduceCtorEq, List.filter_nil, List.filter_cons, List.find?_cons, List.find?_nil, ne_eq, beq_self_eq_true, eq_self, imp_self, wz, T0_3, T0_4, T0_5, T0_9, T0_22, T0_28, T0_30, T0_31, T0_32, T0_34, T0_35, T0_38, T0_44, T0_46, T0_47, T0_55, T0_64, T0_66, T0_107, T0_133, T0_137, T0_138, T0_140, T0_141, T0_307]
    simp only [avLe]
  | false =>
  refine eGA_split ⟨fun _ => ?_, fun h => absurd rfl h⟩
  simp -dsimp only [eWC_skip, eWC_exit, eWC_ret, eWC_seq, eWC_block, eWC_cond, eWC_regF, eWC_regT, eWC_loop, eWOps_nil, eWOps_cons, eWOp_eq, eWPl_done, eWPl_z, eWPl_q, eWPl_a, eAW_eq, ↓AW, evalQ, guardG, SV.noU, SV.un, beq_iff_eq, quiet, evO, ofConst, St.put, SV.of, SV.no, binQ, unQ, arQ, loadQ, sliceQ, partsQ, fillAV, fillOk, isU8, byteOf, shapeOk, isAggD, isAggV, cell1, cellsOf, isSeq, pOk, capsOk, pureCall, pickB_or, pickB_and, belowV, belowL, elemsOf, Proms, Prom, svLe, tagLe, isLoad, lk, thenQ, blockQ, retV, retQ, resL, resQ, oneRes, if_false, if_true, reduceIte, forall_const, true_implies, false_implies, implies_true, Nat.reduceEqDiff, Nat.reduceAdd, Nat.reduceSub, Nat.reduceLT, Nat.reduceLeDiff, Nat.reduceMul, Nat.reduceBEq, Nat.reduceBNe, Int.reduceToNat, Int.reduceLT, Int.reduceLE, Int.reduceEq, Int.reduceNeg, Int.reduceAdd, Int.reduceSub, reduceCtorEq, List.filter_nil, List.filter_cons, List.find?_cons, List.find?_nil, ne_eq, beq_self_eq_true, eq_self, imp_self, wz, T0_3, T0_4, T0_5, T0_9, T0_22, T0_28, T0_30, T0_31, T0_32, T0_34, T0_35, T0_38, T0_44, T0_46, T0_47, T0_55, T0_64, T0_66, T0_107, T0_133, T0_137, T0_138, T0_140, T0_141, T0_307]
  refine callG_p _ (s28 q1 (by omega)) (by simp) (by simp [belowL, belowV]) isBool_below ?_
  rintro w ⟨b2, rfl⟩
  have hk0 : p.kind = p.kind := rfl
  have hcm := choose_more x p ⟨p.name, 1, q0, 0, []⟩ q1 rfl
  have happ : ∀ cs : List (Str × AV), avsLe2 (cs.map caseAV ++ [.agg [.str q1, .snil]]) (cs.map caseAV ++ [.agg [.str q1, .sl 6 []]]) := fun cs => avsLe2_append (avsLe2_refl _) (by simp [avsLe2, avLe2])
  have hpc := hpo.cases
  simp only [hcs, List.length_cons, List.length_nil] at hpc
  have hmo : PrtOk (moreP p q1) := by
    refine ⟨?_, ?_, hpo.psl⟩
    · have h3 := len_cases p
      have h4 := wt_e (l := [p]) (e := p) (by simp)
      simp only [moreP, List.length_append, List.length_cons, List.length_nil]
      omega
    · intro c hc
      simp only [moreP, List.mem_append, List.mem_cons, List.not_mem_nil, or_false] at hc
      rcases hc with hc | rfl
      · exact hpo.csl c hc
      · exact ⟨_, _, rfl⟩
  simp -dsimp only [eWC_skip, eWC_exit, eWC_ret, eWC_seq, eWC_block, eWC_cond, eWC_regF, eWC_regT, eWC_loop, eWOps_nil, eWOps_cons, eWOp_eq, eWPl_done, eWPl_z, eWPl_q, eWPl_a, eAW_eq, ↓AW, evalQ, guardG, SV.noU, SV.un, beq_iff_eq, quiet, evO, ofConst, St.put, SV.of, SV.no, binQ, unQ, arQ, loadQ, sliceQ, partsQ, fillAV, fillOk, isU8, byteOf, shapeOk, isAggD, isAggV, cell1, cellsOf, isSeq, pOk, capsOk, pureCall, pickB_or, pickB_and, belowV, belowL, elemsOf, Proms, Prom, svLe, tagLe, isLoad, lk, thenQ, blockQ, retV, retQ, resL, resQ, oneRes, if_false, if_true, reduceIte, forall_const, true_implies, false_implies, implies_true, Nat.reduceEqDiff, Nat.reduceAdd, Nat.reduceSub, Nat.reduceLT, Nat.reduceLeDiff, Nat.reduceMul, Nat.reduceBEq, Nat.reduceBNe, Int.reduceToNat, Int.reduceLT, Int.reduceLE, Int.reduceEq, Int.reduceNeg, Int.reduceAdd, Int.reduceSub, reduceCtorEq, List.filter_nil, List.filter_cons, List.find?_cons, List.find?_nil, ne_eq, beq_self_eq_true, eq_self, imp_self, wz, T0_3, T0_4, T0_5, T0_9, T0_22, T0_28, T0_30, T0_31, T0_32, T0_34, T0_35, T0_38, T0_44, T0_46, T0_47, T0_55, T0_64, T0_66, T0_107, T0_133, T0_137, T0_138, T0_140, T0_141, T0_307, pl5_9, hps, hcs]
  refine ⟨fun _ => by simp only [avLe], fun _ => ?_⟩
  repeat' apply And.intro
  all_goals first | omega | (intro z' es' h; cases h; rfl) | exact List.mem_cons_self | exact List.mem_cons_of_mem _ List.mem_cons_self | skip
  all_goals (
    rw [htk]
    refine callG_v _ ((s24 x p [⟨p.name, 1, q0, 0, []⟩] hlc hpo (by simp) (fun v hv' => (hv.2 v hv').1) (fun v hv' => by have := (hv.2 v hv').2; omega)).args (by simp [Lcl.av, Prt.av, Val.av, strs, avsLe2, avLe2, avsLe2_refl, avLe2_refl, rulesAV, h9, hcs, hps])) (by simp) (by simp [belowL, belowV, rulesAV, hbl]) (by simp [belowV, belowL]) ?_
    generalize hC : chooseV x p [⟨p.name, 1, q0, 0, []⟩] = C at *
    simp -dsimp only [eWC_skip, eWC_exit, eWC_ret, eWC_seq, eWC_block, eWC_cond, eWC_regF, eWC_regT, eWC_loop, eWOps_nil, eWOps_cons, eWOp_eq, eWPl_done, eWPl_z, eWPl_q, eWPl_a, eAW_eq, ↓AW, evalQ, guardG, SV.noU, SV.un, beq_iff_eq, quiet, evO, ofConst, St.put, SV.of, SV.no, binQ, unQ, arQ, loadQ, sliceQ, partsQ, fillAV, fillOk, isU8, byteOf, shapeOk, isAggD, isAggV, cell1, cellsOf, isSeq, pOk, capsOk, pureCall, pickB_or, pickB_and, belowV, belowL, elemsOf, Proms, Prom, svLe, tagLe, isLoad, lk, thenQ, blockQ, retV, retQ, resL, resQ, oneRes, if_false, if_true, reduceIte, forall_const, true_implies, false_implies, implies_true, Nat.reduceEqDiff, Nat.reduceAdd, Nat.reduceSub, Nat.reduceLT, Nat.reduceLeDiff, Nat.reduceMul, Nat.reduceBEq, Nat.reduceBNe, Int.reduceToNat, Int.reduceLT, Int.reduceLE, Int.reduceEq, Int.reduceNeg, Int.reduceAdd, Int.reduceSub, reduceCtorEq, List.filter_nil, List.filter_cons, List.find?_cons, List.find?_nil, ne_eq, beq_self_eq_true, eq_self, imp_self, wz, T0_3, T0_4, T0_5, T0_9, T0_22, T0_28, T0_30, T0_31, T0_32, T0_34, T0_35, T0_38, T0_44, T0_46, T0_47, T0_55, T0_64, T0_66, T0_107, T0_133, T0_137, T0_138, T0_140, T0_141, T0_307, hps]
    refine ⟨by omega, ?_⟩
    rw [htk]
    refine callG_v _ ((s24 x (moreP p q1) [⟨p.name, 1, q0, 0, []⟩] hlc hmo (by simp) (fun v hv' => (hv.2 v hv').1) (fun v hv' => by have := (hv.2 v hv').2; omega)).args (by simp [moreP, caseAV, happ, Lcl.av, Prt.av, Val.av, strs, avsLe2, avLe2, avsLe2_refl, avLe2_refl, rulesAV, h9, hcs, hps])) (by simp) (by simp [belowL, belowV, rulesAV, hbl]) (by simp [belowV, belowL]) ?_
    generalize hD : chooseV x (moreP p q1) [⟨p.name, 1, q0, 0, []⟩] = D at *
    obtain ⟨c1, c2⟩ := C
    obtain ⟨d1, d2⟩ := D
    by_cases he : c2 = 0
    · subst he
      obtain ⟨hd, hor⟩ := hcm rfl
      simp only at hd hor
      subst hd
      by_cases hik : c1 = d1
      · subst hik
        simp -dsimp only [eWC_skip, eWC_exit, eWC_ret, eWC_seq, eWC_block, eWC_cond, eWC_regF, eWC_regT, eWC_loop, eWOps_nil, eWOps_cons, eWOp_eq, eWPl_done, eWPl_z, eWPl_q, eWPl_a, eAW_eq, ↓AW, evalQ, guardG, SV.noU, SV.un, beq_iff_eq, quiet, evO, ofConst, St.put, SV.of, SV.no, binQ, unQ, arQ, loadQ, sliceQ, partsQ, fillAV, fillOk, isU8, byteOf, shapeOk, isAggD, isAggV, cell1, cellsOf, isSeq, pOk, capsOk, pureCall, pickB_or, pickB_and, belowV, belowL, elemsOf, Proms, Prom, svLe, tagLe, isLoad, lk, thenQ, blockQ, retV, retQ, resL, resQ, oneRes, if_false, if_true, reduceIte, forall_const, true_implies, false_implies, implies_true, Nat.reduceEqDiff, Nat.reduceAdd, Nat.reduceSub, Nat.reduceLT, Nat.reduceLeDiff, Nat.reduceMul, Nat.reduceBEq, Nat.reduceBNe, Int.reduceToNat, Int.reduceLT, Int.reduceLE, Int.reduceEq, Int.reduceNeg, Int.reduceAdd, Int.reduceSub, reduceCtorEq, List.filter_nil, List.filter_cons, List.find?_cons, List.find?_nil, ne_eq, beq_self_eq_true, eq_self, imp_self, wz, T0_3, T0_4, T0_5, T0_9, T0_22, T0_28, T0_30, T0_31, T0_32, T0_34, T0_35, T0_38, T0_44, T0_46, T0_47, T0_55, T0_64, T0_66, T0_107, T0_133, T0_137, T0_138, T0_140, T0_141, T0_307, hps]
        simp only [avLe]
      · obtain ⟨hd1, hcl⟩ := hor.resolve_left hik
        simp -dsimp only [eWC_skip, eWC_exit, eWC_ret, eWC_seq, eWC_block, eWC_cond, eWC_regF, eWC_regT, eWC_loop, eWOps_nil, eWOps_cons, eWOp_eq, eWPl_done, eWPl_z, eWPl_q, eWPl_a, eAW_eq, ↓AW, evalQ, guardG, SV.noU, SV.un, beq_iff_eq, quiet, evO, ofConst, St.put, SV.of, SV.no, binQ, unQ, arQ, loadQ, sliceQ, partsQ, fillAV, fillOk, isU8, byteOf, shapeOk, isAggD, isAggV, cell1, cellsOf, isSeq, pOk, capsOk, pureCall, pickB_or, pickB_and, belowV, belowL, elemsOf, Proms, Prom, svLe, tagLe, isLoad, lk, thenQ, blockQ, retV, retQ, resL, resQ, oneRes, if_false, if_true, reduceIte, forall_const, true_implies, false_implies, implies_true, Nat.reduceEqDiff, Nat.reduceAdd, Nat.reduceSub, Nat.reduceLT, Nat.reduceLeDiff, Nat.reduceMul, Nat.reduceBEq, Nat.reduceBNe, Int.reduceToNat, Int.reduceLT, Int.reduceLE, Int.reduceEq, Int.reduceNeg, Int.reduceAdd, Int.reduceSub, reduceCtorEq, List.filter_nil, List.filter_cons, List.find?_cons, List.find?_nil, ne_eq, beq_self_eq_true, eq_self, imp_self, wz, T0_3, T0_4, T0_5, T0_9, T0_22, T0_28, T0_30, T0_31, T0_32, T0_34, T0_35, T0_38, T0_44, T0_46, T0_47, T0_55, T0_64, T0_66, T0_107, T0_133, T0_137, T0_138, T0_140, T0_141, T0_307, hps, hik]
        refine ⟨by omega, ?_⟩
        rw [htk]
        refine callG_v _ (s29 x 9 q0 hlc (by omega)) (by simp) (by simp [belowL, belowV, rulesAV, hbl]) (by simp [belowV, belowL]) ?_
        rw [h9] at hcl
        generalize clsV x 9 q0 = K at *
        subst hd1
        rw [hcs]
        simp -dsimp only [eWC_skip, eWC_exit, eWC_ret, eWC_seq, eWC_block, eWC_cond, eWC_regF, eWC_regT, eWC_loop, eWOps_nil, eWOps_cons, eWOp_eq, eWPl_done, eWPl_z, eWPl_q, eWPl_a, eAW_eq, ↓AW, evalQ, guardG, SV.noU, SV.un, beq_iff_eq, quiet, evO, ofConst, St.put, SV.of, SV.no, binQ, unQ, arQ, loadQ, sliceQ, partsQ, fillAV, fillOk, isU8, byteOf, shapeOk, isAggD, isAggV, cell1, cellsOf, isSeq, pOk, capsOk, pureCall, pickB_or, pickB_and, belowV, belowL, elemsOf, Proms, Prom, svLe, tagLe, isLoad, lk, thenQ, blockQ, retV, retQ, resL, resQ, oneRes, if_false, if_true, reduceIte, forall_const, true_implies, false_implies, implies_true, Nat.reduceEqDiff, Nat.reduceAdd, Nat.reduceSub, Nat.reduceLT, Nat.reduceLeDiff, Nat.reduceMul, Nat.reduceBEq, Nat.reduceBNe, Int.reduceToNat, Int.reduceLT, Int.reduceLE, Int.reduceEq, Int.reduceNeg, Int.reduceAdd, Int.reduceSub, reduceCtorEq, List.filter_nil, List.filter_cons, List.find?_cons, List.find?_nil, ne_eq, beq_self_eq_true, eq_self, imp_self, wz, T0_3, T0_4, T0_5, T0_9, T0_22, T0_28, T0_30, T0_31, T0_32, T0_34, T0_35, T0_38, T0_44, T0_46, T0_47, T0_55, T0_64, T0_66, T0_107, T0_133, T0_137, T0_138, T0_140, T0_141, T0_307, hps, hcs, hik]
        have hend : (q1 == q0 || q1 == 61 :: q0 || q1 == K.fst) = true := by rcases hcl with ⟨e, _⟩ | e | e <;> simp [e]
        exact ⟨by omega, fun _ => by omega, fun h => ⟨h, by omega⟩, fun _ => by omega, by simp only [hend, avLe]⟩
    · simp -dsimp only [eWC_skip, eWC_exit, eWC_ret, eWC_seq, eWC_block, eWC_cond, eWC_regF, eWC_regT, eWC_loop, eWOps_nil, eWOps_cons, eWOp_eq, eWPl_done, eWPl_z, eWPl_q, eWPl_a, eAW_eq, ↓AW, evalQ, guardG, SV.noU, SV.un, beq_iff_eq, quiet, evO, ofConst, St.put, SV.of, SV.no, binQ, unQ, arQ, loadQ, sliceQ, partsQ, fillAV, fillOk, isU8, byteOf, shapeOk, isAggD, isAggV, cell1, cellsOf, isSeq, pOk, capsOk, pureCall, pickB_or, pickB_and, belowV, belowL, elemsOf, Proms, Prom, svLe, tagLe, isLoad, lk, thenQ, blockQ, retV, retQ, resL, resQ, oneRes, if_false, if_true, reduceIte, forall_const, true_implies, false_implies, implies_true, Nat.reduceEqDiff, Nat.reduceAdd, Nat.reduceSub, Nat.reduceLT, Nat.reduceLeDiff, Nat.reduceMul, Nat.reduceBEq, Nat.reduceBNe, Int.reduceToNat, Int.reduceLT, Int.reduceLE, Int.reduceEq, Int.reduceNeg, Int.reduceAdd, Int.reduceSub, reduceCtorEq, List.filter_nil, List.filter_cons, List.find?_cons, List.find?_nil, ne_eq, beq_self_eq_true, eq_self, imp_self, wz, T0_3, T0_4, T0_5, T0_9, T0_22, T0_28, T0_30, T0_31, T0_32, T0_34, T0_35, T0_38, T0_44, T0_46, T0_47, T0_55, T0_64, T0_66, T0_107, T0_133, T0_137, T0_138, T0_140, T0_141, T0_307, hps, he]
      simp only [avLe])

theorem s5ac (x : Lcl) (p : Prt) (q : Str × Str) (h : MArg x p q) (h9 : p.kind = 9) (c0 : Str × AV) (cs : List (Str × AV)) (hcs : p.cases = c0 :: cs) : FSv prog 5 [x.av, p.av, pairAV q.1 q.2] (.bool true) := by
  refine FSv_code T0_ok mo pl5 _ func5 (by decide) rfl _ rfl (by rfl) (by simp) _ rfl ?_
  simp only [f5]
  have ha := (h.oarg 1).arg
  have hl := ha.len
  have hbl := ha.bel
  have htk : x.rest.take 11 = x.rest := List.take_of_length_le (by omega)
  obtain ⟨k, hk⟩ := ha.pv
  have hpo := ha.prt
  have hpb := hpo.bel
  have hv := ha.val
  have hlc := ha.lcl
  have w1 := ha.w1
  have hwp := ha.wp
  have hwv := ha.wv
  have hq := h.q
  obtain ⟨q0, q1⟩ := q
  simp only at ha hv hwv hq ⊢
  obtain ⟨ps, hps⟩ := hpo.psl
  obtain ⟨es, hps⟩ := hps
  have hvt := (hv.2 _ (List.mem_singleton.2 rfl)).1
  have hvl := (hv.2 _ (List.mem_singleton.2 rfl)).2
  simp -dsimp only [eWC_skip, eWC_exit, eWC_ret, eWC_seq, eWC_block, eWC_cond, eWC_regF, eWC_regT, eWC_loop, eWOps_nil, eWOps_cons, eWOp_eq, eWPl_done, eWPl_z, eWPl_q, eWPl_a, eAW_eq, ↓AW, evalQ, guardG, SV.noU, SV.un, beq_iff_eq, quiet, evO, ofConst, St.put, SV.of, SV.no, binQ, unQ, arQ, loadQ, sliceQ, partsQ, fillAV, fillOk, isU8, byteOf, shapeOk, isAggD, isAggV, cell1, cellsOf, isSeq, pOk, capsOk, pureCall, pickB_or, pickB_and, belowV, belowL, elemsOf, Proms, Prom, svLe, tagLe, isLoad, lk, thenQ, blockQ, retV, retQ, resL, resQ, oneRes, if_false, if_true, reduceIte, forall_const, true_implies, false_implies, implies_true, Nat.reduceEqDiff, Nat.reduceAdd, Nat.reduceSub, Nat.reduceLT, Nat.reduceLeDiff, Nat.reduceMul, Nat.reduceBEq, Nat.reduceBNe, Int.reduceToNat, Int.reduceLT, Int.reduceLE, Int.reduceEq, Int.reduceNeg, Int.reduceAdd, Int.reduceSub, reduceCtorEq, List.filter_nil, List.filter_cons, List.find?_cons, List.find?_nil, ne_eq, beq_self_eq_true, eq_self, imp_self, wz, T0_3, T0_4, T0_5, T0_9, T0_22, T0_28, T0_30, T0_31, T0_32, T0_34, T0_35, T0_38, T0_44, T0_46, T0_47, T0_55, T0_64, T0_66, T0_107, T0_133, T0_137, T0_138, T0_140, T0_141, T0_307, S0, Lcl.av, Prt.av, pairAV]
  refine callG_v _ s22 (by simp) (by simp [belowL]) (by simp [belowV]) ?_
  simp -dsimp only [eWC_skip, eWC_exit, eWC_ret, eWC_seq, eWC_block, eWC_cond, eWC_regF, eWC_regT, eWC_loop, eWOps_nil, eWOps_cons, eWOp_eq, eWPl_done, eWPl_z, eWPl_q, eWPl_a, eAW_eq, ↓AW, evalQ, guardG, SV.noU, SV.un, beq_iff_eq, quiet, evO, ofConst, St.put, SV.of, SV.no, binQ, unQ, arQ, loadQ, sliceQ, partsQ, fillAV, fillOk, isU8, byteOf, shapeOk, isAggD, isAggV, cell1, cellsOf, isSeq, pOk, capsOk, pureCall, pickB_or, pickB_and, belowV, belowL, elemsOf, Proms, Prom, svLe, tagLe, isLoad, lk, thenQ, blockQ, retV, retQ, resL, resQ, oneRes, if_false, if_true, reduceIte, forall_const, true_implies, false_implies, implies_true, Nat.reduceEqDiff, Nat.reduceAdd, Nat.reduceSub, Nat.reduceLT, Nat.reduceLeDiff, Nat.reduceMul, Nat.reduceBEq, Nat.reduceBNe, Int.reduceToNat, Int.reduceLT, Int.reduceLE, Int.reduceEq, Int.reduceNeg, Int.reduceAdd, Int.reduceSub, reduceCtorEq, List.filter_nil, List.filter_cons, List.find?_cons, List.find?_nil, ne_eq, beq_self_eq_true, eq_self, imp_self, wz, T0_3, T0_4, T0_5, T0_9, T0_22, T0_28, T0_30, T0_31, T0_32, T0_34, T0_35, T0_38, T0_44, T0_46, T0_47, T0_55, T0_64, T0_66, T0_107, T0_133, T0_137, T0_138, T0_140, T0_141, T0_307, h9, pairAV]
  refine ⟨by omega, by omega, ?_⟩
  rw [htk]
  refine callG_p _ (FSp.args (s23 x p [⟨p.name, 1, q0, 0, []⟩] k (by omega) (by omega) hl hbl hk (by omega) (by omega)) ?_) (by simp) (by simp [belowL, belowV, rulesAV, hbl, hpb]) isBool_below ?_
  · simp [Lcl.av, Prt.av, Val.av, strs, avsLe2, avLe2, avsLe2_refl, avLe2_refl, rulesAV, h9]
  rintro w ⟨b, rfl⟩
  simp -dsimp only [eWC_skip, eWC_exit, eWC_ret, eWC_seq, eWC_block, eWC_cond, eWC_regF, eWC_regT, eWC_loop, eWOps_nil, eWOps_cons, eWOp_eq, eWPl_done, eWPl_z, eWPl_q, eWPl_a, eAW_eq, ↓AW, evalQ, guardG, SV.noU, SV.un, beq_iff_eq, quiet, evO, ofConst, St.put, SV.of, SV.no, binQ, unQ, arQ, loadQ, sliceQ, partsQ, fillAV, fillOk, isU8, byteOf, shapeOk, isAggD, isAggV, cell1, cellsOf, isSeq, pOk, capsOk, pureCall, pickB_or, pickB_and, belowV, belowL, elemsOf, Proms, Prom, svLe, tagLe, isLoad, lk, thenQ, blockQ, retV, retQ, resL, resQ, oneRes, if_false, if_true, reduceIte, forall_const, true_implies, false_implies, implies_true, Nat.reduceEqDiff, Nat.reduceAdd, Nat.reduceSub, Nat.reduceLT, Nat.reduceLeDiff, Nat.reduceMul, Nat.reduceBEq, Nat.reduceBNe, Int.reduceToNat, Int.reduceLT, Int.reduceLE, Int.reduceEq, Int.reduceNeg, Int.reduceAdd, Int.reduceSub, reduceCtorEq, List.filter_nil, List.filter_cons, List.find?_cons, List.find?_nil, ne_eq, beq_self_eq_true, eq_self, imp_self, wz, T0_3, T0_4, T0_5, T0_9, T0_22, T0_28, T0_30, T0_31, T0_32, T0_34, T0_35, T0_38, T0_44, T0_46, T0_47, T0_55, T0_64, T0_66, T0_107, T0_133, T0_137, T0_138, T0_140, T0_141, T0_307]
  refine ⟨by omega, by omega, ?_⟩
  cases hg : (!b || decide (60 < (q1.length : Int))) with
  | true =>
    refine eGA_v (.bool false) (fun h => by cases h) ?_
    simp -dsimp only [eWC_skip, eWC_exit, eWC_ret, eWC_seq, eWC_block, eWC_cond, eWC_regF, eWC_regT, eWC_loop, eWOps_nil, eWOps_cons, eWOp_eq, eWPl_done, eWPl_z, eWPl_q, eWPl_a, eAW_eq, ↓AW, evalQ, guardG, SV.noU, SV.un, beq_iff_eq, quiet, evO, ofConst, St.put, SV.of, SV.no, binQ, unQ, arQ, loadQ, sliceQ, partsQ, fillAV, fillOk, isU8, byteOf, shapeOk, isAggD, isAggV, cell1, cellsOf, isSeq, pOk, capsOk, pureCall, pickB_or, pickB_and, belowV, belowL, elemsOf, Proms, Prom, svLe, tagLe, isLoad, lk, thenQ, blockQ, retV, retQ, resL, resQ, oneRes, if_false, if_true, reduceIte, forall_const, true_implies, false_implies, implies_true, Nat.reduceEqDiff, Nat.reduceAdd, Nat.reduceSub, Nat.reduceLT, Nat.reduceLeDiff, Nat.reduceMul, Nat.reduceBEq, Nat.reduceBNe, Int.reduceToNat, Int.reduceLT, Int.reduceLE, Int.reduceEq, Int.reduceNeg, Int.reduceAdd, Int.reduceSub, reduceCtorEq, List.filter_nil, List.filter_cons, List.find?_cons, List.find?_nil, ne_eq, beq_self_eq_true, eq_self, imp_self, wz, T0_3, T0_4, T0_5, T0_9, T0_22, T0_28, T0_30, T0_31, T0_32, T0_34, T0_35, T0_38, T0_44, T0_46, T0_47, T0_55, T0_64, T0_66, T0_107, T0_133, T0_137, T0_138, T0_140, T0_141, T0_307]
    simp only [avLe]
  | false =>
  refine eGA_split ⟨fun _ => ?_, fun h => absurd rfl h⟩
  simp -dsimp only [eWC_skip, eWC_exit, eWC_ret, eWC_seq, eWC_block, eWC_cond, eWC_regF, eWC_regT, eWC_loop, eWOps_nil, eWOps_cons, eWOp_eq, eWPl_done, eWPl_z, eWPl_q, eWPl_a, eAW_eq, ↓AW, evalQ, guardG, SV.noU, SV.un, beq_iff_eq, quiet, evO, ofConst, St.put, SV.of, SV.no, binQ, unQ, arQ, loadQ, sliceQ, partsQ, fillAV, fillOk, isU8, byteOf, shapeOk, isAggD, isAggV, cell1, cellsOf, isSeq, pOk, capsOk, pureCall, pickB_or, pickB_and, belowV, belowL, elemsOf, Proms, Prom, svLe, tagLe, isLoad, lk, thenQ, blockQ, retV, retQ, resL, resQ, oneRes, if_false, if_true, reduceIte, forall_const, true_implies, false_implies, implies_true, Nat.reduceEqDiff, Nat.reduceAdd, Nat.reduceSub, Nat.reduceLT, Nat.reduceLeDiff, Nat.reduceMul, Nat.reduceBEq, Nat.reduceBNe, Int.reduceToNat, Int.reduceLT, Int.reduceLE, Int.reduceEq, Int.reduceNeg, Int.reduceAdd, Int.reduceSub, reduceCtorEq, List.filter_nil, List.filter_cons, List.find?_cons, List.find?_nil, ne_eq, beq_self_eq_true, eq_self, imp_self, wz, T0_3, T0_4, T0_5, T0_9, T0_22, T0_28, T0_30, T0_31, T0_32, T0_34, T0_35, T0_38, T0_44, T0_46, T0_47, T0_55, T0_64, T0_66, T0_107, T0_133, T0_137, T0_138, T0_140, T0_141, T0_307]
  refine callG_p _ (s28 q1 (by omega)) (by simp) (by simp [belowL, belowV]) isBool_below ?_
  rintro w ⟨b2, rfl⟩
  have hk0 : p.kind = p.kind := rfl
  have hcm := choose_more x p ⟨p.name, 1, q0, 0, []⟩ q1 rfl
  have happ : ∀ cs : List (Str × AV), avsLe2 (cs.map caseAV ++ [.agg [.str q1, .snil]]) (cs.map caseAV ++ [.agg [.str q1, .sl 6 []]]) := fun cs => avsLe2_append (avsLe2_refl _) (by simp [avsLe2, avLe2])
  have hpc := hpo.cases
  simp only [hcs, List.length_cons, List.length_nil] at hpc
  have hmo : PrtOk (moreP p q1) := by
    refine ⟨?_, ?_, hpo.psl⟩
    · have h3 := len_cases p
      have h4 := wt_e (l := [p]) (e := p) (by simp)
      simp only [moreP, List.length_append, List.length_cons, List.length_nil]
      omega
    · intro c hc
      simp only [moreP, List.mem_append, List.mem_cons, List.not_mem_nil, or_false] at hc
      rcases hc with hc | rfl
      · exact hpo.csl c hc
      · exact ⟨_, _, rfl⟩
  simp -dsimp only [eWC_skip, eWC_exit, eWC_ret, eWC_seq, eWC_block, eWC_cond, eWC_regF, eWC_regT, eWC_loop, eWOps_nil, eWOps_cons, eWOp_eq, eWPl_done, eWPl_z, eWPl_q, eWPl_a, eAW_eq, ↓AW, evalQ, guardG, SV.noU, SV.un, beq_iff_eq, quiet, evO, ofConst, St.put, SV.of, SV.no, binQ, unQ, arQ, loadQ, sliceQ, partsQ, fillAV, fillOk, isU8, byteOf, shapeOk, isAggD, isAggV, cell1, cellsOf, isSeq, pOk, capsOk, pureCall, pickB_or, pickB_and, belowV, belowL, elemsOf, Proms, Prom, svLe, tagLe, isLoad, lk, thenQ, blockQ, retV, retQ, resL, resQ, oneRes, if_false, if_true, reduceIte, forall_const, true_implies, false_implies, implies_true, Nat.reduceEqDiff, Nat.reduceAdd, Nat.reduceSub, Nat.reduceLT, Nat.reduceLeDiff, Nat.reduceMul, Nat.reduceBEq, Nat.reduceBNe, Int.reduceToNat, Int.reduceLT, Int.reduceLE, Int.reduceEq, Int.reduceNeg, Int.reduceAdd, Int.reduceSub, reduceCtorEq, List.filter_nil, List.filter_cons, List.find?_cons, List.find?_nil, ne_eq, beq_self_eq_true, eq_self, imp_self, wz, T0_3, T0_4, T0_5, T0_9, T0_22, T0_28, T0_30, T0_31, T0_32, T0_34, T0_35, T0_38, T0_44, T0_46, T0_47, T0_55, T0_64, T0_66, T0_107, T0_133, T0_137, T0_138, T0_140, T0_141, T0_307, pl5_9, hps, hcs]
  refine ⟨fun _ => by simp only [avLe], fun _ => ?_⟩
  repeat' apply And.intro
  all_goals first | omega | (intro z' es' h; cases h; rfl) | exact List.mem_cons_self | exact List.mem_cons_of_mem _ List.mem_cons_self | skip
  all_goals (
    rw [htk]
    refine callG_v _ ((s24 x p [⟨p.name, 1, q0, 0, []⟩] hlc hpo (by simp) (fun v hv' => (hv.2 v hv').1) (fun v hv' => by have := (hv.2 v hv').2; omega)).args (by simp [Lcl.av, Prt.av, Val.av, strs, avsLe2, avLe2, avsLe2_refl, avLe2_refl, rulesAV, h9, hcs, hps])) (by simp) (by simp [belowL, belowV, rulesAV, hbl]) (by simp [belowV, belowL]) ?_
    generalize hC : chooseV x p [⟨p.name, 1, q0, 0, []⟩] = C at *
    simp -dsimp only [eWC_skip, eWC_exit, eWC_ret, eWC_seq, eWC_block, eWC_cond, eWC_regF, eWC_regT, eWC_loop, eWOps_nil, eWOps_cons, eWOp_eq, eWPl_done, eWPl_z, eWPl_q, eWPl_a, eAW_eq, ↓AW, evalQ, guardG, SV.noU, SV.un, beq_iff_eq, quiet, evO, ofConst, St.put, SV.of, SV.no, binQ, unQ, arQ, loadQ, sliceQ, partsQ, fillAV, fillOk, isU8, byteOf, shapeOk, isAggD, isAggV, cell1, cellsOf, isSeq, pOk, capsOk, pureCall, pickB_or, pickB_and, belowV, belowL, elemsOf, Proms, Prom, svLe, tagLe, isLoad, lk, thenQ, blockQ, retV, retQ, resL, resQ, oneRes, if_false, if_true, reduceIte, forall_const, true_implies, false_implies, implies_true, Nat.reduceEqDiff, Nat.reduceAdd, Nat.reduceSub, Nat.reduceLT, Nat.reduceLeDiff, Nat.reduceMul, Nat.reduceBEq, Nat.reduceBNe, Int.reduceToNat, Int.reduceLT, Int.reduceLE, Int.reduceEq, Int.reduceNeg, Int.reduceAdd, Int.reduceSub, reduceCtorEq, List.filter_nil, List.filter_cons, List.find?_cons, List.find?_nil, ne_eq, beq_self_eq_true, eq_self, imp_self, wz, T0_3, T0_4, T0_5, T0_9, T0_22, T0_28, T0_30, T0_31, T0_32, T0_34, T0_35, T0_38, T0_44, T0_46, T0_47, T0_55, T0_64, T0_66, T0_107, T0_133, T0_137, T0_138, T0_140, T0_141, T0_307, hps]
    refine ⟨by omega, ?_⟩
    rw [htk]
    refine callG_v _ ((s24 x (moreP p q1) [⟨p.name, 1, q0, 0, []⟩] hlc hmo (by simp) (fun v hv' => (hv.2 v hv').1) (fun v hv' => by have := (hv.2 v hv').2; omega)).args (by simp [moreP, caseAV, happ, Lcl.av, Prt.av, Val.av, strs, avsLe2, avLe2, avsLe2_refl, avLe2_refl, rulesAV, h9, hcs, hps])) (by simp) (by simp [belowL, belowV, rulesAV, hbl]) (by simp [belowV, belowL]) ?_
    generalize hD : chooseV x (moreP p q1) [⟨p.name, 1, q0, 0, []⟩] = D at *
    obtain ⟨c1, c2⟩ := C
    obtain ⟨d1, d2⟩ := D
    by_cases he : c2 = 0
    · subst he
      obtain ⟨hd, hor⟩ := hcm rfl
      simp only at hd hor
      subst hd
      by_cases hik : c1 = d1
      · subst hik
        simp -dsimp only [eWC_skip, eWC_exit, eWC_ret, eWC_seq, eWC_block, eWC_cond, eWC_regF, eWC_regT, eWC_loop, eWOps_nil, eWOps_cons, eWOp_eq, eWPl_done, eWPl_z, eWPl_q, eWPl_a, eAW_eq, ↓AW, evalQ, guardG, SV.noU, SV.un, beq_iff_eq, quiet, evO, ofConst, St.put, SV.of, SV.no, binQ, unQ, arQ, loadQ, sliceQ, partsQ, fillAV, fillOk, isU8, byteOf, shapeOk, isAggD, isAggV, cell1, cellsOf, isSeq, pOk, capsOk, pureCall, pickB_or, pickB_and, belowV, belowL, elemsOf, Proms, Prom, svLe, tagLe, isLoad, lk, thenQ, blockQ, retV, retQ, resL, resQ, oneRes, if_false, if_true, reduceIte, forall_const, true_implies, false_implies, implies_true, Nat.reduceEqDiff, Nat.reduceAdd, Nat.reduceSub, Nat.reduceLT, Nat.reduceLeDiff, Nat.reduceMul, Nat.reduceBEq, Nat.reduceBNe, Int.reduceToNat, Int.reduceLT, Int.reduceLE, Int.reduceEq, Int.reduceNeg, Int.reduceAdd, Int.reduceSub, reduceCtorEq, List.filter_nil, List.filter_cons, List.find?_cons, List.find?_nil, ne_eq, beq_self_eq_true, eq_self, imp_self, wz, T0_3, T0_4, T0_5, T0_9, T0_22, T0_28, T0_30, T0_31, T0_32, T0_34, T0_35, T0_38, T0_44, T0_46, T0_47, T0_55, T0_64, T0_66, T0_107, T0_133, T0_137, T0_138, T0_140, T0_141, T0_307, hps]
        simp only [avLe]
      · obtain ⟨hd1, hcl⟩ := hor.resolve_left hik
        simp -dsimp only [eWC_skip, eWC_exit, eWC_ret, eWC_seq, eWC_block, eWC_cond, eWC_regF, eWC_regT, eWC_loop, eWOps_nil, eWOps_cons, eWOp_eq, eWPl_done, eWPl_z, eWPl_q, eWPl_a, eAW_eq, ↓AW, evalQ, guardG, SV.noU, SV.un, beq_iff_eq, quiet, evO, ofConst, St.put, SV.of, SV.no, binQ, unQ, arQ, loadQ, sliceQ, partsQ, fillAV, fillOk, isU8, byteOf, shapeOk, isAggD, isAggV, cell1, cellsOf, isSeq, pOk, capsOk, pureCall, pickB_or, pickB_and, belowV, belowL, elemsOf, Proms, Prom, svLe, tagLe, isLoad, lk, thenQ, blockQ, retV, retQ, resL, resQ, oneRes, if_false, if_true, reduceIte, forall_const, true_implies, false_implies, implies_true, Nat.reduceEqDiff, Nat.reduceAdd, Nat.reduceSub, Nat.reduceLT, Nat.reduceLeDiff, Nat.reduceMul, Nat.reduceBEq, Nat.reduceBNe, Int.reduceToNat, Int.reduceLT, Int.reduceLE, Int.reduceEq, Int.reduceNeg, Int.reduceAdd, Int.reduceSub, reduceCtorEq, List.filter_nil, List.filter_cons, List.find?_cons, List.find?_nil, ne_eq, beq_self_eq_true, eq_self, imp_self, wz, T0_3, T0_4, T0_5, T0_9, T0_22, T0_28, T0_30, T0_31, T0_32, T0_34, T0_35, T0_38, T0_44, T0_46, T0_47, T0_55, T0_64, T0_66, T0_107, T0_133, T0_137, T0_138, T0_140, T0_141, T0_307, hps, hik]
        refine ⟨by omega, ?_⟩
        rw [htk]
        refine callG_v _ (s29 x 9 q0 hlc (by omega)) (by simp) (by simp [belowL, belowV, rulesAV, hbl]) (by simp [belowV, belowL]) ?_
        rw [h9] at hcl
        generalize clsV x 9 q0 = K at *
        subst hd1
        rw [hcs]
        simp -dsimp only [eWC_skip, eWC_exit, eWC_ret, eWC_seq, eWC_block, eWC_cond, eWC_regF, eWC_regT, eWC_loop, eWOps_nil, eWOps_cons, eWOp_eq, eWPl_done, eWPl_z, eWPl_q, eWPl_a, eAW_eq, ↓AW, evalQ, guardG, SV.noU, SV.un, beq_iff_eq, quiet, evO, ofConst, St.put, SV.of, SV.no, binQ, unQ, arQ, loadQ, sliceQ, partsQ, fillAV, fillOk, isU8, byteOf, shapeOk, isAggD, isAggV, cell1, cellsOf, isSeq, pOk, capsOk, pureCall, pickB_or, pickB_and, belowV, belowL, elemsOf, Proms, Prom, svLe, tagLe, isLoad, lk, thenQ, blockQ, retV, retQ, resL, resQ, oneRes, if_false, if_true, reduceIte, forall_const, true_implies, false_implies, implies_true, Nat.reduceEqDiff, Nat.reduceAdd, Nat.reduceSub, Nat.reduceLT, Nat.reduceLeDiff, Nat.reduceMul, Nat.reduceBEq, Nat.reduceBNe, Int.reduceToNat, Int.reduceLT, Int.reduceLE, Int.reduceEq, Int.reduceNeg, Int.reduceAdd, Int.reduceSub, reduceCtorEq, List.filter_nil, List.filter_cons, List.find?_cons, List.find?_nil, ne_eq, beq_self_eq_true, eq_self, imp_self, wz, T0_3, T0_4, T0_5, T0_9, T0_22, T0_28, T0_30, T0_31, T0_32, T0_34, T0_35, T0_38, T0_44, T0_46, T0_47, T0_55, T0_64, T0_66, T0_107, T0_133, T0_137, T0_138, T0_140, T0_141, T0_307, hps, hcs, hik]
        have hend : (q1 == q0 || q1 == 61 :: q0 || q1 == K.fst) = true := by rcases hcl with ⟨e, _⟩ | e | e <;> simp [e]
        exact ⟨by omega, fun _ => by omega, fun h => ⟨h, by omega⟩, fun _ => by omega, by simp only [hend, avLe]⟩
    · simp -dsimp only [eWC_skip, eWC_exit, eWC_ret, eWC_seq, eWC_block, eWC_cond, eWC_regF, eWC_regT, eWC_loop, eWOps_nil, eWOps_cons, eWOp_eq, eWPl_done, eWPl_z, eWPl_q, eWPl_a, eAW_eq, ↓AW, evalQ, guardG, SV.noU, SV.un, beq_iff_eq, quiet, evO, ofConst, St.put, SV.of, SV.no, binQ, unQ, arQ, loadQ, sliceQ, partsQ, fillAV, fillOk, isU8, byteOf, shapeOk, isAggD, isAggV, cell1, cellsOf, isSeq, pOk, capsOk, pureCall, pickB_or, pickB_and, belowV, belowL, elemsOf, Proms, Prom, svLe, tagLe, isLoad, lk, thenQ, blockQ, retV, retQ, resL, resQ, oneRes, if_false, if_true, reduceIte, forall_const, true_implies, false_implies, implies_true, Nat.reduceEqDiff, Nat.reduceAdd, Nat.reduceSub, Nat.reduceLT, Nat.reduceLeDiff, Nat.reduceMul, Nat.reduceBEq, Nat.reduceBNe, Int.reduceToNat, Int.reduceLT, Int.reduceLE, Int.reduceEq, Int.reduceNeg, Int.reduceAdd, Int.reduceSub, reduceCtorEq, List.filter_nil, List.filter_cons, List.find?_cons, List.find?_nil, ne_eq, beq_self_eq_true, eq_self, imp_self, wz, T0_3, T0_4, T0_5, T0_9, T0_22, T0_28, T0_30, T0_31, T0_32, T0_34, T0_35, T0_38, T0_44, T0_46, T0_47, T0_55, T0_64, T0_66, T0_107, T0_133, T0_137, T0_138, T0_140, T0_141, T0_307, hps, he]
      simp only [avLe])

theorem s5bn (x : Lcl) (p : Prt) (q : Str × Str) (h : MArg x p q) (h9 : ¬ p.kind = 9) (hcs : p.cases = []) : FSv prog 5 [x.av, p.av, pairAV q.1 q.2] (.bool true) := by
  refine FSv_code T0_ok mo pl5 _ func5 (by decide) rfl _ rfl (by rfl) (by simp) _ rfl ?_
  simp only [f5]
  have ha := (h.oarg 2).arg
  have hl := ha.len
  have hbl := ha.bel
  have htk : x.rest.take 11 = x.rest := List.take_of_length_le (by omega)
  obtain ⟨k, hk⟩ := ha.pv
  have hpo := ha.prt
  have hpb := hpo.bel
  have hv := ha.val
  have hlc := ha.lcl
  have w1 := ha.w1
  have hwp := ha.wp
  have hwv := ha.wv
  have hq := h.q
  obtain ⟨q0, q1⟩ := q
  simp only at ha hv hwv hq ⊢
  obtain ⟨ps, hps⟩ := hpo.psl
  obtain ⟨es, hps⟩ := hps
  have hvt := (hv.2 _ (List.mem_singleton.2 rfl)).1
  have hvl := (hv.2 _ (List.mem_singleton.2 rfl)).2
  simp -dsimp only [eWC_skip, eWC_exit, eWC_ret, eWC_seq, eWC_block, eWC_cond, eWC_regF, eWC_regT, eWC_loop, eWOps_nil, eWOps_cons, eWOp_eq, eWPl_done, eWPl_z, eWPl_q, eWPl_a, eAW_eq, ↓AW, evalQ, guardG, SV.noU, SV.un, beq_iff_eq, quiet, evO, ofConst, St.put, SV.of, SV.no, binQ, unQ, arQ, loadQ, sliceQ, partsQ, fillAV, fillOk, isU8, byteOf, shapeOk, isAggD, isAggV, cell1, cellsOf, isSeq, pOk, capsOk, pureCall, pickB_or, pickB_and, belowV, belowL, elemsOf, Proms, Prom, svLe, tagLe, isLoad, lk, thenQ, blockQ, retV, retQ, resL, resQ, oneRes, if_false, if_true, reduceIte, forall_const, true_implies, false_implies, implies_true, Nat.reduceEqDiff, Nat.reduceAdd, Nat.reduceSub, Nat.reduceLT, Nat.reduceLeDiff, Nat.reduceMul, Nat.reduceBEq, Nat.reduceBNe, Int.reduceToNat, Int.reduceLT, Int.reduceLE, Int.reduceEq, Int.reduceNeg, Int.reduceAdd, Int.reduceSub, reduceCtorEq, List.filter_nil, List.filter_cons, List.find?_cons, List.find?_nil, ne_eq, beq_self_eq_true, eq_self, imp_self, wz, T0_3, T0_4, T0_5, T0_9, T0_22, T0_28, T0_30, T0_31, T0_32, T0_34, T0_35, T0_38, T0_44, T0_46, T0_47, T0_55, T0_64, T0_66, T0_107, T0_133, T0_137, T0_138, T0_140, T0_141, T0_307, S0, Lcl.av, Prt.av, pairAV]
  refine callG_v _ s22 (by simp) (by simp [belowL]) (by simp [belowV]) ?_
  simp -dsimp only [eWC_skip, eWC_exit, eWC_ret, eWC_seq, eWC_block, eWC_cond, eWC_regF, eWC_regT, eWC_loop, eWOps_nil, eWOps_cons, eWOp_eq, eWPl_done, eWPl_z, eWPl_q, eWPl_a, eAW_eq, ↓AW, evalQ, guardG, SV.noU, SV.un, beq_iff_eq, quiet, evO, ofConst, St.put, SV.of, SV.no, binQ, unQ, arQ, loadQ, sliceQ, partsQ, fillAV, fillOk, isU8, byteOf, shapeOk, isAggD, isAggV, cell1, cellsOf, isSeq, pOk, capsOk, pureCall, pickB_or, pickB_and, belowV, belowL, elemsOf, Proms, Prom, svLe, tagLe, isLoad, lk, thenQ, blockQ, retV, retQ, resL, resQ, oneRes, if_false, if_true, reduceIte, forall_const, true_implies, false_implies, implies_true, Nat.reduceEqDiff, Nat.reduceAdd, Nat.reduceSub, Nat.reduceLT, Nat.reduceLeDiff, Nat.reduceMul, Nat.reduceBEq, Nat.reduceBNe, Int.reduceToNat, Int.reduceLT, Int.reduceLE, Int.reduceEq, Int.reduceNeg, Int.reduceAdd, Int.reduceSub, reduceCtorEq, List.filter_nil, List.filter_cons, List.find?_cons, List.find?_nil, ne_eq, beq_self_eq_true, eq_self, imp_self, wz, T0_3, T0_4, T0_5, T0_9, T0_22, T0_28, T0_30, T0_31, T0_32, T0_34, T0_35, T0_38, T0_44, T0_46, T0_47, T0_55, T0_64, T0_66, T0_107, T0_133, T0_137, T0_138, T0_140, T0_141, T0_307, h9, pairAV]
  refine ⟨by omega, by omega, ?_⟩
  rw [htk]
  refine callG_p _ (FSp.args (s23 x p [⟨p.name, 2, q0, 0, []⟩] k (by omega) (by omega) hl hbl hk (by omega) (by omega)) ?_) (by simp) (by simp [belowL, belowV, rulesAV, hbl, hpb]) isBool_below ?_
  · simp [Lcl.av, Prt.av, Val.av, strs, avsLe2, avLe2, avsLe2_refl, avLe2_refl, rulesAV, h9]
  rintro w ⟨b, rfl⟩
  simp -dsimp only [eWC_skip, eWC_exit, eWC_ret, eWC_seq, eWC_block, eWC_cond, eWC_regF, eWC_regT, eWC_loop, eWOps_nil, eWOps_cons, eWOp_eq, eWPl_done, eWPl_z, eWPl_q, eWPl_a, eAW_eq, ↓AW, evalQ, guardG, SV.noU, SV.un, beq_iff_eq, quiet, evO, ofConst, St.put, SV.of, SV.no, binQ, unQ, arQ, loadQ, sliceQ, partsQ, fillAV, fillOk, isU8, byteOf, shapeOk, isAggD, isAggV, cell1, cellsOf, isSeq, pOk, capsOk, pureCall, pickB_or, pickB_and, belowV, belowL, elemsOf, Proms, Prom, svLe, tagLe, isLoad, lk, thenQ, blockQ, retV, retQ, resL, resQ, oneRes, if_false, if_true, reduceIte, forall_const, true_implies, false_implies, implies_true, Nat.reduceEqDiff, Nat.reduceAdd, Nat.reduceSub, Nat.reduceLT, Nat.reduceLeDiff, Nat.reduceMul, Nat.reduceBEq, Nat.reduceBNe, Int.reduceToNat, Int.reduceLT, Int.reduceLE, Int.reduceEq, Int.reduceNeg, Int.reduceAdd, Int.reduceSub, reduceCtorEq, List.filter_nil, List.filter_cons, List.find?_cons, List.find?_nil, ne_eq, beq_self_eq_true, eq_self, imp_self, wz, T0_3, T0_4, T0_5, T0_9, T0_22, T0_28, T0_30, T0_31, T0_32, T0_34, T0_35, T0_38, T0_44, T0_46, T0_47, T0_55, T0_64, T0_66, T0_107, T0_133, T0_137, T0_138, T0_140, T0_141, T0_307]
  refine ⟨by omega, by omega, ?_⟩
  cases hg : (!b || decide (60 < (q1.length : Int))) with
  | true =>
    refine eGA_v (.bool false) (fun h => by cases h) ?_
    simp -dsimp only [eWC_skip, eWC_exit, eWC_ret, eWC_seq, eWC_block, eWC_cond, eWC_regF, eWC_regT, eWC_loop, eWOps_nil, eWOps_cons, eWOp_eq, eWPl_done, eWPl_z, eWPl_q, eWPl_a, eAW_eq, ↓AW, evalQ, guardG, SV.noU, SV.un, beq_iff_eq, quiet, evO, ofConst, St.put, SV.of, SV.no, binQ, unQ, arQ, loadQ, sliceQ, partsQ, fillAV, fillOk, isU8, byteOf, shapeOk, isAggD, isAggV, cell1, cellsOf, isSeq, pOk, capsOk, pureCall, pickB_or, pickB_and, belowV, belowL, elemsOf, Proms, Prom, svLe, tagLe, isLoad, lk, thenQ, blockQ, retV, retQ, resL, resQ, oneRes, if_false, if_true, reduceIte, forall_const, true_implies, false_implies, implies_true, Nat.reduceEqDiff, Nat.reduceAdd, Nat.reduceSub, Nat.reduceLT, Nat.reduceLeDiff, Nat.reduceMul, Nat.reduceBEq, Nat.reduceBNe, Int.reduceToNat, Int.reduceLT, Int.reduceLE, Int.reduceEq, Int.reduceNeg, Int.reduceAdd, Int.reduceSub, reduceCtorEq, List.filter_nil, List.filter_cons, List.find?_cons, List.find?_nil, ne_eq, beq_self_eq_true, eq_self, imp_self, wz, T0_3, T0_4, T0_5, T0_9, T0_22, T0_28, T0_30, T0_31, T0_32, T0_34, T0_35, T0_38, T0_44, T0_46, T0_47, T0_55, T0_64, T0_66, T0_107, T0_133, T0_137, T0_138, T0_140, T0_141, T0_307]
    simp only [avLe]
  | false =>
  refine eGA_split ⟨fun _ => ?_, fun h => absurd rfl h⟩
  simp -dsimp only [eWC_skip, eWC_exit, eWC_ret, eWC_seq, eWC_block, eWC_cond, eWC_regF, eWC_regT, eWC_loop, eWOps_nil, eWOps_cons, eWOp_eq, eWPl_done, eWPl_z, eWPl_q, eWPl_a, eAW_eq, ↓AW, evalQ, guardG, SV.noU, SV.un, beq_iff_eq, quiet, evO, ofConst, St.put, SV.of, SV.no, binQ, unQ, arQ, loadQ, sliceQ, partsQ, fillAV, fillOk, isU8, byteOf, shapeOk, isAggD, isAggV, cell1, cellsOf, isSeq, pOk, capsOk, pureCall, pickB_or, pickB_and, belowV, belowL, elemsOf, Proms, Prom, svLe, tagLe, isLoad, lk, thenQ, blockQ, retV, retQ, resL, resQ, oneRes, if_false, if_true, reduceIte, forall_const, true_implies, false_implies, implies_true, Nat.reduceEqDiff, Nat.reduceAdd, Nat.reduceSub, Nat.reduceLT, Nat.reduceLeDiff, Nat.reduceMul, Nat.reduceBEq, Nat.reduceBNe, Int.reduceToNat, Int.reduceLT, Int.reduceLE, Int.reduceEq, Int.reduceNeg, Int.reduceAdd, Int.reduceSub, reduceCtorEq, List.filter_nil, List.filter_cons, List.find?_cons, List.find?_nil, ne_eq, beq_self_eq_true, eq_self, imp_self, wz, T0_3, T0_4, T0_5, T0_9, T0_22, T0_28, T0_30, T0_31, T0_32, T0_34, T0_35, T0_38, T0_44, T0_46, T0_47, T0_55, T0_64, T0_66, T0_107, T0_133, T0_137, T0_138, T0_140, T0_141, T0_307]
  refine callG_p _ (s28 q1 (by omega)) (by simp) (by simp [belowL, belowV]) isBool_below ?_
  rintro w ⟨b2, rfl⟩
  have hk0 : p.kind = p.kind := rfl
  have hcm := choose_more x p ⟨p.name, 2, q0, 0, []⟩ q1 rfl
  have happ : ∀ cs : List (Str × AV), avsLe2 (cs.map caseAV ++ [.agg [.str q1, .snil]]) (cs.map caseAV ++ [.agg [.str q1, .sl 6 []]]) := fun cs => avsLe2_append (avsLe2_refl _) (by simp [avsLe2, avLe2])
  have hpc := hpo.cases
  simp only [hcs, List.length_cons, List.length_nil] at hpc
  have hmo : PrtOk (moreP p q1) := by
    refine ⟨?_, ?_, hpo.psl⟩
    · have h3 := len_cases p
      have h4 := wt_e (l := [p]) (e := p) (by simp)
      simp only [moreP, List.length_append, List.length_cons, List.length_nil]
      omega
    · intro c hc
      simp only [moreP, List.mem_append, List.mem_cons, List.not_mem_nil, or_false] at hc
      rcases hc with hc | rfl
      · exact hpo.csl c hc
      · exact ⟨_, _, rfl⟩
  simp -dsimp only [eWC_skip, eWC_exit, eWC_ret, eWC_seq, eWC_block, eWC_cond, eWC_regF, eWC_regT, eWC_loop, eWOps_nil, eWOps_cons, eWOp_eq, eWPl_done, eWPl_z, eWPl_q, eWPl_a, eAW_eq, ↓AW, evalQ, guardG, SV.noU, SV.un, beq_iff_eq, quiet, evO, ofConst, St.put, SV.of, SV.no, binQ, unQ, arQ, loadQ, sliceQ, partsQ, fillAV, fillOk, isU8, byteOf, shapeOk, isAggD, isAggV, cell1, cellsOf, isSeq, pOk, capsOk, pureCall, pickB_or, pickB_and, belowV, belowL, elemsOf, Proms, Prom, svLe, tagLe, isLoad, lk, thenQ, blockQ, retV, retQ, resL, resQ, oneRes, if_false, if_true, reduceIte, forall_const, true_implies, false_implies, implies_true, Nat.reduceEqDiff, Nat.reduceAdd, Nat.reduceSub, Nat.reduceLT, Nat.reduceLeDiff, Nat.reduceMul, Nat.reduceBEq, Nat.reduceBNe, Int.reduceToNat, Int.reduceLT, Int.reduceLE, Int.reduceEq, Int.reduceNeg, Int.reduceAdd, Int.reduceSub, reduceCtorEq, List.filter_nil, List.filter_cons, List.find?_cons, List.find?_nil, ne_eq, beq_self_eq_true, eq_self, imp_self, wz, T0_3, T0_4, T0_5, T0_9, T0_22, T0_28, T0_30, T0_31, T0_32, T0_34, T0_35, T0_38, T0_44, T0_46, T0_47, T0_55, T0_64, T0_66, T0_107, T0_133, T0_137, T0_138, T0_140, T0_141, T0_307, pl5_9, hps, hcs]
  refine ⟨fun _ => by simp only [avLe], fun _ => ?_⟩
  repeat' apply And.intro
  all_goals first | omega | (intro z' es' h; cases h; rfl) | exact List.mem_cons_self | exact List.mem_cons_of_mem _ List.mem_cons_self | skip
  all_goals (
    rw [htk]
    refine callG_v _ ((s24 x p [⟨p.name, 2, q0, 0, []⟩] hlc hpo (by simp) (fun v hv' => (hv.2 v hv').1) (fun v hv' => by have := (hv.2 v hv').2; omega)).args (by simp [Lcl.av, Prt.av, Val.av, strs, avsLe2, avLe2, avsLe2_refl, avLe2_refl, rulesAV, h9, hcs, hps])) (by simp) (by simp [belowL, belowV, rulesAV, hbl]) (by simp [belowV, belowL]) ?_
    generalize hC : chooseV x p [⟨p.name, 2, q0, 0, []⟩] = C at *
    simp -dsimp only [eWC_skip, eWC_exit, eWC_ret, eWC_seq, eWC_block, eWC_cond, eWC_regF, eWC_regT, eWC_loop, eWOps_nil, eWOps_cons, eWOp_eq, eWPl_done, eWPl_z, eWPl_q, eWPl_a, eAW_eq, ↓AW, evalQ, guardG, SV.noU, SV.un, beq_iff_eq, quiet, evO, ofConst, St.put, SV.of, SV.no, binQ, unQ, arQ, loadQ, sliceQ, partsQ, fillAV, fillOk, isU8, byteOf, shapeOk, isAggD, isAggV, cell1, cellsOf, isSeq, pOk, capsOk, pureCall, pickB_or, pickB_and, belowV, belowL, elemsOf, Proms, Prom, svLe, tagLe, isLoad, lk, thenQ, blockQ, retV, retQ, resL, resQ, oneRes, if_false, if_true, reduceIte, forall_const, true_implies, false_implies, implies_true, Nat.reduceEqDiff, Nat.reduceAdd, Nat.reduceSub, Nat.reduceLT, Nat.reduceLeDiff, Nat.reduceMul, Nat.reduceBEq, Nat.reduceBNe, Int.reduceToNat, Int.reduceLT, Int.reduceLE, Int.reduceEq, Int.reduceNeg, Int.reduceAdd, Int.reduceSub, reduceCtorEq, List.filter_nil, List.filter_cons, List.find?_cons, List.find?_nil, ne_eq, beq_self_eq_true, eq_self, imp_self, wz, T0_3, T0_4, T0_5, T0_9, T0_22, T0_28, T0_30, T0_31, T0_32, T0_34, T0_35, T0_38, T0_44, T0_46, T0_47, T0_55, T0_64, T0_66, T0_107, T0_133, T0_137, T0_138, T0_140, T0_141, T0_307, hps]
    refine ⟨by omega, ?_⟩
    rw [htk]
    refine callG_v _ ((s24 x (moreP p q1) [⟨p.name, 2, q0, 0, []⟩] hlc hmo (by simp) (fun v hv' => (hv.2 v hv').1) (fun v hv' => by have := (hv.2 v hv').2; omega)).args (by simp [moreP, caseAV, happ, Lcl.av, Prt.av, Val.av, strs, avsLe2, avLe2, avsLe2_refl, avLe2_refl, rulesAV, h9, hcs, hps])) (by simp) (by simp [belowL, belowV, rulesAV, hbl]) (by simp [belowV, belowL]) ?_
    generalize hD : chooseV x (moreP p q1) [⟨p.name, 2, q0, 0, []⟩] = D at *
    obtain ⟨c1, c2⟩ := C
    obtain ⟨d1, d2⟩ := D
    by_cases he : c2 = 0
    · subst he
      obtain ⟨hd, hor⟩ := hcm rfl
      simp only at hd hor
      subst hd
      by_cases hik : c1 = d1
      · subst hik
        simp -dsimp only [eWC_skip, eWC_exit, eWC_ret, eWC_seq, eWC_block, eWC_cond, eWC_regF, eWC_regT, eWC_loop, eWOps_nil, eWOps_cons, eWOp_eq, eWPl_done, eWPl_z, eWPl_q, eWPl_a, eAW_eq, ↓AW, evalQ, guardG, SV.noU, SV.un, beq_iff_eq, quiet, evO, ofConst, St.put, SV.of, SV.no, binQ, unQ, arQ, loadQ, sliceQ, partsQ, fillAV, fillOk, isU8, byteOf, shapeOk, isAggD, isAggV, cell1, cellsOf, isSeq, pOk, capsOk, pureCall, pickB_or, pickB_and, belowV, belowL, elemsOf, Proms, Prom, svLe, tagLe, isLoad, lk, thenQ, blockQ, retV, retQ, resL, resQ, oneRes, if_false, if_true, reduceIte, forall_const, true_implies, false_implies, implies_true, Nat.reduceEqDiff, Nat.reduceAdd, Nat.reduceSub, Nat.reduceLT, Nat.reduceLeDiff, Nat.reduceMul, Nat.reduceBEq, Nat.reduceBNe, Int.reduceToNat, Int.reduceLT, Int.reduceLE, Int.reduceEq, Int.reduceNeg, Int.reduceAdd, Int.reduceSub, reduceCtorEq, List.filter_nil, List.filter_cons, List.find?_cons, List.find?_nil, ne_eq, beq_self_eq_true, eq_self, imp_self, wz, T0_3, T0_4, T0_5, T0_9, T0_22, T0_28, T0_30, T0_31, T0_32, T0_34, T0_35, T0_38, T0_44, T0_46, T0_47, T0_55, T0_64, T0_66, T0_107, T0_133, T0_137, T0_138, T0_140, T0_141, T0_307, hps]
        simp only [avLe]
      · obtain ⟨hd1, hcl⟩ := hor.resolve_left hik
        simp -dsimp only [eWC_skip, eWC_exit, eWC_ret, eWC_seq, eWC_block, eWC_cond, eWC_regF, eWC_regT, eWC_loop, eWOps_nil, eWOps_cons, eWOp_eq, eWPl_done, eWPl_z, eWPl_q, eWPl_a, eAW_eq, ↓AW, evalQ, guardG, SV.noU, SV.un, beq_iff_eq, quiet, evO, ofConst, St.put, SV.of, SV.no, binQ, unQ, arQ, loadQ, sliceQ, partsQ, fillAV, fillOk, isU8, byteOf, shapeOk, isAggD, isAggV, cell1, cellsOf, isSeq, pOk, capsOk, pureCall, pickB_or, pickB_and, belowV, belowL, elemsOf, Proms, Prom, svLe, tagLe, isLoad, lk, thenQ, blockQ, retV, retQ, resL, resQ, oneRes, if_false, if_true, reduceIte, forall_const, true_implies, false_implies, implies_true, Nat.reduceEqDiff, Nat.reduceAdd, Nat.reduceSub, Nat.reduceLT, Nat.reduceLeDiff, Nat.reduceMul, Nat.reduceBEq, Nat.reduceBNe, Int.reduceToNat, Int.reduceLT, Int.reduceLE, Int.reduceEq, Int.reduceNeg, Int.reduceAdd, Int.reduceSub, reduceCtorEq, List.filter_nil, List.filter_cons, List.find?_cons, List.find?_nil, ne_eq, beq_self_eq_true, eq_self, imp_self, wz, T0_3, T0_4, T0_5, T0_9, T0_22, T0_28, T0_30, T0_31, T0_32, T0_34, T0_35, T0_38, T0_44, T0_46, T0_47, T0_55, T0_64, T0_66, T0_107, T0_133, T0_137, T0_138, T0_140, T0_141, T0_307, hps, hik]
        refine ⟨by omega, ?_⟩
        rw [htk]
        refine callG_v _ (s29 x p.kind q0 hlc (by omega)) (by simp) (by simp [belowL, belowV, rulesAV, hbl]) (by simp [belowV, belowL]) ?_
        rw [← hk0] at hcl
        generalize clsV x p.kind q0 = K at *
        subst hd1
        rw [hcs]
        simp -dsimp only [eWC_skip, eWC_exit, eWC_ret, eWC_seq, eWC_block, eWC_cond, eWC_regF, eWC_regT, eWC_loop, eWOps_nil, eWOps_cons, eWOp_eq, eWPl_done, eWPl_z, eWPl_q, eWPl_a, eAW_eq, ↓AW, evalQ, guardG, SV.noU, SV.un, beq_iff_eq, quiet, evO, ofConst, St.put, SV.of, SV.no, binQ, unQ, arQ, loadQ, sliceQ, partsQ, fillAV, fillOk, isU8, byteOf, shapeOk, isAggD, isAggV, cell1, cellsOf, isSeq, pOk, capsOk, pureCall, pickB_or, pickB_and, belowV, belowL, elemsOf, Proms, Prom, svLe, tagLe, isLoad, lk, thenQ, blockQ, retV, retQ, resL, resQ, oneRes, if_false, if_true, reduceIte, forall_const, true_implies, false_implies, implies_true, Nat.reduceEqDiff, Nat.reduceAdd, Nat.reduceSub, Nat.reduceLT, Nat.reduceLeDiff, Nat.reduceMul, Nat.reduceBEq, Nat.reduceBNe, Int.reduceToNat, Int.reduceLT, Int.reduceLE, Int.reduceEq, Int.reduceNeg, Int.reduceAdd, Int.reduceSub, reduceCtorEq, List.filter_nil, List.filter_cons, List.find?_cons, List.find?_nil, ne_eq, beq_self_eq_true, eq_self, imp_self, wz, T0_3, T0_4, T0_5, T0_9, T0_22, T0_28, T0_30, T0_31, T0_32, T0_34, T0_35, T0_38, T0_44, T0_46, T0_47, T0_55, T0_64, T0_66, T0_107, T0_133, T0_137, T0_138, T0_140, T0_141, T0_307, hps, hcs, hik]
        have hend : (q1 == q0 && decide (p.kind = 9) || q1 == 61 :: q0 || q1 == K.fst) = true := by
          rcases hcl with ⟨_, e⟩ | e | e
          · exact absurd e h9
          · simp [e]
          · simp [e]
        exact ⟨by omega, fun _ => by omega, fun h => ⟨h, by omega⟩, fun _ => by omega, by simp only [hend, avLe]⟩
    · simp -dsimp only [eWC_skip, eWC_exit, eWC_ret, eWC_seq, eWC_block, eWC_cond, eWC_regF, eWC_regT, eWC_loop, eWOps_nil, eWOps_cons, eWOp_eq, eWPl_done, eWPl_z, eWPl_q, eWPl_a, eAW_eq, ↓AW, evalQ, guardG, SV.noU, SV.un, beq_iff_eq, quiet, evO, ofConst, St.put, SV.of, SV.no, binQ, unQ, arQ, loadQ, sliceQ, partsQ, fillAV, fillOk, isU8, byteOf, shapeOk, isAggD, isAggV, cell1, cellsOf, isSeq, pOk, capsOk, pureCall, pickB_or, pickB_and, belowV, belowL, elemsOf, Proms, Prom, svLe, tagLe, isLoad, lk, thenQ, blockQ, retV, retQ, resL, resQ, oneRes, if_false, if_true, reduceIte, forall_const, true_implies, false_implies, implies_true, Nat.reduceEqDiff, Nat.reduceAdd, Nat.reduceSub, Nat.reduceLT, Nat.reduceLeDiff, Nat.reduceMul, Nat.reduceBEq, Nat.reduceBNe, Int.reduceToNat, Int.reduceLT, Int.reduceLE, Int.reduceEq, Int.reduceNeg, Int.reduceAdd, Int.reduceSub, reduceCtorEq, List.filter_nil, List.filter_cons, List.find?_cons, List.find?_nil, ne_eq, beq_self_eq_true, eq_self, imp_self, wz, T0_3, T0_4, T0_5, T0_9, T0_22, T0_28, T0_30, T0_31, T0_32, T0_34, T0_35, T0_38, T0_44, T0_46, T0_47, T0_55, T0_64, T0_66, T0_107, T0_133, T0_137, T0_138, T0_140, T0_141, T0_307, hps, he]
      simp only [avLe])

theorem s5bc (x : Lcl) (p : Prt) (q : Str × Str) (h : MArg x p q) (h9 : ¬ p.kind = 9) (c0 : Str × AV) (cs : List (Str × AV)) (hcs : p.cases = c0 :: cs) : FSv prog 5 [x.av, p.av, pairAV q.1 q.2] (.bool true) := by
  refine FSv_code T0_ok mo pl5 _ func5 (by decide) rfl _ rfl (by rfl) (by simp) _ rfl ?_
  simp only [f5]
  have ha := (h.oarg 2).arg
  have hl := ha.len
  have hbl := ha.bel
  have htk : x.rest.take 11 = x.rest := List.take_of_length_le (by omega)
  obtain ⟨k, hk⟩ := ha.pv
  have hpo := ha.prt
  have hpb := hpo.bel
  have hv := ha.val
  have hlc := ha.lcl
  have w1 := ha.w1
  have hwp := ha.wp
  have hwv := ha.wv
  have hq := h.q
  obtain ⟨q0, q1⟩ := q
  simp only at ha hv hwv hq ⊢
  obtain ⟨ps, hps⟩ := hpo.psl
  obtain ⟨es, hps⟩ := hps
  have hvt := (hv.2 _ (List.mem_singleton.2 rfl)).1
  have hvl := (hv.2 _ (List.mem_singleton.2 rfl)).2
  simp -dsimp only [eWC_skip, eWC_exit, eWC_ret, eWC_seq, eWC_block, eWC_cond, eWC_regF, eWC_regT, eWC_loop, eWOps_nil, eWOps_cons, eWOp_eq, eWPl_done, eWPl_z, eWPl_q, eWPl_a, eAW_eq, ↓AW, evalQ, guardG, SV.noU, SV.un, beq_iff_eq, quiet, evO, ofConst, St.put, SV.of, SV.no, binQ, unQ, arQ, loadQ, sliceQ, partsQ, fillAV, fillOk, isU8, byteOf, shapeOk, isAggD, isAggV, cell1, cellsOf, isSeq, pOk, capsOk, pureCall, pickB_or, pickB_and, belowV, belowL, elemsOf, Proms, Prom, svLe, tagLe, isLoad, lk, thenQ, blockQ, retV, retQ, resL, resQ, oneRes, if_false, if_true, reduceIte, forall_const, true_implies, false_implies, implies_true, Nat.reduceEqDiff, Nat.reduceAdd, Nat.reduceSub, Nat.reduceLT, Nat.reduceLeDiff, Nat.reduceMul, Nat.reduceBEq, Nat.reduceBNe, Int.reduceToNat, Int.reduceLT, Int.reduceLE, Int.reduceEq, Int.reduceNeg, Int.reduceAdd, Int.reduceSub, reduceCtorEq, List.filter_nil, List.filter_cons, List.find?_cons, List.find?_nil, ne_eq, beq_self_eq_true, eq_self, imp_self, wz, T0_3, T0_4, T0_5, T0_9, T0_22, T0_28, T0_30, T0_31, T0_32, T0_34, T0_35, T0_38, T0_44, T0_46, T0_47, T0_55, T0_64, T0_66, T0_107, T0_133, T0_137, T0_138, T0_140, T0_141, T0_307, S0, Lcl.av, Prt.av, pairAV]
  refine callG_v _ s22 (by simp) (by simp [belowL]) (by simp [belowV]) ?_
  simp -dsimp only [eWC_skip, eWC_exit, eWC_ret, eWC_seq, eWC_block, eWC_cond, eWC_regF, eWC_regT, eWC_loop, eWOps_nil, eWOps_cons, eWOp_eq, eWPl_done, eWPl_z, eWPl_q, eWPl_a, eAW_eq, ↓AW, evalQ, guardG, SV.noU, SV.un, beq_iff_eq, quiet, evO, ofConst, St.put, SV.of, SV.no, binQ, unQ, arQ, loadQ, sliceQ, partsQ, fillAV, fillOk, isU8, byteOf, shapeOk, isAggD, isAggV, cell1, cellsOf, isSeq, pOk, capsOk, pureCall, pickB_or, pickB_and, belowV, belowL, elemsOf, Proms, Prom, svLe, tagLe, isLoad, lk, thenQ, blockQ, retV, retQ, resL, resQ, oneRes, if_false, if_true, reduceIte, forall_const, true_implies, false_implies, implies_true, Nat.reduceEqDiff, Nat.reduceAdd, Nat.reduceSub, Nat.reduceLT, Nat.reduceLeDiff, Nat.reduceMul, Nat.reduceBEq, Nat.reduceBNe, Int.reduceToNat, Int.reduceLT, Int.reduceLE, Int.reduceEq, Int.reduceNeg, Int.reduceAdd, Int.reduceSub, reduceCtorEq, List.filter_nil, List.filter_cons, List.find?_cons, List.find?_nil, ne_eq, beq_self_eq_true, eq_self, imp_self, wz, T0_3, T0_4, T0_5, T0_9, T0_22, T0_28, T0_30, T0_31, T0_32, T0_34, T0_35, T0_38, T0_44, T0_46, T0_47, T0_55, T0_64, T0_66, T0_107, T0_133, T0_137, T0_138, T0_140, T0_141, T0_307, h9, pairAV]
  refine ⟨by omega, by omega, ?_⟩
  rw [htk]
  refine callG_p _ (FSp.args (s23 x p [⟨p.name, 2, q0, 0, []⟩] k (by omega) (by omega) hl hbl hk (by omega) (by omega)) ?_) (by simp) (by simp [belowL, belowV, rulesAV, hbl, hpb]) isBool_below ?_
  · simp [Lcl.av, Prt.av, Val.av, strs, avsLe2, avLe2, avsLe2_refl, avLe2_refl, rulesAV, h9]
  rintro w ⟨b, rfl⟩
  simp -dsimp only [eWC_skip, eWC_exit, eWC_ret, eWC_seq, eWC_block, eWC_cond, eWC_regF, eWC_regT, eWC_loop, eWOps_nil, eWOps_cons, eWOp_eq, eWPl_done, eWPl_z, eWPl_q, eWPl_a, eAW_eq, ↓AW, evalQ, guardG, SV.noU, SV.un, beq_iff_eq, quiet, evO, ofConst, St.put, SV.of, SV.no, binQ, unQ, arQ, loadQ, sliceQ, partsQ, fillAV, fillOk, isU8, byteOf, shapeOk, isAggD, isAggV, cell1, cellsOf, isSeq, pOk, capsOk, pureCall, pickB_or, pickB_and, belowV, belowL, elemsOf, Proms, Prom, svLe, tagLe, isLoad, lk, thenQ, blockQ, retV, retQ, resL, resQ, oneRes, if_false, if_true, reduceIte, forall_const, true_implies, false_implies, implies_true, Nat.reduceEqDiff, Nat.reduceAdd, Nat.reduceSub, Nat.reduceLT, Nat.reduceLeDiff, Nat.reduceMul, Nat.reduceBEq, Nat.reduceBNe, Int.reduceToNat, Int.reduceLT, Int.reduceLE, Int.reduceEq, Int.reduceNeg, Int.reduceAdd, Int.reduceSub, reduceCtorEq, List.filter_nil, List.filter_cons, List.find?_cons, List.find?_nil, ne_eq, beq_self_eq_true, eq_self, imp_self, wz, T0_3, T0_4, T0_5, T0_9, T0_22, T0_28, T0_30, T0_31, T0_32, T0_34, T0_35, T0_38, T0_44, T0_46, T0_47, T0_55, T0_64, T0_66, T0_107, T0_133, T0_137, T0_138, T0_140, T0_141, T0_307]
  refine ⟨by omega, by omega, ?_⟩
  cases hg : (!b || decide (60 < (q1.length : Int))) with
  | true =>
    refine eGA_v (.bool false) (fun h => by cases h) ?_
    simp -dsimp only [eWC_skip, eWC_exit, eWC_ret, eWC_seq, eWC_block, eWC_cond, eWC_regF, eWC_regT, eWC_loop, eWOps_nil, eWOps_cons, eWOp_eq, eWPl_done, eWPl_z, eWPl_q, eWPl_a, eAW_eq, ↓AW, evalQ, guardG, SV.noU, SV.un, beq_iff_eq, quiet, evO, ofConst, St.put, SV.of, SV.no, binQ, unQ, arQ, loadQ, sliceQ, partsQ, fillAV, fillOk, isU8, byteOf, shapeOk, isAggD, isAggV, cell1, cellsOf, isSeq, pOk, capsOk, pureCall, pickB_or, pickB_and, belowV, belowL, elemsOf, Proms, Prom, svLe, tagLe, isLoad, lk, thenQ, blockQ, retV, retQ, resL, resQ, oneRes, if_false, if_true, reduceIte, forall_const, true_implies, false_implies, implies_true, Nat.reduceEqDiff, Nat.reduceAdd, Nat.reduceSub, Nat.reduceLT, Nat.reduceLeDiff, Nat.reduceMul, Nat.reduceBEq, Nat.reduceBNe, Int.reduceToNat, Int.reduceLT, Int.reduceLE, Int.reduceEq, Int.reduceNeg, Int.reduceAdd, Int.reduceSub, reduceCtorEq, List.filter_nil, List.filter_cons, List.find?_cons, List.find?_nil, ne_eq, beq_self_eq_true, eq_self, imp_self, wz, T0_3, T0_4, T0_5, T0_9, T0_22, T0_28, T0_30, T0_31, T0_32, T0_34, T0_35, T0_38, T0_44, T0_46, T0_47, T0_55, T0_64, T0_66, T0_107, T0_133, T0_137, T0_138, T0_140, T0_141, T0_307]
    simp only [avLe]
  | false =>
  refine eGA_split ⟨fun _ => ?_, fun h => absurd rfl h⟩
  simp -dsimp only [eWC_skip, eWC_exit, eWC_ret, eWC_seq, eWC_block, eWC_cond, eWC_regF, eWC_regT, eWC_loop, eWOps_nil, eWOps_cons, eWOp_eq, eWPl_done, eWPl_z, eWPl_q, eWPl_a, eAW_eq, ↓AW, evalQ, guardG, SV.noU, SV.un, beq_iff_eq, quiet, evO, ofConst, St.put, SV.of, SV.no, binQ, unQ, arQ, loadQ, sliceQ, partsQ, fillAV, fillOk, isU8, byteOf, shapeOk, isAggD, isAggV, cell1, cellsOf, isSeq, pOk, capsOk, pureCall, pickB_or, pickB_and, belowV, belowL, elemsOf, Proms, Prom, svLe, tagLe, isLoad, lk, thenQ, blockQ, retV, retQ, resL, resQ, oneRes, if_false, if_true, reduceIte, forall_const, true_implies, false_implies, implies_true, Nat.reduceEqDiff, Nat.reduceAdd, Nat.reduceSub, Nat.reduceLT, Nat.reduceLeDiff, Nat.reduceMul, Nat.reduceBEq, Nat.reduceBNe, Int.reduceToNat, Int.reduceLT, Int.reduceLE, Int.reduceEq, Int.reduceNeg, Int.reduceAdd, Int.reduceSub, reduceCtorEq, List.filter_nil, List.filter_cons, List.find?_cons, List.find?_nil, ne_eq, beq_self_eq_true, eq_self, imp_self, wz, T0_3, T0_4, T0_5, T0_9, T0_22, T0_28, T0_30, T0_31, T0_32, T0_34, T0_35, T0_38, T0_44, T0_46, T0_47, T0_55, T0_64, T0_66, T0_107, T0_133, T0_137, T0_138, T0_140, T0_141, T0_307]
  refine callG_p _ (s28 q1 (by omega)) (by simp) (by simp [belowL, belowV]) isBool_below ?_
  rintro w ⟨b2, rfl⟩
  have hk0 : p.kind = p.kind := rfl
  have hcm := choose_more x p ⟨p.name, 2, q0, 0, []⟩ q1 rfl
  have happ : ∀ cs : List (Str × AV), avsLe2 (cs.map caseAV ++ [.agg [.str q1, .snil]]) (cs.map caseAV ++ [.agg [.str q1, .sl 6 []]]) := fun cs => avsLe2_append (avsLe2_refl _) (by simp [avsLe2, avLe2])
  have hpc := hpo.cases
  simp only [hcs, List.length_cons, List.length_nil] at hpc
  have hmo : PrtOk (moreP p q1) := by
    refine ⟨?_, ?_, hpo.psl⟩
    · have h3 := len_cases p
      have h4 := wt_e (l := [p]) (e := p) (by simp)
      simp only [moreP, List.length_append, List.length_cons, List.length_nil]
      omega
    · intro c hc
      simp only [moreP, List.mem_append, List.mem_cons, List.not_mem_nil, or_false] at hc
      rcases hc with hc | rfl
      · exact hpo.csl c hc
      · exact ⟨_, _, rfl⟩
  simp -dsimp only [eWC_skip, eWC_exit, eWC_ret, eWC_seq, eWC_block, eWC_cond, eWC_regF, eWC_regT, eWC_loop, eWOps_nil, eWOps_cons, eWOp_eq, eWPl_done, eWPl_z, eWPl_q, eWPl_a, eAW_eq, ↓AW, evalQ, guardG, SV.noU, SV.un, beq_iff_eq, quiet, evO, ofConst, St.put, SV.of, SV.no, binQ, unQ, arQ, loadQ, sliceQ, partsQ, fillAV, fillOk, isU8, byteOf, shapeOk, isAggD, isAggV, cell1, cellsOf, isSeq, pOk, capsOk, pureCall, pickB_or, pickB_and, belowV, belowL, elemsOf, Proms, Prom, svLe, tagLe, isLoad, lk, thenQ, blockQ, retV, retQ, resL, resQ, oneRes, if_false, if_true, reduceIte, forall_const, true_implies, false_implies, implies_true, Nat.reduceEqDiff, Nat.reduceAdd, Nat.reduceSub, Nat.reduceLT, Nat.reduceLeDiff, Nat.reduceMul, Nat.reduceBEq, Nat.reduceBNe, Int.reduceToNat, Int.reduceLT, Int.reduceLE, Int.reduceEq, Int.reduceNeg, Int.reduceAdd, Int.reduceSub, reduceCtorEq, List.filter_nil, List.filter_cons, List.find?_cons, List.find?_nil, ne_eq, beq_self_eq_true, eq_self, imp_self, wz, T0_3, T0_4, T0_5, T0_9, T0_22, T0_28, T0_30, T0_31, T0_32, T0_34, T0_35, T0_38, T0_44, T0_46, T0_47, T0_55, T0_64, T0_66, T0_107, T0_133, T0_137, T0_138, T0_140, T0_141, T0_307, pl5_9, hps, hcs]
  refine ⟨fun _ => by simp only [avLe], fun _ => ?_⟩
  repeat' apply And.intro
  all_goals first | omega | (intro z' es' h; cases h; rfl) | exact List.mem_cons_self | exact List.mem_cons_of_mem _ List.mem_cons_self | skip
  all_goals (
    rw [htk]
    refine callG_v _ ((s24 x p [⟨p.name, 2, q0, 0, []⟩] hlc hpo (by simp) (fun v hv' => (hv.2 v hv').1) (fun v hv' => by have := (hv.2 v hv').2; omega)).args (by simp [Lcl.av, Prt.av, Val.av, strs, avsLe2, avLe2, avsLe2_refl, avLe2_refl, rulesAV, h9, hcs, hps])) (by simp) (by simp [belowL, belowV, rulesAV, hbl]) (by simp [belowV, belowL]) ?_
    generalize hC : chooseV x p [⟨p.name, 2, q0, 0, []⟩] = C at *
    simp -dsimp only [eWC_skip, eWC_exit, eWC_ret, eWC_seq, eWC_block, eWC_cond, eWC_regF, eWC_regT, eWC_loop, eWOps_nil, eWOps_cons, eWOp_eq, eWPl_done, eWPl_z, eWPl_q, eWPl_a, eAW_eq, ↓AW, evalQ, guardG, SV.noU, SV.un, beq_iff_eq, quiet, evO, ofConst, St.put, SV.of, SV.no, binQ, unQ, arQ, loadQ, sliceQ, partsQ, fillAV, fillOk, isU8, byteOf, shapeOk, isAggD, isAggV, cell1, cellsOf, isSeq, pOk, capsOk, pureCall, pickB_or, pickB_and, belowV, belowL, elemsOf, Proms, Prom, svLe, tagLe, isLoad, lk, thenQ, blockQ, retV, retQ, resL, resQ, oneRes, if_false, if_true, reduceIte, forall_const, true_implies, false_implies, implies_true, Nat.reduceEqDiff, Nat.reduceAdd, Nat.reduceSub, Nat.reduceLT, Nat.reduceLeDiff, Nat.reduceMul, Nat.reduceBEq, Nat.reduceBNe, Int.reduceToNat, Int.reduceLT, Int.reduceLE, Int.reduceEq, Int.reduceNeg, Int.reduceAdd, Int.reduceSub, reduceCtorEq, List.filter_nil, List.filter_cons, List.find?_cons, List.find?_nil, ne_eq, beq_self_eq_true, eq_self, imp_self, wz, T0_3, T0_4, T0_5, T0_9, T0_22, T0_28, T0_30, T0_31, T0_32, T0_34, T0_35, T0_38, T0_44, T0_46, T0_47, T0_55, T0_64, T0_66, T0_107, T0_133, T0_137, T0_138, T0_140, T0_141, T0_307, hps]
    refine ⟨by omega, ?_⟩
    rw [htk]
    refine callG_v _ ((s24 x (moreP p q1) [⟨p.name, 2, q0, 0, []⟩] hlc hmo (by simp) (fun v hv' => (hv.2 v hv').1) (fun v hv' => by have := (hv.2 v hv').2; omega)).args (by simp [moreP, caseAV, happ, Lcl.av, Prt.av, Val.av, strs, avsLe2, avLe2, avsLe2_refl, avLe2_refl, rulesAV, h9, hcs, hps])) (by simp) (by simp [belowL, belowV, rulesAV, hbl]) (by simp [belowV, belowL]) ?_
    generalize hD : chooseV x (moreP p q1) [⟨p.name, 2, q0, 0, []⟩] = D at *
    obtain ⟨c1, c2⟩ := C
    obtain ⟨d1, d2⟩ := D
    by_cases he : c2 = 0
    · subst he
      obtain ⟨hd, hor⟩ := hcm rfl
      simp only at hd hor
      subst hd
      by_cases hik : c1 = d1
      · subst hik
        simp -dsimp only [eWC_skip, eWC_exit, eWC_ret, eWC_seq, eWC_block, eWC_cond, eWC_regF, eWC_regT, eWC_loop, eWOps_nil, eWOps_cons, eWOp_eq, eWPl_done, eWPl_z, eWPl_q, eWPl_a, eAW_eq, ↓AW, evalQ, guardG, SV.noU, SV.un, beq_iff_eq, quiet, evO, ofConst, St.put, SV.of, SV.no, binQ, unQ, arQ, loadQ, sliceQ, partsQ, fillAV, fillOk, isU8, byteOf, shapeOk, isAggD, isAggV, cell1, cellsOf, isSeq, pOk, capsOk, pureCall, pickB_or, pickB_and, belowV, belowL, elemsOf, Proms, Prom, svLe, tagLe, isLoad, lk, thenQ, blockQ, retV, retQ, resL, resQ, oneRes, if_false, if_true, reduceIte, forall_const, true_implies, false_implies, implies_true, Nat.reduceEqDiff, Nat.reduceAdd, Nat.reduceSub, Nat.reduceLT, Nat.reduceLeDiff, Nat.reduceMul, Nat.reduceBEq, Nat.reduceBNe, Int.reduceToNat, Int.reduceLT, Int.reduceLE, Int.reduceEq, Int.reduceNeg, Int.reduceAdd, Int.reduceSub, reduceCtorEq, List.filter_nil, List.filter_cons, List.find?_cons, List.find?_nil, ne_eq, beq_self_eq_true, eq_self, imp_self, wz, T0_3, T0_4, T0_5, T0_9, T0_22, T0_28, T0_30, T0_31, T0_32, T0_34, T0_35, T0_38, T0_44, T0_46, T0_47, T0_55, T0_64, T0_66, T0_107, T0_133, T0_137, T0_138, T0_140, T0_141, T0_307, hps]
        simp only [avLe]
      · obtain ⟨hd1, hcl⟩ := hor.resolve_left hik
        simp -dsimp only [eWC_skip, eWC_exit, eWC_ret, eWC_seq, eWC_block, eWC_cond, eWC_regF, eWC_regT, eWC_loop, eWOps_nil, eWOps_cons, eWOp_eq, eWPl_done, eWPl_z, eWPl_q, eWPl_a, eAW_eq, ↓AW, evalQ, guardG, SV.noU, SV.un, beq_iff_eq, quiet, evO, ofConst, St.put, SV.of, SV.no, binQ, unQ, arQ, loadQ, sliceQ, partsQ, fillAV, fillOk, isU8, byteOf, shapeOk, isAggD, isAggV, cell1, cellsOf, isSeq, pOk, capsOk, pureCall, pickB_or, pickB_and, belowV, belowL, elemsOf, Proms, Prom, svLe, tagLe, isLoad, lk, thenQ, blockQ, retV, retQ, resL, resQ, oneRes, if_false, if_true, reduceIte, forall_const, true_implies, false_implies, implies_true, Nat.reduceEqDiff, Nat.reduceAdd, Nat.reduceSub, Nat.reduceLT, Nat.reduceLeDiff, Nat.reduceMul, Nat.reduceBEq, Nat.reduceBNe, Int.reduceToNat, Int.reduceLT, Int.reduceLE, Int.reduceEq, Int.reduceNeg, Int.reduceAdd, Int.reduceSub, reduceCtorEq, List.filter_nil, List.filter_cons, List.find?_cons, List.find?_nil, ne_eq, beq_self_eq_true, eq_self, imp_self, wz, T0_3, T0_4, T0_5, T0_9, T0_22, T0_28, T0_30, T0_31, T0_32, T0_34, T0_35, T0_38, T0_44, T0_46, T0_47, T0_55, T0_64, T0_66, T0_107, T0_133, T0_137, T0_138, T0_140, T0_141, T0_307, hps, hik]
        refine ⟨by omega, ?_⟩
        rw [htk]
        refine callG_v _ (s29 x p.kind q0 hlc (by omega)) (by simp) (by simp [belowL, belowV, rulesAV, hbl]) (by simp [belowV, belowL]) ?_
        rw [← hk0] at hcl
        generalize clsV x p.kind q0 = K at *
        subst hd1
        rw [hcs]
        simp -dsimp only [eWC_skip, eWC_exit, eWC_ret, eWC_seq, eWC_block, eWC_cond, eWC_regF, eWC_regT, eWC_loop, eWOps_nil, eWOps_cons, eWOp_eq, eWPl_done, eWPl_z, eWPl_q, eWPl_a, eAW_eq, ↓AW, evalQ, guardG, SV.noU, SV.un, beq_iff_eq, quiet, evO, ofConst, St.put, SV.of, SV.no, binQ, unQ, arQ, loadQ, sliceQ, partsQ, fillAV, fillOk, isU8, byteOf, shapeOk, isAggD, isAggV, cell1, cellsOf, isSeq, pOk, capsOk, pureCall, pickB_or, pickB_and, belowV, belowL, elemsOf, Proms, Prom, svLe, tagLe, isLoad, lk, thenQ, blockQ, retV, retQ, resL, resQ, oneRes, if_false, if_true, reduceIte, forall_const, true_implies, false_implies, implies_true, Nat.reduceEqDiff, Nat.reduceAdd, Nat.reduceSub, Nat.reduceLT, Nat.reduceLeDiff, Nat.reduceMul, Nat.reduceBEq, Nat.reduceBNe, Int.reduceToNat, Int.reduceLT, Int.reduceLE, Int.reduceEq, Int.reduceNeg, Int.reduceAdd, Int.reduceSub, reduceCtorEq, List.filter_nil, List.filter_cons, List.find?_cons, List.find?_nil, ne_eq, beq_self_eq_true, eq_self, imp_self, wz, T0_3, T0_4, T0_5, T0_9, T0_22, T0_28, T0_30, T0_31, T0_32, T0_34, T0_35, T0_38, T0_44, T0_46, T0_47, T0_55, T0_64, T0_66, T0_107, T0_133, T0_137, T0_138, T0_140, T0_141, T0_307, hps, hcs, hik]
        have hend : (q1 == q0 && decide (p.kind = 9) || q1 == 61 :: q0 || q1 == K.fst) = true := by
          rcases hcl with ⟨_, e⟩ | e | e
          · exact absurd e h9
          · simp [e]
          · simp [e]
        exact ⟨by omega, fun _ => by omega, fun h => ⟨h, by omega⟩, fun _ => by omega, by simp only [hend, avLe]⟩
    · simp -dsimp only [eWC_skip, eWC_exit, eWC_ret, eWC_seq, eWC_block, eWC_cond, eWC_regF, eWC_regT, eWC_loop, eWOps_nil, eWOps_cons, eWOp_eq, eWPl_done, eWPl_z, eWPl_q, eWPl_a, eAW_eq, ↓AW, evalQ, guardG, SV.noU, SV.un, beq_iff_eq, quiet, evO, ofConst, St.put, SV.of, SV.no, binQ, unQ, arQ, loadQ, sliceQ, partsQ, fillAV, fillOk, isU8, byteOf, shapeOk, isAggD, isAggV, cell1, cellsOf, isSeq, pOk, capsOk, pureCall, pickB_or, pickB_and, belowV, belowL, elemsOf, Proms, Prom, svLe, tagLe, isLoad, lk, thenQ, blockQ, retV, retQ, resL, resQ, oneRes, if_false, if_true, reduceIte, forall_const, true_implies, false_implies, implies_true, Nat.reduceEqDiff, Nat.reduceAdd, Nat.reduceSub, Nat.reduceLT, Nat.reduceLeDiff, Nat.reduceMul, Nat.reduceBEq, Nat.reduceBNe, Int.reduceToNat, Int.reduceLT, Int.reduceLE, Int.reduceEq, Int.reduceNeg, Int.reduceAdd, Int.reduceSub, reduceCtorEq, List.filter_nil, List.filter_cons, List.find?_cons, List.find?_nil, ne_eq, beq_self_eq_true, eq_self, imp_self, wz, T0_3, T0_4, T0_5, T0_9, T0_22, T0_28, T0_30, T0_31, T0_32, T0_34, T0_35, T0_38, T0_44, T0_46, T0_47, T0_55, T0_64, T0_66, T0_107, T0_133, T0_137, T0_138, T0_140, T0_141, T0_307, hps, he]
      simp only [avLe])

theorem s5 (x : Lcl) (p : Prt) (q : Str × Str) (h : MArg x p q) : FSv prog 5 [x.av, p.av, pairAV q.1 q.2] (.bool true) := by
  by_cases h9 : p.kind = 9
  · cases hcs : p.cases with
    | nil => exact s5an x p q h h9 hcs
    | cons c cs => exact s5ac x p q h h9 c cs hcs
  · cases hcs : p.cases with
    | nil => exact s5bn x p q h h9 hcs
    | cons c cs => exact s5bc x p q h h9 c cs hcs
end Go.Proofs.Tryz
