/-
  Part of a proof: contracts of functions in abstract values.
-/
import Derived.Test.YtejdblkohdbhaaaGreatDoorIa
set_option linter.unusedVariables false
set_option linter.unusedSimpArgs false
namespace Go.Proofs.Tryz
open Go Go.Abs
set_option linter.unusedSimpArgs false
set_option maxRecDepth 100000
set_option maxHeartbeats 8000000

theorem find_iff (keys : List Str) (w : Str) : (∃ k, keys.findIdx? (· == w) = some k ∧ k < keys.length ∧ keys.getD k [] = w ∧ keys.contains w = true) ∨ (keys.findIdx? (· == w) = none ∧ keys.contains w = false) := by
  cases hk : keys.findIdx? (· == w) with
  | some k =>
    left
    obtain ⟨h1, h2, _⟩ := List.findIdx?_eq_some_iff_getElem.1 hk
    have h2 : keys[k] = w := by simpa using h2
    refine ⟨k, rfl, h1, by simp [List.getD, h1, h2], ?_⟩
    rw [List.contains_iff_mem, ← h2]; exact List.getElem_mem _
  | none =>
    right
    refine ⟨rfl, ?_⟩
    have := List.findIdx?_eq_none_iff.1 hk
    rw [Bool.eq_false_iff]
    intro hc
    rw [List.contains_iff_mem] at hc
    have := this _ hc
    simp at this
theorem firstK_perm (keys keys' : List Str) (h : ∀ w, keys.contains w = keys'.contains w) : ∀ want : List Str, (firstK keys want < 0 ∧ firstK keys' want < 0) ∨
    (0 ≤ firstK keys want ∧ 0 ≤ firstK keys' want ∧ firstK keys want < keys.length ∧ firstK keys' want < keys'.length ∧ keys.getD (firstK keys want).toNat [] = keys'.getD (firstK keys' want).toNat [])
  | [] => by simp [firstK]
  | w :: l => by
    simp only [firstK]
    rcases find_iff keys w with ⟨k, h1, h2, h3, h4⟩ | ⟨h1, h2⟩ <;> rcases find_iff keys' w with ⟨k', j1, j2, j3, j4⟩ | ⟨j1, j2⟩
    · rw [h1, j1]
      right
      simp only [Int.toNat_natCast, h3, j3]
      exact ⟨by omega, by omega, by omega, by omega, trivial⟩
    · rw [h w, j2] at h4; cases h4
    · rw [← h w, h2] at j4; cases j4
    · rw [h1, j1]
      exact firstK_perm keys keys' h l

/-- The part with its cases in the opposite order. -/
def turnP (p : Prt) (i : Nat) : Prt := ⟨p.kind, p.text, p.name, p.style, (p.cases.drop (p.cases.length - i)).reverse, p.parts⟩
theorem turn_all (p : Prt) : (turnP p p.cases.length).keys = p.keys.reverse := by simp [turnP, Prt.keys]
theorem turn_succ (p : Prt) (i m : Nat) (h : p.cases.length = m + 1 + i) (hm : m < p.cases.length) : (turnP p (i + 1)).cases = (turnP p i).cases ++ [p.cases[m]] := by
  have e1 : p.cases.length - (i + 1) = m := by omega
  have e2 : p.cases.length - i = m + 1 := by omega
  simp only [turnP, e1, e2]
  rw [List.drop_eq_getElem_cons hm, List.reverse_cons]
def oneV (n : Str) : Val := ⟨n ++ [120], 1, [111, 110, 101], 0, []⟩
theorem getV_skip (p : Str) (vs : List Val) : getV (oneV p :: vs) p = getV vs p := by
  have : ((oneV p).name == p) = false := by
    rw [beq_eq_false_iff_ne]
    intro h
    have := congrArg List.length h
    simp [oneV] at this
  simp only [getV, List.find?_cons, this]
theorem choose_order (x : Lcl) (p : Prt) (vs : List Val) : (chooseV x p vs).2 = (chooseV x (turnP p p.cases.length) (oneV p.name :: vs)).2 ∧
    ((chooseV x p vs).2 = 0 → 0 ≤ (chooseV x p vs).1 ∧ (chooseV x p vs).1 < p.keys.length ∧ 0 ≤ (chooseV x (turnP p p.cases.length) (oneV p.name :: vs)).1 ∧ (chooseV x (turnP p p.cases.length) (oneV p.name :: vs)).1 < p.keys.length ∧
      p.keys.getD (chooseV x p vs).1.toNat [] = p.keys.reverse.getD (chooseV x (turnP p p.cases.length) (oneV p.name :: vs)).1.toNat []) := by
  have hg : getV (oneV p.name :: vs) (turnP p p.cases.length).name = getV vs p.name := getV_skip p.name vs
  have hk2 : (turnP p p.cases.length).kind = p.kind := rfl
  have hf := firstK_perm p.keys p.keys.reverse (fun w => by rw [Bool.eq_iff_iff, List.contains_iff_mem, List.contains_iff_mem, List.mem_reverse]) (wantedV x p.kind (getV vs p.name).1)
  unfold chooseV
  rw [turn_all, hg, hk2]
  by_cases h1 : selK p.kind = false
  · simp [h1]
  by_cases h2 : validRs (rulesOf x p.kind) = false
  · simp [h1, h2]
  by_cases h3 : (getV vs p.name).2 = false
  · simp [h1, h2, h3]
  by_cases h4 : suitK p.kind (getV vs p.name).1 = false
  · simp [h1, h2, h3, h4]
  simp only [h1, h2, h3, h4, if_false, Bool.true_eq_false]
  rcases hf with ⟨h5, h6⟩ | ⟨h5, h6, h7, h8, h9⟩
  · simp [h5, h6]
  · have g5 : ¬ firstK p.keys (wantedV x p.kind (getV vs p.name).1) < 0 := by omega
    have g6 : ¬ firstK p.keys.reverse (wantedV x p.kind (getV vs p.name).1) < 0 := by omega
    simp only [g5, g6, if_false]
    simp only [List.length_reverse] at h8
    exact ⟨trivial, fun _ => ⟨h5, h7, h6, h8, h9⟩⟩

/-- What stands for the cases of the part that is built, when so many cases have been taken; and who owns them. -/
def turnX (p : Prt) : Nat → AV
  | 0 => .snil
  | i + 1 => .sl 2 ((turnP p (i + 1)).cases.map caseAV)
def turnO : Nat → List (Nat × Nat)
  | 0 => []
  | _ + 1 => [(4, 44)]
theorem turnX_bel (p : Prt) : ∀ i, belowV 0 (turnX p i)
  | 0 => by simp only [turnX, belowV]
  | i + 1 => by simp only [turnX, belowV]
theorem turnX_le (p : Prt) : ∀ i, avLe2 (turnX p i) (.sl 2 ((turnP p i).cases.map caseAV))
  | 0 => by simp [turnX, avLe2, turnP]
  | i + 1 => by simp only [turnX]; exact avLe2_refl _

theorem turnX_pos (p : Prt) : ∀ i, 0 < i → turnX p i = .sl 2 ((turnP p i).cases.map caseAV)
  | i + 1, _ => rfl
theorem key_at (p : Prt) (i : Nat) (h : i < p.cases.length) : p.keys.getD i [] = (p.cases.getD i ([], .unk)).1 := by
  simp [Prt.keys, List.getD, h]

theorem s4 (x : Lcl) (p : Prt) (vs : List Val) (h : ArgOk x p vs) : FSv prog 4 [x.av, p.av, .sl 5 (vs.map Val.av)] (.bool true) := by
  refine FSv_code T0_ok mo pl4 _ func4 (by decide) rfl _ rfl (by rfl) (by simp) _ rfl ?_
  simp only [f4]
  have hl := h.len
  have hbl := h.bel
  have htk : x.rest.take 11 = x.rest := List.take_of_length_le (by omega)
  obtain ⟨k, hk⟩ := h.pv
  have hpo := h.prt
  have hpb := hpo.bel
  have hv := h.val
  have hlc := h.lcl
  have w1 := h.w1
  have hwp := h.wp
  have hwv := h.wv
  obtain ⟨ps, hps⟩ := hpo.psl
  obtain ⟨es, hps⟩ := hps
  simp -dsimp only [eWC_skip, eWC_exit, eWC_ret, eWC_seq, eWC_block, eWC_cond, eWC_regF, eWC_regT, eWC_loop, eWOps_nil, eWOps_cons, eWOp_eq, eWPl_done, eWPl_z, eWPl_q, eWPl_a, eAW_eq, ↓AW, evalQ, guardG, SV.noU, SV.un, beq_iff_eq, quiet, evO, ofConst, St.put, SV.of, SV.no, binQ, unQ, arQ, loadQ, sliceQ, partsQ, fillAV, fillOk, isU8, byteOf, shapeOk, isAggD, isAggV, cell1, cellsOf, isSeq, pOk, capsOk, pureCall, pickB_or, pickB_and, belowV, belowL, elemsOf, Proms, Prom, svLe, tagLe, isLoad, lk, thenQ, blockQ, retV, retQ, resL, resQ, oneRes, if_false, if_true, reduceIte, forall_const, true_implies, false_implies, implies_true, Nat.reduceEqDiff, Nat.reduceAdd, Nat.reduceSub, Nat.reduceLT, Nat.reduceLeDiff, Nat.reduceMul, Nat.reduceBEq, Nat.reduceBNe, Int.reduceToNat, Int.reduceLT, Int.reduceLE, Int.reduceEq, Int.reduceNeg, Int.reduceAdd, Int.reduceSub, reduceCtorEq, List.filter_nil, List.filter_cons, List.find?_cons, List.find?_nil, ne_eq, beq_self_eq_true, eq_self, imp_self, wz, T0_3, T0_4, T0_5, T0_9, T0_22, T0_28, T0_30, T0_31, T0_32, T0_34, T0_35, T0_38, T0_44, T0_46, T0_47, T0_55, T0_64, T0_66, T0_107, T0_133, T0_137, T0_138, T0_140, T0_141, T0_307, S0, Lcl.av, Prt.av]
  refine callG_v _ s22 (by simp) (by simp [belowL]) (by simp [belowV]) ?_
  simp -dsimp only [eWC_skip, eWC_exit, eWC_ret, eWC_seq, eWC_block, eWC_cond, eWC_regF, eWC_regT, eWC_loop, eWOps_nil, eWOps_cons, eWOp_eq, eWPl_done, eWPl_z, eWPl_q, eWPl_a, eAW_eq, ↓AW, evalQ, guardG, SV.noU, SV.un, beq_iff_eq, quiet, evO, ofConst, St.put, SV.of, SV.no, binQ, unQ, arQ, loadQ, sliceQ, partsQ, fillAV, fillOk, isU8, byteOf, shapeOk, isAggD, isAggV, cell1, cellsOf, isSeq, pOk, capsOk, pureCall, pickB_or, pickB_and, belowV, belowL, elemsOf, Proms, Prom, svLe, tagLe, isLoad, lk, thenQ, blockQ, retV, retQ, resL, resQ, oneRes, if_false, if_true, reduceIte, forall_const, true_implies, false_implies, implies_true, Nat.reduceEqDiff, Nat.reduceAdd, Nat.reduceSub, Nat.reduceLT, Nat.reduceLeDiff, Nat.reduceMul, Nat.reduceBEq, Nat.reduceBNe, Int.reduceToNat, Int.reduceLT, Int.reduceLE, Int.reduceEq, Int.reduceNeg, Int.reduceAdd, Int.reduceSub, reduceCtorEq, List.filter_nil, List.filter_cons, List.find?_cons, List.find?_nil, ne_eq, beq_self_eq_true, eq_self, imp_self, wz, T0_3, T0_4, T0_5, T0_9, T0_22, T0_28, T0_30, T0_31, T0_32, T0_34, T0_35, T0_38, T0_44, T0_46, T0_47, T0_55, T0_64, T0_66, T0_107, T0_133, T0_137, T0_138, T0_140, T0_141, T0_307]
  refine ⟨by omega, ?_⟩
  rw [htk]
  refine callG_p _ (s23 x p vs k (by omega) (by omega) hl hbl hk (by omega) (by omega)) (by simp) (by simp [belowL, belowV, rulesAV, hbl, hpb]) isBool_below ?_
  rintro w ⟨b, rfl⟩
  simp -dsimp only [eWC_skip, eWC_exit, eWC_ret, eWC_seq, eWC_block, eWC_cond, eWC_regF, eWC_regT, eWC_loop, eWOps_nil, eWOps_cons, eWOp_eq, eWPl_done, eWPl_z, eWPl_q, eWPl_a, eAW_eq, ↓AW, evalQ, guardG, SV.noU, SV.un, beq_iff_eq, quiet, evO, ofConst, St.put, SV.of, SV.no, binQ, unQ, arQ, loadQ, sliceQ, partsQ, fillAV, fillOk, isU8, byteOf, shapeOk, isAggD, isAggV, cell1, cellsOf, isSeq, pOk, capsOk, pureCall, pickB_or, pickB_and, belowV, belowL, elemsOf, Proms, Prom, svLe, tagLe, isLoad, lk, thenQ, blockQ, retV, retQ, resL, resQ, oneRes, if_false, if_true, reduceIte, forall_const, true_implies, false_implies, implies_true, Nat.reduceEqDiff, Nat.reduceAdd, Nat.reduceSub, Nat.reduceLT, Nat.reduceLeDiff, Nat.reduceMul, Nat.reduceBEq, Nat.reduceBNe, Int.reduceToNat, Int.reduceLT, Int.reduceLE, Int.reduceEq, Int.reduceNeg, Int.reduceAdd, Int.reduceSub, reduceCtorEq, List.filter_nil, List.filter_cons, List.find?_cons, List.find?_nil, ne_eq, beq_self_eq_true, eq_self, imp_self, wz, T0_3, T0_4, T0_5, T0_9, T0_22, T0_28, T0_30, T0_31, T0_32, T0_34, T0_35, T0_38, T0_44, T0_46, T0_47, T0_55, T0_64, T0_66, T0_107, T0_133, T0_137, T0_138, T0_140, T0_141, T0_307, hps]
  refine ⟨fun _ => by simp only [avLe], fun _ => ?_⟩
  have hpc := hpo.cases
  refine ⟨by unfold I64; omega, ?_⟩
  refine T3_for T0_ok mo pl4 p.cases.length (fun i (t : Nat × Nat) => ⟨[(8, SV.of (.int .i64 ((p.cases.length : Nat) - 1 - (i : Nat) : Int))), (7, SV.of (.ptr 2 0)), (4, SV.of (.ptr 1 0)), (3, SV.of (.ptr 0 0)), (2, SV.of (.sl 5 (vs.map Val.av)))], 115,
    ⟨t.1, [], [.cells (.str x.tag :: .str x.parent :: .str x.direction :: rulesAV x.cardinal :: rulesAV x.ordinal :: x.rest) [],
      .cells [.int .i64 p.kind, .str p.text, .str p.name, .str p.style, .sl 2 (p.cases.map caseAV), .sl ps es] [],
      .cells [.int .i64 p.kind, .str p.text, .str p.name, .str p.style, turnX p i, .sl ps es] (turnO i)], t.2⟩, 0⟩)
    (fun _ _ => True) 115 (fun _ _ => rfl) (by rfl) (3, 2) trivial (Le_lit ?_) (fun i t hi _ => ?_) (fun t _ => ?_)
  · simp [frLe, lk, SV.of, avLe]
  · obtain ⟨nt, st⟩ := t
    obtain ⟨m, hm⟩ : ∃ m, p.cases.length = m + 1 + i := ⟨p.cases.length - 1 - i, by omega⟩
    have hm1 : m < p.cases.length := by omega
    have em : ((p.cases.length : Nat) : Int) - 1 - (i : Nat) = (m : Nat) := by omega
    have d0 : decide (0 ≤ ((m : Nat) : Int)) = true := by simp
    obtain ⟨cz, ces, hcz⟩ := hpo.csl _ (List.getElem_mem hm1)
    have hlt : (turnP p i).cases.length < 1099511627776 := by
      simp only [turnP, List.length_reverse, List.length_drop]; omega
    cases i with
    | zero =>
      have em0 : ((p.cases.length : Nat) : Int) - 1 - 0 = (m : Nat) := by omega
      simp -dsimp only [eWC_skip, eWC_exit, eWC_ret, eWC_seq, eWC_block, eWC_cond, eWC_regF, eWC_regT, eWC_loop, eWOps_nil, eWOps_cons, eWOp_eq, eWPl_done, eWPl_z, eWPl_q, eWPl_a, eAW_eq, ↓AW, evalQ, guardG, SV.noU, SV.un, beq_iff_eq, quiet, evO, ofConst, St.put, SV.of, SV.no, binQ, unQ, arQ, loadQ, sliceQ, partsQ, fillAV, fillOk, isU8, byteOf, shapeOk, isAggD, isAggV, cell1, cellsOf, isSeq, pOk, capsOk, pureCall, pickB_or, pickB_and, belowV, belowL, elemsOf, Proms, Prom, svLe, tagLe, isLoad, lk, thenQ, blockQ, retV, retQ, resL, resQ, oneRes, if_false, if_true, reduceIte, forall_const, true_implies, false_implies, implies_true, Nat.reduceEqDiff, Nat.reduceAdd, Nat.reduceSub, Nat.reduceLT, Nat.reduceLeDiff, Nat.reduceMul, Nat.reduceBEq, Nat.reduceBNe, Int.reduceToNat, Int.reduceLT, Int.reduceLE, Int.reduceEq, Int.reduceNeg, Int.reduceAdd, Int.reduceSub, reduceCtorEq, List.filter_nil, List.filter_cons, List.find?_cons, List.find?_nil, ne_eq, beq_self_eq_true, eq_self, imp_self, wz, T0_3, T0_4, T0_5, T0_9, T0_22, T0_28, T0_30, T0_31, T0_32, T0_34, T0_35, T0_38, T0_44, T0_46, T0_47, T0_55, T0_64, T0_66, T0_107, T0_133, T0_137, T0_138, T0_140, T0_141, T0_307, em0, d0, pl4_10, turnX, turnO]
      refine ⟨⟨by omega, by omega⟩, ?_⟩
      refine callG_v _ ((s27 (turnP p (0)) hlt).args (by simp [avsLe2, avLe2, Prt.av, hps, turnP, avsLe2_refl])) (by simp) (by simp [belowL, belowV]) (by simp [belowV, strs]) ?_
      simp -dsimp only [eWC_skip, eWC_exit, eWC_ret, eWC_seq, eWC_block, eWC_cond, eWC_regF, eWC_regT, eWC_loop, eWOps_nil, eWOps_cons, eWOp_eq, eWPl_done, eWPl_z, eWPl_q, eWPl_a, eAW_eq, ↓AW, evalQ, guardG, SV.noU, SV.un, beq_iff_eq, quiet, evO, ofConst, St.put, SV.of, SV.no, binQ, unQ, arQ, loadQ, sliceQ, partsQ, fillAV, fillOk, isU8, byteOf, shapeOk, isAggD, isAggV, cell1, cellsOf, isSeq, pOk, capsOk, pureCall, pickB_or, pickB_and, belowV, belowL, elemsOf, Proms, Prom, svLe, tagLe, isLoad, lk, thenQ, blockQ, retV, retQ, resL, resQ, oneRes, if_false, if_true, reduceIte, forall_const, true_implies, false_implies, implies_true, Nat.reduceEqDiff, Nat.reduceAdd, Nat.reduceSub, Nat.reduceLT, Nat.reduceLeDiff, Nat.reduceMul, Nat.reduceBEq, Nat.reduceBNe, Int.reduceToNat, Int.reduceLT, Int.reduceLE, Int.reduceEq, Int.reduceNeg, Int.reduceAdd, Int.reduceSub, reduceCtorEq, List.filter_nil, List.filter_cons, List.find?_cons, List.find?_nil, ne_eq, beq_self_eq_true, eq_self, imp_self, wz, T0_3, T0_4, T0_5, T0_9, T0_22, T0_28, T0_30, T0_31, T0_32, T0_34, T0_35, T0_38, T0_44, T0_46, T0_47, T0_55, T0_64, T0_66, T0_107, T0_133, T0_137, T0_138, T0_140, T0_141, T0_307, em0, d0, pl4_10, gd caseAV p.cases m _ hm1, caseAV, hcz]
      refine callG_v _ (s26 (turnP p (0)).keys p.cases[m].fst (by simpa [Prt.keys] using hlt)) (by simp [strs]) (by simp [belowL, belowV, strs]) (by simp [belowV]) ?_
      simp -dsimp only [eWC_skip, eWC_exit, eWC_ret, eWC_seq, eWC_block, eWC_cond, eWC_regF, eWC_regT, eWC_loop, eWOps_nil, eWOps_cons, eWOp_eq, eWPl_done, eWPl_z, eWPl_q, eWPl_a, eAW_eq, ↓AW, evalQ, guardG, SV.noU, SV.un, beq_iff_eq, quiet, evO, ofConst, St.put, SV.of, SV.no, binQ, unQ, arQ, loadQ, sliceQ, partsQ, fillAV, fillOk, isU8, byteOf, shapeOk, isAggD, isAggV, cell1, cellsOf, isSeq, pOk, capsOk, pureCall, pickB_or, pickB_and, belowV, belowL, elemsOf, Proms, Prom, svLe, tagLe, isLoad, lk, thenQ, blockQ, retV, retQ, resL, resQ, oneRes, if_false, if_true, reduceIte, forall_const, true_implies, false_implies, implies_true, Nat.reduceEqDiff, Nat.reduceAdd, Nat.reduceSub, Nat.reduceLT, Nat.reduceLeDiff, Nat.reduceMul, Nat.reduceBEq, Nat.reduceBNe, Int.reduceToNat, Int.reduceLT, Int.reduceLE, Int.reduceEq, Int.reduceNeg, Int.reduceAdd, Int.reduceSub, reduceCtorEq, List.filter_nil, List.filter_cons, List.find?_cons, List.find?_nil, ne_eq, beq_self_eq_true, eq_self, imp_self, wz, T0_3, T0_4, T0_5, T0_9, T0_22, T0_28, T0_30, T0_31, T0_32, T0_34, T0_35, T0_38, T0_44, T0_46, T0_47, T0_55, T0_64, T0_66, T0_107, T0_133, T0_137, T0_138, T0_140, T0_141, T0_307, em0, d0, pl4_10, pl4_12, gd caseAV p.cases m _ hm1, caseAV, hcz]
      refine ⟨fun _ => by simp only [avLe], fun _ => ?_⟩
      have es := turn_succ p 0 m (by omega) hm1
      have ez : (turnP p 0).cases = [] := by simp [turnP]
      rw [ez] at es
      refine ⟨⟨by omega, by omega⟩, by unfold I64; omega, (nt + 2, st + 1), Le_of rfl (Nat.le_refl _) (Nat.le_refl _) (Nat.le_refl _) ?_ (by simp) ?_⟩
      · simp [turnX, turnO, es, caseAV, hcz]
      · simp [frLe, lk, SV.of, avLe]
        omega
    | succ j =>
      simp -dsimp only [eWC_skip, eWC_exit, eWC_ret, eWC_seq, eWC_block, eWC_cond, eWC_regF, eWC_regT, eWC_loop, eWOps_nil, eWOps_cons, eWOp_eq, eWPl_done, eWPl_z, eWPl_q, eWPl_a, eAW_eq, ↓AW, evalQ, guardG, SV.noU, SV.un, beq_iff_eq, quiet, evO, ofConst, St.put, SV.of, SV.no, binQ, unQ, arQ, loadQ, sliceQ, partsQ, fillAV, fillOk, isU8, byteOf, shapeOk, isAggD, isAggV, cell1, cellsOf, isSeq, pOk, capsOk, pureCall, pickB_or, pickB_and, belowV, belowL, elemsOf, Proms, Prom, svLe, tagLe, isLoad, lk, thenQ, blockQ, retV, retQ, resL, resQ, oneRes, if_false, if_true, reduceIte, forall_const, true_implies, false_implies, implies_true, Nat.reduceEqDiff, Nat.reduceAdd, Nat.reduceSub, Nat.reduceLT, Nat.reduceLeDiff, Nat.reduceMul, Nat.reduceBEq, Nat.reduceBNe, Int.reduceToNat, Int.reduceLT, Int.reduceLE, Int.reduceEq, Int.reduceNeg, Int.reduceAdd, Int.reduceSub, reduceCtorEq, List.filter_nil, List.filter_cons, List.find?_cons, List.find?_nil, ne_eq, beq_self_eq_true, eq_self, imp_self, wz, T0_3, T0_4, T0_5, T0_9, T0_22, T0_28, T0_30, T0_31, T0_32, T0_34, T0_35, T0_38, T0_44, T0_46, T0_47, T0_55, T0_64, T0_66, T0_107, T0_133, T0_137, T0_138, T0_140, T0_141, T0_307, em, d0, pl4_10, turnX, turnO]
      refine ⟨⟨by omega, by omega⟩, ?_⟩
      refine callG_v _ ((s27 (turnP p (j + 1)) hlt).args (by simp [avsLe2, avLe2, Prt.av, hps, turnP, avsLe2_refl])) (by simp) (by simp [belowL, belowV]) (by simp [belowV, strs]) ?_
      simp -dsimp only [eWC_skip, eWC_exit, eWC_ret, eWC_seq, eWC_block, eWC_cond, eWC_regF, eWC_regT, eWC_loop, eWOps_nil, eWOps_cons, eWOp_eq, eWPl_done, eWPl_z, eWPl_q, eWPl_a, eAW_eq, ↓AW, evalQ, guardG, SV.noU, SV.un, beq_iff_eq, quiet, evO, ofConst, St.put, SV.of, SV.no, binQ, unQ, arQ, loadQ, sliceQ, partsQ, fillAV, fillOk, isU8, byteOf, shapeOk, isAggD, isAggV, cell1, cellsOf, isSeq, pOk, capsOk, pureCall, pickB_or, pickB_and, belowV, belowL, elemsOf, Proms, Prom, svLe, tagLe, isLoad, lk, thenQ, blockQ, retV, retQ, resL, resQ, oneRes, if_false, if_true, reduceIte, forall_const, true_implies, false_implies, implies_true, Nat.reduceEqDiff, Nat.reduceAdd, Nat.reduceSub, Nat.reduceLT, Nat.reduceLeDiff, Nat.reduceMul, Nat.reduceBEq, Nat.reduceBNe, Int.reduceToNat, Int.reduceLT, Int.reduceLE, Int.reduceEq, Int.reduceNeg, Int.reduceAdd, Int.reduceSub, reduceCtorEq, List.filter_nil, List.filter_cons, List.find?_cons, List.find?_nil, ne_eq, beq_self_eq_true, eq_self, imp_self, wz, T0_3, T0_4, T0_5, T0_9, T0_22, T0_28, T0_30, T0_31, T0_32, T0_34, T0_35, T0_38, T0_44, T0_46, T0_47, T0_55, T0_64, T0_66, T0_107, T0_133, T0_137, T0_138, T0_140, T0_141, T0_307, em, d0, pl4_10, gd caseAV p.cases m _ hm1, caseAV, hcz]
      refine callG_v _ (s26 (turnP p (j + 1)).keys p.cases[m].fst (by simpa [Prt.keys] using hlt)) (by simp [strs]) (by simp [belowL, belowV, strs]) (by simp [belowV]) ?_
      simp -dsimp only [eWC_skip, eWC_exit, eWC_ret, eWC_seq, eWC_block, eWC_cond, eWC_regF, eWC_regT, eWC_loop, eWOps_nil, eWOps_cons, eWOp_eq, eWPl_done, eWPl_z, eWPl_q, eWPl_a, eAW_eq, ↓AW, evalQ, guardG, SV.noU, SV.un, beq_iff_eq, quiet, evO, ofConst, St.put, SV.of, SV.no, binQ, unQ, arQ, loadQ, sliceQ, partsQ, fillAV, fillOk, isU8, byteOf, shapeOk, isAggD, isAggV, cell1, cellsOf, isSeq, pOk, capsOk, pureCall, pickB_or, pickB_and, belowV, belowL, elemsOf, Proms, Prom, svLe, tagLe, isLoad, lk, thenQ, blockQ, retV, retQ, resL, resQ, oneRes, if_false, if_true, reduceIte, forall_const, true_implies, false_implies, implies_true, Nat.reduceEqDiff, Nat.reduceAdd, Nat.reduceSub, Nat.reduceLT, Nat.reduceLeDiff, Nat.reduceMul, Nat.reduceBEq, Nat.reduceBNe, Int.reduceToNat, Int.reduceLT, Int.reduceLE, Int.reduceEq, Int.reduceNeg, Int.reduceAdd, Int.reduceSub, reduceCtorEq, List.filter_nil, List.filter_cons, List.find?_cons, List.find?_nil, ne_eq, beq_self_eq_true, eq_self, imp_self, wz, T0_3, T0_4, T0_5, T0_9, T0_22, T0_28, T0_30, T0_31, T0_32, T0_34, T0_35, T0_38, T0_44, T0_46, T0_47, T0_55, T0_64, T0_66, T0_107, T0_133, T0_137, T0_138, T0_140, T0_141, T0_307, em, d0, pl4_10, pl4_12, gd caseAV p.cases m _ hm1, caseAV, hcz]
      refine ⟨fun _ => by simp only [avLe], fun _ => ?_⟩
      have es := turn_succ p (j + 1) m (by omega) hm1
      refine ⟨⟨by omega, by omega⟩, by intro z' es' h; cases h; rfl, by omega, by omega, by simp, by unfold I64; omega, (nt + 2, st + 1), Le_of rfl (Nat.le_refl _) (Nat.le_refl _) (Nat.le_refl _) ?_ (by simp) ?_⟩
      · simp [turnX, turnO, es, caseAV, hcz]
      · simp [frLe, lk, SV.of, avLe]
        omega
  · obtain ⟨nt, st⟩ := t
    have dl : decide (0 ≤ (((p.cases.length : Nat) : Int) - 1 - (p.cases.length : Nat))) = false := by simp; omega
    have hbX := turnX_bel p p.cases.length
    have hle := turnX_le p p.cases.length
    generalize hX : turnX p p.cases.length = X at *
    have h4 := wt_e (l := [p]) (e := p) (by simp)
    have h5 := wt_prt p
    have hto : PrtOk (turnP p p.cases.length) := by
      refine ⟨by simp only [turnP, List.length_reverse, List.length_drop]; omega, fun c hc => ?_, hpo.psl⟩
      simp only [turnP, List.mem_reverse] at hc
      exact hpo.csl c (List.mem_of_mem_drop hc)
    have hle2 : avLe2 X (.sl 2 (p.cases.map caseAV).reverse) := by simpa [turnP] using hle
    have hv1 : ∀ v ∈ oneV p.name :: vs, v.text.length < 4294967281 := fun v hv' => by
      rcases List.mem_cons.1 hv' with rfl | hv'
      · simp [oneV]
      · exact (hv.2 v hv').1
    have hv2 : ∀ v ∈ oneV p.name :: vs, v.list.length < 1099511627776 := fun v hv' => by
      rcases List.mem_cons.1 hv' with rfl | hv'
      · simp [oneV]
      · have := (hv.2 v hv').2; omega
    cases vs with
    | nil =>
      simp -dsimp only [eWC_skip, eWC_exit, eWC_ret, eWC_seq, eWC_block, eWC_cond, eWC_regF, eWC_regT, eWC_loop, eWOps_nil, eWOps_cons, eWOp_eq, eWPl_done, eWPl_z, eWPl_q, eWPl_a, eAW_eq, ↓AW, evalQ, guardG, SV.noU, SV.un, beq_iff_eq, quiet, evO, ofConst, St.put, SV.of, SV.no, binQ, unQ, arQ, loadQ, sliceQ, partsQ, fillAV, fillOk, isU8, byteOf, shapeOk, isAggD, isAggV, cell1, cellsOf, isSeq, pOk, capsOk, pureCall, pickB_or, pickB_and, belowV, belowL, elemsOf, Proms, Prom, svLe, tagLe, isLoad, lk, thenQ, blockQ, retV, retQ, resL, resQ, oneRes, if_false, if_true, reduceIte, forall_const, true_implies, false_implies, implies_true, Nat.reduceEqDiff, Nat.reduceAdd, Nat.reduceSub, Nat.reduceLT, Nat.reduceLeDiff, Nat.reduceMul, Nat.reduceBEq, Nat.reduceBNe, Int.reduceToNat, Int.reduceLT, Int.reduceLE, Int.reduceEq, Int.reduceNeg, Int.reduceAdd, Int.reduceSub, reduceCtorEq, List.filter_nil, List.filter_cons, List.find?_cons, List.find?_nil, ne_eq, beq_self_eq_true, eq_self, imp_self, wz, T0_3, T0_4, T0_5, T0_9, T0_22, T0_28, T0_30, T0_31, T0_32, T0_34, T0_35, T0_38, T0_44, T0_46, T0_47, T0_55, T0_64, T0_66, T0_107, T0_133, T0_137, T0_138, T0_140, T0_141, T0_307, dl]
      refine ⟨by omega, by intro z' es' h; cases h; rfl, by omega, ?_⟩
      rw [htk]
      refine callG_v _ ((s24 x p [] hlc hpo (by simp) (fun v hv' => (hv.2 v hv').1) (fun v hv' => by have := (hv.2 v hv').2; omega)).args (by simp [Lcl.av, Prt.av, avsLe2, avLe2, avsLe2_refl, avLe2_refl, rulesAV, hps])) (by simp) (by simp [belowL, belowV, rulesAV, hbl]) (by simp [belowV, belowL]) ?_
      simp -dsimp only [eWC_skip, eWC_exit, eWC_ret, eWC_seq, eWC_block, eWC_cond, eWC_regF, eWC_regT, eWC_loop, eWOps_nil, eWOps_cons, eWOp_eq, eWPl_done, eWPl_z, eWPl_q, eWPl_a, eAW_eq, ↓AW, evalQ, guardG, SV.noU, SV.un, beq_iff_eq, quiet, evO, ofConst, St.put, SV.of, SV.no, binQ, unQ, arQ, loadQ, sliceQ, partsQ, fillAV, fillOk, isU8, byteOf, shapeOk, isAggD, isAggV, cell1, cellsOf, isSeq, pOk, capsOk, pureCall, pickB_or, pickB_and, belowV, belowL, elemsOf, Proms, Prom, svLe, tagLe, isLoad, lk, thenQ, blockQ, retV, retQ, resL, resQ, oneRes, if_false, if_true, reduceIte, forall_const, true_implies, false_implies, implies_true, Nat.reduceEqDiff, Nat.reduceAdd, Nat.reduceSub, Nat.reduceLT, Nat.reduceLeDiff, Nat.reduceMul, Nat.reduceBEq, Nat.reduceBNe, Int.reduceToNat, Int.reduceLT, Int.reduceLE, Int.reduceEq, Int.reduceNeg, Int.reduceAdd, Int.reduceSub, reduceCtorEq, List.filter_nil, List.filter_cons, List.find?_cons, List.find?_nil, ne_eq, beq_self_eq_true, eq_self, imp_self, wz, T0_3, T0_4, T0_5, T0_9, T0_22, T0_28, T0_30, T0_31, T0_32, T0_34, T0_35, T0_38, T0_44, T0_46, T0_47, T0_55, T0_64, T0_66, T0_107, T0_133, T0_137, T0_138, T0_140, T0_141, T0_307, hps]
      refine ⟨by omega, ?_⟩
      rw [htk]
      refine callG_v _ ((s24 x (turnP p p.cases.length) (oneV p.name :: []) hlc hto (by simp) hv1 hv2).args (by simp [oneV, strs, Val.av, Lcl.av, Prt.av, avsLe2, avLe2, avsLe2_refl, avLe2_refl, rulesAV, hps, turnP]; exact hle2)) (by simp) (by simp [belowL, belowV, rulesAV, hbl, hbX]) (by simp [belowV, belowL]) ?_
      obtain ⟨o1, o2⟩ := choose_order x p []
      generalize hC : chooseV x p [] = C at *
      generalize hD : chooseV x (turnP p p.cases.length) (oneV p.name :: []) = D at *
      obtain ⟨c1, c2⟩ := C
      obtain ⟨d1, d2⟩ := D
      simp only at o1 o2
      subst o1
      by_cases he : c2 = 0
      · subst he
        obtain ⟨q1, q2, q3, q4, q5⟩ := o2 rfl
        have hkl : p.keys.length = p.cases.length := by simp [Prt.keys]
        have hX2 : X = .sl 2 ((turnP p p.cases.length).cases.map caseAV) := by rw [← hX]; exact turnX_pos p _ (by omega)
        have tl : (turnP p p.cases.length).cases.length = p.cases.length := by simp [turnP]
        have g1 := gdn caseAV p.cases c1.toNat AV.unk ([], .unk) (by omega)
        have g2 := gdn caseAV (turnP p p.cases.length).cases d1.toNat AV.unk ([], .unk) (by rw [tl]; omega)
        have k1 := key_at p c1.toNat (by omega)
        have k2 := key_at (turnP p p.cases.length) d1.toNat (by rw [tl]; omega)
        rw [turn_all, ← q5, k1] at k2
        generalize p.cases.getD c1.toNat ([], .unk) = u at *
        generalize (turnP p p.cases.length).cases.getD d1.toNat ([], .unk) = u' at *
        have b1 : decide (0 ≤ c1) = true := by simpa using q1
        have b2 : decide (c1 < ((p.cases.length : Nat) : Int)) = true := by rw [decide_eq_true_eq]; omega
        have b3 : decide (0 ≤ d1) = true := by simpa using q3
        have b4 : decide (d1 < ((p.cases.length : Nat) : Int)) = true := by rw [decide_eq_true_eq]; omega
        simp -dsimp only [eWC_skip, eWC_exit, eWC_ret, eWC_seq, eWC_block, eWC_cond, eWC_regF, eWC_regT, eWC_loop, eWOps_nil, eWOps_cons, eWOp_eq, eWPl_done, eWPl_z, eWPl_q, eWPl_a, eAW_eq, ↓AW, evalQ, guardG, SV.noU, SV.un, beq_iff_eq, quiet, evO, ofConst, St.put, SV.of, SV.no, binQ, unQ, arQ, loadQ, sliceQ, partsQ, fillAV, fillOk, isU8, byteOf, shapeOk, isAggD, isAggV, cell1, cellsOf, isSeq, pOk, capsOk, pureCall, pickB_or, pickB_and, belowV, belowL, elemsOf, Proms, Prom, svLe, tagLe, isLoad, lk, thenQ, blockQ, retV, retQ, resL, resQ, oneRes, if_false, if_true, reduceIte, forall_const, true_implies, false_implies, implies_true, Nat.reduceEqDiff, Nat.reduceAdd, Nat.reduceSub, Nat.reduceLT, Nat.reduceLeDiff, Nat.reduceMul, Nat.reduceBEq, Nat.reduceBNe, Int.reduceToNat, Int.reduceLT, Int.reduceLE, Int.reduceEq, Int.reduceNeg, Int.reduceAdd, Int.reduceSub, reduceCtorEq, List.filter_nil, List.filter_cons, List.find?_cons, List.find?_nil, ne_eq, beq_self_eq_true, eq_self, imp_self, wz, T0_3, T0_4, T0_5, T0_9, T0_22, T0_28, T0_30, T0_31, T0_32, T0_34, T0_35, T0_38, T0_44, T0_46, T0_47, T0_55, T0_64, T0_66, T0_107, T0_133, T0_137, T0_138, T0_140, T0_141, T0_307, hps, pl4_18, hX2, tl, g1, g2, caseAV, k2, b1, b2, b3, b4]
        refine ⟨⟨by omega, by omega⟩, ⟨by omega, by omega⟩, ?_⟩
        simp only [avLe]
      · simp -dsimp only [eWC_skip, eWC_exit, eWC_ret, eWC_seq, eWC_block, eWC_cond, eWC_regF, eWC_regT, eWC_loop, eWOps_nil, eWOps_cons, eWOp_eq, eWPl_done, eWPl_z, eWPl_q, eWPl_a, eAW_eq, ↓AW, evalQ, guardG, SV.noU, SV.un, beq_iff_eq, quiet, evO, ofConst, St.put, SV.of, SV.no, binQ, unQ, arQ, loadQ, sliceQ, partsQ, fillAV, fillOk, isU8, byteOf, shapeOk, isAggD, isAggV, cell1, cellsOf, isSeq, pOk, capsOk, pureCall, pickB_or, pickB_and, belowV, belowL, elemsOf, Proms, Prom, svLe, tagLe, isLoad, lk, thenQ, blockQ, retV, retQ, resL, resQ, oneRes, if_false, if_true, reduceIte, forall_const, true_implies, false_implies, implies_true, Nat.reduceEqDiff, Nat.reduceAdd, Nat.reduceSub, Nat.reduceLT, Nat.reduceLeDiff, Nat.reduceMul, Nat.reduceBEq, Nat.reduceBNe, Int.reduceToNat, Int.reduceLT, Int.reduceLE, Int.reduceEq, Int.reduceNeg, Int.reduceAdd, Int.reduceSub, reduceCtorEq, List.filter_nil, List.filter_cons, List.find?_cons, List.find?_nil, ne_eq, beq_self_eq_true, eq_self, imp_self, wz, T0_3, T0_4, T0_5, T0_9, T0_22, T0_28, T0_30, T0_31, T0_32, T0_34, T0_35, T0_38, T0_44, T0_46, T0_47, T0_55, T0_64, T0_66, T0_107, T0_133, T0_137, T0_138, T0_140, T0_141, T0_307, hps, he]
        simp only [avLe]
    | cons v0 vr =>
      simp only [List.length_cons] at hv
      simp -dsimp only [eWC_skip, eWC_exit, eWC_ret, eWC_seq, eWC_block, eWC_cond, eWC_regF, eWC_regT, eWC_loop, eWOps_nil, eWOps_cons, eWOp_eq, eWPl_done, eWPl_z, eWPl_q, eWPl_a, eAW_eq, ↓AW, evalQ, guardG, SV.noU, SV.un, beq_iff_eq, quiet, evO, ofConst, St.put, SV.of, SV.no, binQ, unQ, arQ, loadQ, sliceQ, partsQ, fillAV, fillOk, isU8, byteOf, shapeOk, isAggD, isAggV, cell1, cellsOf, isSeq, pOk, capsOk, pureCall, pickB_or, pickB_and, belowV, belowL, elemsOf, Proms, Prom, svLe, tagLe, isLoad, lk, thenQ, blockQ, retV, retQ, resL, resQ, oneRes, if_false, if_true, reduceIte, forall_const, true_implies, false_implies, implies_true, Nat.reduceEqDiff, Nat.reduceAdd, Nat.reduceSub, Nat.reduceLT, Nat.reduceLeDiff, Nat.reduceMul, Nat.reduceBEq, Nat.reduceBNe, Int.reduceToNat, Int.reduceLT, Int.reduceLE, Int.reduceEq, Int.reduceNeg, Int.reduceAdd, Int.reduceSub, reduceCtorEq, List.filter_nil, List.filter_cons, List.find?_cons, List.find?_nil, ne_eq, beq_self_eq_true, eq_self, imp_self, wz, T0_3, T0_4, T0_5, T0_9, T0_22, T0_28, T0_30, T0_31, T0_32, T0_34, T0_35, T0_38, T0_44, T0_46, T0_47, T0_55, T0_64, T0_66, T0_107, T0_133, T0_137, T0_138, T0_140, T0_141, T0_307, dl]
      refine ⟨by omega, by intro z' es' h; cases h; rfl, by omega, by omega, by simp, by omega, ?_⟩
      rw [htk]
      refine callG_v _ ((s24 x p (v0 :: vr) hlc hpo (by simp only [List.length_cons]; omega) (fun v hv' => (hv.2 v hv').1) (fun v hv' => by have := (hv.2 v hv').2; omega)).args (by simp [Lcl.av, Prt.av, avsLe2, avLe2, avsLe2_refl, avLe2_refl, rulesAV, hps])) (by simp) (by simp [belowL, belowV, rulesAV, hbl]) (by simp [belowV, belowL]) ?_
      simp -dsimp only [eWC_skip, eWC_exit, eWC_ret, eWC_seq, eWC_block, eWC_cond, eWC_regF, eWC_regT, eWC_loop, eWOps_nil, eWOps_cons, eWOp_eq, eWPl_done, eWPl_z, eWPl_q, eWPl_a, eAW_eq, ↓AW, evalQ, guardG, SV.noU, SV.un, beq_iff_eq, quiet, evO, ofConst, St.put, SV.of, SV.no, binQ, unQ, arQ, loadQ, sliceQ, partsQ, fillAV, fillOk, isU8, byteOf, shapeOk, isAggD, isAggV, cell1, cellsOf, isSeq, pOk, capsOk, pureCall, pickB_or, pickB_and, belowV, belowL, elemsOf, Proms, Prom, svLe, tagLe, isLoad, lk, thenQ, blockQ, retV, retQ, resL, resQ, oneRes, if_false, if_true, reduceIte, forall_const, true_implies, false_implies, implies_true, Nat.reduceEqDiff, Nat.reduceAdd, Nat.reduceSub, Nat.reduceLT, Nat.reduceLeDiff, Nat.reduceMul, Nat.reduceBEq, Nat.reduceBNe, Int.reduceToNat, Int.reduceLT, Int.reduceLE, Int.reduceEq, Int.reduceNeg, Int.reduceAdd, Int.reduceSub, reduceCtorEq, List.filter_nil, List.filter_cons, List.find?_cons, List.find?_nil, ne_eq, beq_self_eq_true, eq_self, imp_self, wz, T0_3, T0_4, T0_5, T0_9, T0_22, T0_28, T0_30, T0_31, T0_32, T0_34, T0_35, T0_38, T0_44, T0_46, T0_47, T0_55, T0_64, T0_66, T0_107, T0_133, T0_137, T0_138, T0_140, T0_141, T0_307, hps]
      refine ⟨by omega, ?_⟩
      rw [htk]
      refine callG_v _ ((s24 x (turnP p p.cases.length) (oneV p.name :: (v0 :: vr)) hlc hto (by simp only [List.length_cons]; omega) hv1 hv2).args (by simp [oneV, strs, Val.av, Lcl.av, Prt.av, avsLe2, avLe2, avsLe2_refl, avLe2_refl, rulesAV, hps, turnP]; exact hle2)) (by simp) (by simp [belowL, belowV, rulesAV, hbl, hbX]) (by simp [belowV, belowL]) ?_
      obtain ⟨o1, o2⟩ := choose_order x p (v0 :: vr)
      generalize hC : chooseV x p (v0 :: vr) = C at *
      generalize hD : chooseV x (turnP p p.cases.length) (oneV p.name :: (v0 :: vr)) = D at *
      obtain ⟨c1, c2⟩ := C
      obtain ⟨d1, d2⟩ := D
      simp only at o1 o2
      subst o1
      by_cases he : c2 = 0
      · subst he
        obtain ⟨q1, q2, q3, q4, q5⟩ := o2 rfl
        have hkl : p.keys.length = p.cases.length := by simp [Prt.keys]
        have hX2 : X = .sl 2 ((turnP p p.cases.length).cases.map caseAV) := by rw [← hX]; exact turnX_pos p _ (by omega)
        have tl : (turnP p p.cases.length).cases.length = p.cases.length := by simp [turnP]
        have g1 := gdn caseAV p.cases c1.toNat AV.unk ([], .unk) (by omega)
        have g2 := gdn caseAV (turnP p p.cases.length).cases d1.toNat AV.unk ([], .unk) (by rw [tl]; omega)
        have k1 := key_at p c1.toNat (by omega)
        have k2 := key_at (turnP p p.cases.length) d1.toNat (by rw [tl]; omega)
        rw [turn_all, ← q5, k1] at k2
        generalize p.cases.getD c1.toNat ([], .unk) = u at *
        generalize (turnP p p.cases.length).cases.getD d1.toNat ([], .unk) = u' at *
        have b1 : decide (0 ≤ c1) = true := by simpa using q1
        have b2 : decide (c1 < ((p.cases.length : Nat) : Int)) = true := by rw [decide_eq_true_eq]; omega
        have b3 : decide (0 ≤ d1) = true := by simpa using q3
        have b4 : decide (d1 < ((p.cases.length : Nat) : Int)) = true := by rw [decide_eq_true_eq]; omega
        simp -dsimp only [eWC_skip, eWC_exit, eWC_ret, eWC_seq, eWC_block, eWC_cond, eWC_regF, eWC_regT, eWC_loop, eWOps_nil, eWOps_cons, eWOp_eq, eWPl_done, eWPl_z, eWPl_q, eWPl_a, eAW_eq, ↓AW, evalQ, guardG, SV.noU, SV.un, beq_iff_eq, quiet, evO, ofConst, St.put, SV.of, SV.no, binQ, unQ, arQ, loadQ, sliceQ, partsQ, fillAV, fillOk, isU8, byteOf, shapeOk, isAggD, isAggV, cell1, cellsOf, isSeq, pOk, capsOk, pureCall, pickB_or, pickB_and, belowV, belowL, elemsOf, Proms, Prom, svLe, tagLe, isLoad, lk, thenQ, blockQ, retV, retQ, resL, resQ, oneRes, if_false, if_true, reduceIte, forall_const, true_implies, false_implies, implies_true, Nat.reduceEqDiff, Nat.reduceAdd, Nat.reduceSub, Nat.reduceLT, Nat.reduceLeDiff, Nat.reduceMul, Nat.reduceBEq, Nat.reduceBNe, Int.reduceToNat, Int.reduceLT, Int.reduceLE, Int.reduceEq, Int.reduceNeg, Int.reduceAdd, Int.reduceSub, reduceCtorEq, List.filter_nil, List.filter_cons, List.find?_cons, List.find?_nil, ne_eq, beq_self_eq_true, eq_self, imp_self, wz, T0_3, T0_4, T0_5, T0_9, T0_22, T0_28, T0_30, T0_31, T0_32, T0_34, T0_35, T0_38, T0_44, T0_46, T0_47, T0_55, T0_64, T0_66, T0_107, T0_133, T0_137, T0_138, T0_140, T0_141, T0_307, hps, pl4_18, hX2, tl, g1, g2, caseAV, k2, b1, b2, b3, b4]
        refine ⟨⟨by omega, by omega⟩, ⟨by omega, by omega⟩, ?_⟩
        simp only [avLe]
      · simp -dsimp only [eWC_skip, eWC_exit, eWC_ret, eWC_seq, eWC_block, eWC_cond, eWC_regF, eWC_regT, eWC_loop, eWOps_nil, eWOps_cons, eWOp_eq, eWPl_done, eWPl_z, eWPl_q, eWPl_a, eAW_eq, ↓AW, evalQ, guardG, SV.noU, SV.un, beq_iff_eq, quiet, evO, ofConst, St.put, SV.of, SV.no, binQ, unQ, arQ, loadQ, sliceQ, partsQ, fillAV, fillOk, isU8, byteOf, shapeOk, isAggD, isAggV, cell1, cellsOf, isSeq, pOk, capsOk, pureCall, pickB_or, pickB_and, belowV, belowL, elemsOf, Proms, Prom, svLe, tagLe, isLoad, lk, thenQ, blockQ, retV, retQ, resL, resQ, oneRes, if_false, if_true, reduceIte, forall_const, true_implies, false_implies, implies_true, Nat.reduceEqDiff, Nat.reduceAdd, Nat.reduceSub, Nat.reduceLT, Nat.reduceLeDiff, Nat.reduceMul, Nat.reduceBEq, Nat.reduceBNe, Int.reduceToNat, Int.reduceLT, Int.reduceLE, Int.reduceEq, Int.reduceNeg, Int.reduceAdd, Int.reduceSub, reduceCtorEq, List.filter_nil, List.filter_cons, List.find?_cons, List.find?_nil, ne_eq, beq_self_eq_true, eq_self, imp_self, wz, T0_3, T0_4, T0_5, T0_9, T0_22, T0_28, T0_30, T0_31, T0_32, T0_34, T0_35, T0_38, T0_44, T0_46, T0_47, T0_55, T0_64, T0_66, T0_107, T0_133, T0_137, T0_138, T0_140, T0_141, T0_307, hps, he]
        simp only [avLe]
end Go.Proofs.Tryz
