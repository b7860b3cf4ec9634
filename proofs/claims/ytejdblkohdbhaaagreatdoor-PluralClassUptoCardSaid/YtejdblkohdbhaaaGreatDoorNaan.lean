/-
  Part of a proof: contracts of functions in abstract values.
-/
import Derived.Test.YtejdblkohdbhaaaGreatDoorNaam
import Derived.Shelf.Strings.Search1
set_option linter.unusedVariables false
set_option linter.unusedSimpArgs false
namespace Go.Proofs.Tryz
open Go Go.Abs
set_option linter.unusedSimpArgs false
set_option maxRecDepth 100000
set_option maxHeartbeats 4000000

theorem sum_wts (c : Cnd) : (c.map List.length).sum ≤ wts (c.map listAV) := by
  induction c with
  | nil => simp [wts]
  | cons a c ih =>
    have := len_wts Rln.av a
    have h2 := wt_list a
    simp only [List.map_cons, List.sum_cons, wts]
    omega
theorem CndOk_of {c : Cnd} (h : wt (condAV c) < 1099511627776) : CndOk c := by
  have h1 := wt_cond c
  have hm : ∀ l ∈ c, wt (listAV l) < 1099511627776 := fun l hl => by
    have := wts_mem (List.mem_map_of_mem (f := listAV) hl); omega
  refine ⟨?_, fun l hl => ?_, fun l hl r hr => ?_, ?_⟩
  · have := len_wts listAV c; omega
  · have := hm l hl; have h2 := wt_list l; have := len_wts Rln.av l; omega
  · have := hm l hl; have h2 := wt_list l
    have h3 := wts_mem (List.mem_map_of_mem (f := Rln.av) hr)
    have h4 := wt_rln r
    have h5 := len_wts Spn.av r.spans
    omega
  · have := sum_wts c; omega
theorem RulesOk_of {l : List Rul} (h : wt (rulesAV l) < 1099511627776) : RulesOk l := by
  have h1 := wt_rules l
  refine ⟨?_, fun r hr => CndOk_of ?_⟩
  · have := len_wts Rul.av l; omega
  · have := wts_mem (List.mem_map_of_mem (f := Rul.av) hr)
    have h2 := wt_rul r
    omega

/-- What a selection's arguments must be; the bounds are great. -/
structure ArgOk (x : Lcl) (p : Prt) (vs : List Val) : Prop where
  len : x.rest.length = 11
  bel : belowL 0 x.rest
  wx : wt (.agg (.str x.tag :: .str x.parent :: .str x.direction :: rulesAV x.cardinal :: rulesAV x.ordinal :: x.rest)) < 4294967281
  wp : wt (partsAV [p]) < 4294967281
  pv : ∃ k, PV k [p]
  wv : wt (.sl 5 (vs.map Val.av)) < 4294967281
theorem ArgOk.w1 {x : Lcl} {p : Prt} {vs : List Val} (h : ArgOk x p vs) : wt (rulesAV x.cardinal) < 4294967281 ∧ wt (rulesAV x.ordinal) < 4294967281 := by
  have := h.wx
  simp only [wt, wts] at this
  omega
theorem ArgOk.lcl {x : Lcl} {p : Prt} {vs : List Val} (h : ArgOk x p vs) : LclOk x :=
  ⟨RulesOk_of (by have := h.w1.1; omega), RulesOk_of (by have := h.w1.2; omega), h.len, h.bel⟩
theorem ArgOk.prt {x : Lcl} {p : Prt} {vs : List Val} (h : ArgOk x p vs) : PrtOk p := by
  obtain ⟨k, hk⟩ := h.pv
  cases k with
  | zero => exact hk.elim
  | succ k =>
    obtain ⟨⟨ps, h1, _⟩, h2⟩ := hk p (by simp)
    refine ⟨?_, fun c hc => ?_, ⟨_, _, h1⟩⟩
    · have := h.wp
      have h3 := len_cases p
      have h4 := wt_e (l := [p]) (e := p) (by simp)
      omega
    · obtain ⟨qs, h3, _⟩ := h2 c hc
      exact ⟨_, _, h3⟩
theorem ArgOk.val {x : Lcl} {p : Prt} {vs : List Val} (h : ArgOk x p vs) : vs.length < 4294967281 ∧ ∀ v ∈ vs, v.text.length < 4294967281 ∧ v.list.length < 4294967281 := by
  have h1 := h.wv
  have h2 := wt_vals vs
  have h3 := len_wts Val.av vs
  refine ⟨by omega, fun v hv => ?_⟩
  have h4 := wts_mem (List.mem_map_of_mem (f := Val.av) hv)
  have h5 := wt_val v
  have h6 := wt_strs v.list
  have h7 := len_wts AV.str v.list
  omega

theorem s3 (x : Lcl) (p : Prt) (vs : List Val) (h : ArgOk x p vs) : FSv prog 3 [x.av, p.av, .sl 5 (vs.map Val.av)] (.bool true) := by
  refine FSv_code T0_ok mo pl0 _ func3 (by decide) rfl _ rfl (by rfl) (by simp) _ rfl ?_
  simp only [f3]
  have hl := h.len
  have hbl := h.bel
  have htk : x.rest.take 11 = x.rest := List.take_of_length_le (by omega)
  obtain ⟨k, hk⟩ := h.pv
  have hpo := h.prt
  have hpb := hpo.bel
  have hv := h.val
  have hlc := h.lcl
  have w1 := h.w1
  have hwp := h.wp
  have hwv := h.wv
  simp -dsimp only [eWC_skip, eWC_exit, eWC_ret, eWC_seq, eWC_block, eWC_cond, eWC_regF, eWC_regT, eWC_loop, eWOps_nil, eWOps_cons, eWOp_eq, eWPl_done, eWPl_z, eWPl_q, eWPl_a, eAW_eq, ↓AW, evalQ, guardG, SV.noU, SV.un, beq_iff_eq, quiet, evO, ofConst, St.put, SV.of, SV.no, binQ, unQ, arQ, loadQ, sliceQ, partsQ, fillAV, fillOk, isU8, byteOf, shapeOk, isAggD, isAggV, cell1, cellsOf, isSeq, pOk, capsOk, pureCall, pickB_or, pickB_and, belowV, belowL, elemsOf, Proms, Prom, svLe, tagLe, isLoad, lk, thenQ, blockQ, retV, retQ, resL, resQ, oneRes, if_false, if_true, reduceIte, forall_const, true_implies, false_implies, implies_true, Nat.reduceEqDiff, Nat.reduceAdd, Nat.reduceSub, Nat.reduceLT, Nat.reduceLeDiff, Nat.reduceMul, Nat.reduceBEq, Nat.reduceBNe, Int.reduceToNat, Int.reduceLT, Int.reduceLE, Int.reduceEq, Int.reduceNeg, Int.reduceAdd, Int.reduceSub, reduceCtorEq, List.filter_nil, List.filter_cons, List.find?_cons, List.find?_nil, ne_eq, beq_self_eq_true, eq_self, imp_self, wz, T0_3, T0_4, T0_5, T0_9, T0_22, T0_28, T0_30, T0_31, T0_32, T0_34, T0_35, T0_38, T0_44, T0_46, T0_47, T0_55, T0_64, T0_66, T0_107, T0_133, T0_137, T0_138, T0_140, T0_141, T0_307, S0, Lcl.av, Prt.av]
  refine callG_v _ s22 (by simp) (by simp [belowL]) (by simp [belowV]) ?_
  simp -dsimp only [eWC_skip, eWC_exit, eWC_ret, eWC_seq, eWC_block, eWC_cond, eWC_regF, eWC_regT, eWC_loop, eWOps_nil, eWOps_cons, eWOp_eq, eWPl_done, eWPl_z, eWPl_q, eWPl_a, eAW_eq, ↓AW, evalQ, guardG, SV.noU, SV.un, beq_iff_eq, quiet, evO, ofConst, St.put, SV.of, SV.no, binQ, unQ, arQ, loadQ, sliceQ, partsQ, fillAV, fillOk, isU8, byteOf, shapeOk, isAggD, isAggV, cell1, cellsOf, isSeq, pOk, capsOk, pureCall, pickB_or, pickB_and, belowV, belowL, elemsOf, Proms, Prom, svLe, tagLe, isLoad, lk, thenQ, blockQ, retV, retQ, resL, resQ, oneRes, if_false, if_true, reduceIte, forall_const, true_implies, false_implies, implies_true, Nat.reduceEqDiff, Nat.reduceAdd, Nat.reduceSub, Nat.reduceLT, Nat.reduceLeDiff, Nat.reduceMul, Nat.reduceBEq, Nat.reduceBNe, Int.reduceToNat, Int.reduceLT, Int.reduceLE, Int.reduceEq, Int.reduceNeg, Int.reduceAdd, Int.reduceSub, reduceCtorEq, List.filter_nil, List.filter_cons, List.find?_cons, List.find?_nil, ne_eq, beq_self_eq_true, eq_self, imp_self, wz, T0_3, T0_4, T0_5, T0_9, T0_22, T0_28, T0_30, T0_31, T0_32, T0_34, T0_35, T0_38, T0_44, T0_46, T0_47, T0_55, T0_64, T0_66, T0_107, T0_133, T0_137, T0_138, T0_140, T0_141, T0_307]
  refine ⟨by omega, ?_⟩
  rw [htk]
  refine callG_p _ (s23 x p vs k (by omega) (by omega) hl hbl hk (by omega) (by omega)) (by simp) (by simp [belowL, belowV, rulesAV, hbl, hpb]) isBool_below ?_
  rintro v ⟨b, rfl⟩
  simp -dsimp only [eWC_skip, eWC_exit, eWC_ret, eWC_seq, eWC_block, eWC_cond, eWC_regF, eWC_regT, eWC_loop, eWOps_nil, eWOps_cons, eWOp_eq, eWPl_done, eWPl_z, eWPl_q, eWPl_a, eAW_eq, ↓AW, evalQ, guardG, SV.noU, SV.un, beq_iff_eq, quiet, evO, ofConst, St.put, SV.of, SV.no, binQ, unQ, arQ, loadQ, sliceQ, partsQ, fillAV, fillOk, isU8, byteOf, shapeOk, isAggD, isAggV, cell1, cellsOf, isSeq, pOk, capsOk, pureCall, pickB_or, pickB_and, belowV, belowL, elemsOf, Proms, Prom, svLe, tagLe, isLoad, lk, thenQ, blockQ, retV, retQ, resL, resQ, oneRes, if_false, if_true, reduceIte, forall_const, true_implies, false_implies, implies_true, Nat.reduceEqDiff, Nat.reduceAdd, Nat.reduceSub, Nat.reduceLT, Nat.reduceLeDiff, Nat.reduceMul, Nat.reduceBEq, Nat.reduceBNe, Int.reduceToNat, Int.reduceLT, Int.reduceLE, Int.reduceEq, Int.reduceNeg, Int.reduceAdd, Int.reduceSub, reduceCtorEq, List.filter_nil, List.filter_cons, List.find?_cons, List.find?_nil, ne_eq, beq_self_eq_true, eq_self, imp_self, wz, T0_3, T0_4, T0_5, T0_9, T0_22, T0_28, T0_30, T0_31, T0_32, T0_34, T0_35, T0_38, T0_44, T0_46, T0_47, T0_55, T0_64, T0_66, T0_107, T0_133, T0_137, T0_138, T0_140, T0_141, T0_307]
  refine ⟨fun _ => by simp only [avLe], fun _ => ⟨by omega, ?_⟩⟩
  rw [htk]
  refine callG_v _ (s24 x p vs hlc hpo (by omega) (fun v hv' => (hv.2 v hv').1) (fun v hv' => by have := (hv.2 v hv').2; omega)) (by simp) (by simp [belowL, belowV, rulesAV, hbl, hpb]) (by simp [belowV, belowL]) ?_
  simp -dsimp only [eWC_skip, eWC_exit, eWC_ret, eWC_seq, eWC_block, eWC_cond, eWC_regF, eWC_regT, eWC_loop, eWOps_nil, eWOps_cons, eWOp_eq, eWPl_done, eWPl_z, eWPl_q, eWPl_a, eAW_eq, ↓AW, evalQ, guardG, SV.noU, SV.un, beq_iff_eq, quiet, evO, ofConst, St.put, SV.of, SV.no, binQ, unQ, arQ, loadQ, sliceQ, partsQ, fillAV, fillOk, isU8, byteOf, shapeOk, isAggD, isAggV, cell1, cellsOf, isSeq, pOk, capsOk, pureCall, pickB_or, pickB_and, belowV, belowL, elemsOf, Proms, Prom, svLe, tagLe, isLoad, lk, thenQ, blockQ, retV, retQ, resL, resQ, oneRes, if_false, if_true, reduceIte, forall_const, true_implies, false_implies, implies_true, Nat.reduceEqDiff, Nat.reduceAdd, Nat.reduceSub, Nat.reduceLT, Nat.reduceLeDiff, Nat.reduceMul, Nat.reduceBEq, Nat.reduceBNe, Int.reduceToNat, Int.reduceLT, Int.reduceLE, Int.reduceEq, Int.reduceNeg, Int.reduceAdd, Int.reduceSub, reduceCtorEq, List.filter_nil, List.filter_cons, List.find?_cons, List.find?_nil, ne_eq, beq_self_eq_true, eq_self, imp_self, wz, T0_3, T0_4, T0_5, T0_9, T0_22, T0_28, T0_30, T0_31, T0_32, T0_34, T0_35, T0_38, T0_44, T0_46, T0_47, T0_55, T0_64, T0_66, T0_107, T0_133, T0_137, T0_138, T0_140, T0_141, T0_307]
  refine ⟨by omega, ?_⟩
  rw [htk]
  refine callG_v _ (s25 x p vs hlc hpo ⟨by omega, fun v hv' => by have := (hv.2 v hv').1; omega⟩) (by simp) (by simp [belowL, belowV, rulesAV, hbl, hpb]) (by simp [belowV, belowL]) ?_
  simp -dsimp only [eWC_skip, eWC_exit, eWC_ret, eWC_seq, eWC_block, eWC_cond, eWC_regF, eWC_regT, eWC_loop, eWOps_nil, eWOps_cons, eWOp_eq, eWPl_done, eWPl_z, eWPl_q, eWPl_a, eAW_eq, ↓AW, evalQ, guardG, SV.noU, SV.un, beq_iff_eq, quiet, evO, ofConst, St.put, SV.of, SV.no, binQ, unQ, arQ, loadQ, sliceQ, partsQ, fillAV, fillOk, isU8, byteOf, shapeOk, isAggD, isAggV, cell1, cellsOf, isSeq, pOk, capsOk, pureCall, pickB_or, pickB_and, belowV, belowL, elemsOf, Proms, Prom, svLe, tagLe, isLoad, lk, thenQ, blockQ, retV, retQ, resL, resQ, oneRes, if_false, if_true, reduceIte, forall_const, true_implies, false_implies, implies_true, Nat.reduceEqDiff, Nat.reduceAdd, Nat.reduceSub, Nat.reduceLT, Nat.reduceLeDiff, Nat.reduceMul, Nat.reduceBEq, Nat.reduceBNe, Int.reduceToNat, Int.reduceLT, Int.reduceLE, Int.reduceEq, Int.reduceNeg, Int.reduceAdd, Int.reduceSub, reduceCtorEq, List.filter_nil, List.filter_cons, List.find?_cons, List.find?_nil, ne_eq, beq_self_eq_true, eq_self, imp_self, wz, T0_3, T0_4, T0_5, T0_9, T0_22, T0_28, T0_30, T0_31, T0_32, T0_34, T0_35, T0_38, T0_44, T0_46, T0_47, T0_55, T0_64, T0_66, T0_107, T0_133, T0_137, T0_138, T0_140, T0_141, T0_307]
  simp [avLe]
end Go.Proofs.Tryz

namespace Go.Proofs.Tryz
open Go Go.Abs
set_option linter.unusedSimpArgs false
set_option maxRecDepth 100000
set_option maxHeartbeats 2000000

/-! ### What the arguments of these types are -/
theorem shp0 {t : Nat} {l : List AV} {p : Prop} (h : Shp T0 0 t l) : p := by simp only [Shp] at h
theorem shp_int {k : Nat} {l : List AV} (h : Shp T0 k 3 l) : ∃ n, l = [.int .i64 n] := by
  cases k with
  | zero => exact shp0 h
  | succ k => simp only [Shp, T0_3, Option.map_some] at h; obtain ⟨n, h, _⟩ := h; exact ⟨n, h⟩
theorem shp_bool {k : Nat} {l : List AV} (h : Shp T0 k 4 l) : ∃ b, l = [.bool b] := by
  cases k with
  | zero => exact shp0 h
  | succ k => simp only [Shp, T0_4, Option.map_some] at h; exact h
theorem shp_str {k : Nat} {l : List AV} (h : Shp T0 k 9 l) : ∃ s, l = [.str s] := by
  cases k with
  | zero => exact shp0 h
  | succ k => simp only [Shp, T0_9, Option.map_some] at h; obtain ⟨s, h, _⟩ := h; exact ⟨s, h⟩
theorem list_of' {α : Type} {f : α → AV} (g : List AV → AV) (ls : List (List AV)) (h : ∀ x ∈ ls, ∃ r, g x = f r) : ∃ rs : List α, ls.map g = rs.map f := by
  obtain ⟨rs, h1, _⟩ := list_of (p := fun _ => True) g ls fun x hx => by obtain ⟨r, hr⟩ := h x hx; exact ⟨r, hr, trivial⟩
  exact ⟨rs, h1⟩
theorem shp_strs {k : Nat} {l : List AV} (h : Shp T0 k 28 l) : ∃ ss : List Str, l = [strs ss] := by
  cases k with
  | zero => exact shp0 h
  | succ k =>
    simp only [Shp, T0_28, Option.map_some] at h
    obtain ⟨ls, rfl, _, h⟩ := h
    obtain ⟨rs, hr⟩ := list_of' (f := AV.str) (boxE T0 9) ls fun x hx => by obtain ⟨s, rfl⟩ := shp_str (h x hx); exact ⟨s, rfl⟩
    exact ⟨rs, by rw [hr]; rfl⟩
theorem shp_spn {k : Nat} {l : List AV} (h : Shp T0 k 137 l) : ∃ s : Spn, boxE T0 137 l = s.av := by
  cases k with
  | zero => exact shp0 h
  | succ k =>
    simp only [Shp, T0_137, Option.map_some, ShpF] at h
    obtain ⟨l1, r1, rfl, h1, l2, r2, rfl, h2, rfl⟩ := h
    obtain ⟨a, rfl⟩ := shp_int h1
    obtain ⟨b, rfl⟩ := shp_int h2
    exact ⟨⟨a, b⟩, rfl⟩
theorem shp_spns {k : Nat} {l : List AV} (h : Shp T0 k 138 l) : ∃ ss : List Spn, l = [.sl 2 (ss.map Spn.av)] := by
  cases k with
  | zero => exact shp0 h
  | succ k =>
    simp only [Shp, T0_138, Option.map_some] at h
    obtain ⟨ls, rfl, _, h⟩ := h
    obtain ⟨rs, hr⟩ := list_of' (f := Spn.av) (boxE T0 137) ls fun x hx => shp_spn (h x hx)
    exact ⟨rs, by rw [hr]; rfl⟩
theorem shp_rln {k : Nat} {l : List AV} (h : Shp T0 k 140 l) : ∃ r : Rln, boxE T0 140 l = r.av := by
  cases k with
  | zero => exact shp0 h
  | succ k =>
    simp only [Shp, T0_140, Option.map_some, ShpF] at h
    obtain ⟨l1, r1, rfl, h1, l2, r2, rfl, h2, l3, r3, rfl, h3, l4, r4, rfl, h4, rfl⟩ := h
    obtain ⟨a, rfl⟩ := shp_int h1
    obtain ⟨b, rfl⟩ := shp_int h2
    obtain ⟨c, rfl⟩ := shp_bool h3
    obtain ⟨d, rfl⟩ := shp_spns h4
    exact ⟨⟨a, b, c, d⟩, rfl⟩
theorem shp_list {k : Nat} {l : List AV} (h : Shp T0 k 141 l) : ∃ rs : List Rln, l = [listAV rs] := by
  cases k with
  | zero => exact shp0 h
  | succ k =>
    simp only [Shp, T0_141, Option.map_some] at h
    obtain ⟨ls, rfl, _, h⟩ := h
    obtain ⟨rs, hr⟩ := list_of' (f := Rln.av) (boxE T0 140) ls fun x hx => shp_rln (h x hx)
    exact ⟨rs, by rw [hr]; rfl⟩
theorem shp_cond {k : Nat} {l : List AV} (h : Shp T0 k 64 l) : ∃ c : Cnd, l = [condAV c] := by
  cases k with
  | zero => exact shp0 h
  | succ k =>
    simp only [Shp, T0_64, Option.map_some] at h
    obtain ⟨ls, rfl, _, h⟩ := h
    obtain ⟨rs, hr⟩ := list_of' (f := listAV) (boxE T0 141) ls fun x hx => by obtain ⟨s, rfl⟩ := shp_list (h x hx); exact ⟨s, rfl⟩
    exact ⟨rs, by rw [hr]; rfl⟩
theorem shp_rul {k : Nat} {l : List AV} (h : Shp T0 k 66 l) : ∃ r : Rul, boxE T0 66 l = r.av := by
  cases k with
  | zero => exact shp0 h
  | succ k =>
    simp only [Shp, T0_66, Option.map_some, ShpF] at h
    obtain ⟨l1, r1, rfl, h1, l2, r2, rfl, h2, rfl⟩ := h
    obtain ⟨a, rfl⟩ := shp_str h1
    obtain ⟨b, rfl⟩ := shp_cond h2
    exact ⟨⟨a, b⟩, rfl⟩
theorem shp_rules {k : Nat} {l : List AV} (h : Shp T0 k 22 l) : ∃ rs : List Rul, l = [rulesAV rs] := by
  cases k with
  | zero => exact shp0 h
  | succ k =>
    simp only [Shp, T0_22, Option.map_some] at h
    obtain ⟨ls, rfl, _, h⟩ := h
    obtain ⟨rs, hr⟩ := list_of' (f := Rul.av) (boxE T0 66) ls fun x hx => shp_rul (h x hx)
    exact ⟨rs, by rw [hr]; rfl⟩
theorem shp_val {k : Nat} {l : List AV} (h : Shp T0 k 46 l) : ∃ v : Val, boxE T0 46 l = v.av := by
  cases k with
  | zero => exact shp0 h
  | succ k =>
    simp only [Shp, T0_46, Option.map_some, ShpF] at h
    obtain ⟨l1, r1, rfl, h1, l2, r2, rfl, h2, l3, r3, rfl, h3, l4, r4, rfl, h4, l5, r5, rfl, h5, rfl⟩ := h
    obtain ⟨a, rfl⟩ := shp_str h1
    obtain ⟨b, rfl⟩ := shp_int h2
    obtain ⟨c, rfl⟩ := shp_str h3
    obtain ⟨d, rfl⟩ := shp_int h4
    obtain ⟨e, rfl⟩ := shp_strs h5
    exact ⟨⟨a, b, c, d, e⟩, rfl⟩
theorem shp_vals {k : Nat} {l : List AV} (h : Shp T0 k 35 l) : ∃ vs : List Val, l = [.sl 5 (vs.map Val.av)] := by
  cases k with
  | zero => exact shp0 h
  | succ k =>
    simp only [Shp, T0_35, Option.map_some] at h
    obtain ⟨ls, rfl, _, h⟩ := h
    obtain ⟨rs, hr⟩ := list_of' (f := Val.av) (boxE T0 46) ls fun x hx => shp_val (h x hx)
    exact ⟨rs, by rw [hr]; rfl⟩

theorem PV_succ : ∀ (k : Nat) (l : List Prt), PV k l → PV (k + 1) l
  | 0, _, h => h.elim
  | k + 1, l, h => fun e he => by
    obtain ⟨⟨ps, h1, h2⟩, h3⟩ := h e he
    exact ⟨⟨ps, h1, PV_succ k ps h2⟩, fun c hc => by obtain ⟨qs, h4, h5⟩ := h3 c hc; exact ⟨qs, h4, PV_succ k qs h5⟩⟩
theorem PV_le {j k : Nat} (h : j ≤ k) {l : List Prt} (hp : PV j l) : PV k l := by
  induction h with
  | refl => exact hp
  | step _ ih => exact PV_succ _ _ ih
/-- A part, whose parts and cases are known. -/
theorem shp_prt1 {k m : Nat} {l : List AV} (h : Shp T0 k 34 l) (hk : k ≤ m) (ih : ∀ j, j < k → ∀ l, Shp T0 j 32 l → ∃ ps, l = [partsAV ps] ∧ PV j ps) :
    ∃ p : Prt, boxE T0 34 l = p.av ∧ (∃ ps, p.parts = partsAV ps ∧ PV m ps) ∧ ∀ c ∈ p.cases, ∃ ps, c.2 = partsAV ps ∧ PV m ps := by
  cases k with
  | zero => exact shp0 h
  | succ k =>
    simp only [Shp, T0_34, Option.map_some, ShpF] at h
    obtain ⟨l1, r1, rfl, h1, l2, r2, rfl, h2, l3, r3, rfl, h3, l4, r4, rfl, h4, l5, r5, rfl, h5, l6, r6, rfl, h6, rfl⟩ := h
    obtain ⟨a, rfl⟩ := shp_int h1
    obtain ⟨b, rfl⟩ := shp_str h2
    obtain ⟨c, rfl⟩ := shp_str h3
    obtain ⟨d, rfl⟩ := shp_str h4
    obtain ⟨ps, rfl, hps⟩ := ih k (by omega) _ h6
    cases k with
    | zero => exact shp0 h5
    | succ k =>
      simp only [Shp, T0_31, Option.map_some] at h5
      obtain ⟨ls, rfl, _, h5⟩ := h5
      obtain ⟨cs, hcs, _, hcp⟩ := list_of (f := caseAV) (p := fun c => ∃ ps, c.2 = partsAV ps ∧ PV m ps) (boxE T0 44) ls fun x hx => by
        have h7 := h5 x hx
        cases k with
        | zero => exact shp0 h7
        | succ k =>
          simp only [Shp, T0_44, Option.map_some, ShpF] at h7
          obtain ⟨l1, r1, rfl, g1, l2, r2, rfl, g2, rfl⟩ := h7
          obtain ⟨key, rfl⟩ := shp_str g1
          obtain ⟨qs, rfl, hqs⟩ := ih k (by omega) _ g2
          exact ⟨(key, partsAV qs), rfl, qs, rfl, PV_le (by omega) hqs⟩
      exact ⟨⟨a, b, c, d, cs, partsAV ps⟩, by rw [hcs]; rfl, ⟨ps, rfl, PV_le (by omega) hps⟩, hcp⟩
theorem shp_parts : ∀ (k : Nat) (l : List AV), Shp T0 k 32 l → ∃ ps, l = [partsAV ps] ∧ PV k ps := by
  intro k
  induction k using Nat.strongRecOn with
  | ind k ih =>
    intro l h
    cases k with
    | zero => exact shp0 h
    | succ k =>
      simp only [Shp, T0_32, Option.map_some] at h
      obtain ⟨ls, rfl, _, h⟩ := h
      obtain ⟨ps, hps, _, hpp⟩ := list_of (f := Prt.av) (p := fun p => (∃ ps, p.parts = partsAV ps ∧ PV k ps) ∧ ∀ c ∈ p.cases, ∃ ps, c.2 = partsAV ps ∧ PV k ps) (boxE T0 34) ls fun x hx =>
        shp_prt1 (h x hx) (Nat.le_refl k) fun j hj l hl => ih j (by omega) l hl
      exact ⟨ps, by rw [hps]; rfl, hpp⟩
theorem shp_prt {k : Nat} {l : List AV} (h : Shp T0 k 34 l) : ∃ p : Prt, boxE T0 34 l = p.av ∧ ∃ k, PV k [p] := by
  obtain ⟨p, h1, h2, h3⟩ := shp_prt1 h (Nat.le_refl k) fun j _ l hl => shp_parts j l hl
  exact ⟨p, h1, k + 1, fun e he => by rw [List.mem_singleton.1 he]; exact ⟨h2, h3⟩⟩

theorem shp_ev {k : Nat} {l : List AV} (h : Shp T0 k 462 l) : belowL 0 l ∧ l.length = 5 := by
  cases k with
  | zero => exact shp0 h
  | succ k =>
    simp only [Shp, T0_462, Option.map_some, ShpF] at h
    obtain ⟨l1, r1, rfl, h1, l2, r2, rfl, h2, l3, r3, rfl, h3, l4, r4, rfl, h4, l5, r5, rfl, h5, rfl⟩ := h
    obtain ⟨a, rfl⟩ := shp_str h1
    obtain ⟨b, rfl⟩ := shp_str h2
    obtain ⟨c, rfl⟩ := shp_str h3
    obtain ⟨d, rfl⟩ := shp_str h4
    obtain ⟨e, rfl⟩ := shp_str h5
    simp [belowL, belowV]
/-- A slice, whatever it holds. -/
theorem shp_any {k t e z : Nat} {b : Nat} {v : AV} {l : List AV} (ht : T0 t = some ⟨.slice e, z, b, v⟩) (h : Shp T0 k t l) : ∃ z es, l = [.sl z es] := by
  cases k with
  | zero => exact shp0 h
  | succ k =>
    simp only [Shp, ht, Option.map_some] at h
    obtain ⟨ls, rfl, _, h⟩ := h
    exact ⟨_, _, rfl⟩
theorem shp_fmt {k : Nat} {l : List AV} (h : Shp T0 k 24 l) : belowL 0 l ∧ l.length = 6 := by
  cases k with
  | zero => exact shp0 h
  | succ k =>
    simp only [Shp, T0_24, Option.map_some, ShpF] at h
    obtain ⟨l1, r1, rfl, h1, l2, r2, rfl, h2, l3, r3, rfl, h3, l4, r4, rfl, h4, l5, r5, rfl, h5, l6, r6, rfl, h6, rfl⟩ := h
    obtain ⟨a, rfl⟩ := shp_str h1
    obtain ⟨b, rfl⟩ := shp_str h2
    obtain ⟨c, rfl⟩ := shp_str h3
    obtain ⟨d, rfl⟩ := shp_str h4
    obtain ⟨e, rfl⟩ := shp_int h5
    obtain ⟨f, rfl⟩ := shp_int h6
    simp [belowL, belowV]
theorem shp_lcl {k : Nat} {l : List AV} (h : Shp T0 k 30 l) : ∃ x : Lcl, boxE T0 30 l = x.av ∧ x.rest.length = 11 ∧ belowL 0 x.rest := by
  cases k with
  | zero => exact shp0 h
  | succ k =>
    simp only [Shp, T0_30, Option.map_some, ShpF] at h
    obtain ⟨l1, r1, rfl, h1, l2, r2, rfl, h2, l3, r3, rfl, h3, l4, r4, rfl, h4, l5, r5, rfl, h5, l6, r6, rfl, h6, l7, r7, rfl, h7, l8, r8, rfl, h8, l9, r9, rfl, h9, l10, r10, rfl, h10, l11, r11, rfl, h11, rfl⟩ := h
    obtain ⟨a, rfl⟩ := shp_str h1
    obtain ⟨b, rfl⟩ := shp_str h2
    obtain ⟨c, rfl⟩ := shp_str h3
    obtain ⟨d, rfl⟩ := shp_rules h4
    obtain ⟨e, rfl⟩ := shp_rules h5
    obtain ⟨h6, h6l⟩ := shp_fmt h6
    obtain ⟨_, _, rfl⟩ := shp_any T0_25 h7
    obtain ⟨_, _, rfl⟩ := shp_any T0_26 h8
    obtain ⟨_, _, rfl⟩ := shp_any T0_27 h9
    obtain ⟨_, _, rfl⟩ := shp_any T0_28 h10
    obtain ⟨_, _, rfl⟩ := shp_any T0_28 h11
    refine ⟨⟨a, b, c, d, e, _⟩, rfl, ?_, ?_⟩
    · simp [h6l]
    · refine belowL_append h6 ?_
      simp [belowL, belowV]
theorem closed_S1 : ∀ t ∈ [3, 4, 9, 22, 24, 25, 26, 27, 28, 30, 31, 32, 34, 35, 44, 46, 64, 66, 137, 138, 140, 141, 462, 464, 466], closedAt T0 [3, 4, 9, 22, 24, 25, 26, 27, 28, 30, 31, 32, 34, 35, 44, 46, 64, 66, 137, 138, 140, 141, 462, 464, 466] t = true := by decide
end Go.Proofs.Tryz

namespace Go.Proofs.Tryz
open Go Go.Abs Go.RowKit Go.Shelf
set_option linter.unusedSimpArgs false
set_option maxRecDepth 100000
set_option maxHeartbeats 4000000

theorem Tryz.lays217 : Go.Proofs.Lays.n217 Tryz.prog Tryz.lays219_ren := {
  mixed := Tryz.lays219.mixed
  f217 := Tryz.lays219.f217
  f266 := Tryz.lays219.f266
  t3 := Tryz.lays219.t3
  a3 := Tryz.lays219.a3
  z3 := Tryz.lays219.z3
  v3 := Tryz.lays219.v3
  t5 := Tryz.lays219.t5
  a5 := Tryz.lays219.a5
  z5 := Tryz.lays219.z5
  v5 := Tryz.lays219.v5
  t9 := Tryz.lays219.t9
  a9 := Tryz.lays219.a9
  z9 := Tryz.lays219.z9
  v9 := Tryz.lays219.v9 }

theorem s363 (s : Str) (c : Int) : FSv prog 363 [.str s, .int .u8 c] (.int .i64 (Lib.indexByte s c.toNat.toUInt8)) :=
  FSv_bridge0 (entr_of func363 (by decide) rfl) fun w M vals h1 h2 => by
    obtain ⟨v1, r, rfl, a1, h2⟩ := reps_cons h2
    obtain ⟨v2, r2, rfl, a2, h3⟩ := reps_cons h2
    obtain rfl := reps_nil h3
    simp only [Rep] at a1 a2; subst a1; subst a2
    have hc := Any.stringslite_IndexByte Tryz.lays217 ⟨s.toArray⟩ c w
    change Calls prog 363 _ _ _ at hc
    refine hc.mono fun e w' ⟨he, hw⟩ => ⟨_, he, by rw [hw]; exact Below.refl _ _, fun M' => ?_⟩
    simp only [Rep]
theorem s326 (s : Str) (c : Int) : FSv prog 326 [.str s, .int .u8 c] (.int .i64 (Lib.indexByte s c.toNat.toUInt8)) := by
  refine FSv_code T0_ok mo pl0 _ func326 (by decide) rfl _ rfl (by rfl) (by simp) _ rfl ?_
  simp only [f326]
  simp -dsimp only [eWC_skip, eWC_exit, eWC_ret, eWC_seq, eWC_block, eWC_cond, eWC_regF, eWC_regT, eWC_loop, eWOps_nil, eWOps_cons, eWOp_eq, eWPl_done, eWPl_z, eWPl_q, eWPl_a, eAW_eq, ↓AW, evalQ, guardG, SV.noU, SV.un, beq_iff_eq, quiet, evO, ofConst, St.put, SV.of, SV.no, binQ, unQ, arQ, loadQ, sliceQ, partsQ, fillAV, fillOk, isU8, byteOf, shapeOk, isAggD, isAggV, cell1, cellsOf, isSeq, pOk, capsOk, pureCall, pickB_or, pickB_and, belowV, belowL, elemsOf, Proms, Prom, svLe, tagLe, isLoad, lk, thenQ, blockQ, retV, retQ, resL, resQ, oneRes, if_false, if_true, reduceIte, forall_const, true_implies, false_implies, implies_true, Nat.reduceEqDiff, Nat.reduceAdd, Nat.reduceSub, Nat.reduceLT, Nat.reduceLeDiff, Nat.reduceMul, Nat.reduceBEq, Nat.reduceBNe, Int.reduceToNat, Int.reduceLT, Int.reduceLE, Int.reduceEq, Int.reduceNeg, Int.reduceAdd, Int.reduceSub, reduceCtorEq, List.filter_nil, List.filter_cons, List.find?_cons, List.find?_nil, ne_eq, beq_self_eq_true, eq_self, imp_self, wz, T0_3, T0_4, T0_5, T0_9, T0_22, T0_28, T0_30, T0_31, T0_32, T0_34, T0_35, T0_38, T0_44, T0_46, T0_47, T0_55, T0_64, T0_66, T0_107, T0_133, T0_137, T0_138, T0_140, T0_141, T0_307, T0_286, T0_329, T0_331, T0_363, S0]
  refine callG_v _ (s363 s c) (by simp) (by simp [belowL, belowV]) (by simp [belowV]) ?_
  simp -dsimp only [eWC_skip, eWC_exit, eWC_ret, eWC_seq, eWC_block, eWC_cond, eWC_regF, eWC_regT, eWC_loop, eWOps_nil, eWOps_cons, eWOp_eq, eWPl_done, eWPl_z, eWPl_q, eWPl_a, eAW_eq, ↓AW, evalQ, guardG, SV.noU, SV.un, beq_iff_eq, quiet, evO, ofConst, St.put, SV.of, SV.no, binQ, unQ, arQ, loadQ, sliceQ, partsQ, fillAV, fillOk, isU8, byteOf, shapeOk, isAggD, isAggV, cell1, cellsOf, isSeq, pOk, capsOk, pureCall, pickB_or, pickB_and, belowV, belowL, elemsOf, Proms, Prom, svLe, tagLe, isLoad, lk, thenQ, blockQ, retV, retQ, resL, resQ, oneRes, if_false, if_true, reduceIte, forall_const, true_implies, false_implies, implies_true, Nat.reduceEqDiff, Nat.reduceAdd, Nat.reduceSub, Nat.reduceLT, Nat.reduceLeDiff, Nat.reduceMul, Nat.reduceBEq, Nat.reduceBNe, Int.reduceToNat, Int.reduceLT, Int.reduceLE, Int.reduceEq, Int.reduceNeg, Int.reduceAdd, Int.reduceSub, reduceCtorEq, List.filter_nil, List.filter_cons, List.find?_cons, List.find?_nil, ne_eq, beq_self_eq_true, eq_self, imp_self, wz, T0_3, T0_4, T0_5, T0_9, T0_22, T0_28, T0_30, T0_31, T0_32, T0_34, T0_35, T0_38, T0_44, T0_46, T0_47, T0_55, T0_64, T0_66, T0_107, T0_133, T0_137, T0_138, T0_140, T0_141, T0_307, T0_286, T0_329, T0_331, T0_363]
  simp only [avLe]
def preV (p s : Str) : Bool := decide ((p.length : Int) ≤ (s.length : Int)) && s.take p.length == p
theorem s305 (s p : Str) : FSv prog 305 [.str s, .str p] (.bool (preV p s)) := by
  refine FSv_code T0_ok mo pl0 _ func305 (by decide) rfl _ rfl (by rfl) (by simp) _ rfl ?_
  simp only [f305]
  simp -dsimp only [eWC_skip, eWC_exit, eWC_ret, eWC_seq, eWC_block, eWC_cond, eWC_regF, eWC_regT, eWC_loop, eWOps_nil, eWOps_cons, eWOp_eq, eWPl_done, eWPl_z, eWPl_q, eWPl_a, eAW_eq, ↓AW, evalQ, guardG, SV.noU, SV.un, beq_iff_eq, quiet, evO, ofConst, St.put, SV.of, SV.no, binQ, unQ, arQ, loadQ, sliceQ, partsQ, fillAV, fillOk, isU8, byteOf, shapeOk, isAggD, isAggV, cell1, cellsOf, isSeq, pOk, capsOk, pureCall, pickB_or, pickB_and, belowV, belowL, elemsOf, Proms, Prom, svLe, tagLe, isLoad, lk, thenQ, blockQ, retV, retQ, resL, resQ, oneRes, if_false, if_true, reduceIte, forall_const, true_implies, false_implies, implies_true, Nat.reduceEqDiff, Nat.reduceAdd, Nat.reduceSub, Nat.reduceLT, Nat.reduceLeDiff, Nat.reduceMul, Nat.reduceBEq, Nat.reduceBNe, Int.reduceToNat, Int.reduceLT, Int.reduceLE, Int.reduceEq, Int.reduceNeg, Int.reduceAdd, Int.reduceSub, reduceCtorEq, List.filter_nil, List.filter_cons, List.find?_cons, List.find?_nil, ne_eq, beq_self_eq_true, eq_self, imp_self, wz, T0_3, T0_4, T0_5, T0_9, T0_22, T0_28, T0_30, T0_31, T0_32, T0_34, T0_35, T0_38, T0_44, T0_46, T0_47, T0_55, T0_64, T0_66, T0_107, T0_133, T0_137, T0_138, T0_140, T0_141, T0_307, T0_286, T0_329, T0_331, T0_363, S0]
  exact ⟨fun h => ⟨h, h, by omega, h⟩, by simp only [avLe, preV, Int.toNat_natCast]⟩
theorem s249 (s p : Str) : FSv prog 249 [.str s, .str p] (.bool (preV p s)) := by
  refine FSv_code T0_ok mo pl0 _ func249 (by decide) rfl _ rfl (by rfl) (by simp) _ rfl ?_
  simp only [f249]
  simp -dsimp only [eWC_skip, eWC_exit, eWC_ret, eWC_seq, eWC_block, eWC_cond, eWC_regF, eWC_regT, eWC_loop, eWOps_nil, eWOps_cons, eWOp_eq, eWPl_done, eWPl_z, eWPl_q, eWPl_a, eAW_eq, ↓AW, evalQ, guardG, SV.noU, SV.un, beq_iff_eq, quiet, evO, ofConst, St.put, SV.of, SV.no, binQ, unQ, arQ, loadQ, sliceQ, partsQ, fillAV, fillOk, isU8, byteOf, shapeOk, isAggD, isAggV, cell1, cellsOf, isSeq, pOk, capsOk, pureCall, pickB_or, pickB_and, belowV, belowL, elemsOf, Proms, Prom, svLe, tagLe, isLoad, lk, thenQ, blockQ, retV, retQ, resL, resQ, oneRes, if_false, if_true, reduceIte, forall_const, true_implies, false_implies, implies_true, Nat.reduceEqDiff, Nat.reduceAdd, Nat.reduceSub, Nat.reduceLT, Nat.reduceLeDiff, Nat.reduceMul, Nat.reduceBEq, Nat.reduceBNe, Int.reduceToNat, Int.reduceLT, Int.reduceLE, Int.reduceEq, Int.reduceNeg, Int.reduceAdd, Int.reduceSub, reduceCtorEq, List.filter_nil, List.filter_cons, List.find?_cons, List.find?_nil, ne_eq, beq_self_eq_true, eq_self, imp_self, wz, T0_3, T0_4, T0_5, T0_9, T0_22, T0_28, T0_30, T0_31, T0_32, T0_34, T0_35, T0_38, T0_44, T0_46, T0_47, T0_55, T0_64, T0_66, T0_107, T0_133, T0_137, T0_138, T0_140, T0_141, T0_307, T0_286, T0_329, T0_331, T0_363, S0]
  refine callG_v _ (s305 s p) (by simp) (by simp [belowL, belowV]) (by simp [belowV]) ?_
  simp -dsimp only [eWC_skip, eWC_exit, eWC_ret, eWC_seq, eWC_block, eWC_cond, eWC_regF, eWC_regT, eWC_loop, eWOps_nil, eWOps_cons, eWOp_eq, eWPl_done, eWPl_z, eWPl_q, eWPl_a, eAW_eq, ↓AW, evalQ, guardG, SV.noU, SV.un, beq_iff_eq, quiet, evO, ofConst, St.put, SV.of, SV.no, binQ, unQ, arQ, loadQ, sliceQ, partsQ, fillAV, fillOk, isU8, byteOf, shapeOk, isAggD, isAggV, cell1, cellsOf, isSeq, pOk, capsOk, pureCall, pickB_or, pickB_and, belowV, belowL, elemsOf, Proms, Prom, svLe, tagLe, isLoad, lk, thenQ, blockQ, retV, retQ, resL, resQ, oneRes, if_false, if_true, reduceIte, forall_const, true_implies, false_implies, implies_true, Nat.reduceEqDiff, Nat.reduceAdd, Nat.reduceSub, Nat.reduceLT, Nat.reduceLeDiff, Nat.reduceMul, Nat.reduceBEq, Nat.reduceBNe, Int.reduceToNat, Int.reduceLT, Int.reduceLE, Int.reduceEq, Int.reduceNeg, Int.reduceAdd, Int.reduceSub, reduceCtorEq, List.filter_nil, List.filter_cons, List.find?_cons, List.find?_nil, ne_eq, beq_self_eq_true, eq_self, imp_self, wz, T0_3, T0_4, T0_5, T0_9, T0_22, T0_28, T0_30, T0_31, T0_32, T0_34, T0_35, T0_38, T0_44, T0_46, T0_47, T0_55, T0_64, T0_66, T0_107, T0_133, T0_137, T0_138, T0_140, T0_141, T0_307, T0_286, T0_329, T0_331, T0_363]
  simp only [avLe]
def letN (n : Int) : Bool := decide (97 ≤ n) && decide (n ≤ 122)
def digN (n : Int) : Bool := decide (48 ≤ n) && decide (n ≤ 57)
def isLet (b : UInt8) : Bool := letN b.toNat
def isDig (b : UInt8) : Bool := digN b.toNat
def isWs (b : UInt8) : Bool := decide (0 ≤ Lib.indexByte [32, 9, 10] b)
theorem s357 (n : Int) : FSv prog 357 [.int .u8 n] (.bool (letN n)) := by
  refine FSv_code T0_ok mo pl0 _ func357 (by decide) rfl _ rfl (by rfl) (by simp) _ rfl ?_
  simp only [f357]
  simp -dsimp only [eWC_skip, eWC_exit, eWC_ret, eWC_seq, eWC_block, eWC_cond, eWC_regF, eWC_regT, eWC_loop, eWOps_nil, eWOps_cons, eWOp_eq, eWPl_done, eWPl_z, eWPl_q, eWPl_a, eAW_eq, ↓AW, evalQ, guardG, SV.noU, SV.un, beq_iff_eq, quiet, evO, ofConst, St.put, SV.of, SV.no, binQ, unQ, arQ, loadQ, sliceQ, partsQ, fillAV, fillOk, isU8, byteOf, shapeOk, isAggD, isAggV, cell1, cellsOf, isSeq, pOk, capsOk, pureCall, pickB_or, pickB_and, belowV, belowL, elemsOf, Proms, Prom, svLe, tagLe, isLoad, lk, thenQ, blockQ, retV, retQ, resL, resQ, oneRes, if_false, if_true, reduceIte, forall_const, true_implies, false_implies, implies_true, Nat.reduceEqDiff, Nat.reduceAdd, Nat.reduceSub, Nat.reduceLT, Nat.reduceLeDiff, Nat.reduceMul, Nat.reduceBEq, Nat.reduceBNe, Int.reduceToNat, Int.reduceLT, Int.reduceLE, Int.reduceEq, Int.reduceNeg, Int.reduceAdd, Int.reduceSub, reduceCtorEq, List.filter_nil, List.filter_cons, List.find?_cons, List.find?_nil, ne_eq, beq_self_eq_true, eq_self, imp_self, wz, T0_3, T0_4, T0_5, T0_9, T0_22, T0_28, T0_30, T0_31, T0_32, T0_34, T0_35, T0_38, T0_44, T0_46, T0_47, T0_55, T0_64, T0_66, T0_107, T0_133, T0_137, T0_138, T0_140, T0_141, T0_307, T0_286, T0_329, T0_331, T0_363, S0]
  simp [avLe, letN]
theorem s359 (n : Int) : FSv prog 359 [.int .u8 n] (.bool (digN n)) := by
  refine FSv_code T0_ok mo pl0 _ func359 (by decide) rfl _ rfl (by rfl) (by simp) _ rfl ?_
  simp only [f359]
  simp -dsimp only [eWC_skip, eWC_exit, eWC_ret, eWC_seq, eWC_block, eWC_cond, eWC_regF, eWC_regT, eWC_loop, eWOps_nil, eWOps_cons, eWOp_eq, eWPl_done, eWPl_z, eWPl_q, eWPl_a, eAW_eq, ↓AW, evalQ, guardG, SV.noU, SV.un, beq_iff_eq, quiet, evO, ofConst, St.put, SV.of, SV.no, binQ, unQ, arQ, loadQ, sliceQ, partsQ, fillAV, fillOk, isU8, byteOf, shapeOk, isAggD, isAggV, cell1, cellsOf, isSeq, pOk, capsOk, pureCall, pickB_or, pickB_and, belowV, belowL, elemsOf, Proms, Prom, svLe, tagLe, isLoad, lk, thenQ, blockQ, retV, retQ, resL, resQ, oneRes, if_false, if_true, reduceIte, forall_const, true_implies, false_implies, implies_true, Nat.reduceEqDiff, Nat.reduceAdd, Nat.reduceSub, Nat.reduceLT, Nat.reduceLeDiff, Nat.reduceMul, Nat.reduceBEq, Nat.reduceBNe, Int.reduceToNat, Int.reduceLT, Int.reduceLE, Int.reduceEq, Int.reduceNeg, Int.reduceAdd, Int.reduceSub, reduceCtorEq, List.filter_nil, List.filter_cons, List.find?_cons, List.find?_nil, ne_eq, beq_self_eq_true, eq_self, imp_self, wz, T0_3, T0_4, T0_5, T0_9, T0_22, T0_28, T0_30, T0_31, T0_32, T0_34, T0_35, T0_38, T0_44, T0_46, T0_47, T0_55, T0_64, T0_66, T0_107, T0_133, T0_137, T0_138, T0_140, T0_141, T0_307, T0_286, T0_329, T0_331, T0_363, S0]
  simp [avLe, digN]

theorem tw_step (f : UInt8 → Bool) : ∀ (s : Str) (i : Nat), i ≤ (s.takeWhile f).length → (h : i < s.length) → (f (s.getD i 0) = true → i + 1 ≤ (s.takeWhile f).length) ∧ (f (s.getD i 0) = false → (s.takeWhile f).length = i)
  | [], i, _, h => by simp at h
  | c :: s, 0, _, _ => by
    cases hc : f c <;> simp [List.takeWhile_cons, hc]
  | c :: s, i + 1, hi, h => by
    cases hc : f c with
    | false => rw [List.takeWhile_cons, hc] at hi; simp at hi
    | true =>
      rw [List.takeWhile_cons, hc] at hi ⊢
      simp only [if_true, List.length_cons] at hi ⊢
      obtain ⟨h1, h2⟩ := tw_step f s i (by omega) (by simpa using h)
      simp only [List.getD_cons_succ]
      exact ⟨fun h => by have := h1 h; omega, fun h => by have := h2 h; omega⟩
theorem tw_take (f : UInt8 → Bool) : ∀ s : Str, s.take (s.takeWhile f).length = s.takeWhile f
  | [] => rfl
  | c :: s => by
    cases hc : f c with
    | false => simp [List.takeWhile_cons, hc]
    | true => simp [List.takeWhile_cons, hc, tw_take f s]
theorem tw_len (f : UInt8 → Bool) : ∀ s : Str, (s.takeWhile f).length ≤ s.length
  | [] => by simp
  | c :: s => by
    have := tw_len f s
    cases hc : f c <;> simp [List.takeWhile_cons, hc]
    omega

theorem s358 (s : Str) (hl : s.length < 1099511627776) (g : Nat) (f : UInt8 → Bool) (hg : ∀ b : UInt8, FSv prog g [.int .u8 (b.toNat : Int)] (.bool (f b))) : FSv prog 358 [.str s, .fn g []] (.str (s.takeWhile f)) := by
  refine FSv_code T0_ok mo pl0 _ func358 (by decide) rfl _ rfl (by rfl) (by simp) _ rfl ?_
  simp only [f358]
  have htl := tw_len f s
  simp -dsimp only [eWC_skip, eWC_exit, eWC_ret, eWC_seq, eWC_block, eWC_cond, eWC_regF, eWC_regT, eWC_loop, eWOps_nil, eWOps_cons, eWOp_eq, eWPl_done, eWPl_z, eWPl_q, eWPl_a, eAW_eq, ↓AW, evalQ, guardG, SV.noU, SV.un, beq_iff_eq, quiet, evO, ofConst, St.put, SV.of, SV.no, binQ, unQ, arQ, loadQ, sliceQ, partsQ, fillAV, fillOk, isU8, byteOf, shapeOk, isAggD, isAggV, cell1, cellsOf, isSeq, pOk, capsOk, pureCall, pickB_or, pickB_and, belowV, belowL, elemsOf, Proms, Prom, svLe, tagLe, isLoad, lk, thenQ, blockQ, retV, retQ, resL, resQ, oneRes, if_false, if_true, reduceIte, forall_const, true_implies, false_implies, implies_true, Nat.reduceEqDiff, Nat.reduceAdd, Nat.reduceSub, Nat.reduceLT, Nat.reduceLeDiff, Nat.reduceMul, Nat.reduceBEq, Nat.reduceBNe, Int.reduceToNat, Int.reduceLT, Int.reduceLE, Int.reduceEq, Int.reduceNeg, Int.reduceAdd, Int.reduceSub, reduceCtorEq, List.filter_nil, List.filter_cons, List.find?_cons, List.find?_nil, ne_eq, beq_self_eq_true, eq_self, imp_self, wz, T0_3, T0_4, T0_5, T0_9, T0_22, T0_28, T0_30, T0_31, T0_32, T0_34, T0_35, T0_38, T0_44, T0_46, T0_47, T0_55, T0_64, T0_66, T0_107, T0_133, T0_137, T0_138, T0_140, T0_141, T0_307, T0_286, T0_329, T0_331, T0_363, S0]
  refine T3_loopI (fun i => ⟨[(5, SV.of (.int .i64 (i : Nat))), (1, SV.of (.fn g [])), (0, SV.of (.str s))], 22, ⟨2, [], [], 0⟩, 0⟩) (fun i => i ≤ (s.takeWhile f).length) (fun i => s.length - i) 0 (by omega) (Le_lit ?_) (fun i hi => ?_)
  · simp [frLe, lk, SV.of, avLe]
  · refine LP_run T0_ok mo pl0 22 rfl (by rfl) ?_
    by_cases hlt : i < s.length
    · obtain ⟨h1, h2⟩ := tw_step f s i hi hlt
      have e1 : (((i : Nat) : Int)).toNat = i := Int.toNat_natCast i
      simp -dsimp only [eWC_skip, eWC_exit, eWC_ret, eWC_seq, eWC_block, eWC_cond, eWC_regF, eWC_regT, eWC_loop, eWOps_nil, eWOps_cons, eWOp_eq, eWPl_done, eWPl_z, eWPl_q, eWPl_a, eAW_eq, ↓AW, evalQ, guardG, SV.noU, SV.un, beq_iff_eq, quiet, evO, ofConst, St.put, SV.of, SV.no, binQ, unQ, arQ, loadQ, sliceQ, partsQ, fillAV, fillOk, isU8, byteOf, shapeOk, isAggD, isAggV, cell1, cellsOf, isSeq, pOk, capsOk, pureCall, pickB_or, pickB_and, belowV, belowL, elemsOf, Proms, Prom, svLe, tagLe, isLoad, lk, thenQ, blockQ, retV, retQ, resL, resQ, oneRes, if_false, if_true, reduceIte, forall_const, true_implies, false_implies, implies_true, Nat.reduceEqDiff, Nat.reduceAdd, Nat.reduceSub, Nat.reduceLT, Nat.reduceLeDiff, Nat.reduceMul, Nat.reduceBEq, Nat.reduceBNe, Int.reduceToNat, Int.reduceLT, Int.reduceLE, Int.reduceEq, Int.reduceNeg, Int.reduceAdd, Int.reduceSub, reduceCtorEq, List.filter_nil, List.filter_cons, List.find?_cons, List.find?_nil, ne_eq, beq_self_eq_true, eq_self, imp_self, wz, T0_3, T0_4, T0_5, T0_9, T0_22, T0_28, T0_30, T0_31, T0_32, T0_34, T0_35, T0_38, T0_44, T0_46, T0_47, T0_55, T0_64, T0_66, T0_107, T0_133, T0_137, T0_138, T0_140, T0_141, T0_307, T0_286, T0_329, T0_331, T0_363, dlt hlt]
      refine ⟨by omega, ?_⟩
      rw [e1]
      refine eGA_v (.bool (f (s.getD i 0))) (fun _ => ?_) ?_
      · simp -dsimp only [eWC_skip, eWC_exit, eWC_ret, eWC_seq, eWC_block, eWC_cond, eWC_regF, eWC_regT, eWC_loop, eWOps_nil, eWOps_cons, eWOp_eq, eWPl_done, eWPl_z, eWPl_q, eWPl_a, eAW_eq, ↓AW, evalQ, guardG, SV.noU, SV.un, beq_iff_eq, quiet, evO, ofConst, St.put, SV.of, SV.no, binQ, unQ, arQ, loadQ, sliceQ, partsQ, fillAV, fillOk, isU8, byteOf, shapeOk, isAggD, isAggV, cell1, cellsOf, isSeq, pOk, capsOk, pureCall, pickB_or, pickB_and, belowV, belowL, elemsOf, Proms, Prom, svLe, tagLe, isLoad, lk, thenQ, blockQ, retV, retQ, resL, resQ, oneRes, if_false, if_true, reduceIte, forall_const, true_implies, false_implies, implies_true, Nat.reduceEqDiff, Nat.reduceAdd, Nat.reduceSub, Nat.reduceLT, Nat.reduceLeDiff, Nat.reduceMul, Nat.reduceBEq, Nat.reduceBNe, Int.reduceToNat, Int.reduceLT, Int.reduceLE, Int.reduceEq, Int.reduceNeg, Int.reduceAdd, Int.reduceSub, reduceCtorEq, List.filter_nil, List.filter_cons, List.find?_cons, List.find?_nil, ne_eq, beq_self_eq_true, eq_self, imp_self, wz, T0_3, T0_4, T0_5, T0_9, T0_22, T0_28, T0_30, T0_31, T0_32, T0_34, T0_35, T0_38, T0_44, T0_46, T0_47, T0_55, T0_64, T0_66, T0_107, T0_133, T0_137, T0_138, T0_140, T0_141, T0_307, T0_286, T0_329, T0_331, T0_363]
        exact ⟨by simp, hg _⟩
      simp -dsimp only [eWC_skip, eWC_exit, eWC_ret, eWC_seq, eWC_block, eWC_cond, eWC_regF, eWC_regT, eWC_loop, eWOps_nil, eWOps_cons, eWOp_eq, eWPl_done, eWPl_z, eWPl_q, eWPl_a, eAW_eq, ↓AW, evalQ, guardG, SV.noU, SV.un, beq_iff_eq, quiet, evO, ofConst, St.put, SV.of, SV.no, binQ, unQ, arQ, loadQ, sliceQ, partsQ, fillAV, fillOk, isU8, byteOf, shapeOk, isAggD, isAggV, cell1, cellsOf, isSeq, pOk, capsOk, pureCall, pickB_or, pickB_and, belowV, belowL, elemsOf, Proms, Prom, svLe, tagLe, isLoad, lk, thenQ, blockQ, retV, retQ, resL, resQ, oneRes, if_false, if_true, reduceIte, forall_const, true_implies, false_implies, implies_true, Nat.reduceEqDiff, Nat.reduceAdd, Nat.reduceSub, Nat.reduceLT, Nat.reduceLeDiff, Nat.reduceMul, Nat.reduceBEq, Nat.reduceBNe, Int.reduceToNat, Int.reduceLT, Int.reduceLE, Int.reduceEq, Int.reduceNeg, Int.reduceAdd, Int.reduceSub, reduceCtorEq, List.filter_nil, List.filter_cons, List.find?_cons, List.find?_nil, ne_eq, beq_self_eq_true, eq_self, imp_self, wz, T0_3, T0_4, T0_5, T0_9, T0_22, T0_28, T0_30, T0_31, T0_32, T0_34, T0_35, T0_38, T0_44, T0_46, T0_47, T0_55, T0_64, T0_66, T0_107, T0_133, T0_137, T0_138, T0_140, T0_141, T0_307, T0_286, T0_329, T0_331, T0_363]
      refine ⟨fun h => ⟨by unfold I64; omega, i + 1, h1 h, by omega, Le_lit ?_⟩, fun h => ⟨⟨by omega, by omega⟩, ?_⟩⟩
      · simp [frLe, lk, SV.of, avLe]
      · rw [← tw_take f s, h2 h]
        simp only [avLe, e1, List.drop_zero]
    · have he : i = s.length := by omega
      have e1 : (s.takeWhile f).length = s.length := by omega
      subst he
      simp -dsimp only [eWC_skip, eWC_exit, eWC_ret, eWC_seq, eWC_block, eWC_cond, eWC_regF, eWC_regT, eWC_loop, eWOps_nil, eWOps_cons, eWOp_eq, eWPl_done, eWPl_z, eWPl_q, eWPl_a, eAW_eq, ↓AW, evalQ, guardG, SV.noU, SV.un, beq_iff_eq, quiet, evO, ofConst, St.put, SV.of, SV.no, binQ, unQ, arQ, loadQ, sliceQ, partsQ, fillAV, fillOk, isU8, byteOf, shapeOk, isAggD, isAggV, cell1, cellsOf, isSeq, pOk, capsOk, pureCall, pickB_or, pickB_and, belowV, belowL, elemsOf, Proms, Prom, svLe, tagLe, isLoad, lk, thenQ, blockQ, retV, retQ, resL, resQ, oneRes, if_false, if_true, reduceIte, forall_const, true_implies, false_implies, implies_true, Nat.reduceEqDiff, Nat.reduceAdd, Nat.reduceSub, Nat.reduceLT, Nat.reduceLeDiff, Nat.reduceMul, Nat.reduceBEq, Nat.reduceBNe, Int.reduceToNat, Int.reduceLT, Int.reduceLE, Int.reduceEq, Int.reduceNeg, Int.reduceAdd, Int.reduceSub, reduceCtorEq, List.filter_nil, List.filter_cons, List.find?_cons, List.find?_nil, ne_eq, beq_self_eq_true, eq_self, imp_self, wz, T0_3, T0_4, T0_5, T0_9, T0_22, T0_28, T0_30, T0_31, T0_32, T0_34, T0_35, T0_38, T0_44, T0_46, T0_47, T0_55, T0_64, T0_66, T0_107, T0_133, T0_137, T0_138, T0_140, T0_141, T0_307, T0_286, T0_329, T0_331, T0_363, dge (Nat.le_refl s.length)]
      refine eGA_v (.bool false) (fun h => h.elim) ?_
      simp -dsimp only [eWC_skip, eWC_exit, eWC_ret, eWC_seq, eWC_block, eWC_cond, eWC_regF, eWC_regT, eWC_loop, eWOps_nil, eWOps_cons, eWOp_eq, eWPl_done, eWPl_z, eWPl_q, eWPl_a, eAW_eq, ↓AW, evalQ, guardG, SV.noU, SV.un, beq_iff_eq, quiet, evO, ofConst, St.put, SV.of, SV.no, binQ, unQ, arQ, loadQ, sliceQ, partsQ, fillAV, fillOk, isU8, byteOf, shapeOk, isAggD, isAggV, cell1, cellsOf, isSeq, pOk, capsOk, pureCall, pickB_or, pickB_and, belowV, belowL, elemsOf, Proms, Prom, svLe, tagLe, isLoad, lk, thenQ, blockQ, retV, retQ, resL, resQ, oneRes, if_false, if_true, reduceIte, forall_const, true_implies, false_implies, implies_true, Nat.reduceEqDiff, Nat.reduceAdd, Nat.reduceSub, Nat.reduceLT, Nat.reduceLeDiff, Nat.reduceMul, Nat.reduceBEq, Nat.reduceBNe, Int.reduceToNat, Int.reduceLT, Int.reduceLE, Int.reduceEq, Int.reduceNeg, Int.reduceAdd, Int.reduceSub, reduceCtorEq, List.filter_nil, List.filter_cons, List.find?_cons, List.find?_nil, ne_eq, beq_self_eq_true, eq_self, imp_self, wz, T0_3, T0_4, T0_5, T0_9, T0_22, T0_28, T0_30, T0_31, T0_32, T0_34, T0_35, T0_38, T0_44, T0_46, T0_47, T0_55, T0_64, T0_66, T0_107, T0_133, T0_137, T0_138, T0_140, T0_141, T0_307, T0_286, T0_329, T0_331, T0_363]
      refine ⟨⟨by omega, by omega⟩, ?_⟩
      rw [← tw_take f s, e1]
      simp only [avLe, List.drop_zero, Int.toNat_natCast]

/-! ### The parser of conditions -/
structure Prs where
  txt : Str
  at_ : Nat
  n : Int
  err : Int
def Prs.box (p : Prs) : Box := .cells [.str p.txt, .int .i64 (p.at_ : Nat), .int .i64 p.n, .int .i64 p.err] []
structure Prs.Ok (p : Prs) : Prop where
  at_le : p.at_ ≤ p.txt.length
  len : p.txt.length < 4294967296
  lo : 0 ≤ p.n
  hi : p.n < 4294967296
def Prs.fail (p : Prs) (e : Int) : Prs := if p.err = 0 then ⟨p.txt, p.at_, p.n, e⟩ else p
theorem s279 (p : Prs) (e : Int) (R : List Box) : FSw prog 279 [.ptr 0 0, .int .i64 e] (p.box :: R) (.tup []) ((p.fail e).box :: R) := by
  refine FSw_code T0_ok mo pl0 _ func279 (by decide) rfl _ rfl (by rfl) (R.length + 1) (by simp) (by simp [belowV, belowL]) (by simp) _ rfl ?_
  simp only [f279]
  simp -dsimp only [eWC_skip, eWC_exit, eWC_ret, eWC_seq, eWC_block, eWC_cond, eWC_regF, eWC_regT, eWC_loop, eWOps_nil, eWOps_cons, eWOp_eq, eWPl_done, eWPl_z, eWPl_q, eWPl_a, eAW_eq, ↓AW, evalQ, guardG, SV.noU, SV.un, beq_iff_eq, quiet, evO, ofConst, St.put, SV.of, SV.no, binQ, unQ, arQ, loadQ, sliceQ, partsQ, fillAV, fillOk, isU8, byteOf, shapeOk, isAggD, isAggV, cell1, cellsOf, isSeq, pOk, capsOk, pureCall, pickB_or, pickB_and, belowV, belowL, elemsOf, Proms, Prom, svLe, tagLe, isLoad, lk, thenQ, blockQ, retV, retQ, resL, resQ, oneRes, if_false, if_true, reduceIte, forall_const, true_implies, false_implies, implies_true, Nat.reduceEqDiff, Nat.reduceAdd, Nat.reduceSub, Nat.reduceLT, Nat.reduceLeDiff, Nat.reduceMul, Nat.reduceBEq, Nat.reduceBNe, Int.reduceToNat, Int.reduceLT, Int.reduceLE, Int.reduceEq, Int.reduceNeg, Int.reduceAdd, Int.reduceSub, reduceCtorEq, List.filter_nil, List.filter_cons, List.find?_cons, List.find?_nil, ne_eq, beq_self_eq_true, eq_self, imp_self, wz, T0_3, T0_4, T0_5, T0_9, T0_22, T0_28, T0_30, T0_31, T0_32, T0_34, T0_35, T0_38, T0_44, T0_46, T0_47, T0_55, T0_64, T0_66, T0_107, T0_133, T0_137, T0_138, T0_140, T0_141, T0_307, T0_286, T0_329, T0_331, T0_363, S0, Prs.box, retW]
  refine ⟨fun h => ⟨by simp [avLe, avsLe], by simp [Prs.fail, h]⟩, fun h => ⟨by simp [avLe, avsLe], by simp [Prs.fail, h]⟩⟩
end Go.Proofs.Tryz

namespace Go.Proofs.Tryz
open Go Go.Abs Go.RowKit Go.Shelf
set_option linter.unusedSimpArgs false
set_option maxRecDepth 100000
set_option maxHeartbeats 4000000

def skipN (s : Str) : Nat := (s.takeWhile isWs).length
def Prs.skip (p : Prs) : Prs := ⟨p.txt, p.at_ + skipN (p.txt.drop p.at_), p.n, p.err⟩
theorem skip_step (s : Str) (a : Nat) (h : a < s.length) : (isWs (s.getD a 0) = true → skipN (s.drop a) = 1 + skipN (s.drop (a + 1))) ∧ (isWs (s.getD a 0) = false → skipN (s.drop a) = 0) := by
  have e : s.drop a = s.getD a 0 :: s.drop (a + 1) := by rw [List.drop_eq_getElem_cons h]; simp [List.getD, h]
  rw [e]
  unfold skipN
  constructor
  · intro hc; rw [List.takeWhile_cons, hc]; simp only [if_true, List.length_cons]; omega
  · intro hc; rw [List.takeWhile_cons, hc]; simp
theorem skip_ok {p : Prs} (h : p.Ok) : p.skip.Ok := by
  obtain ⟨h1, h2, h3, h4⟩ := h
  refine ⟨?_, h2, h3, h4⟩
  have := tw_len isWs (p.txt.drop p.at_)
  simp only [List.length_drop] at this
  simp only [Prs.skip, skipN]
  omega

theorem s278 (p : Prs) (hp : p.Ok) (R : List Box) : FSw prog 278 [.ptr 0 0] (p.box :: R) (.tup []) (p.skip.box :: R) := by
  refine FSw_code T0_ok mo pl278 _ func278 (by decide) rfl _ rfl (by rfl) (R.length + 1) (by simp) (by simp [belowV, belowL]) (by simp) _ rfl ?_
  simp only [f278]
  obtain ⟨k1, k2, k3, k4⟩ := hp
  simp -dsimp only [eWC_skip, eWC_exit, eWC_ret, eWC_seq, eWC_block, eWC_cond, eWC_regF, eWC_regT, eWC_loop, eWOps_nil, eWOps_cons, eWOp_eq, eWPl_done, eWPl_z, eWPl_q, eWPl_a, eAW_eq, ↓AW, evalQ, guardG, SV.noU, SV.un, beq_iff_eq, quiet, evO, ofConst, St.put, SV.of, SV.no, binQ, unQ, arQ, loadQ, sliceQ, partsQ, fillAV, fillOk, isU8, byteOf, shapeOk, isAggD, isAggV, cell1, cellsOf, isSeq, pOk, capsOk, pureCall, pickB_or, pickB_and, belowV, belowL, elemsOf, Proms, Prom, svLe, tagLe, isLoad, lk, thenQ, blockQ, retV, retQ, resL, resQ, oneRes, if_false, if_true, reduceIte, forall_const, true_implies, false_implies, implies_true, Nat.reduceEqDiff, Nat.reduceAdd, Nat.reduceSub, Nat.reduceLT, Nat.reduceLeDiff, Nat.reduceMul, Nat.reduceBEq, Nat.reduceBNe, Int.reduceToNat, Int.reduceLT, Int.reduceLE, Int.reduceEq, Int.reduceNeg, Int.reduceAdd, Int.reduceSub, reduceCtorEq, List.filter_nil, List.filter_cons, List.find?_cons, List.find?_nil, ne_eq, beq_self_eq_true, eq_self, imp_self, wz, T0_3, T0_4, T0_5, T0_9, T0_22, T0_28, T0_30, T0_31, T0_32, T0_34, T0_35, T0_38, T0_44, T0_46, T0_47, T0_55, T0_64, T0_66, T0_107, T0_133, T0_137, T0_138, T0_140, T0_141, T0_307, T0_286, T0_329, T0_331, T0_363, S0, Prs.box, retW]
  refine T3_loopI (fun (x : Nat × Nat) => ⟨[(0, SV.of (.ptr 0 0))], 32, ⟨1, [], .cells [.str p.txt, .int .i64 (x.1 : Nat), .int .i64 p.n, .int .i64 p.err] [] :: R, x.2⟩, R.length + 1⟩)
    (fun x => x.1 ≤ p.txt.length ∧ x.1 + skipN (p.txt.drop x.1) = p.at_ + skipN (p.txt.drop p.at_)) (fun x => p.txt.length - x.1) (p.at_, 0) ⟨k1, rfl⟩ (Le_lit ?_) (fun x hx => ?_)
  · simp [frLe, lk, SV.of, avLe]
  · obtain ⟨a, st⟩ := x
    obtain ⟨h1, h2⟩ := hx
    simp only at h1 h2
    refine LP_run T0_ok mo pl278 32 rfl (by rfl) ?_
    by_cases hlt : a < p.txt.length
    · obtain ⟨h3, h4⟩ := skip_step p.txt a hlt
      have e1 : (((a : Nat) : Int)).toNat = a := Int.toNat_natCast a
      have e2 : (((p.txt.getD a 0).toNat : Int)).toNat.toUInt8 = p.txt.getD a 0 := by simp
      simp -dsimp only [eWC_skip, eWC_exit, eWC_ret, eWC_seq, eWC_block, eWC_cond, eWC_regF, eWC_regT, eWC_loop, eWOps_nil, eWOps_cons, eWOp_eq, eWPl_done, eWPl_z, eWPl_q, eWPl_a, eAW_eq, ↓AW, evalQ, guardG, SV.noU, SV.un, beq_iff_eq, quiet, evO, ofConst, St.put, SV.of, SV.no, binQ, unQ, arQ, loadQ, sliceQ, partsQ, fillAV, fillOk, isU8, byteOf, shapeOk, isAggD, isAggV, cell1, cellsOf, isSeq, pOk, capsOk, pureCall, pickB_or, pickB_and, belowV, belowL, elemsOf, Proms, Prom, svLe, tagLe, isLoad, lk, thenQ, blockQ, retV, retQ, resL, resQ, oneRes, if_false, if_true, reduceIte, forall_const, true_implies, false_implies, implies_true, Nat.reduceEqDiff, Nat.reduceAdd, Nat.reduceSub, Nat.reduceLT, Nat.reduceLeDiff, Nat.reduceMul, Nat.reduceBEq, Nat.reduceBNe, Int.reduceToNat, Int.reduceLT, Int.reduceLE, Int.reduceEq, Int.reduceNeg, Int.reduceAdd, Int.reduceSub, reduceCtorEq, List.filter_nil, List.filter_cons, List.find?_cons, List.find?_nil, ne_eq, beq_self_eq_true, eq_self, imp_self, wz, T0_3, T0_4, T0_5, T0_9, T0_22, T0_28, T0_30, T0_31, T0_32, T0_34, T0_35, T0_38, T0_44, T0_46, T0_47, T0_55, T0_64, T0_66, T0_107, T0_133, T0_137, T0_138, T0_140, T0_141, T0_307, T0_286, T0_329, T0_331, T0_363, dlt hlt, pl278_0]
      refine ⟨⟨by omega, by omega⟩, ?_⟩
      rw [e1]
      refine eGA_v (.int .i64 (Lib.indexByte [32, 9, 10] (p.txt.getD a 0))) (fun _ => ?_) ?_
      · have h326 := s326 [32, 9, 10] ((p.txt.getD a 0).toNat : Int)
        rw [e2] at h326
        simp -dsimp only [eWC_skip, eWC_exit, eWC_ret, eWC_seq, eWC_block, eWC_cond, eWC_regF, eWC_regT, eWC_loop, eWOps_nil, eWOps_cons, eWOp_eq, eWPl_done, eWPl_z, eWPl_q, eWPl_a, eAW_eq, ↓AW, evalQ, guardG, SV.noU, SV.un, beq_iff_eq, quiet, evO, ofConst, St.put, SV.of, SV.no, binQ, unQ, arQ, loadQ, sliceQ, partsQ, fillAV, fillOk, isU8, byteOf, shapeOk, isAggD, isAggV, cell1, cellsOf, isSeq, pOk, capsOk, pureCall, pickB_or, pickB_and, belowV, belowL, elemsOf, Proms, Prom, svLe, tagLe, isLoad, lk, thenQ, blockQ, retV, retQ, resL, resQ, oneRes, if_false, if_true, reduceIte, forall_const, true_implies, false_implies, implies_true, Nat.reduceEqDiff, Nat.reduceAdd, Nat.reduceSub, Nat.reduceLT, Nat.reduceLeDiff, Nat.reduceMul, Nat.reduceBEq, Nat.reduceBNe, Int.reduceToNat, Int.reduceLT, Int.reduceLE, Int.reduceEq, Int.reduceNeg, Int.reduceAdd, Int.reduceSub, reduceCtorEq, List.filter_nil, List.filter_cons, List.find?_cons, List.find?_nil, ne_eq, beq_self_eq_true, eq_self, imp_self, wz, T0_3, T0_4, T0_5, T0_9, T0_22, T0_28, T0_30, T0_31, T0_32, T0_34, T0_35, T0_38, T0_44, T0_46, T0_47, T0_55, T0_64, T0_66, T0_107, T0_133, T0_137, T0_138, T0_140, T0_141, T0_307, T0_286, T0_329, T0_331, T0_363]
        exact ⟨by simp, h326⟩
      simp -dsimp only [eWC_skip, eWC_exit, eWC_ret, eWC_seq, eWC_block, eWC_cond, eWC_regF, eWC_regT, eWC_loop, eWOps_nil, eWOps_cons, eWOp_eq, eWPl_done, eWPl_z, eWPl_q, eWPl_a, eAW_eq, ↓AW, evalQ, guardG, SV.noU, SV.un, beq_iff_eq, quiet, evO, ofConst, St.put, SV.of, SV.no, binQ, unQ, arQ, loadQ, sliceQ, partsQ, fillAV, fillOk, isU8, byteOf, shapeOk, isAggD, isAggV, cell1, cellsOf, isSeq, pOk, capsOk, pureCall, pickB_or, pickB_and, belowV, belowL, elemsOf, Proms, Prom, svLe, tagLe, isLoad, lk, thenQ, blockQ, retV, retQ, resL, resQ, oneRes, if_false, if_true, reduceIte, forall_const, true_implies, false_implies, implies_true, Nat.reduceEqDiff, Nat.reduceAdd, Nat.reduceSub, Nat.reduceLT, Nat.reduceLeDiff, Nat.reduceMul, Nat.reduceBEq, Nat.reduceBNe, Int.reduceToNat, Int.reduceLT, Int.reduceLE, Int.reduceEq, Int.reduceNeg, Int.reduceAdd, Int.reduceSub, reduceCtorEq, List.filter_nil, List.filter_cons, List.find?_cons, List.find?_nil, ne_eq, beq_self_eq_true, eq_self, imp_self, wz, T0_3, T0_4, T0_5, T0_9, T0_22, T0_28, T0_30, T0_31, T0_32, T0_34, T0_35, T0_38, T0_44, T0_46, T0_47, T0_55, T0_64, T0_66, T0_107, T0_133, T0_137, T0_138, T0_140, T0_141, T0_307, T0_286, T0_329, T0_331, T0_363, pl278_0, retW]
      refine ⟨fun h => ⟨by unfold I64; omega, (a + 1, st + 1), ⟨hlt, ?_⟩, by simp only; omega, Le_of rfl (Nat.le_refl _) (Nat.le_refl _) (Nat.le_refl _) rfl (by simp) ?_⟩, fun h => ⟨by simp [avLe, avsLe], ?_⟩⟩
      · have := h3 (by simpa [isWs] using h); simp only; omega
      · simp [frLe, lk, SV.of, avLe]
      · have h5 := h4 (by simpa [isWs] using h)
        have h6 : a = p.at_ + skipN (p.txt.drop p.at_) := by omega
        simp [Prs.skip, ← h6, Prs.box]
    · have he : a = p.txt.length := by omega
      subst he
      simp -dsimp only [eWC_skip, eWC_exit, eWC_ret, eWC_seq, eWC_block, eWC_cond, eWC_regF, eWC_regT, eWC_loop, eWOps_nil, eWOps_cons, eWOp_eq, eWPl_done, eWPl_z, eWPl_q, eWPl_a, eAW_eq, ↓AW, evalQ, guardG, SV.noU, SV.un, beq_iff_eq, quiet, evO, ofConst, St.put, SV.of, SV.no, binQ, unQ, arQ, loadQ, sliceQ, partsQ, fillAV, fillOk, isU8, byteOf, shapeOk, isAggD, isAggV, cell1, cellsOf, isSeq, pOk, capsOk, pureCall, pickB_or, pickB_and, belowV, belowL, elemsOf, Proms, Prom, svLe, tagLe, isLoad, lk, thenQ, blockQ, retV, retQ, resL, resQ, oneRes, if_false, if_true, reduceIte, forall_const, true_implies, false_implies, implies_true, Nat.reduceEqDiff, Nat.reduceAdd, Nat.reduceSub, Nat.reduceLT, Nat.reduceLeDiff, Nat.reduceMul, Nat.reduceBEq, Nat.reduceBNe, Int.reduceToNat, Int.reduceLT, Int.reduceLE, Int.reduceEq, Int.reduceNeg, Int.reduceAdd, Int.reduceSub, reduceCtorEq, List.filter_nil, List.filter_cons, List.find?_cons, List.find?_nil, ne_eq, beq_self_eq_true, eq_self, imp_self, wz, T0_3, T0_4, T0_5, T0_9, T0_22, T0_28, T0_30, T0_31, T0_32, T0_34, T0_35, T0_38, T0_44, T0_46, T0_47, T0_55, T0_64, T0_66, T0_107, T0_133, T0_137, T0_138, T0_140, T0_141, T0_307, T0_286, T0_329, T0_331, T0_363, dge (Nat.le_refl p.txt.length), pl278_0]
      refine eGA_v (.int .i64 0) (fun h => h.elim) ?_
      simp -dsimp only [eWC_skip, eWC_exit, eWC_ret, eWC_seq, eWC_block, eWC_cond, eWC_regF, eWC_regT, eWC_loop, eWOps_nil, eWOps_cons, eWOp_eq, eWPl_done, eWPl_z, eWPl_q, eWPl_a, eAW_eq, ↓AW, evalQ, guardG, SV.noU, SV.un, beq_iff_eq, quiet, evO, ofConst, St.put, SV.of, SV.no, binQ, unQ, arQ, loadQ, sliceQ, partsQ, fillAV, fillOk, isU8, byteOf, shapeOk, isAggD, isAggV, cell1, cellsOf, isSeq, pOk, capsOk, pureCall, pickB_or, pickB_and, belowV, belowL, elemsOf, Proms, Prom, svLe, tagLe, isLoad, lk, thenQ, blockQ, retV, retQ, resL, resQ, oneRes, if_false, if_true, reduceIte, forall_const, true_implies, false_implies, implies_true, Nat.reduceEqDiff, Nat.reduceAdd, Nat.reduceSub, Nat.reduceLT, Nat.reduceLeDiff, Nat.reduceMul, Nat.reduceBEq, Nat.reduceBNe, Int.reduceToNat, Int.reduceLT, Int.reduceLE, Int.reduceEq, Int.reduceNeg, Int.reduceAdd, Int.reduceSub, reduceCtorEq, List.filter_nil, List.filter_cons, List.find?_cons, List.find?_nil, ne_eq, beq_self_eq_true, eq_self, imp_self, wz, T0_3, T0_4, T0_5, T0_9, T0_22, T0_28, T0_30, T0_31, T0_32, T0_34, T0_35, T0_38, T0_44, T0_46, T0_47, T0_55, T0_64, T0_66, T0_107, T0_133, T0_137, T0_138, T0_140, T0_141, T0_307, T0_286, T0_329, T0_331, T0_363, pl278_0, retW]
      have h6 : p.txt.length = p.at_ + skipN (p.txt.drop p.at_) := by rw [← h2]; simp [skipN]
      exact ⟨by simp [avLe, avsLe], by simp [Prs.skip, ← h6, Prs.box]⟩

def syms : List Str := [[46, 46], [33, 61], [37], [61], [44]]
/-- The next word of a text. -/
def tokV : Str → Str
  | [] => []
  | c :: s => if isLet c then (c :: s).takeWhile isLet else if isDig c then (c :: s).takeWhile isDig else (syms.find? fun w => preV w (c :: s)).getD []
def Prs.rest (p : Prs) : Str := p.txt.drop p.at_
def Prs.tok (p : Prs) : Str := tokV p.skip.rest
theorem find_none' {α : Type} {p : α → Bool} {l : List α} (hn : ∀ a, (h : a < l.length) → p l[a] = false) : l.find? p = none := List.find?_eq_none.2 fun x hx => by
  obtain ⟨i, hi, rfl⟩ := List.getElem_of_mem hx
  simp [hn i hi]

theorem s320 (p : Prs) (hp : p.Ok) (R : List Box) : FSw prog 320 [.ptr 0 0] (p.box :: R) (.str p.tok) (p.skip.box :: R) := by
  refine FSw_code T0_ok mo pl320 _ func320 (by decide) rfl _ rfl (by rfl) (R.length + 1) (by simp) (by simp [belowV]) (by simp) _ rfl ?_
  simp only [f320]
  obtain ⟨q1, q2, q3, q4⟩ := skip_ok hp
  have hsk := s278 p hp R
  have htok : p.tok = tokV p.skip.rest := rfl
  generalize p.skip = q at *
  simp -dsimp only [eWC_skip, eWC_exit, eWC_ret, eWC_seq, eWC_block, eWC_cond, eWC_regF, eWC_regT, eWC_loop, eWOps_nil, eWOps_cons, eWOp_eq, eWPl_done, eWPl_z, eWPl_q, eWPl_a, eAW_eq, ↓AW, evalQ, guardG, SV.noU, SV.un, beq_iff_eq, quiet, evO, ofConst, St.put, SV.of, SV.no, binQ, unQ, arQ, loadQ, sliceQ, partsQ, fillAV, fillOk, isU8, byteOf, shapeOk, isAggD, isAggV, cell1, cellsOf, isSeq, pOk, capsOk, pureCall, pickB_or, pickB_and, belowV, belowL, elemsOf, Proms, Prom, svLe, tagLe, isLoad, lk, thenQ, blockQ, retV, retQ, resL, resQ, oneRes, if_false, if_true, reduceIte, forall_const, true_implies, false_implies, implies_true, Nat.reduceEqDiff, Nat.reduceAdd, Nat.reduceSub, Nat.reduceLT, Nat.reduceLeDiff, Nat.reduceMul, Nat.reduceBEq, Nat.reduceBNe, Int.reduceToNat, Int.reduceLT, Int.reduceLE, Int.reduceEq, Int.reduceNeg, Int.reduceAdd, Int.reduceSub, reduceCtorEq, List.filter_nil, List.filter_cons, List.find?_cons, List.find?_nil, ne_eq, beq_self_eq_true, eq_self, imp_self, wz, T0_3, T0_4, T0_5, T0_9, T0_22, T0_28, T0_30, T0_31, T0_32, T0_34, T0_35, T0_38, T0_44, T0_46, T0_47, T0_55, T0_64, T0_66, T0_107, T0_133, T0_137, T0_138, T0_140, T0_141, T0_307, T0_286, T0_329, T0_331, T0_363, S0, retW]
  refine callG_w _ _ hsk (by simp) ?_
  have er : (q.txt.take ((q.txt.length : Nat) : Int).toNat).drop ((q.at_ : Nat) : Int).toNat = q.rest := by simp [Prs.rest]
  have hrl : q.rest.length ≤ q.txt.length := by simp [Prs.rest]
  cases hr : q.rest with
  | nil =>
    simp -dsimp only [eWC_skip, eWC_exit, eWC_ret, eWC_seq, eWC_block, eWC_cond, eWC_regF, eWC_regT, eWC_loop, eWOps_nil, eWOps_cons, eWOp_eq, eWPl_done, eWPl_z, eWPl_q, eWPl_a, eAW_eq, ↓AW, evalQ, guardG, SV.noU, SV.un, beq_iff_eq, quiet, evO, ofConst, St.put, SV.of, SV.no, binQ, unQ, arQ, loadQ, sliceQ, partsQ, fillAV, fillOk, isU8, byteOf, shapeOk, isAggD, isAggV, cell1, cellsOf, isSeq, pOk, capsOk, pureCall, pickB_or, pickB_and, belowV, belowL, elemsOf, Proms, Prom, svLe, tagLe, isLoad, lk, thenQ, blockQ, retV, retQ, resL, resQ, oneRes, if_false, if_true, reduceIte, forall_const, true_implies, false_implies, implies_true, Nat.reduceEqDiff, Nat.reduceAdd, Nat.reduceSub, Nat.reduceLT, Nat.reduceLeDiff, Nat.reduceMul, Nat.reduceBEq, Nat.reduceBNe, Int.reduceToNat, Int.reduceLT, Int.reduceLE, Int.reduceEq, Int.reduceNeg, Int.reduceAdd, Int.reduceSub, reduceCtorEq, List.filter_nil, List.filter_cons, List.find?_cons, List.find?_nil, ne_eq, beq_self_eq_true, eq_self, imp_self, wz, T0_3, T0_4, T0_5, T0_9, T0_22, T0_28, T0_30, T0_31, T0_32, T0_34, T0_35, T0_38, T0_44, T0_46, T0_47, T0_55, T0_64, T0_66, T0_107, T0_133, T0_137, T0_138, T0_140, T0_141, T0_307, T0_286, T0_329, T0_331, T0_363, retW, Prs.box, pl320_2, er, hr]
    have ht : p.tok = [] := by rw [htok, hr]; rfl
    refine ⟨⟨by omega, by omega, by omega⟩, by rw [ht]; simp only [avLe], by simp [Prs.box]⟩
  | cons c s =>
    rw [hr] at hrl htok
    simp -dsimp only [eWC_skip, eWC_exit, eWC_ret, eWC_seq, eWC_block, eWC_cond, eWC_regF, eWC_regT, eWC_loop, eWOps_nil, eWOps_cons, eWOp_eq, eWPl_done, eWPl_z, eWPl_q, eWPl_a, eAW_eq, ↓AW, evalQ, guardG, SV.noU, SV.un, beq_iff_eq, quiet, evO, ofConst, St.put, SV.of, SV.no, binQ, unQ, arQ, loadQ, sliceQ, partsQ, fillAV, fillOk, isU8, byteOf, shapeOk, isAggD, isAggV, cell1, cellsOf, isSeq, pOk, capsOk, pureCall, pickB_or, pickB_and, belowV, belowL, elemsOf, Proms, Prom, svLe, tagLe, isLoad, lk, thenQ, blockQ, retV, retQ, resL, resQ, oneRes, if_false, if_true, reduceIte, forall_const, true_implies, false_implies, implies_true, Nat.reduceEqDiff, Nat.reduceAdd, Nat.reduceSub, Nat.reduceLT, Nat.reduceLeDiff, Nat.reduceMul, Nat.reduceBEq, Nat.reduceBNe, Int.reduceToNat, Int.reduceLT, Int.reduceLE, Int.reduceEq, Int.reduceNeg, Int.reduceAdd, Int.reduceSub, reduceCtorEq, List.filter_nil, List.filter_cons, List.find?_cons, List.find?_nil, ne_eq, beq_self_eq_true, eq_self, imp_self, wz, T0_3, T0_4, T0_5, T0_9, T0_22, T0_28, T0_30, T0_31, T0_32, T0_34, T0_35, T0_38, T0_44, T0_46, T0_47, T0_55, T0_64, T0_66, T0_107, T0_133, T0_137, T0_138, T0_140, T0_141, T0_307, T0_286, T0_329, T0_331, T0_363, retW, Prs.box, pl320_2, er, hr]
    refine ⟨⟨by omega, by omega, by omega⟩, ?_⟩
    have hlr : (c :: s).length < 1099511627776 := by omega
    refine fun _ => ⟨by omega, ?_⟩
    refine callG_v _ (s357 (c.toNat : Int)) (by simp) (by simp [belowL, belowV]) (by simp [belowV]) ?_
    cases hL : isLet c with
    | true =>
      have hL' : letN (c.toNat : Int) = true := hL
      simp -dsimp only [eWC_skip, eWC_exit, eWC_ret, eWC_seq, eWC_block, eWC_cond, eWC_regF, eWC_regT, eWC_loop, eWOps_nil, eWOps_cons, eWOp_eq, eWPl_done, eWPl_z, eWPl_q, eWPl_a, eAW_eq, ↓AW, evalQ, guardG, SV.noU, SV.un, beq_iff_eq, quiet, evO, ofConst, St.put, SV.of, SV.no, binQ, unQ, arQ, loadQ, sliceQ, partsQ, fillAV, fillOk, isU8, byteOf, shapeOk, isAggD, isAggV, cell1, cellsOf, isSeq, pOk, capsOk, pureCall, pickB_or, pickB_and, belowV, belowL, elemsOf, Proms, Prom, svLe, tagLe, isLoad, lk, thenQ, blockQ, retV, retQ, resL, resQ, oneRes, if_false, if_true, reduceIte, forall_const, true_implies, false_implies, implies_true, Nat.reduceEqDiff, Nat.reduceAdd, Nat.reduceSub, Nat.reduceLT, Nat.reduceLeDiff, Nat.reduceMul, Nat.reduceBEq, Nat.reduceBNe, Int.reduceToNat, Int.reduceLT, Int.reduceLE, Int.reduceEq, Int.reduceNeg, Int.reduceAdd, Int.reduceSub, reduceCtorEq, List.filter_nil, List.filter_cons, List.find?_cons, List.find?_nil, ne_eq, beq_self_eq_true, eq_self, imp_self, wz, T0_3, T0_4, T0_5, T0_9, T0_22, T0_28, T0_30, T0_31, T0_32, T0_34, T0_35, T0_38, T0_44, T0_46, T0_47, T0_55, T0_64, T0_66, T0_107, T0_133, T0_137, T0_138, T0_140, T0_141, T0_307, T0_286, T0_329, T0_331, T0_363, hL']
      refine callG_v _ (s358 (c :: s) hlr 357 isLet (fun b => s357 (b.toNat : Int))) (by simp) (by simp [belowL, belowV]) (by simp [belowV]) ?_
      simp -dsimp only [eWC_skip, eWC_exit, eWC_ret, eWC_seq, eWC_block, eWC_cond, eWC_regF, eWC_regT, eWC_loop, eWOps_nil, eWOps_cons, eWOp_eq, eWPl_done, eWPl_z, eWPl_q, eWPl_a, eAW_eq, ↓AW, evalQ, guardG, SV.noU, SV.un, beq_iff_eq, quiet, evO, ofConst, St.put, SV.of, SV.no, binQ, unQ, arQ, loadQ, sliceQ, partsQ, fillAV, fillOk, isU8, byteOf, shapeOk, isAggD, isAggV, cell1, cellsOf, isSeq, pOk, capsOk, pureCall, pickB_or, pickB_and, belowV, belowL, elemsOf, Proms, Prom, svLe, tagLe, isLoad, lk, thenQ, blockQ, retV, retQ, resL, resQ, oneRes, if_false, if_true, reduceIte, forall_const, true_implies, false_implies, implies_true, Nat.reduceEqDiff, Nat.reduceAdd, Nat.reduceSub, Nat.reduceLT, Nat.reduceLeDiff, Nat.reduceMul, Nat.reduceBEq, Nat.reduceBNe, Int.reduceToNat, Int.reduceLT, Int.reduceLE, Int.reduceEq, Int.reduceNeg, Int.reduceAdd, Int.reduceSub, reduceCtorEq, List.filter_nil, List.filter_cons, List.find?_cons, List.find?_nil, ne_eq, beq_self_eq_true, eq_self, imp_self, wz, T0_3, T0_4, T0_5, T0_9, T0_22, T0_28, T0_30, T0_31, T0_32, T0_34, T0_35, T0_38, T0_44, T0_46, T0_47, T0_55, T0_64, T0_66, T0_107, T0_133, T0_137, T0_138, T0_140, T0_141, T0_307, T0_286, T0_329, T0_331, T0_363, retW]
      have ht : p.tok = (c :: s).takeWhile isLet := by rw [htok]; simp only [tokV, hL, if_true]
      exact ⟨by rw [ht]; simp only [avLe], by simp [Prs.box]⟩
    | false =>
    have hL' : letN (c.toNat : Int) = false := hL
    simp -dsimp only [eWC_skip, eWC_exit, eWC_ret, eWC_seq, eWC_block, eWC_cond, eWC_regF, eWC_regT, eWC_loop, eWOps_nil, eWOps_cons, eWOp_eq, eWPl_done, eWPl_z, eWPl_q, eWPl_a, eAW_eq, ↓AW, evalQ, guardG, SV.noU, SV.un, beq_iff_eq, quiet, evO, ofConst, St.put, SV.of, SV.no, binQ, unQ, arQ, loadQ, sliceQ, partsQ, fillAV, fillOk, isU8, byteOf, shapeOk, isAggD, isAggV, cell1, cellsOf, isSeq, pOk, capsOk, pureCall, pickB_or, pickB_and, belowV, belowL, elemsOf, Proms, Prom, svLe, tagLe, isLoad, lk, thenQ, blockQ, retV, retQ, resL, resQ, oneRes, if_false, if_true, reduceIte, forall_const, true_implies, false_implies, implies_true, Nat.reduceEqDiff, Nat.reduceAdd, Nat.reduceSub, Nat.reduceLT, Nat.reduceLeDiff, Nat.reduceMul, Nat.reduceBEq, Nat.reduceBNe, Int.reduceToNat, Int.reduceLT, Int.reduceLE, Int.reduceEq, Int.reduceNeg, Int.reduceAdd, Int.reduceSub, reduceCtorEq, List.filter_nil, List.filter_cons, List.find?_cons, List.find?_nil, ne_eq, beq_self_eq_true, eq_self, imp_self, wz, T0_3, T0_4, T0_5, T0_9, T0_22, T0_28, T0_30, T0_31, T0_32, T0_34, T0_35, T0_38, T0_44, T0_46, T0_47, T0_55, T0_64, T0_66, T0_107, T0_133, T0_137, T0_138, T0_140, T0_141, T0_307, T0_286, T0_329, T0_331, T0_363, hL']
    refine ⟨by omega, ?_⟩
    refine callG_v _ (s359 (c.toNat : Int)) (by simp) (by simp [belowL, belowV]) (by simp [belowV]) ?_
    cases hD : isDig c with
    | true =>
      have hD' : digN (c.toNat : Int) = true := hD
      simp -dsimp only [eWC_skip, eWC_exit, eWC_ret, eWC_seq, eWC_block, eWC_cond, eWC_regF, eWC_regT, eWC_loop, eWOps_nil, eWOps_cons, eWOp_eq, eWPl_done, eWPl_z, eWPl_q, eWPl_a, eAW_eq, ↓AW, evalQ, guardG, SV.noU, SV.un, beq_iff_eq, quiet, evO, ofConst, St.put, SV.of, SV.no, binQ, unQ, arQ, loadQ, sliceQ, partsQ, fillAV, fillOk, isU8, byteOf, shapeOk, isAggD, isAggV, cell1, cellsOf, isSeq, pOk, capsOk, pureCall, pickB_or, pickB_and, belowV, belowL, elemsOf, Proms, Prom, svLe, tagLe, isLoad, lk, thenQ, blockQ, retV, retQ, resL, resQ, oneRes, if_false, if_true, reduceIte, forall_const, true_implies, false_implies, implies_true, Nat.reduceEqDiff, Nat.reduceAdd, Nat.reduceSub, Nat.reduceLT, Nat.reduceLeDiff, Nat.reduceMul, Nat.reduceBEq, Nat.reduceBNe, Int.reduceToNat, Int.reduceLT, Int.reduceLE, Int.reduceEq, Int.reduceNeg, Int.reduceAdd, Int.reduceSub, reduceCtorEq, List.filter_nil, List.filter_cons, List.find?_cons, List.find?_nil, ne_eq, beq_self_eq_true, eq_self, imp_self, wz, T0_3, T0_4, T0_5, T0_9, T0_22, T0_28, T0_30, T0_31, T0_32, T0_34, T0_35, T0_38, T0_44, T0_46, T0_47, T0_55, T0_64, T0_66, T0_107, T0_133, T0_137, T0_138, T0_140, T0_141, T0_307, T0_286, T0_329, T0_331, T0_363, hD']
      refine callG_v _ (s358 (c :: s) hlr 359 isDig (fun b => s359 (b.toNat : Int))) (by simp) (by simp [belowL, belowV]) (by simp [belowV]) ?_
      simp -dsimp only [eWC_skip, eWC_exit, eWC_ret, eWC_seq, eWC_block, eWC_cond, eWC_regF, eWC_regT, eWC_loop, eWOps_nil, eWOps_cons, eWOp_eq, eWPl_done, eWPl_z, eWPl_q, eWPl_a, eAW_eq, ↓AW, evalQ, guardG, SV.noU, SV.un, beq_iff_eq, quiet, evO, ofConst, St.put, SV.of, SV.no, binQ, unQ, arQ, loadQ, sliceQ, partsQ, fillAV, fillOk, isU8, byteOf, shapeOk, isAggD, isAggV, cell1, cellsOf, isSeq, pOk, capsOk, pureCall, pickB_or, pickB_and, belowV, belowL, elemsOf, Proms, Prom, svLe, tagLe, isLoad, lk, thenQ, blockQ, retV, retQ, resL, resQ, oneRes, if_false, if_true, reduceIte, forall_const, true_implies, false_implies, implies_true, Nat.reduceEqDiff, Nat.reduceAdd, Nat.reduceSub, Nat.reduceLT, Nat.reduceLeDiff, Nat.reduceMul, Nat.reduceBEq, Nat.reduceBNe, Int.reduceToNat, Int.reduceLT, Int.reduceLE, Int.reduceEq, Int.reduceNeg, Int.reduceAdd, Int.reduceSub, reduceCtorEq, List.filter_nil, List.filter_cons, List.find?_cons, List.find?_nil, ne_eq, beq_self_eq_true, eq_self, imp_self, wz, T0_3, T0_4, T0_5, T0_9, T0_22, T0_28, T0_30, T0_31, T0_32, T0_34, T0_35, T0_38, T0_44, T0_46, T0_47, T0_55, T0_64, T0_66, T0_107, T0_133, T0_137, T0_138, T0_140, T0_141, T0_307, T0_286, T0_329, T0_331, T0_363, retW]
      have ht : p.tok = (c :: s).takeWhile isDig := by rw [htok]; simp only [tokV, hL, hD, if_true, if_false, Bool.false_eq_true]
      exact ⟨by rw [ht]; simp only [avLe], by simp [Prs.box]⟩
    | false =>
    have hD' : digN (c.toNat : Int) = false := hD
    have ht : p.tok = (syms.find? fun w => preV w (c :: s)).getD [] := by rw [htok]; simp only [tokV, hL, hD, if_false, Bool.false_eq_true]
    simp -dsimp only [eWC_skip, eWC_exit, eWC_ret, eWC_seq, eWC_block, eWC_cond, eWC_regF, eWC_regT, eWC_loop, eWOps_nil, eWOps_cons, eWOp_eq, eWPl_done, eWPl_z, eWPl_q, eWPl_a, eAW_eq, ↓AW, evalQ, guardG, SV.noU, SV.un, beq_iff_eq, quiet, evO, ofConst, St.put, SV.of, SV.no, binQ, unQ, arQ, loadQ, sliceQ, partsQ, fillAV, fillOk, isU8, byteOf, shapeOk, isAggD, isAggV, cell1, cellsOf, isSeq, pOk, capsOk, pureCall, pickB_or, pickB_and, belowV, belowL, elemsOf, Proms, Prom, svLe, tagLe, isLoad, lk, thenQ, blockQ, retV, retQ, resL, resQ, oneRes, if_false, if_true, reduceIte, forall_const, true_implies, false_implies, implies_true, Nat.reduceEqDiff, Nat.reduceAdd, Nat.reduceSub, Nat.reduceLT, Nat.reduceLeDiff, Nat.reduceMul, Nat.reduceBEq, Nat.reduceBNe, Int.reduceToNat, Int.reduceLT, Int.reduceLE, Int.reduceEq, Int.reduceNeg, Int.reduceAdd, Int.reduceSub, reduceCtorEq, List.filter_nil, List.filter_cons, List.find?_cons, List.find?_nil, ne_eq, beq_self_eq_true, eq_self, imp_self, wz, T0_3, T0_4, T0_5, T0_9, T0_22, T0_28, T0_30, T0_31, T0_32, T0_34, T0_35, T0_38, T0_44, T0_46, T0_47, T0_55, T0_64, T0_66, T0_107, T0_133, T0_137, T0_138, T0_140, T0_141, T0_307, T0_286, T0_329, T0_331, T0_363, hD']
    refine T3_for T0_ok mo pl320 5 (fun i (_ : Unit) => ⟨[(34, SV.of (.int .i64 (i : Nat))), (33, SV.of (.int .i64 5)), (32, SV.of (.sl 1 (syms.map .str))), (3, SV.of (.str (c :: s)))], 43, ⟨2, [], [.cells [.str q.txt, .int .i64 (q.at_ : Nat), .int .i64 q.n, .int .i64 q.err] [] ] ++ R, 1⟩, R.length + 1⟩)
      (fun i _ => ∀ a, (h : a < syms.length) → a < i → preV syms[a] (c :: s) = false) 43 (fun _ _ => rfl) (by rfl) () (fun a _ h => by omega) (Le_of rfl (Nat.le_refl _) (by simp) (Nat.le_refl _) (by simp) (by simp) ?_) (fun i _ hi hI => ?_) (fun _ hI => ?_)
    · simp [frLe, lk, SV.of, avLe, avsLe, syms]
    · have hi' : i < syms.length := hi
      have d5 : decide (((i : Nat) : Int) < 5) = true := by simp; omega
      simp -dsimp only [eWC_skip, eWC_exit, eWC_ret, eWC_seq, eWC_block, eWC_cond, eWC_regF, eWC_regT, eWC_loop, eWOps_nil, eWOps_cons, eWOp_eq, eWPl_done, eWPl_z, eWPl_q, eWPl_a, eAW_eq, ↓AW, evalQ, guardG, SV.noU, SV.un, beq_iff_eq, quiet, evO, ofConst, St.put, SV.of, SV.no, binQ, unQ, arQ, loadQ, sliceQ, partsQ, fillAV, fillOk, isU8, byteOf, shapeOk, isAggD, isAggV, cell1, cellsOf, isSeq, pOk, capsOk, pureCall, pickB_or, pickB_and, belowV, belowL, elemsOf, Proms, Prom, svLe, tagLe, isLoad, lk, thenQ, blockQ, retV, retQ, resL, resQ, oneRes, if_false, if_true, reduceIte, forall_const, true_implies, false_implies, implies_true, Nat.reduceEqDiff, Nat.reduceAdd, Nat.reduceSub, Nat.reduceLT, Nat.reduceLeDiff, Nat.reduceMul, Nat.reduceBEq, Nat.reduceBNe, Int.reduceToNat, Int.reduceLT, Int.reduceLE, Int.reduceEq, Int.reduceNeg, Int.reduceAdd, Int.reduceSub, reduceCtorEq, List.filter_nil, List.filter_cons, List.find?_cons, List.find?_nil, ne_eq, beq_self_eq_true, eq_self, imp_self, wz, T0_3, T0_4, T0_5, T0_9, T0_22, T0_28, T0_30, T0_31, T0_32, T0_34, T0_35, T0_38, T0_44, T0_46, T0_47, T0_55, T0_64, T0_66, T0_107, T0_133, T0_137, T0_138, T0_140, T0_141, T0_307, T0_286, T0_329, T0_331, T0_363, d5, gd AV.str syms i _ hi']
      refine ⟨⟨by omega, by simp [syms]; omega⟩, ?_⟩
      refine callG_v _ (s249 (c :: s) syms[i]) (by simp) (by simp [belowL, belowV]) (by simp [belowV]) ?_
      simp -dsimp only [eWC_skip, eWC_exit, eWC_ret, eWC_seq, eWC_block, eWC_cond, eWC_regF, eWC_regT, eWC_loop, eWOps_nil, eWOps_cons, eWOp_eq, eWPl_done, eWPl_z, eWPl_q, eWPl_a, eAW_eq, ↓AW, evalQ, guardG, SV.noU, SV.un, beq_iff_eq, quiet, evO, ofConst, St.put, SV.of, SV.no, binQ, unQ, arQ, loadQ, sliceQ, partsQ, fillAV, fillOk, isU8, byteOf, shapeOk, isAggD, isAggV, cell1, cellsOf, isSeq, pOk, capsOk, pureCall, pickB_or, pickB_and, belowV, belowL, elemsOf, Proms, Prom, svLe, tagLe, isLoad, lk, thenQ, blockQ, retV, retQ, resL, resQ, oneRes, if_false, if_true, reduceIte, forall_const, true_implies, false_implies, implies_true, Nat.reduceEqDiff, Nat.reduceAdd, Nat.reduceSub, Nat.reduceLT, Nat.reduceLeDiff, Nat.reduceMul, Nat.reduceBEq, Nat.reduceBNe, Int.reduceToNat, Int.reduceLT, Int.reduceLE, Int.reduceEq, Int.reduceNeg, Int.reduceAdd, Int.reduceSub, reduceCtorEq, List.filter_nil, List.filter_cons, List.find?_cons, List.find?_nil, ne_eq, beq_self_eq_true, eq_self, imp_self, wz, T0_3, T0_4, T0_5, T0_9, T0_22, T0_28, T0_30, T0_31, T0_32, T0_34, T0_35, T0_38, T0_44, T0_46, T0_47, T0_55, T0_64, T0_66, T0_107, T0_133, T0_137, T0_138, T0_140, T0_141, T0_307, T0_286, T0_329, T0_331, T0_363, retW]
      refine ⟨fun h => ⟨?_, by simp [Prs.box]⟩, fun h => ⟨by unfold I64; omega, (), fun a ha hai => ?_, Le_of rfl (Nat.le_refl _) (Nat.le_refl _) (Nat.le_refl _) rfl (by simp) ?_⟩⟩
      · rw [ht, find_at hi' h hI]
        simp only [avLe, Option.getD_some]
      · rcases Nat.lt_or_ge a i with h1 | h1
        · exact hI a ha h1
        · have : a = i := by omega
          subst this; exact h
      · simp [frLe, lk, SV.of, avLe]
    · have d5 : decide (((5 : Nat) : Int) < 5) = false := by simp
      simp -dsimp only [eWC_skip, eWC_exit, eWC_ret, eWC_seq, eWC_block, eWC_cond, eWC_regF, eWC_regT, eWC_loop, eWOps_nil, eWOps_cons, eWOp_eq, eWPl_done, eWPl_z, eWPl_q, eWPl_a, eAW_eq, ↓AW, evalQ, guardG, SV.noU, SV.un, beq_iff_eq, quiet, evO, ofConst, St.put, SV.of, SV.no, binQ, unQ, arQ, loadQ, sliceQ, partsQ, fillAV, fillOk, isU8, byteOf, shapeOk, isAggD, isAggV, cell1, cellsOf, isSeq, pOk, capsOk, pureCall, pickB_or, pickB_and, belowV, belowL, elemsOf, Proms, Prom, svLe, tagLe, isLoad, lk, thenQ, blockQ, retV, retQ, resL, resQ, oneRes, if_false, if_true, reduceIte, forall_const, true_implies, false_implies, implies_true, Nat.reduceEqDiff, Nat.reduceAdd, Nat.reduceSub, Nat.reduceLT, Nat.reduceLeDiff, Nat.reduceMul, Nat.reduceBEq, Nat.reduceBNe, Int.reduceToNat, Int.reduceLT, Int.reduceLE, Int.reduceEq, Int.reduceNeg, Int.reduceAdd, Int.reduceSub, reduceCtorEq, List.filter_nil, List.filter_cons, List.find?_cons, List.find?_nil, ne_eq, beq_self_eq_true, eq_self, imp_self, wz, T0_3, T0_4, T0_5, T0_9, T0_22, T0_28, T0_30, T0_31, T0_32, T0_34, T0_35, T0_38, T0_44, T0_46, T0_47, T0_55, T0_64, T0_66, T0_107, T0_133, T0_137, T0_138, T0_140, T0_141, T0_307, T0_286, T0_329, T0_331, T0_363, d5, retW]
      refine ⟨?_, by simp [Prs.box]⟩
      rw [ht, find_none' (fun a ha => hI a ha ha)]
      simp only [avLe, Option.getD_none]
end Go.Proofs.Tryz
