/-
  Part of a proof: contracts of functions in abstract values.
-/
import Derived.Test.YtejdblkohdbhaaaGreatDoorFb
set_option linter.unusedVariables false
set_option linter.unusedSimpArgs false
namespace Go.Proofs.Tryz
open Go Go.Abs
set_option linter.unusedSimpArgs false
set_option maxRecDepth 100000
set_option maxHeartbeats 2000000

/-! ### What the arguments of these types are -/
theorem shp0 {t : Nat} {l : List AV} {p : Prop} (h : Shp T0 0 t l) : p := by simp only [Shp] at h
theorem shp_int {k : Nat} {l : List AV} (h : Shp T0 k 3 l) : ∃ n, l = [.int .i64 n] := by
  cases k with
  | zero => exact shp0 h
  | succ k => simp only [Shp, T0_3, Option.map_some] at h; obtain ⟨n, h, _⟩ := h; exact ⟨n, h⟩
theorem shp_bool {k : Nat} {l : List AV} (h : Shp T0 k 4 l) : ∃ b, l = [.bool b] := by
  cases k with
  | zero => exact shp0 h
  | succ k => simp only [Shp, T0_4, Option.map_some] at h; exact h
theorem shp_str {k : Nat} {l : List AV} (h : Shp T0 k 9 l) : ∃ s, l = [.str s] := by
  cases k with
  | zero => exact shp0 h
  | succ k => simp only [Shp, T0_9, Option.map_some] at h; obtain ⟨s, h, _⟩ := h; exact ⟨s, h⟩
theorem list_of' {α : Type} {f : α → AV} (g : List AV → AV) (ls : List (List AV)) (h : ∀ x ∈ ls, ∃ r, g x = f r) : ∃ rs : List α, ls.map g = rs.map f := by
  obtain ⟨rs, h1, _⟩ := list_of (p := fun _ => True) g ls fun x hx => by obtain ⟨r, hr⟩ := h x hx; exact ⟨r, hr, trivial⟩
  exact ⟨rs, h1⟩
theorem shp_strs {k : Nat} {l : List AV} (h : Shp T0 k 28 l) : ∃ ss : List Str, l = [strs ss] := by
  cases k with
  | zero => exact shp0 h
  | succ k =>
    simp only [Shp, T0_28, Option.map_some] at h
    obtain ⟨ls, rfl, _, h⟩ := h
    obtain ⟨rs, hr⟩ := list_of' (f := AV.str) (boxE T0 9) ls fun x hx => by obtain ⟨s, rfl⟩ := shp_str (h x hx); exact ⟨s, rfl⟩
    exact ⟨rs, by rw [hr]; rfl⟩
theorem shp_spn {k : Nat} {l : List AV} (h : Shp T0 k 137 l) : ∃ s : Spn, boxE T0 137 l = s.av := by
  cases k with
  | zero => exact shp0 h
  | succ k =>
    simp only [Shp, T0_137, Option.map_some, ShpF] at h
    obtain ⟨l1, r1, rfl, h1, l2, r2, rfl, h2, rfl⟩ := h
    obtain ⟨a, rfl⟩ := shp_int h1
    obtain ⟨b, rfl⟩ := shp_int h2
    exact ⟨⟨a, b⟩, rfl⟩
theorem shp_spns {k : Nat} {l : List AV} (h : Shp T0 k 138 l) : ∃ ss : List Spn, l = [.sl 2 (ss.map Spn.av)] := by
  cases k with
  | zero => exact shp0 h
  | succ k =>
    simp only [Shp, T0_138, Option.map_some] at h
    obtain ⟨ls, rfl, _, h⟩ := h
    obtain ⟨rs, hr⟩ := list_of' (f := Spn.av) (boxE T0 137) ls fun x hx => shp_spn (h x hx)
    exact ⟨rs, by rw [hr]; rfl⟩
theorem shp_rln {k : Nat} {l : List AV} (h : Shp T0 k 140 l) : ∃ r : Rln, boxE T0 140 l = r.av := by
  cases k with
  | zero => exact shp0 h
  | succ k =>
    simp only [Shp, T0_140, Option.map_some, ShpF] at h
    obtain ⟨l1, r1, rfl, h1, l2, r2, rfl, h2, l3, r3, rfl, h3, l4, r4, rfl, h4, rfl⟩ := h
    obtain ⟨a, rfl⟩ := shp_int h1
    obtain ⟨b, rfl⟩ := shp_int h2
    obtain ⟨c, rfl⟩ := shp_bool h3
    obtain ⟨d, rfl⟩ := shp_spns h4
    exact ⟨⟨a, b, c, d⟩, rfl⟩
theorem shp_list {k : Nat} {l : List AV} (h : Shp T0 k 141 l) : ∃ rs : List Rln, l = [listAV rs] := by
  cases k with
  | zero => exact shp0 h
  | succ k =>
    simp only [Shp, T0_141, Option.map_some] at h
    obtain ⟨ls, rfl, _, h⟩ := h
    obtain ⟨rs, hr⟩ := list_of' (f := Rln.av) (boxE T0 140) ls fun x hx => shp_rln (h x hx)
    exact ⟨rs, by rw [hr]; rfl⟩
theorem shp_cond {k : Nat} {l : List AV} (h : Shp T0 k 64 l) : ∃ c : Cnd, l = [condAV c] := by
  cases k with
  | zero => exact shp0 h
  | succ k =>
    simp only [Shp, T0_64, Option.map_some] at h
    obtain ⟨ls, rfl, _, h⟩ := h
    obtain ⟨rs, hr⟩ := list_of' (f := listAV) (boxE T0 141) ls fun x hx => by obtain ⟨s, rfl⟩ := shp_list (h x hx); exact ⟨s, rfl⟩
    exact ⟨rs, by rw [hr]; rfl⟩
theorem shp_rul {k : Nat} {l : List AV} (h : Shp T0 k 66 l) : ∃ r : Rul, boxE T0 66 l = r.av := by
  cases k with
  | zero => exact shp0 h
  | succ k =>
    simp only [Shp, T0_66, Option.map_some, ShpF] at h
    obtain ⟨l1, r1, rfl, h1, l2, r2, rfl, h2, rfl⟩ := h
    obtain ⟨a, rfl⟩ := shp_str h1
    obtain ⟨b, rfl⟩ := shp_cond h2
    exact ⟨⟨a, b⟩, rfl⟩
theorem shp_rules {k : Nat} {l : List AV} (h : Shp T0 k 22 l) : ∃ rs : List Rul, l = [rulesAV rs] := by
  cases k with
  | zero => exact shp0 h
  | succ k =>
    simp only [Shp, T0_22, Option.map_some] at h
    obtain ⟨ls, rfl, _, h⟩ := h
    obtain ⟨rs, hr⟩ := list_of' (f := Rul.av) (boxE T0 66) ls fun x hx => shp_rul (h x hx)
    exact ⟨rs, by rw [hr]; rfl⟩
theorem shp_val {k : Nat} {l : List AV} (h : Shp T0 k 46 l) : ∃ v : Val, boxE T0 46 l = v.av := by
  cases k with
  | zero => exact shp0 h
  | succ k =>
    simp only [Shp, T0_46, Option.map_some, ShpF] at h
    obtain ⟨l1, r1, rfl, h1, l2, r2, rfl, h2, l3, r3, rfl, h3, l4, r4, rfl, h4, l5, r5, rfl, h5, rfl⟩ := h
    obtain ⟨a, rfl⟩ := shp_str h1
    obtain ⟨b, rfl⟩ := shp_int h2
    obtain ⟨c, rfl⟩ := shp_str h3
    obtain ⟨d, rfl⟩ := shp_int h4
    obtain ⟨e, rfl⟩ := shp_strs h5
    exact ⟨⟨a, b, c, d, e⟩, rfl⟩
theorem shp_vals {k : Nat} {l : List AV} (h : Shp T0 k 35 l) : ∃ vs : List Val, l = [.sl 5 (vs.map Val.av)] := by
  cases k with
  | zero => exact shp0 h
  | succ k =>
    simp only [Shp, T0_35, Option.map_some] at h
    obtain ⟨ls, rfl, _, h⟩ := h
    obtain ⟨rs, hr⟩ := list_of' (f := Val.av) (boxE T0 46) ls fun x hx => shp_val (h x hx)
    exact ⟨rs, by rw [hr]; rfl⟩

theorem PV_succ : ∀ (k : Nat) (l : List Prt), PV k l → PV (k + 1) l
  | 0, _, h => h.elim
  | k + 1, l, h => fun e he => by
    obtain ⟨⟨ps, h1, h2⟩, h3⟩ := h e he
    exact ⟨⟨ps, h1, PV_succ k ps h2⟩, fun c hc => by obtain ⟨qs, h4, h5⟩ := h3 c hc; exact ⟨qs, h4, PV_succ k qs h5⟩⟩
theorem PV_le {j k : Nat} (h : j ≤ k) {l : List Prt} (hp : PV j l) : PV k l := by
  induction h with
  | refl => exact hp
  | step _ ih => exact PV_succ _ _ ih
/-- A part, whose parts and cases are known. -/
theorem shp_prt1 {k m : Nat} {l : List AV} (h : Shp T0 k 34 l) (hk : k ≤ m) (ih : ∀ j, j < k → ∀ l, Shp T0 j 32 l → ∃ ps, l = [partsAV ps] ∧ PV j ps) :
    ∃ p : Prt, boxE T0 34 l = p.av ∧ (∃ ps, p.parts = partsAV ps ∧ PV m ps) ∧ ∀ c ∈ p.cases, ∃ ps, c.2 = partsAV ps ∧ PV m ps := by
  cases k with
  | zero => exact shp0 h
  | succ k =>
    simp only [Shp, T0_34, Option.map_some, ShpF] at h
    obtain ⟨l1, r1, rfl, h1, l2, r2, rfl, h2, l3, r3, rfl, h3, l4, r4, rfl, h4, l5, r5, rfl, h5, l6, r6, rfl, h6, rfl⟩ := h
    obtain ⟨a, rfl⟩ := shp_int h1
    obtain ⟨b, rfl⟩ := shp_str h2
    obtain ⟨c, rfl⟩ := shp_str h3
    obtain ⟨d, rfl⟩ := shp_str h4
    obtain ⟨ps, rfl, hps⟩ := ih k (by omega) _ h6
    cases k with
    | zero => exact shp0 h5
    | succ k =>
      simp only [Shp, T0_31, Option.map_some] at h5
      obtain ⟨ls, rfl, _, h5⟩ := h5
      obtain ⟨cs, hcs, _, hcp⟩ := list_of (f := caseAV) (p := fun c => ∃ ps, c.2 = partsAV ps ∧ PV m ps) (boxE T0 44) ls fun x hx => by
        have h7 := h5 x hx
        cases k with
        | zero => exact shp0 h7
        | succ k =>
          simp only [Shp, T0_44, Option.map_some, ShpF] at h7
          obtain ⟨l1, r1, rfl, g1, l2, r2, rfl, g2, rfl⟩ := h7
          obtain ⟨key, rfl⟩ := shp_str g1
          obtain ⟨qs, rfl, hqs⟩ := ih k (by omega) _ g2
          exact ⟨(key, partsAV qs), rfl, qs, rfl, PV_le (by omega) hqs⟩
      exact ⟨⟨a, b, c, d, cs, partsAV ps⟩, by rw [hcs]; rfl, ⟨ps, rfl, PV_le (by omega) hps⟩, hcp⟩
theorem shp_parts : ∀ (k : Nat) (l : List AV), Shp T0 k 32 l → ∃ ps, l = [partsAV ps] ∧ PV k ps := by
  intro k
  induction k using Nat.strongRecOn with
  | ind k ih =>
    intro l h
    cases k with
    | zero => exact shp0 h
    | succ k =>
      simp only [Shp, T0_32, Option.map_some] at h
      obtain ⟨ls, rfl, _, h⟩ := h
      obtain ⟨ps, hps, _, hpp⟩ := list_of (f := Prt.av) (p := fun p => (∃ ps, p.parts = partsAV ps ∧ PV k ps) ∧ ∀ c ∈ p.cases, ∃ ps, c.2 = partsAV ps ∧ PV k ps) (boxE T0 34) ls fun x hx =>
        shp_prt1 (h x hx) (Nat.le_refl k) fun j hj l hl => ih j (by omega) l hl
      exact ⟨ps, by rw [hps]; rfl, hpp⟩
theorem shp_prt {k : Nat} {l : List AV} (h : Shp T0 k 34 l) : ∃ p : Prt, boxE T0 34 l = p.av ∧ ∃ k, PV k [p] := by
  obtain ⟨p, h1, h2, h3⟩ := shp_prt1 h (Nat.le_refl k) fun j _ l hl => shp_parts j l hl
  exact ⟨p, h1, k + 1, fun e he => by rw [List.mem_singleton.1 he]; exact ⟨h2, h3⟩⟩

theorem shp_ev {k : Nat} {l : List AV} (h : Shp T0 k 462 l) : belowL 0 l ∧ l.length = 5 := by
  cases k with
  | zero => exact shp0 h
  | succ k =>
    simp only [Shp, T0_462, Option.map_some, ShpF] at h
    obtain ⟨l1, r1, rfl, h1, l2, r2, rfl, h2, l3, r3, rfl, h3, l4, r4, rfl, h4, l5, r5, rfl, h5, rfl⟩ := h
    obtain ⟨a, rfl⟩ := shp_str h1
    obtain ⟨b, rfl⟩ := shp_str h2
    obtain ⟨c, rfl⟩ := shp_str h3
    obtain ⟨d, rfl⟩ := shp_str h4
    obtain ⟨e, rfl⟩ := shp_str h5
    simp [belowL, belowV]
/-- A slice, whatever it holds. -/
theorem shp_any {k t e z : Nat} {b : Nat} {v : AV} {l : List AV} (ht : T0 t = some ⟨.slice e, z, b, v⟩) (h : Shp T0 k t l) : ∃ z es, l = [.sl z es] := by
  cases k with
  | zero => exact shp0 h
  | succ k =>
    simp only [Shp, ht, Option.map_some] at h
    obtain ⟨ls, rfl, _, h⟩ := h
    exact ⟨_, _, rfl⟩
theorem shp_fmt {k : Nat} {l : List AV} (h : Shp T0 k 24 l) : belowL 0 l ∧ l.length = 6 := by
  cases k with
  | zero => exact shp0 h
  | succ k =>
    simp only [Shp, T0_24, Option.map_some, ShpF] at h
    obtain ⟨l1, r1, rfl, h1, l2, r2, rfl, h2, l3, r3, rfl, h3, l4, r4, rfl, h4, l5, r5, rfl, h5, l6, r6, rfl, h6, rfl⟩ := h
    obtain ⟨a, rfl⟩ := shp_str h1
    obtain ⟨b, rfl⟩ := shp_str h2
    obtain ⟨c, rfl⟩ := shp_str h3
    obtain ⟨d, rfl⟩ := shp_str h4
    obtain ⟨e, rfl⟩ := shp_int h5
    obtain ⟨f, rfl⟩ := shp_int h6
    simp [belowL, belowV]
theorem shp_lcl {k : Nat} {l : List AV} (h : Shp T0 k 30 l) : ∃ x : Lcl, boxE T0 30 l = x.av ∧ x.rest.length = 11 ∧ belowL 0 x.rest := by
  cases k with
  | zero => exact shp0 h
  | succ k =>
    simp only [Shp, T0_30, Option.map_some, ShpF] at h
    obtain ⟨l1, r1, rfl, h1, l2, r2, rfl, h2, l3, r3, rfl, h3, l4, r4, rfl, h4, l5, r5, rfl, h5, l6, r6, rfl, h6, l7, r7, rfl, h7, l8, r8, rfl, h8, l9, r9, rfl, h9, l10, r10, rfl, h10, l11, r11, rfl, h11, rfl⟩ := h
    obtain ⟨a, rfl⟩ := shp_str h1
    obtain ⟨b, rfl⟩ := shp_str h2
    obtain ⟨c, rfl⟩ := shp_str h3
    obtain ⟨d, rfl⟩ := shp_rules h4
    obtain ⟨e, rfl⟩ := shp_rules h5
    obtain ⟨h6, h6l⟩ := shp_fmt h6
    obtain ⟨_, _, rfl⟩ := shp_any T0_25 h7
    obtain ⟨_, _, rfl⟩ := shp_any T0_26 h8
    obtain ⟨_, _, rfl⟩ := shp_any T0_27 h9
    obtain ⟨_, _, rfl⟩ := shp_any T0_28 h10
    obtain ⟨_, _, rfl⟩ := shp_any T0_28 h11
    refine ⟨⟨a, b, c, d, e, _⟩, rfl, ?_, ?_⟩
    · simp [h6l]
    · refine belowL_append h6 ?_
      simp [belowL, belowV]
theorem closed_S1 : ∀ t ∈ [3, 4, 9, 22, 24, 25, 26, 27, 28, 30, 31, 32, 34, 35, 44, 46, 64, 66, 137, 138, 140, 141, 462, 464, 466], closedAt T0 [3, 4, 9, 22, 24, 25, 26, 27, 28, 30, 31, 32, 34, 35, 44, 46, 64, 66, 137, 138, 140, 141, 462, 464, 466] t = true := by decide
end Go.Proofs.Tryz
