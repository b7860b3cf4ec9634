/-
  Part of a proof: contracts of functions in abstract values.
-/
import Derived.Test.YtejdblkohdbhaaaGreatDoorGb
set_option linter.unusedVariables false
set_option linter.unusedSimpArgs false
namespace Go.Proofs.Tryz
open Go Go.Abs
set_option linter.unusedSimpArgs false
set_option maxRecDepth 100000
set_option maxHeartbeats 2000000

theorem shp_qst {k : Nat} {l : List AV} (h : Shp T0 k 55 l) : ∃ q : Qst, boxE T0 55 l = q.av := by
  cases k with
  | zero => exact shp0 h
  | succ k =>
    simp only [Shp, T0_55, Option.map_some, ShpF] at h
    obtain ⟨l1, r1, rfl, h1, l2, r2, rfl, h2, rfl⟩ := h
    obtain ⟨a, rfl⟩ := shp_int h1
    obtain ⟨b, rfl⟩ := shp_strs h2
    exact ⟨⟨a, b⟩, rfl⟩
/-- Two strings. -/
def pairAV (a b : Str) : AV := .agg [.str a, .str b]
theorem shp_pair {k : Nat} {l : List AV} (h : Shp T0 k 47 l) : ∃ x : Str × Str, boxE T0 47 l = pairAV x.1 x.2 := by
  cases k with
  | zero => exact shp0 h
  | succ k =>
    simp only [Shp, T0_47, Option.map_some] at h
    obtain ⟨ls, hl, rfl, h⟩ := h
    rcases ls with _ | ⟨x, _ | ⟨y, _ | ⟨z, ls⟩⟩⟩ <;> simp at hl
    obtain ⟨a, rfl⟩ := shp_str (h x (by simp))
    obtain ⟨b, rfl⟩ := shp_str (h y (by simp))
    exact ⟨(a, b), rfl⟩
theorem closed_S2 : ∀ t ∈ [3, 4, 9, 22, 24, 25, 26, 27, 28, 30, 31, 32, 34, 35, 44, 46, 47, 55, 64, 66, 137, 138, 140, 141, 462, 464, 466], closedAt T0 [3, 4, 9, 22, 24, 25, 26, 27, 28, 30, 31, 32, 34, 35, 44, 46, 47, 55, 64, 66, 137, 138, 140, 141, 462, 464, 466] t = true := by decide
end Go.Proofs.Tryz
