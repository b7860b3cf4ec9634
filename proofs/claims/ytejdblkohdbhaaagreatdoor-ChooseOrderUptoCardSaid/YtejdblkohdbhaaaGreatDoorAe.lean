/-
  Part of a proof: contracts of functions in abstract values.
-/
import Derived.Test.YtejdblkohdbhaaaGreatDoorAd
import Derived.Below
import Derived.WideShapes
import Derived.Carry
import Derived.ChangeOld
import Derived.RowKit
import Derived.OpenShut
set_option linter.unusedVariables false
set_option linter.unusedSimpArgs false
namespace Go.Abs
open Go

mutual
/-- Weaker, element by element. -/
def avLe2 : AV → AV → Prop
  | .snil, b => match b with
    | .sl _ es => es = []
    | b => b = .snil
  | .tup l, b => match b with
    | .tup l' => avsLe2 l l'
    | _ => False
  | .agg l, b => match b with
    | .agg l' => avsLe2 l l'
    | _ => False
  | .sl z es, b => match b with
    | .sl z' es' => z = z' ∧ avsLe2 es es'
    | _ => False
  | .unk, b => b = .unk
  | .int k n, b => b = .int k n
  | .bool x, b => b = .bool x
  | .str s, b => b = .str s
  | .fn g c, b => b = .fn g c
  | .nilfn, b => b = .nilfn
  | .ptr x o, b => b = .ptr x o
  | .nilptr, b => b = .nilptr
  | .ep z es i o, b => b = .ep z es i o
  | .map x, b => b = .map x
  | .nilmap, b => b = .nilmap
def avsLe2 : List AV → List AV → Prop
  | [], l => l = []
  | a :: l, l' => match l' with
    | b :: l' => avLe2 a b ∧ avsLe2 l l'
    | [] => False
end

theorem avsLe2_length : ∀ {l l' : List AV}, avsLe2 l l' → l'.length = l.length
  | [], l', h => by simp only [avsLe2] at h; subst h; rfl
  | a :: l, [], h => by simp only [avsLe2] at h
  | a :: l, b :: l', h => by simp only [avsLe2] at h; simp [avsLe2_length h.2]

mutual
theorem avLe2_rep {M : Snap} : ∀ (a b : AV), avLe2 a b → ∀ {θ : List Nat} {v : Value}, Rep M θ a v → Rep M θ b v
  | .snil, b, h, θ, v, hr => by
    cases b <;> simp only [avLe2, reduceCtorEq] at h
    · exact hr
    · subst h
      simp only [Rep] at hr ⊢
      exact ⟨none, 0, by simpa using hr, Nat.le_refl _, fun h => absurd rfl h⟩
  | .tup l, b, h, θ, v, hr => by
    cases b <;> simp only [avLe2] at h
    simp only [Rep] at hr ⊢
    obtain ⟨vs, e, hr⟩ := hr
    exact ⟨vs, e, avsLe2_reps _ _ h hr⟩
  | .agg l, b, h, θ, v, hr => by
    cases b <;> simp only [avLe2] at h
    simp only [Rep] at hr ⊢
    obtain ⟨vs, e, hr⟩ := hr
    exact ⟨vs, e, avsLe2_reps _ _ h hr⟩
  | .sl z es, b, h, θ, v, hr => by
    cases b <;> simp only [avLe2] at h
    rename_i z' es'
    obtain ⟨rfl, h⟩ := h
    have hl := avsLe2_length h
    simp only [Rep] at hr ⊢
    obtain ⟨a, c, e, hc, hr⟩ := hr
    refine ⟨a, c, by rw [hl]; exact e, by rw [hl]; exact hc, fun hne => ?_⟩
    obtain ⟨b, o, e2, hrow⟩ := hr (by rintro rfl; simp only [avsLe2] at h; exact hne h)
    exact ⟨b, o, e2, avsLe2_row _ _ h hrow⟩
  | .unk, b, h, _, _, hr => by simp only [avLe2] at h; subst h; exact hr
  | .int k n, b, h, _, _, hr => by simp only [avLe2] at h; subst h; exact hr
  | .bool x, b, h, _, _, hr => by simp only [avLe2] at h; subst h; exact hr
  | .str s, b, h, _, _, hr => by simp only [avLe2] at h; subst h; exact hr
  | .fn g c, b, h, _, _, hr => by simp only [avLe2] at h; subst h; exact hr
  | .nilfn, b, h, _, _, hr => by simp only [avLe2] at h; subst h; exact hr
  | .ptr x o, b, h, _, _, hr => by simp only [avLe2] at h; subst h; exact hr
  | .nilptr, b, h, _, _, hr => by simp only [avLe2] at h; subst h; exact hr
  | .ep z es i o, b, h, _, _, hr => by simp only [avLe2] at h; subst h; exact hr
  | .map x, b, h, _, _, hr => by simp only [avLe2] at h; subst h; exact hr
  | .nilmap, b, h, _, _, hr => by simp only [avLe2] at h; subst h; exact hr
theorem avsLe2_reps {M : Snap} : ∀ (l l' : List AV), avsLe2 l l' → ∀ {θ : List Nat} {vs : List Value}, Reps M θ l vs → Reps M θ l' vs
  | [], l', h, _, _, hr => by simp only [avsLe2] at h; subst h; exact hr
  | a :: l, [], h, _, _, hr => by simp only [avsLe2] at h
  | a :: l, b :: l', h, _, _, hr => by
    simp only [avsLe2] at h
    simp only [Reps] at hr ⊢
    obtain ⟨v, vs', e, h1, h2⟩ := hr
    exact ⟨v, vs', e, avLe2_rep a b h.1 h1, avsLe2_reps l l' h.2 h2⟩
theorem avsLe2_cells {M : Snap} : ∀ (l l' : List AV), avsLe2 l l' → ∀ {b off : Nat}, Cells M l b off → Cells M l' b off
  | [], l', h, _, _, hr => by simp only [avsLe2] at h; subst h; exact hr
  | a :: l, [], h, _, _, hr => by simp only [avsLe2] at h
  | a :: l, b :: l', h, _, _, hr => by
    simp only [avsLe2] at h
    simp only [Cells] at hr ⊢
    obtain ⟨⟨v, h1, h2, h3⟩, h4⟩ := hr
    exact ⟨⟨v, h1, h2, avLe2_rep a b h.1 h3⟩, avsLe2_cells l l' h.2 h4⟩
theorem avsLe2_row {M : Snap} : ∀ (l l' : List AV), avsLe2 l l' → ∀ {z b off : Nat}, Row M l z b off → Row M l' z b off
  | [], l', h, _, _, _, hr => by simp only [avsLe2] at h; subst h; exact hr
  | a :: l, [], h, _, _, _, hr => by simp only [avsLe2] at h
  | .agg x :: l, b :: l', h, _, _, _, hr => by
    simp only [avsLe2] at h
    cases b <;> simp only [avLe2, false_and] at h
    rw [Row_cons] at hr ⊢
    simp only [cellsOf] at hr ⊢
    exact ⟨by rw [avsLe2_length h.1]; exact hr.1, avsLe2_cells _ _ h.1 hr.2.1, avsLe2_row l l' h.2 hr.2.2⟩
  | .snil :: l, b :: l', h, _, _, _, hr => by
    simp only [avsLe2] at h
    have hb : cellsOf b = [b] := by cases b <;> first | rfl | (simp only [avLe2, reduceCtorEq, false_and] at h)
    rw [Row_cons] at hr ⊢
    rw [hb]
    simp only [cellsOf, Cells] at hr ⊢
    obtain ⟨h0, ⟨⟨v, h1, h2, h3⟩, _⟩, h4⟩ := hr
    exact ⟨h0, ⟨⟨v, h1, h2, avLe2_rep _ b h.1 h3⟩, trivial⟩, avsLe2_row l l' h.2 h4⟩
  | .sl z es :: l, b :: l', h, _, _, _, hr => by
    simp only [avsLe2] at h
    have hb : cellsOf b = [b] := by cases b <;> first | rfl | (simp only [avLe2, reduceCtorEq, false_and] at h)
    rw [Row_cons] at hr ⊢
    rw [hb]
    simp only [cellsOf, Cells] at hr ⊢
    obtain ⟨h0, ⟨⟨v, h1, h2, h3⟩, _⟩, h4⟩ := hr
    exact ⟨h0, ⟨⟨v, h1, h2, avLe2_rep _ b h.1 h3⟩, trivial⟩, avsLe2_row l l' h.2 h4⟩
  | .tup x :: l, b :: l', h, _, _, _, hr => by
    simp only [avsLe2] at h
    have hb : cellsOf b = [b] := by cases b <;> first | rfl | (simp only [avLe2, reduceCtorEq, false_and] at h)
    rw [Row_cons] at hr ⊢
    rw [hb]
    simp only [cellsOf, Cells] at hr ⊢
    obtain ⟨h0, ⟨⟨v, h1, h2, h3⟩, _⟩, h4⟩ := hr
    exact ⟨h0, ⟨⟨v, h1, h2, avLe2_rep _ b h.1 h3⟩, trivial⟩, avsLe2_row l l' h.2 h4⟩
  | .unk :: l, b :: l', h, _, _, _, hr => by
    simp only [avsLe2, avLe2] at h; obtain ⟨rfl, h⟩ := h
    rw [Row_cons] at hr ⊢; exact ⟨hr.1, hr.2.1, avsLe2_row l l' h hr.2.2⟩
  | .int k n :: l, b :: l', h, _, _, _, hr => by
    simp only [avsLe2, avLe2] at h; obtain ⟨rfl, h⟩ := h
    rw [Row_cons] at hr ⊢; exact ⟨hr.1, hr.2.1, avsLe2_row l l' h hr.2.2⟩
  | .bool x :: l, b :: l', h, _, _, _, hr => by
    simp only [avsLe2, avLe2] at h; obtain ⟨rfl, h⟩ := h
    rw [Row_cons] at hr ⊢; exact ⟨hr.1, hr.2.1, avsLe2_row l l' h hr.2.2⟩
  | .str s :: l, b :: l', h, _, _, _, hr => by
    simp only [avsLe2, avLe2] at h; obtain ⟨rfl, h⟩ := h
    rw [Row_cons] at hr ⊢; exact ⟨hr.1, hr.2.1, avsLe2_row l l' h hr.2.2⟩
  | .fn g c :: l, b :: l', h, _, _, _, hr => by
    simp only [avsLe2, avLe2] at h; obtain ⟨rfl, h⟩ := h
    rw [Row_cons] at hr ⊢; exact ⟨hr.1, hr.2.1, avsLe2_row l l' h hr.2.2⟩
  | .nilfn :: l, b :: l', h, _, _, _, hr => by
    simp only [avsLe2, avLe2] at h; obtain ⟨rfl, h⟩ := h
    rw [Row_cons] at hr ⊢; exact ⟨hr.1, hr.2.1, avsLe2_row l l' h hr.2.2⟩
  | .ptr x o :: l, b :: l', h, _, _, _, hr => by
    simp only [avsLe2, avLe2] at h; obtain ⟨rfl, h⟩ := h
    rw [Row_cons] at hr ⊢; exact ⟨hr.1, hr.2.1, avsLe2_row l l' h hr.2.2⟩
  | .nilptr :: l, b :: l', h, _, _, _, hr => by
    simp only [avsLe2, avLe2] at h; obtain ⟨rfl, h⟩ := h
    rw [Row_cons] at hr ⊢; exact ⟨hr.1, hr.2.1, avsLe2_row l l' h hr.2.2⟩
  | .ep z es i o :: l, b :: l', h, _, _, _, hr => by
    simp only [avsLe2, avLe2] at h; obtain ⟨rfl, h⟩ := h
    rw [Row_cons] at hr ⊢; exact ⟨hr.1, hr.2.1, avsLe2_row l l' h hr.2.2⟩
  | .map x :: l, b :: l', h, _, _, _, hr => by
    simp only [avsLe2, avLe2] at h; obtain ⟨rfl, h⟩ := h
    rw [Row_cons] at hr ⊢; exact ⟨hr.1, hr.2.1, avsLe2_row l l' h hr.2.2⟩
  | .nilmap :: l, b :: l', h, _, _, _, hr => by
    simp only [avsLe2, avLe2] at h; obtain ⟨rfl, h⟩ := h
    rw [Row_cons] at hr ⊢; exact ⟨hr.1, hr.2.1, avsLe2_row l l' h hr.2.2⟩
end

/-- Stronger arguments. -/
theorem FSv.args {P : Program} {g : FuncId} {args args' : List AV} {v : AV} (h : FSv P g args v) (ha : avsLe2 args' args) : FSv P g args' v := by
  refine ⟨h.1, fun w M θ ω τ vals h1 h2 h3 => ?_⟩
  have hl := avsLe2_length ha
  rw [← hl] at h1
  exact (h.2 w M θ ω τ vals h1 h2 (avsLe2_reps _ _ ha h3)).mono fun e w' ⟨r, u, M', θ', ω', τ', k1, k2, k3, k4⟩ => ⟨r, u, M', θ', ω', τ', k1, k2, k3, k4⟩
end Go.Abs

namespace Go.Abs
open Go

/-! ### Pure functions whose result is known in part -/
def FSp (P : Program) (g : FuncId) (args : List AV) (Q : AV → Prop) : Prop := FS P g args [] [] fun r => Q r.v ∧ r.tg = .none
def retP (T : TE) (rs : Array ResultVar) (Q : AV → Prop) : AX → St → Prop := retQ T rs fun r => ∃ v, Q v ∧ avLe r.v v
theorem FSp_code {P : Program} {T : TE} (hT : TOk P T) (hm : P.follows .mixedOrders = true) (pl : Nat → RPlan) {g : FuncId} {fn : Func} (c : Code) (hf : P.funcs[g]? = some fn) (hname : (fn.name == "runtime.NumGoroutine") = false) (hb : fn.body = some c) (n : Nat) (hn : fn.ntmps = n) (hok : codeOk2 n pl c = true)
    {args : List AV} {Q : AV → Prop} (hlen : args.length ≤ n) (rs : Array ResultVar) (hr : fn.results = rs) (h : eWC P T pl c (S0 args [] [] n) (retP T rs Q) .mk) : FSp P g args Q := by
  subst hn; subst hr
  have := FS_body hT hf hname hb (own := []) (H := []) hlen (WC_sound hT hm c _ _ hok h)
  exact ⟨this.1, fun w M θ ω τ vals h1 h2 h3 => (this.2 w M θ ω τ vals h1 h2 h3).mono fun e w' ⟨r, u, M', θ', ω', τ', k1, ⟨v, k2, k2'⟩, k3, k4, k5⟩ => ⟨⟨v, .none, r.W⟩, u, M', θ', ω', τ', k1, ⟨k2, rfl⟩, k3, avLe_rep k2' k4, trivial⟩⟩
theorem callG_p {P : Program} {g : FuncId} {svs : List SV} {W : WPt} {K : WPt → SV → Prop} (Q : AV → Prop) (hf : FSp P g (svs.map (·.v)) Q) (hok : ∀ sv ∈ svs, sv.ok) (hbel : belowL 0 (svs.map (·.v))) (hv : ∀ v, Q v → belowV 0 v)
    (hk : ∀ v, Q v → K W ⟨True, v, .none⟩) : callG P g svs W K .mk := by
  refine ⟨none, .inl ⟨hok, hbel, (fun _ _ _ h => by cases h), _, hf, fun r hr => ?_⟩⟩
  obtain ⟨h1, h2⟩ := hr
  refine ⟨hv _ h1, ?_⟩
  have e1 : resTok r = none := by unfold resTok; rw [h2]
  have e2 : afterSV W r = ⟨True, r.v, .none⟩ := by unfold afterSV; rw [h2]; rfl
  rw [e1, e2]
  exact hk _ h1
theorem FSv.toP {P : Program} {g : FuncId} {args : List AV} {v : AV} {Q : AV → Prop} (h : FSv P g args v) (hq : Q v) : FSp P g args Q :=
  FS.mono h fun r hr => ⟨by rw [hr.1]; exact hq, hr.2⟩
theorem FSp.weaken {P : Program} {g : FuncId} {args : List AV} {Q Q' : AV → Prop} (h : FSp P g args Q) (hq : ∀ v, Q v → Q' v) : FSp P g args Q' :=
  FS.mono h fun r hr => ⟨hq _ hr.1, hr.2⟩
def isBool (v : AV) : Prop := ∃ b, v = .bool b
def isNat (n : Nat) (v : AV) : Prop := ∃ d : Nat, d ≤ n ∧ v = .int .i64 d
end Go.Abs

namespace Go.Abs
open Go Go.RowKit

/-- The cells that were known, and those of the blocks that are new. -/
def Snap.new (M : Snap) (n : Nat) (w' : World) : Snap := fun b o => if b < n then M b o else w'.cell? ⟨b, o, none⟩
theorem cell_lt {w : World} {b o : Nat} {v : Value} (h : w.cell? ⟨b, o, none⟩ = some v) : b < w.heap.size := by
  unfold World.cell? at h
  split at h
  · rename_i hh; exact (Array.getElem?_eq_some_iff.1 hh).1
  · cases h
theorem cell_below {w w' : World} (h : Below w.heap.size w w') {b o : Nat} (hb : b < w.heap.size) : w'.cell? ⟨b, o, none⟩ = w.cell? ⟨b, o, none⟩ := by
  unfold World.cell?
  rw [h.block b hb]
theorem le_new {M : Snap} {w w' : World} (he : Ext w M) : M.le (M.new w.heap.size w') := fun b o v hv => by
  have := cell_lt (he b o v hv)
  simp only [Snap.new, this, if_true]; exact hv
theorem ext_new {M : Snap} {w w' : World} (he : Ext w M) (hB : Below w.heap.size w w') : Ext w' (M.new w.heap.size w') := fun b o v hv => by
  unfold Snap.new at hv
  split at hv
  · rename_i hb
    rw [cell_below hB hb]; exact he b o v hv
  · exact hv

/-- A contract of the kit's, as a contract of ours. -/
theorem FSv_bridge {P : Program} {g : FuncId} {args : List AV} {v : AV} (he : Entr P g)
    (h : ∀ (w : World) (M : Snap) (vals : List Value), Ext w M → Reps M [] args vals → Calls P g vals.toArray w fun e w' => ∃ u, e = .returned u ∧ Below w.heap.size w w' ∧ Rep (M.new w.heap.size w') [] v u) : FSv P g args v := by
  refine ⟨he, fun w M θ ω τ vals hc _ hr => ?_⟩
  have hθ : θ = [] := by
    have := hc.hlen
    exact List.length_eq_zero_iff.1 (by simpa using this)
  subst hθ
  refine (h w M vals hc.ext hr).mono fun e w' ⟨u, e1, hB, hu⟩ => ?_
  refine ⟨⟨v, .none, ⟨args.length, [], [], 0⟩⟩, u, M.new w.heap.size w', [], ω, τ, e1, ⟨rfl, rfl⟩, ?_, hu, trivial⟩
  exact
    { mle := le_new hc.ext
      tle := tle_refl _
      ext := ext_new hc.ext hB
      hlen := rfl
      inj := fun i j x h => by simp at h
      tnew := fun i x h => by simp at h
      tlt := fun i x h => by simp at h
      box := fun b bx blk h => by simp at h
      bel := fun b l ow h => by simp at h
      live := fun t e h => by simp at h
      own := fun blk ow h => ⟨Nat.lt_of_lt_of_le (hc.own blk ow h).1 hB.size, fun i => by simp⟩
      ow0 := fun blk _ h => h
      kp := ⟨hB.os, hB.tape, hB.output, hB.size, fun k hk _ => hB.block k hk⟩
      mkeep := fun blk o hb _ _ => by simp only [Snap.new, hb, if_true] }
/-- Where the result does not lie in memory. -/
theorem FSv_bridge0 {P : Program} {g : FuncId} {args : List AV} {v : AV} (he : Entr P g)
    (h : ∀ (w : World) (M : Snap) (vals : List Value), Ext w M → Reps M [] args vals → Calls P g vals.toArray w fun e w' => ∃ u, e = .returned u ∧ Below w.heap.size w w' ∧ ∀ M', Rep M' [] v u) : FSv P g args v :=
  FSv_bridge he fun w M vals h1 h2 => (h w M vals h1 h2).mono fun e w' ⟨u, a, b, c⟩ => ⟨u, a, b, c _⟩

theorem reps_cons {M : Snap} {θ : List Nat} {a : AV} {l : List AV} {vs : List Value} (h : Reps M θ (a :: l) vs) : ∃ v vs', vs = v :: vs' ∧ Rep M θ a v ∧ Reps M θ l vs' := by simpa only [Reps] using h
theorem reps_nil {M : Snap} {θ : List Nat} {vs : List Value} (h : Reps M θ [] vs) : vs = [] := by simpa only [Reps] using h
theorem entr_of {P : Program} {g : FuncId} {fn : Func} {c : Code} (h1 : P.funcs[g]? = some fn) (h2 : (fn.name == "runtime.NumGoroutine") = false) (h3 : fn.body = some c) : Entr P g := ⟨fn, c, h1, h2, h3⟩
end Go.Abs

namespace Go.Abs
open Go Go.RowKit

/-- All of memory. -/
def snap (w : World) : Snap := fun b o => w.cell? ⟨b, o, none⟩

theorem FSv_run {P : Program} {g : FuncId} {args : List AV} {b : Bool} (h : FSv P g args (.bool b)) {w : World} {vals : List Value} (hr : Reps (snap w) [] args vals) :
    Calls P g vals.toArray w fun e w' => e = .returned (.bool b) ∧ Below w.heap.size w w' := by
  have hc : Core P ⟨w, snap w, [], fun _ => none⟩ ⟨args.length, [], [], 0⟩ (snap w) [] (fun _ => none) (fun _ => .bool false) w :=
    { mle := Snap.le_refl _
      tle := tle_refl _
      ext := fun _ _ _ h => h
      hlen := rfl
      inj := fun i j x h => by simp at h
      tnew := fun i x h => by simp at h
      tlt := fun i x h => by simp at h
      box := fun b bx blk h => by simp at h
      bel := fun b l ow h => by simp at h
      live := fun t e h => by simp at h
      own := fun blk ow h => by simp at h
      ow0 := fun blk _ h => h
      kp := ⟨rfl, rfl, rfl, Nat.le_refl _, fun _ _ _ => rfl⟩
      mkeep := fun _ _ _ _ _ => rfl }
  refine (h.2 w (snap w) [] (fun _ => none) (fun _ => .bool false) vals hc (fun i e v h => by simp at h) hr).mono fun e w' ⟨r, u, M', θ', ω', τ', k1, k2, k3, k4, _⟩ => ?_
  have hk := k3.kp
  have hb : Below w.heap.size w w' := ⟨hk.os, hk.tape, hk.output, hk.size, fun k h => hk.block k h (by simp)⟩
  have h1 := k2.1
  rw [h1] at k4
  simp only [Rep] at k4
  subst k4
  exact ⟨k1, hb⟩

/-- An argument, read. -/
theorem open_arg {H : Type} {enc : TypeId × Value → H} {P : Program} {T : TE} (hT : TOk P T) {S : List Nat} (hS : ∀ t ∈ S, closedAt T S t = true) {w : World} {base0 base : Nat} {spare : Nat → Bool} {held : Bool} {t : Nat} {v : Value} {d : DataW H} {ps : List MemPlace}
    (ht : t ∈ S) (hv : Value.okWide P w .any base0 t v) (h : DataW.Trod enc P w base spare held t v d ps) : ∃ k l, Shp T k t l ∧ Rep (snap w) [] (boxE T t l) v ∧ wt (boxE T t l) ≤ bulkD d := by
  obtain ⟨k, hk⟩ := h
  obtain ⟨l, h1, h2, h3, h4⟩ := trod_shp hT hS (M := snap w) (fun _ _ _ h => h) k t _ d ps ht hk
  refine ⟨k, l, h1, ?_, h4⟩
  have hc := hS t ht
  unfold closedAt at hc
  cases hti : T t with
  | none => simp [hti] at hc
  | some ti =>
    simp only [hti, Bool.and_eq_true, decide_eq_true_eq] at hc
    have hdesc := hT.desc t ti hti
    have hbx : boxE T t l = if isAggD ti.d then .agg l else l.headD .unk := by simp only [boxE, isAggT, hti]
    rw [hbx]
    have one : ∀ {v : Value}, v.cells = #[v] → isAggD ti.d = false → RepC (snap w) l v.cells.toList → l.length = 1 → Rep (snap w) [] (if isAggD ti.d then .agg l else l.headD .unk) v := fun {v} hv ha hr hl => by
      rw [ha, hv] at *
      obtain ⟨a, rfl⟩ : ∃ a, l = [a] := List.length_eq_one_iff.1 hl
      simp only [RepC, Bool.false_eq_true, if_false, List.headD_cons] at hr ⊢
      obtain ⟨u, vs, e, ⟨_, h⟩, _⟩ := hr
      simp only [List.cons.injEq] at e
      rw [e.1]; exact h
    have l1 : v.cells = #[v] → l.length = 1 := fun e => by rw [← h2.length, e]; rfl
    unfold Value.okWide at hv
    cases hd : ti.d <;> simp only [hd, DescOk] at hdesc hc <;> try (simp only [Bool.false_eq_true, and_false] at hc; done)
    · obtain ⟨n, rfl⟩ := WideShapes.okWide_int hdesc (base := base0) (r := .any) (w := w) (by unfold Value.okWide; exact hv)
      exact hd ▸ one rfl (by rw [hd]; rfl) h2 (l1 rfl)
    · obtain ⟨n, rfl⟩ := WideShapes.okWide_bool hdesc (base := base0) (r := .any) (w := w) (by unfold Value.okWide; exact hv)
      exact hd ▸ one rfl (by rw [hd]; rfl) h2 (l1 rfl)
    · obtain ⟨n, rfl⟩ := WideShapes.okWide_string hdesc (base := base0) (r := .any) (w := w) (by unfold Value.okWide; exact hv)
      exact hd ▸ one rfl (by rw [hd]; rfl) h2 (l1 rfl)
    · obtain ⟨a, n, c, rfl⟩ := WideShapes.okWide_slice hdesc (base := base0) (r := .any) (w := w) (by unfold Value.okWide; exact hv)
      exact hd ▸ one rfl (by rw [hd]; rfl) h2 (l1 rfl)
    · obtain ⟨fields, hu, _⟩ := hdesc
      rw [hu] at hv
      obtain ⟨cs, rfl, _⟩ := hv
      simp only [isAggD, if_true, Rep]
      exact ⟨cs.toList, by simp, h2.reps⟩
    · rw [hdesc] at hv
      obtain ⟨cs, rfl, _⟩ := hv
      simp only [isAggD, if_true, Rep]
      exact ⟨cs.toList, by simp, h2.reps⟩
end Go.Abs

namespace Go.Abs
/-- Small laws of the library, one name for all. -/
theorem wz :
  (∀ {α : Type} (a : α) (l : List α), (a :: l)[0]? = some a) ∧
  (∀ {α : Type} (a : α) (l : List α) (i : Nat), (a :: l)[i + 1]? = l[i]?) ∧
  (∀ (p : Prop) [Decidable p], (decide p = false) = ¬ p) ∧
  (∀ (p : Prop) [Decidable p], (decide p = true) = p) ∧
  (∀ {α : Type} (l : List α) (i : Nat), l.toArray[i]? = l[i]?) ∧
  (∀ {α : Type} (a : α) (l : List α), [a] ++ l = a :: l) ∧
  (∀ {α : Type} (a : α) (l : List α) (d : α), (a :: l).getD 0 d = a) ∧
  (∀ {α : Type} (a : α) (l : List α) (i : Nat) (d : α), (a :: l).getD (i + 1) d = l.getD i d) ∧
  (∀ {α : Type} (a : α) (l : List α) (i : Nat), (a :: l).drop (i + 1) = l.drop i) ∧
  (∀ {α : Type} (a : α) (l : List α) (i : Nat), (a :: l).take (i + 1) = a :: l.take i) ∧
  (∀ {α : Type} (a : α), (some a).isSome = true) ∧
  ((false = true) = False) ∧ ((true = false) = False) ∧
  (∀ {α : Type} (a b : α) (l : List α), (a :: l).set 0 b = b :: l) ∧
  (∀ {α : Type} (a b : α) (l : List α) (i : Nat), (a :: l).set (i + 1) b = a :: l.set i b) ∧
  (∀ {α : Type} (a b c : List α), a ++ b ++ c = a ++ (b ++ c)) ∧
  (∀ {α : Type} (l : List α), l.toArray.size = l.length) ∧
  ((¬ True) = False) ∧ ((¬ False) = True) ∧
  (∀ {α : Type} (a : α) (l : List α) (n : Nat), (a :: l).zipIdx n = (a, n) :: l.zipIdx (n + 1)) ∧
  (∀ {α : Type} (a : α) (l m : List α), (a :: l) ++ m = a :: (l ++ m)) ∧
  (∀ {α β : Type} (a : α) (f : α → Option β), (some a).bind f = f a) ∧
  (∀ {α β : Type} (f : α → Option β), (none : Option α).bind f = none) ∧
  (∀ {α : Type} (a : α) (l : List α), (a :: l).length = l.length + 1) ∧
  (∀ {α : Type} (n : Nat), ([] : List α).zipIdx n = []) ∧
  (∀ {α : Type} (l : List α), [] ++ l = l) ∧
  (∀ {α β : Type} (a : α) (f : α → β), (some a).map f = some (f a)) ∧
  (∀ {α β : Type} (f : α → β), (none : Option α).map f = none) ∧
  (∀ {α β : Type} (f : α → β) (l : List α), (l.map f).length = l.length) ∧
  (∀ {α : Type}, ([] : List α).length = 0) ∧
  (∀ {α : Type} (l : List α), l ++ [] = l) ∧
  (∀ {α : Type} (l : List α), l.drop 0 = l) ∧ (∀ {α : Type} (l : List α), l.take 0 = []) ∧
  (∀ b : Bool, (false && b) = false) ∧ (∀ b : Bool, (b && false) = false) ∧ ((!false) = true) ∧ ((!true) = false) ∧
  ((0 : Int).toNat = 0) ∧ (((0 : Nat) : Int) = 0) ∧
  (∀ {α : Type} (p : α → Bool) (a : α) (l : List α), (a :: l).all p = (p a && l.all p)) ∧
  (∀ {α β : Type} (f : α → β) (a : α) (l : List α), (a :: l).map f = f a :: l.map f) ∧
  (∀ {α : Type} (p : α → Bool) (a : α) (l : List α), (a :: l).any p = (p a || l.any p)) ∧
  (∀ {α : Type} (i : Nat), ([] : List α).drop i = []) ∧ (∀ {α : Type} (i : Nat), ([] : List α).take i = []) ∧
  (∀ b : Bool, (true && b) = b) ∧ (∀ b : Bool, (b && true) = b) ∧ (∀ b : Bool, (false || b) = b) ∧ (∀ b : Bool, (b || false) = b) ∧
  (∀ {α : Type} (p : α → Bool), ([] : List α).all p = true) ∧ (∀ {α β : Type} (f : α → β), ([] : List α).map f = []) ∧ (∀ {α : Type} (p : α → Bool), ([] : List α).any p = false) ∧
  (∀ b : Bool, (true || b) = true) ∧ (∀ b : Bool, (b || true) = true) ∧ (decide False = false) ∧ (decide True = true) ∧
  (∀ p : Prop, (False ∧ p) = False) ∧ (∀ p : Prop, (p ∧ False) = False) ∧ (∀ p : Prop, (True ∧ p) = p) ∧ (∀ p : Prop, (p ∧ True) = p) ∧ (∀ p : Prop, (p ∧ p) = p) ∧
  (∀ p : Prop, (p ∨ False) = p) ∧ (∀ p : Prop, (False ∨ p) = p) ∧ (∀ p : Prop, (p ∨ True) = True) ∧ (∀ p : Prop, (True ∨ p) = True) := by
  refine ⟨?_, ?_, ?_, ?_, ?_, ?_, ?_, ?_, ?_, ?_, ?_, ?_, ?_, ?_, ?_, ?_, ?_, ?_, ?_, ?_, ?_, ?_, ?_, ?_, ?_, ?_, ?_, ?_, ?_, ?_, ?_, ?_, ?_, ?_, ?_, ?_, ?_, ?_, ?_, ?_, ?_, ?_, ?_, ?_, ?_, ?_, ?_, ?_, ?_, ?_, ?_, ?_, ?_, ?_, ?_, ?_, ?_, ?_, ?_, ?_, ?_, ?_, ?_, ?_⟩ <;> intros <;> simp
end Go.Abs
