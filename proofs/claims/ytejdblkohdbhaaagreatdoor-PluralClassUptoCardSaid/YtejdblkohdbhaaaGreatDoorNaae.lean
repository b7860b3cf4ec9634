/-
  Part of a proof: contracts of functions in abstract values.
-/
import Derived.Test.YtejdblkohdbhaaaGreatDoorNaad
import GoSem.ClaimChange
import Derived.DataReads
import Derived.Below
import Derived.WideShapes
import Derived.Carry
import Derived.ChangeOld
import Derived.RowKit
import Derived.OpenShut
import Derived.Test.YtejdblkohdbhaaaGreatDoorProg
set_option linter.unusedVariables false
set_option linter.unusedSimpArgs false
namespace Go.Abs
open Go

/-! ### Forgetting boxes -/
def tagBel (m : Nat) : Tag → Prop
  | .cell b _ _ => b < m
  | .tup _ => False
  | _ => True
def frBel (m : Nat) : List (Nat × SV) → Prop
  | [] => True
  | (_, sv) :: l => (sv.ok → belowV m sv.v ∧ tagBel m sv.tg) ∧ frBel m l
theorem frBel_lk {m : Nat} : ∀ {fr : List (Nat × SV)}, frBel m fr → ∀ k, (lk fr k).ok → belowV m (lk fr k).v ∧ tagBel m (lk fr k).tg
  | [], _, _, h => h.elim
  | (k', sv) :: l, h, k, hok => by
    simp only [frBel] at h
    simp only [lk] at hok ⊢
    split
    · rename_i he; subst he; rw [if_pos rfl] at hok; exact h.1 hok
    · rename_i he; rw [if_neg he] at hok; exact frBel_lk h.2 k hok

section
variable {P : Program}
theorem take_get {θ : List Nat} {m i x : Nat} (h : (θ.take m)[i]? = some x) : i < m ∧ θ[i]? = some x := by
  rw [List.getElem?_take] at h
  split at h
  · rename_i hi; exact ⟨hi, h⟩
  · cases h

theorem Core.trunc {Γ : Cx} {W : WPt} {M : Snap} {θ : List Nat} {ω : Nat → Option Owner} {τ : Nat → Value} {w : World} (h : Core P Γ W M θ ω τ w) (m : Nat) (hb : Γ.θ0.length ≤ m) : Core P Γ { W with H := W.H.take m } M (θ.take m) ω τ w where
  mle := h.mle
  tle := fun i x hi => by
    have hlt := (List.getElem?_eq_some_iff.1 hi).1
    rw [List.getElem?_take, if_pos (by omega)]
    exact h.tle i x hi
  ext := h.ext
  hlen := by simp [h.hlen]
  inj := fun i j x hi hj => h.inj i j x (take_get hi).2 (take_get hj).2
  tnew := fun i x hi hge => h.tnew i x (take_get hi).2 hge
  tlt := fun i x hi => h.tlt i x (take_get hi).2
  box := fun b bx blk hH hθ => by
    obtain ⟨h1, h2⟩ := take_get hθ
    have hH' : W.H[b]? = some bx := by
      rw [List.getElem?_take, if_pos h1] at hH; exact hH
    have := h.box b bx blk hH' h2
    cases bx with
    | dead => trivial
    | cells l ow =>
      obtain ⟨vs, ty, k1, k2, k3, k4⟩ := this
      exact ⟨vs, ty, k1, Reps.cut l vs k2 (belowL.mono (by omega) l (h.bel b l ow hH')), k3, k4⟩
  bel := fun b l ow hH => by
    have hH' : W.H[b]? = some (.cells l ow) := by
      rw [List.getElem?_take] at hH
      split at hH
      · exact hH
      · cases hH
    exact h.bel b l ow hH'
  live := h.live
  own := fun blk ow hb => ⟨(h.own blk ow hb).1, fun i hi => (h.own blk ow hb).2 i (take_get hi).2⟩
  ow0 := h.ow0
  kp := h.kp
  mkeep := h.mkeep

theorem SlotOk.trunc {W : WPt} {M : Snap} {θ : List Nat} {τ : Nat → Value} {w : World} {sv : SV} {v : Value} (m : Nat) (h : SlotOk W M θ τ w sv v) (hb : belowV m sv.v) (ht : tagBel m sv.tg) : SlotOk { W with H := W.H.take m } M (θ.take m) τ w sv v := by
  refine ⟨Rep.cut _ _ h.1 hb, ?_⟩
  have h2 := h.2
  revert h2 ht
  cases sv.tg with
  | none => intro _ _; trivial
  | und => intro _ _; trivial
  | free => intro _ h2; exact h2
  | tok t => intro _ h2; exact h2
  | cell b o st =>
    intro ht h2
    refine ⟨h2.1, fun he => ?_⟩
    obtain ⟨blk, h3, h4⟩ := h2.2 he
    exact ⟨blk, by rw [List.getElem?_take, if_pos (show b < m from ht)]; exact h3, h4⟩
  | tup l => intro ht; exact ht.elim

/-- The boxes from m on are forgotten. -/
theorem Le_trunc {S : St} (m : Nat) (hm : S.b ≤ m) (fr : List (Nat × SV)) (hfr : frLe fr S.fr) (hb : frBel m fr) : Le S { fr := fr, n := S.n, W := { S.W with H := S.W.H.take m }, b := S.b } := by
  refine ⟨rfl, fun P Γ a w ⟨M, θ, ω, τ, hr⟩ => ⟨M, θ.take m, ω, τ, hr.core.trunc m (Nat.le_trans hr.bas hm), ⟨hr.fr.size, hr.fr.defers, fun k hk => ?_, fun k hk => absurd hk (frLe_und hfr k)⟩, hr.bas⟩⟩
  obtain ⟨h1, h2, h3⟩ := frLe_lk hfr k hk
  obtain ⟨h4, h5⟩ := frBel_lk hb k hk
  have hs := hr.fr.slot k h1
  have : SlotOk S.W M θ τ w (lk fr k) (a.tmps.getD k undef) := ⟨avLe_rep h2 hs.1, hs.2.none_or h3⟩
  exact this.trunc m h4 h5

/-! ### Functions that read boxes -/
def FSr (P : Program) (g : FuncId) (args : List AV) (H : List Box) (v : AV) : Prop := FS P g args [] H fun r => r.v = v ∧ r.tg = .none ∧ r.W.H = H

theorem FSr_of {g : FuncId} {args : List AV} {H : List Box} {v : AV} (hv : belowV H.length v) (h : FS P g args [] H fun r => avLe r.v v ∧ r.W.H.take H.length = H) : FSr P g args H v := by
  refine ⟨h.1, fun w M θ ω τ vals h1 h2 h3 => (h.2 w M θ ω τ vals h1 h2 h3).mono fun e w' ⟨r, u, M', θ', ω', τ', k1, ⟨k2, k2'⟩, k3, k4, _⟩ => ?_⟩
  have hl : θ.length = H.length := h1.hlen
  refine ⟨⟨v, .none, { r.W with H := r.W.H.take H.length }⟩, u, M', θ'.take H.length, ω', τ', k1, ⟨rfl, rfl, k2'⟩, k3.trunc _ (Nat.le_of_eq hl), Rep.cut _ _ (avLe_rep k2 k4) hv, trivial⟩

theorem FSv.toR {g : FuncId} {args : List AV} {v : AV} (h : FSr P g args [] v) : FSv P g args v := h.mono fun r hr => ⟨hr.1, hr.2.1⟩

def retR (T : TE) (rs : Array ResultVar) (v : AV) (H : List Box) : AX → St → Prop := retQ T rs fun r => avLe r.v v ∧ r.W.H.take H.length = H

theorem FSr_code {T : TE} (hT : TOk P T) (hm : P.follows .mixedOrders = true) (pl : Nat → RPlan) {g : FuncId} {fn : Func} (c : Code) (hf : P.funcs[g]? = some fn) (hname : (fn.name == "runtime.NumGoroutine") = false) (hb : fn.body = some c) (n : Nat) (hn : fn.ntmps = n) (hok : codeOk2 n pl c = true)
    {args : List AV} {H : List Box} {v : AV} (hv : belowV H.length v) (hlen : args.length ≤ n) (rs : Array ResultVar) (hr : fn.results = rs) (h : eWC P T pl c (S0 args [] H n) (retR T rs v H) .mk) : FSr P g args H v := by
  subst hn; subst hr
  exact FSr_of hv (FS_body hT hf hname hb hlen (WC_sound hT hm c _ _ hok h))

/-- A call of such a function. -/
theorem callG_r {g : FuncId} {svs : List SV} {W : WPt} {K : WPt → SV → Prop} (v : AV) (hf : FSr P g (svs.map (·.v)) W.H v) (hok : ∀ sv ∈ svs, sv.ok)
    (hk : K { W with stamp := W.stamp + 1 } ⟨True, v, .none⟩) : callG P g svs W K .mk := by
  refine ⟨none, .inr ⟨hok, (fun _ _ _ h => by cases h), _, hf, fun r hr => ?_⟩⟩
  obtain ⟨h1, h2, h3⟩ := hr
  have e1 : resTok r = none := by unfold resTok; rw [h2]
  have e2 : afterSV W r = ⟨True, v, .none⟩ := by unfold afterSV; rw [h1, h2]; rfl
  rw [e1, e2, h3]
  exact hk

/-! ### Code in pieces -/
theorem LP_pre {T : TE} (hT : TOk P T) (hm : P.follows .mixedOrders = true) (pl : Nat → RPlan) (n : Nat) {x y : Code} {S : St} {Q : AX → St → Prop} (hn : S.n = n) (hok : codeOk2 n pl x = true)
    (h : eWC P T pl x S (thenQ (fun S' => LP P y S' Q .mk) Q) .mk) : LP P (.seq x y) S Q .mk := by
  subst hn
  exact T3_seq (WC_sound hT hm x S _ hok h)
theorem LP_le {y : Code} {S S' : St} {Q : AX → St → Prop} (hl : Le S S') (h : LP P y S' Q .mk) : LP P y S Q .mk := T3.le hl h
theorem LP_run {T : TE} (hT : TOk P T) (hm : P.follows .mixedOrders = true) (pl : Nat → RPlan) (n : Nat) {y : Code} {S : St} {Q : AX → St → Prop} (hn : S.n = n) (hok : codeOk2 n pl y = true) (h : eWC P T pl y S Q .mk) : LP P y S Q .mk := by
  subst hn
  exact WC_sound hT hm y S _ hok h
/-- The piece x ends in states that the family J covers. -/
theorem LP_cut {T : TE} (hT : TOk P T) (hm : P.follows .mixedOrders = true) (pl : Nat → RPlan) (n : Nat) {ι : Type} (J : ι → St) {x y : Code} {S : St} {Q : AX → St → Prop} (hn : S.n = n) (hok : codeOk2 n pl x = true)
    (h : eWC P T pl x S (thenQ (fun S' => ∃ i, Le S' (J i)) Q) .mk) (hy : ∀ i, LP P y (J i) Q .mk) : LP P (.seq x y) S Q .mk := by
  subst hn
  refine T3_seq (T3.mono (WC_sound hT hm x S _ hok h) fun e S' h' => ?_)
  cases e with
  | normal => obtain ⟨i, hi⟩ := h'; exact T3.le hi (hy i)
  | exit id => exact h'
  | ret => exact h'
theorem FSv_LP {T : TE} (hT : TOk P T) {g : FuncId} {fn : Func} (c : Code) (hf : P.funcs[g]? = some fn) (hname : (fn.name == "runtime.NumGoroutine") = false) (hb : fn.body = some c) (n : Nat) (hn : fn.ntmps = n)
    {args : List AV} {v : AV} (hlen : args.length ≤ n) (rs : Array ResultVar) (hr : fn.results = rs) (h : LP P c (S0 args [] [] n) (retV T rs v) .mk) : FSv P g args v := by
  subst hn; subst hr
  exact FSv_body hT hf hname hb hlen h
theorem FSr_LP {T : TE} (hT : TOk P T) {g : FuncId} {fn : Func} (c : Code) (hf : P.funcs[g]? = some fn) (hname : (fn.name == "runtime.NumGoroutine") = false) (hb : fn.body = some c) (n : Nat) (hn : fn.ntmps = n)
    {args : List AV} {H : List Box} {v : AV} (hv : belowV H.length v) (hlen : args.length ≤ n) (rs : Array ResultVar) (hr : fn.results = rs) (h : LP P c (S0 args [] H n) (retR T rs v H) .mk) : FSr P g args H v := by
  subst hn; subst hr
  exact FSr_of hv (FS_body hT hf hname hb hlen h)
end
end Go.Abs

namespace Go.Abs
open Go

/-! ### The weight of a value -/
mutual
def wt : AV → Nat
  | .str s => 1 + s.length
  | .agg l => 1 + wts l
  | .tup l => 1 + wts l
  | .sl _ es => 1 + wts es
  | _ => 1
def wts : List AV → Nat
  | [] => 0
  | a :: l => wt a + wts l
end
theorem wt_pos (a : AV) : 1 ≤ wt a := by cases a <;> simp only [wt] <;> omega
theorem wts_append : ∀ (l l' : List AV), wts (l ++ l') = wts l + wts l'
  | [], l' => by simp [wts]
  | a :: l, l' => by simp only [List.cons_append, wts, wts_append l l']; omega
theorem wts_take_succ (l : List AV) (i : Nat) (h : i < l.length) : wts (l.take (i + 1)) = wts (l.take i) + wt l[i] := by
  rw [List.take_succ_eq_append_getElem h, wts_append]; simp [wts]
theorem wts_take_le (l : List AV) (i : Nat) : wts (l.take i) ≤ wts l := by
  have : wts l = wts (l.take i) + wts (l.drop i) := by rw [← wts_append, List.take_append_drop]
  omega
theorem wts_mem {a : AV} : ∀ {l : List AV}, a ∈ l → wt a ≤ wts l
  | b :: l, h => by
    simp only [wts]
    rcases List.mem_cons.1 h with rfl | h
    · omega
    · have := wts_mem h; omega
theorem wts_length : ∀ (l : List AV), l.length ≤ wts l
  | [] => by simp [wts]
  | a :: l => by have := wts_length l; have := wt_pos a; simp only [wts, List.length_cons]; omega


/-! ### How much a datum holds -/
mutual
def bulkD {H : Type} : DataW H → Nat
  | .lit (.string bytes) => bytes.length + 1
  | .slice elems spare => bulkL elems + bulkL spare + 1
  | .agg parts => bulkL parts + 1
  | _ => 1
def bulkL {H : Type} : List (DataW H) → Nat
  | [] => 0
  | d :: r => bulkD d + bulkL r
end
theorem bulkL_append {H : Type} : ∀ (l r : List (DataW H)), bulkL (l ++ r) = bulkL l + bulkL r
  | [], r => by simp [bulkL]
  | d :: l, r => by simp only [List.cons_append, bulkL, bulkL_append l r]; omega
theorem wts_bulk {H : Type} {α : Type} (f : α → AV) : ∀ (r : List α) (xs : List (DataW H)), r.length = xs.length → (∀ (i : Nat) (a : α) (x : DataW H), r[i]? = some a → xs[i]? = some x → wt (f a) ≤ bulkD x) → wts (r.map f) ≤ bulkL xs
  | [], xs, _, _ => by simp [wts]
  | a :: r, [], h, _ => by simp at h
  | a :: r, x :: xs, h, hp => by
    have h0 := hp 0 a x rfl rfl
    have h1 := wts_bulk f r xs (by simpa using h) fun i b y hb hy => hp (i + 1) b y (by simpa using hb) (by simpa using hy)
    simp only [List.map_cons, wts, bulkL]; omega
end Go.Abs

namespace Go.Abs
open Go

def ShpF (p : Nat → List AV → Prop) : List (Nat × Nat) → List AV → Prop
  | [], l => l = []
  | (t, _) :: fs, l => ∃ l1 l2, l = l1 ++ l2 ∧ p t l1 ∧ ShpF p fs l2
def sizeT (T : TE) (t : Nat) : Nat := ((T t).map (·.size)).getD 0
def isAggT (T : TE) (t : Nat) : Bool := match T t with
  | some ti => isAggD ti.d
  | none => false
def boxE (T : TE) (t : Nat) (l : List AV) : AV := if isAggT T t then .agg l else l.headD .unk
/-- The shape of the cells of a value of a type. -/
def Shp (T : TE) : Nat → Nat → List AV → Prop
  | 0, _, _ => False
  | k + 1, t, l => match (T t).map TI.d with
    | some (.int q) => ∃ n, l = [.int q n] ∧ (Lit.int q n).wf = true
    | some .bool => ∃ b, l = [.bool b]
    | some .str => ∃ s, l = [.str s] ∧ s.length ≤ maxLen
    | some (.slice e) => ∃ ls : List (List AV), l = [.sl (sizeT T e) (ls.map (boxE T e))] ∧ ls.length ≤ maxLen ∧ ∀ x ∈ ls, Shp T k e x
    | some (.struct fs) => ShpF (Shp T k) fs l
    | some (.array n e) => ∃ ls : List (List AV), ls.length = n ∧ l = ls.flatten ∧ ∀ x ∈ ls, Shp T k e x
    | _ => False
def contig (T : TE) (S : List Nat) : Nat → List (Nat × Nat) → Nat → Bool
  | off, [], n => off == n
  | off, (t, o) :: r, n => (o == off) && S.contains t && contig T S (off + sizeT T t) r n
/-- A set of types that are made of each other. -/
def closedAt (T : TE) (S : List Nat) (t : Nat) : Bool := match T t with
  | some ti => decide (1 ≤ ti.size) && match ti.d with
    | .int _ | .bool | .str => ti.size == 1
    | .slice e => ti.size == 1 && S.contains e
    | .struct fs => contig T S 0 fs ti.size
    | .array n e => S.contains e && (ti.size == n * sizeT T e)
    | _ => false
  | none => false

/-- Cells' values, one by one. -/
def RepC (M : Snap) : List AV → List Value → Prop
  | [], vs => vs = []
  | a :: l, vs => ∃ v vs', vs = v :: vs' ∧ (v.oneCell' = true ∧ Rep M [] a v) ∧ RepC M l vs'
theorem RepC.reps {M : Snap} : ∀ {l : List AV} {vs : List Value}, RepC M l vs → Reps M [] l vs
  | [], vs, h => by simp only [RepC] at h; simp only [Reps]; exact h
  | a :: l, vs, h => by
    simp only [RepC] at h; obtain ⟨v, vs', rfl, ⟨_, h1⟩, h2⟩ := h
    simp only [Reps]; exact ⟨v, vs', rfl, h1, h2.reps⟩
theorem RepC.append {M : Snap} : ∀ {l l' : List AV} {vs vs' : List Value}, RepC M l vs → RepC M l' vs' → RepC M (l ++ l') (vs ++ vs')
  | [], l', vs, vs', h, h' => by simp only [RepC] at h; subst h; simpa using h'
  | a :: l, l', vs, vs', h, h' => by
    simp only [RepC] at h; obtain ⟨v, ws, rfl, h1, h2⟩ := h
    simp only [List.cons_append, RepC]; exact ⟨v, ws ++ vs', rfl, h1, RepC.append h2 h'⟩
theorem RepC.one {M : Snap} {a : AV} {v : Value} (h1 : v.oneCell' = true) (h2 : Rep M [] a v) : RepC M [a] [v] := by
  simp only [RepC]; exact ⟨v, [], rfl, ⟨h1, h2⟩, rfl⟩
theorem RepC.length {M : Snap} : ∀ {l : List AV} {vs : List Value}, RepC M l vs → vs.length = l.length
  | [], vs, h => by simp only [RepC] at h; subst h; rfl
  | a :: l, vs, h => by
    simp only [RepC] at h; obtain ⟨v, vs', rfl, _, h2⟩ := h; simp [h2.length]
theorem RepC.cells {M : Snap} {b : Nat} : ∀ {l : List AV} {vs : List Value} {off : Nat}, RepC M l vs → (∀ (j : Nat) (v : Value), vs[j]? = some v → M b (off + j) = some v) → Cells M l b off
  | [], vs, off, h, _ => by simp only [Cells]
  | a :: l, vs, off, h, hm => by
    simp only [RepC] at h; obtain ⟨v, vs', rfl, h1, h2⟩ := h
    simp only [Cells]
    refine ⟨⟨v, by simpa using hm 0 v rfl, h1.1, h1.2⟩, h2.cells fun j u hj => ?_⟩
    have := hm (j + 1) u (by simpa using hj)
    rw [Nat.add_assoc, Nat.add_comm 1 j]; exact this

theorem cellsOf_info {P : Program} {T : TE} (hT : TOk P T) {t : Nat} {ti : TI} (h : T t = some ti) : P.cellsOf t = ti.size := by
  obtain ⟨i, z, h1, h2, _⟩ := hT.info t ti h
  unfold Program.cellsOf
  rw [h1]; simpa using h2
theorem cellsOf_sizeT {P : Program} {T : TE} (hT : TOk P T) {S : List Nat} (hS : ∀ t ∈ S, closedAt T S t = true) {t : Nat} (h : t ∈ S) : P.cellsOf t = sizeT T t ∧ 1 ≤ sizeT T t := by
  have := hS t h
  unfold closedAt at this
  unfold sizeT
  cases ht : T t with
  | none => simp [ht] at this
  | some ti =>
    simp only [ht, Bool.and_eq_true, decide_eq_true_eq] at this
    exact ⟨by simpa using cellsOf_info hT ht, by simpa using this.1⟩

theorem cellsOf_boxE {T : TE} {k t : Nat} {l : List AV} (h : Shp T k t l) (hl : 1 ≤ l.length) : cellsOf (boxE T t l) = l := by
  cases k with
  | zero => simp only [Shp] at h
  | succ k =>
    unfold boxE isAggT
    simp only [Shp] at h
    cases ht : T t with
    | none => simp [ht] at h
    | some ti =>
      obtain ⟨d, z, b, v⟩ := ti
      simp only [ht, Option.map_some] at h
      cases d <;> simp only [isAggD, Bool.false_eq_true, if_true, if_false] at h ⊢
      · obtain ⟨n, rfl, _⟩ := h; rfl
      · obtain ⟨n, rfl⟩ := h; rfl
      · obtain ⟨n, rfl, _⟩ := h; rfl
      · obtain ⟨ls, rfl, _⟩ := h; rfl
      · rfl
      · rfl

theorem wts_boxE {T : TE} {k t : Nat} {l : List AV} (h : Shp T k t l) : wts l ≤ wt (boxE T t l) := by
  cases k with
  | zero => simp only [Shp] at h
  | succ k =>
    unfold boxE isAggT
    simp only [Shp] at h
    cases ht : T t with
    | none => simp [ht] at h
    | some ti =>
      obtain ⟨d, z, b, v⟩ := ti
      simp only [ht, Option.map_some] at h
      cases d <;> simp only [isAggD, Bool.false_eq_true, if_true, if_false] at h ⊢
      · obtain ⟨n, rfl, _⟩ := h; exact Nat.le_refl _
      · obtain ⟨n, rfl⟩ := h; exact Nat.le_refl _
      · obtain ⟨n, rfl, _⟩ := h; exact Nat.le_refl _
      · obtain ⟨ls, rfl, _⟩ := h; exact Nat.le_refl _
      · simp only [wt]; omega
      · simp only [wt]; omega

theorem Row_ofC {M : Snap} {z b : Nat} : ∀ (es : List AV) (off : Nat), (∀ (i : Nat) (h : i < es.length), (cellsOf es[i]).length = z ∧ Cells M (cellsOf es[i]) b (off + i * z)) → Row M es z b off
  | [], off, _ => by simp only [Row]
  | e :: es, off, h => by
    rw [Row_cons]
    refine ⟨(h 0 (by simp)).1, by have := (h 0 (by simp)).2; rw [Nat.zero_mul, Nat.add_zero] at this; exact this, Row_ofC es _ fun i hi => ?_⟩
    have := h (i + 1) (by simpa using hi)
    simp only [List.getElem_cons_succ] at this
    refine ⟨this.1, ?_⟩
    have e2 := this.2
    rwa [Nat.add_mul, Nat.one_mul, Nat.add_comm (i * z) z, ← Nat.add_assoc] at e2

theorem choose_list {α β : Type} {p : α → β → Prop} : ∀ (l : List α), (∀ x ∈ l, ∃ y, p x y) → ∃ r : List β, r.length = l.length ∧ ∀ (i : Nat) (x : α) (y : β), l[i]? = some x → r[i]? = some y → p x y
  | [], _ => ⟨[], rfl, fun i x y h => by simp at h⟩
  | a :: l, h => by
    obtain ⟨y, hy⟩ := h a (by simp)
    obtain ⟨r, hr, hp⟩ := choose_list l fun x hx => h x (by simp [hx])
    refine ⟨y :: r, by simp [hr], fun i x z hx hz => ?_⟩
    cases i with
    | zero => simp at hx hz; subst hx; subst hz; exact hy
    | succ i => exact hp i x z (by simpa using hx) (by simpa using hz)

theorem mapM_cons_some {α β : Type} {f : α → Option β} {a : α} {l : List α} {r : List β} (h : (a :: l).mapM f = some r) : ∃ y r', f a = some y ∧ l.mapM f = some r' ∧ r = y :: r' := by
  rw [List.mapM_cons] at h
  simp only [Option.bind_eq_bind, Option.bind_eq_some_iff, Option.pure_def, Option.some.injEq] at h
  obtain ⟨y, hy, r', hr, e⟩ := h
  exact ⟨y, r', hy, hr, e.symm⟩

theorem fields_shp {H : Type} {P : Program} {T : TE} {S : List Nat} {M : Snap} {k : Nat} {cs : List Value} {g : Nat → List Value → Option (DataW H × List MemPlace)} (hz : ∀ t ∈ S, P.cellsOf t = sizeT T t)
    (hg : ∀ t cs x, t ∈ S → g t cs = some x → ∃ l, Shp T k t l ∧ RepC M l cs ∧ l.length = sizeT T t ∧ wt (boxE T t l) ≤ bulkD x.1) : ∀ (fl : List Field) (off : Nat) (xs : List (DataW H × List MemPlace)), contig T S off (fl.map fun f => (f.type, f.offset)) cs.length = true →
    fl.mapM (fun f => g f.type ((cs.drop f.offset).take (P.cellsOf f.type))) = some xs → ∃ l, ShpF (Shp T k) (fl.map fun f => (f.type, f.offset)) l ∧ RepC M l (cs.drop off) ∧ off + l.length = cs.length ∧ wts l ≤ bulkL (xs.map (·.1))
  | [], off, xs, hc, h => by
    simp only [List.map_nil, contig, beq_iff_eq] at hc
    exact ⟨[], by simp only [List.map_nil, ShpF], by simp only [RepC, hc, List.drop_length], by simpa using hc, by simp [wts]⟩
  | f :: fl, off, xs, hc, h => by
    simp only [List.map_cons, contig, Bool.and_eq_true, beq_iff_eq, and_assoc] at hc
    obtain ⟨ho, hm, hc⟩ := hc
    have hm : f.type ∈ S := by simpa using hm
    obtain ⟨y, r', h1, h2, rfl⟩ := mapM_cons_some h
    obtain ⟨l1, a1, a2, a3, a4⟩ := hg _ _ _ hm h1
    obtain ⟨l2, b1, b2, b3, b4⟩ := fields_shp hz hg fl _ r' hc h2
    have a5 := wts_boxE a1
    refine ⟨l1 ++ l2, ?_, ?_, by rw [List.length_append, a3]; omega, by rw [wts_append]; simp only [List.map_cons, bulkL]; omega⟩
    · simp only [List.map_cons, ShpF]; exact ⟨l1, l2, rfl, a1, b1⟩
    · have e : cs.drop off = (cs.drop off).take (sizeT T f.type) ++ cs.drop (off + sizeT T f.type) := by
        rw [← List.drop_drop]; exact (List.take_append_drop _ _).symm
      rw [e]
      refine RepC.append ?_ b2
      rw [hz _ hm, ho] at a2
      exact a2

theorem wts_flat {H : Type} {T : TE} {k e : Nat} : ∀ (r : List (List AV)) (xs : List (DataW H)), r.length = xs.length → (∀ x ∈ r, Shp T k e x) → (∀ (i : Nat) (a : List AV) (x : DataW H), r[i]? = some a → xs[i]? = some x → wt (boxE T e a) ≤ bulkD x) → wts r.flatten ≤ bulkL xs
  | [], xs, _, _, _ => by simp [wts]
  | a :: r, [], h, _, _ => by simp at h
  | a :: r, x :: xs, h, hs, hp => by
    have h0 := hp 0 a x rfl rfl
    have h1 := wts_flat r xs (by simpa using h) (fun y hy => hs y (by simp [hy])) fun i b y hb hy => hp (i + 1) b y (by simpa using hb) (by simpa using hy)
    have h2 := wts_boxE (hs a (by simp))
    rw [List.flatten_cons, wts_append]
    simp only [bulkL]; omega

theorem flat_shp {M : Snap} {z : Nat} {cs : List Value} : ∀ (ls : List (List AV)) (off : Nat), (∀ (i : Nat) (l : List AV), ls[i]? = some l → RepC M l ((cs.drop (off + i * z)).take z)) → off + ls.length * z = cs.length →
    RepC M ls.flatten (cs.drop off)
  | [], off, _, h => by
    have : off = cs.length := by simpa using h
    simp only [List.flatten_nil, RepC, this, List.drop_length]
  | l :: ls, off, h, hl => by
    have h0 := h 0 l rfl
    rw [Nat.zero_mul, Nat.add_zero] at h0
    have hl' : off + z + ls.length * z = cs.length := by rw [← hl, List.length_cons, Nat.add_mul, Nat.one_mul]; omega
    have e : cs.drop off = (cs.drop off).take z ++ cs.drop (off + z) := by
      rw [← List.drop_drop]; exact (List.take_append_drop _ _).symm
    rw [e, List.flatten_cons]
    refine RepC.append h0 (flat_shp ls _ (fun i l' hi => ?_) hl')
    have := h (i + 1) l' (by simpa using hi)
    rwa [Nat.add_mul, Nat.one_mul, Nat.add_comm (i * z) z, ← Nat.add_assoc] at this

theorem trod_shp {H : Type} {enc : TypeId × Value → H} {P : Program} {T : TE} (hT : TOk P T) {S : List Nat} (hS : ∀ t ∈ S, closedAt T S t = true) {w : World} {base : Nat} {spare : Nat → Bool} {held : Bool}
    {M : Snap} (hM : ∀ b o v, w.cell? ⟨b, o, none⟩ = some v → M b o = some v) : ∀ (fuel : Nat) (t : Nat) (cs : List Value) (d : DataW H) (ps : List MemPlace), t ∈ S →
    DataW.trod enc P w base spare held fuel t cs = some (d, ps) → ∃ l, Shp T fuel t l ∧ RepC M l cs ∧ l.length = sizeT T t ∧ wt (boxE T t l) ≤ bulkD d
  | 0, t, cs, d, ps, _, h => by simp [DataW.trod] at h
  | k + 1, t, cs, d, ps, ht, h => by
    have IH := trod_shp hT hS hM (enc := enc) (base := base) (spare := spare) (held := held) k
    have hc := hS t ht
    unfold closedAt at hc
    cases hti : T t with
    | none => simp [hti] at hc
    | some ti =>
      simp only [hti, Bool.and_eq_true, decide_eq_true_eq] at hc
      obtain ⟨_, hc⟩ := hc
      have hdesc := hT.desc t ti hti
      have hsz : sizeT T t = ti.size := by simp [sizeT, hti]
      have hcz := cellsOf_info hT hti
      rw [hsz]
      have hbx : ∀ l : List AV, boxE T t l = if isAggD ti.d then .agg l else l.headD .unk := fun l => by simp only [boxE, isAggT, hti]
      simp only [Shp, hti, Option.map_some, hbx]
      unfold DataW.trod at h
      cases hd : ti.d <;> simp only [hd, DescOk, isAggD, Bool.false_eq_true, if_true, if_false] at hdesc hc ⊢ <;> try (simp only [Bool.false_eq_true] at hc)
      case int q =>
        rw [hdesc] at h
        simp only [beq_iff_eq] at hc
        rcases cs with _ | ⟨c, _ | ⟨c', cs⟩⟩ <;> try (simp at h; done)
        cases c <;> try (simp at h; done)
        simp only [Option.ite_none_right_eq_some, and_assoc] at h
        obtain ⟨rfl, hw, h⟩ := h
        cases h
        rename_i q n
        exact ⟨[.int q n], ⟨n, rfl, hw⟩, .one rfl (by simp only [Rep]), by simp [hc], by simp [wt, bulkD]⟩
      case bool =>
        rw [hdesc] at h
        simp only [beq_iff_eq] at hc
        rcases cs with _ | ⟨c, _ | ⟨c', cs⟩⟩ <;> try (simp at h; done)
        cases c <;> try (simp at h; done)
        rename_i b
        simp only [Option.some.injEq, Prod.mk.injEq] at h
        obtain ⟨rfl, _⟩ := h
        exact ⟨[.bool b], ⟨b, rfl⟩, .one rfl (by simp only [Rep]), by simp [hc], by simp [wt, bulkD]⟩
      case str =>
        rw [hdesc] at h
        simp only [beq_iff_eq] at hc
        rcases cs with _ | ⟨c, _ | ⟨c', cs⟩⟩ <;> try (simp at h; done)
        cases c <;> try (simp at h; done)
        rename_i s
        simp only [Option.ite_none_right_eq_some] at h
        obtain ⟨h1, h⟩ := h
        cases h
        exact ⟨_, ⟨s.data.toList, rfl, by simpa using h1⟩, .one rfl (by simp only [Rep, Array.toArray_toList]), by simp [hc], by simp [wt, bulkD, Nat.add_comm]⟩
      case slice e =>
        rw [hdesc] at h
        simp only [beq_iff_eq, Bool.and_eq_true] at hc
        rcases cs with _ | ⟨c, _ | ⟨c', cs⟩⟩ <;> try (simp at h; done)
        cases c <;> try (simp at h; done)
        rename_i a len cap
        have he : e ∈ S := by simpa using hc.2
        obtain ⟨hze, hz1⟩ := cellsOf_sizeT hT hS he
        cases a with
        | none =>
          rcases len with _ | len <;> try (simp at h; done)
          rcases cap with _ | cap <;> try (simp at h; done)
          simp only [Option.some.injEq, Prod.mk.injEq] at h
          obtain ⟨rfl, _⟩ := h
          exact ⟨_, ⟨[], rfl, Nat.zero_le _, fun x hx => by simp at hx⟩, .one rfl (by simp only [Rep, List.map_nil]; exact ⟨none, 0, rfl, Nat.zero_le _, fun h => absurd rfl h⟩), by simp [hc.1], by simp [wt, wts, bulkD]⟩
        | some a =>
          simp only [Option.ite_none_right_eq_some] at h
          obtain ⟨⟨hb, hlc, hcm⟩, h⟩ := h
          simp only [Option.bind_eq_some_iff, Option.map_eq_some_iff] at h
          obtain ⟨els, hels, rest, _, hd'⟩ := h
          cases hd'
          have hx : ∀ i, i < len → ∃ cs' x, els[i]? = some x ∧ w.cells? base (a.add (i * sizeT T e)) (sizeT T e) = some cs' ∧ DataW.trod enc P w base spare held k e cs' = some x := fun i hi => by
            have h1 := mapM_some_get hels i i (by simp [hi])
            have h2 : i < els.length := by rw [mapM_some_length hels]; simpa using hi
            rw [List.getElem?_eq_getElem h2, hze] at h1
            simp only [Option.bind_eq_some_iff] at h1
            obtain ⟨cs', h3, h4⟩ := h1
            exact ⟨cs', _, List.getElem?_eq_getElem h2, h3, h4⟩
          have hsp : 0 < len → a.spot = none := fun h0 => by
            obtain ⟨cs', x, _, h1, _⟩ := hx 0 h0
            obtain ⟨_, h2, h3⟩ := World.cells?_some h1
            have h4 := h3 0 hz1
            rw [List.getElem?_eq_getElem (by omega), Nat.zero_mul] at h4
            simp only [Addr.add, if_true] at h4
            unfold World.cell? at h4
            split at h4 <;> try (simp at h4; done)
            split at h4
            · simp at h4
            · rename_i hs; simpa using hs
          obtain ⟨r, hr, hp⟩ := choose_list (p := fun i l => Shp T k e l ∧ l.length = sizeT T e ∧ Cells M l a.block (a.off + i * sizeT T e) ∧ ∀ x, els[i]? = some x → wt (boxE T e l) ≤ bulkD x.1) (List.range len) (fun i hi => by
            have hi : i < len := by simpa using hi
            obtain ⟨cs', ⟨d', ps'⟩, h0, h1, h2⟩ := hx i hi
            obtain ⟨l, b1, b2, b3, b4⟩ := IH e cs' d' ps' he h2
            obtain ⟨_, h4, h5⟩ := World.cells?_some h1
            refine ⟨l, b1, b3, b2.cells fun j v hj => ?_, fun x hx => by rw [h0] at hx; cases hx; exact b4⟩
            have hj' : j < sizeT T e := by
              have := (List.getElem?_eq_some_iff.1 hj).1
              omega
            have h6 := h5 j hj'
            rw [hj] at h6
            refine hM _ _ _ ?_
            rw [← h6]
            have hs := hsp (by omega)
            congr 1
            obtain ⟨ab, ao, asp⟩ := a
            simp only at hs; subst hs
            simp only [Addr.add]
            split <;> split <;> simp_all)
          have hr : r.length = len := by simpa using hr
          have hp' : ∀ (i : Nat) (l : List AV), r[i]? = some l → Shp T k e l ∧ l.length = sizeT T e ∧ Cells M l a.block (a.off + i * sizeT T e) ∧ ∀ x, els[i]? = some x → wt (boxE T e l) ≤ bulkD x.1 := fun i l hl => by
            have : i < len := by rw [← hr]; exact (List.getElem?_eq_some_iff.1 hl).1
            exact hp i i l (by simp [this]) hl
          have hlel : els.length = len := by rw [mapM_some_length hels]; simp
          refine ⟨_, ⟨r, rfl, by omega, fun x hx => ?_⟩, .one rfl ?_, by simp [hc.1], ?_⟩
          rotate_left 2
          · have := wts_bulk (boxE T e) r (els.map (·.1)) (by simp [hr, hlel]) fun i a x ha hx => by
              rw [List.getElem?_map, Option.map_eq_some_iff] at hx
              obtain ⟨y, hy, rfl⟩ := hx
              exact (hp' i a ha).2.2.2 y hy
            simp only [List.headD_cons, wt, bulkD]; omega
          · obtain ⟨i, hi⟩ := List.getElem?_of_mem hx
            exact (hp' i x hi).1
          · simp only [Rep]
            refine ⟨some a, cap, by rw [List.length_map, hr], by rw [List.length_map, hr]; exact hlc, fun hne => ?_⟩
            have hl0 : 0 < len := by
              rw [← hr]
              cases r with
              | nil => simp at hne
              | cons => simp
            have hs := hsp hl0
            obtain ⟨ab, ao, asp⟩ := a
            simp only at hs; subst hs
            refine ⟨ab, ao, rfl, Row_ofC _ _ fun i hi => ?_⟩
            have hi' : i < r.length := by simpa using hi
            obtain ⟨q1, q2, q3, _⟩ := hp' i r[i] (List.getElem?_eq_getElem hi')
            rw [List.getElem_map, cellsOf_boxE q1 (by omega)]
            exact ⟨q2, q3⟩
      case struct fs =>
        obtain ⟨fields, hu, rfl⟩ := hdesc
        rw [hu] at h
        have hall : ∀ t ∈ S, P.cellsOf t = sizeT T t := fun t h => (cellsOf_sizeT hT hS h).1
        have h' : cs.length = ti.size ∧ ∃ xs, (fields.toList.mapM fun f => DataW.trod enc P w base spare held k f.type ((cs.drop f.offset).take (P.cellsOf f.type))) = some xs ∧ d = .agg (xs.map (·.1)) := by
          rw [← hcz]
          rcases cs with _ | ⟨c, _ | ⟨c', cs⟩⟩ <;> (try cases c) <;> simp only [Option.ite_none_right_eq_some, Option.map_eq_some_iff, Prod.mk.injEq] at h <;> exact ⟨h.1, _, h.2.choose_spec.1, h.2.choose_spec.2.1.symm⟩
        obtain ⟨hl, xs, hxs, rfl⟩ := h'
        rw [← hl] at hc
        obtain ⟨l, a1, a2, a3, a4⟩ := fields_shp (g := fun t cs => DataW.trod enc P w base spare held k t cs) hall (fun t cs x ht hx => IH t cs x.1 x.2 ht hx) fields.toList 0 xs hc hxs
        exact ⟨l, a1, a2, by omega, by simp only [wt, bulkD]; omega⟩
      case array n e =>
        rw [hdesc] at h
        simp only [Bool.and_eq_true, beq_iff_eq] at hc
        have he : e ∈ S := by simpa using hc.1
        obtain ⟨hze, hz1⟩ := cellsOf_sizeT hT hS he
        have h' : cs.length = ti.size ∧ ∃ xs, ((List.range n).mapM fun i => DataW.trod enc P w base spare held k e ((cs.drop (i * sizeT T e)).take (sizeT T e))) = some xs ∧ d = .agg (xs.map (·.1)) := by
          rw [← hcz, ← hze]
          rcases cs with _ | ⟨c, _ | ⟨c', cs⟩⟩ <;> (try cases c) <;> simp only [Option.ite_none_right_eq_some, Option.map_eq_some_iff, Prod.mk.injEq] at h <;> exact ⟨h.1, _, h.2.choose_spec.1, h.2.choose_spec.2.1.symm⟩
        obtain ⟨hl, xs, hxs, rfl⟩ := h'
        have hlx : xs.length = n := by rw [mapM_some_length hxs]; simp
        obtain ⟨r, hr, hp⟩ := choose_list (p := fun i l => Shp T k e l ∧ l.length = sizeT T e ∧ RepC M l ((cs.drop (i * sizeT T e)).take (sizeT T e)) ∧ ∀ x, xs[i]? = some x → wt (boxE T e l) ≤ bulkD x.1) (List.range n) (fun i hi => by
          have hi : i < n := by simpa using hi
          have h1 := mapM_some_get hxs i i (by simp [hi])
          have h2 : i < xs.length := by omega
          rw [List.getElem?_eq_getElem h2] at h1
          obtain ⟨l, b1, b2, b3, b4⟩ := IH e _ _ _ he h1
          exact ⟨l, b1, b3, b2, fun x hx => by rw [List.getElem?_eq_getElem h2] at hx; cases hx; exact b4⟩)
        have hr : r.length = n := by simpa using hr
        have hp' : ∀ (i : Nat) (l : List AV), r[i]? = some l → Shp T k e l ∧ l.length = sizeT T e ∧ RepC M l ((cs.drop (i * sizeT T e)).take (sizeT T e)) ∧ ∀ x, xs[i]? = some x → wt (boxE T e l) ≤ bulkD x.1 := fun i l hl => by
          have : i < n := by rw [← hr]; exact (List.getElem?_eq_some_iff.1 hl).1
          exact hp i i l (by simp [this]) hl
        have hfl : RepC M r.flatten cs := by
          have := flat_shp (M := M) (z := sizeT T e) (cs := cs) r 0 (fun i l hi => by simpa using (hp' i l hi).2.2.1) (by rw [hr, hl, hc.2]; omega)
          simpa using this
        have hsh : ∀ x ∈ r, Shp T k e x := fun x hx => by
          obtain ⟨i, hi⟩ := List.getElem?_of_mem hx
          exact (hp' i x hi).1
        refine ⟨r.flatten, ⟨r, hr, rfl, hsh⟩, hfl, by rw [← hfl.length, hl], ?_⟩
        have := wts_flat r (xs.map (·.1)) (by simp [hr, hlx]) hsh fun i a x ha hx => by
          rw [List.getElem?_map, Option.map_eq_some_iff] at hx
          obtain ⟨y, hy, rfl⟩ := hx
          exact (hp' i a ha).2.2.2 y hy
        simp only [wt, bulkD]; omega
theorem list_of {α : Type} {f : α → AV} {p : α → Prop} (g : List AV → AV) : ∀ (ls : List (List AV)), (∀ x ∈ ls, ∃ r, g x = f r ∧ p r) → ∃ rs : List α, ls.map g = rs.map f ∧ rs.length = ls.length ∧ ∀ r ∈ rs, p r
  | [], _ => ⟨[], rfl, rfl, fun r h => by simp at h⟩
  | x :: ls, h => by
    obtain ⟨r, h1, h2⟩ := h x (by simp)
    obtain ⟨rs, h3, h4, h5⟩ := list_of g ls fun y hy => h y (by simp [hy])
    exact ⟨r :: rs, by simp [h1, h3], by simp [h4], fun q hq => by
      rcases List.mem_cons.1 hq with rfl | hq
      · exact h2
      · exact h5 q hq⟩
end Go.Abs

namespace Go.Abs
open Go

mutual
/-- Weaker, element by element. -/
def avLe2 : AV → AV → Prop
  | .snil, b => match b with
    | .sl _ es => es = []
    | b => b = .snil
  | .tup l, b => match b with
    | .tup l' => avsLe2 l l'
    | _ => False
  | .agg l, b => match b with
    | .agg l' => avsLe2 l l'
    | _ => False
  | .sl z es, b => match b with
    | .sl z' es' => z = z' ∧ avsLe2 es es'
    | _ => False
  | .unk, b => b = .unk
  | .int k n, b => b = .int k n
  | .bool x, b => b = .bool x
  | .str s, b => b = .str s
  | .fn g c, b => b = .fn g c
  | .nilfn, b => b = .nilfn
  | .ptr x o, b => b = .ptr x o
  | .nilptr, b => b = .nilptr
  | .ep z es i o, b => b = .ep z es i o
  | .map x, b => b = .map x
  | .nilmap, b => b = .nilmap
def avsLe2 : List AV → List AV → Prop
  | [], l => l = []
  | a :: l, l' => match l' with
    | b :: l' => avLe2 a b ∧ avsLe2 l l'
    | [] => False
end

theorem avsLe2_length : ∀ {l l' : List AV}, avsLe2 l l' → l'.length = l.length
  | [], l', h => by simp only [avsLe2] at h; subst h; rfl
  | a :: l, [], h => by simp only [avsLe2] at h
  | a :: l, b :: l', h => by simp only [avsLe2] at h; simp [avsLe2_length h.2]

mutual
theorem avLe2_rep {M : Snap} : ∀ (a b : AV), avLe2 a b → ∀ {θ : List Nat} {v : Value}, Rep M θ a v → Rep M θ b v
  | .snil, b, h, θ, v, hr => by
    cases b <;> simp only [avLe2, reduceCtorEq] at h
    · exact hr
    · subst h
      simp only [Rep] at hr ⊢
      exact ⟨none, 0, by simpa using hr, Nat.le_refl _, fun h => absurd rfl h⟩
  | .tup l, b, h, θ, v, hr => by
    cases b <;> simp only [avLe2] at h
    simp only [Rep] at hr ⊢
    obtain ⟨vs, e, hr⟩ := hr
    exact ⟨vs, e, avsLe2_reps _ _ h hr⟩
  | .agg l, b, h, θ, v, hr => by
    cases b <;> simp only [avLe2] at h
    simp only [Rep] at hr ⊢
    obtain ⟨vs, e, hr⟩ := hr
    exact ⟨vs, e, avsLe2_reps _ _ h hr⟩
  | .sl z es, b, h, θ, v, hr => by
    cases b <;> simp only [avLe2] at h
    rename_i z' es'
    obtain ⟨rfl, h⟩ := h
    have hl := avsLe2_length h
    simp only [Rep] at hr ⊢
    obtain ⟨a, c, e, hc, hr⟩ := hr
    refine ⟨a, c, by rw [hl]; exact e, by rw [hl]; exact hc, fun hne => ?_⟩
    obtain ⟨b, o, e2, hrow⟩ := hr (by rintro rfl; simp only [avsLe2] at h; exact hne h)
    exact ⟨b, o, e2, avsLe2_row _ _ h hrow⟩
  | .unk, b, h, _, _, hr => by simp only [avLe2] at h; subst h; exact hr
  | .int k n, b, h, _, _, hr => by simp only [avLe2] at h; subst h; exact hr
  | .bool x, b, h, _, _, hr => by simp only [avLe2] at h; subst h; exact hr
  | .str s, b, h, _, _, hr => by simp only [avLe2] at h; subst h; exact hr
  | .fn g c, b, h, _, _, hr => by simp only [avLe2] at h; subst h; exact hr
  | .nilfn, b, h, _, _, hr => by simp only [avLe2] at h; subst h; exact hr
  | .ptr x o, b, h, _, _, hr => by simp only [avLe2] at h; subst h; exact hr
  | .nilptr, b, h, _, _, hr => by simp only [avLe2] at h; subst h; exact hr
  | .ep z es i o, b, h, _, _, hr => by simp only [avLe2] at h; subst h; exact hr
  | .map x, b, h, _, _, hr => by simp only [avLe2] at h; subst h; exact hr
  | .nilmap, b, h, _, _, hr => by simp only [avLe2] at h; subst h; exact hr
theorem avsLe2_reps {M : Snap} : ∀ (l l' : List AV), avsLe2 l l' → ∀ {θ : List Nat} {vs : List Value}, Reps M θ l vs → Reps M θ l' vs
  | [], l', h, _, _, hr => by simp only [avsLe2] at h; subst h; exact hr
  | a :: l, [], h, _, _, hr => by simp only [avsLe2] at h
  | a :: l, b :: l', h, _, _, hr => by
    simp only [avsLe2] at h
    simp only [Reps] at hr ⊢
    obtain ⟨v, vs', e, h1, h2⟩ := hr
    exact ⟨v, vs', e, avLe2_rep a b h.1 h1, avsLe2_reps l l' h.2 h2⟩
theorem avsLe2_cells {M : Snap} : ∀ (l l' : List AV), avsLe2 l l' → ∀ {b off : Nat}, Cells M l b off → Cells M l' b off
  | [], l', h, _, _, hr => by simp only [avsLe2] at h; subst h; exact hr
  | a :: l, [], h, _, _, hr => by simp only [avsLe2] at h
  | a :: l, b :: l', h, _, _, hr => by
    simp only [avsLe2] at h
    simp only [Cells] at hr ⊢
    obtain ⟨⟨v, h1, h2, h3⟩, h4⟩ := hr
    exact ⟨⟨v, h1, h2, avLe2_rep a b h.1 h3⟩, avsLe2_cells l l' h.2 h4⟩
theorem avsLe2_row {M : Snap} : ∀ (l l' : List AV), avsLe2 l l' → ∀ {z b off : Nat}, Row M l z b off → Row M l' z b off
  | [], l', h, _, _, _, hr => by simp only [avsLe2] at h; subst h; exact hr
  | a :: l, [], h, _, _, _, hr => by simp only [avsLe2] at h
  | .agg x :: l, b :: l', h, _, _, _, hr => by
    simp only [avsLe2] at h
    cases b <;> simp only [avLe2, false_and] at h
    rw [Row_cons] at hr ⊢
    simp only [cellsOf] at hr ⊢
    exact ⟨by rw [avsLe2_length h.1]; exact hr.1, avsLe2_cells _ _ h.1 hr.2.1, avsLe2_row l l' h.2 hr.2.2⟩
  | .snil :: l, b :: l', h, _, _, _, hr => by
    simp only [avsLe2] at h
    have hb : cellsOf b = [b] := by cases b <;> first | rfl | (simp only [avLe2, reduceCtorEq, false_and] at h)
    rw [Row_cons] at hr ⊢
    rw [hb]
    simp only [cellsOf, Cells] at hr ⊢
    obtain ⟨h0, ⟨⟨v, h1, h2, h3⟩, _⟩, h4⟩ := hr
    exact ⟨h0, ⟨⟨v, h1, h2, avLe2_rep _ b h.1 h3⟩, trivial⟩, avsLe2_row l l' h.2 h4⟩
  | .sl z es :: l, b :: l', h, _, _, _, hr => by
    simp only [avsLe2] at h
    have hb : cellsOf b = [b] := by cases b <;> first | rfl | (simp only [avLe2, reduceCtorEq, false_and] at h)
    rw [Row_cons] at hr ⊢
    rw [hb]
    simp only [cellsOf, Cells] at hr ⊢
    obtain ⟨h0, ⟨⟨v, h1, h2, h3⟩, _⟩, h4⟩ := hr
    exact ⟨h0, ⟨⟨v, h1, h2, avLe2_rep _ b h.1 h3⟩, trivial⟩, avsLe2_row l l' h.2 h4⟩
  | .tup x :: l, b :: l', h, _, _, _, hr => by
    simp only [avsLe2] at h
    have hb : cellsOf b = [b] := by cases b <;> first | rfl | (simp only [avLe2, reduceCtorEq, false_and] at h)
    rw [Row_cons] at hr ⊢
    rw [hb]
    simp only [cellsOf, Cells] at hr ⊢
    obtain ⟨h0, ⟨⟨v, h1, h2, h3⟩, _⟩, h4⟩ := hr
    exact ⟨h0, ⟨⟨v, h1, h2, avLe2_rep _ b h.1 h3⟩, trivial⟩, avsLe2_row l l' h.2 h4⟩
  | .unk :: l, b :: l', h, _, _, _, hr => by
    simp only [avsLe2, avLe2] at h; obtain ⟨rfl, h⟩ := h
    rw [Row_cons] at hr ⊢; exact ⟨hr.1, hr.2.1, avsLe2_row l l' h hr.2.2⟩
  | .int k n :: l, b :: l', h, _, _, _, hr => by
    simp only [avsLe2, avLe2] at h; obtain ⟨rfl, h⟩ := h
    rw [Row_cons] at hr ⊢; exact ⟨hr.1, hr.2.1, avsLe2_row l l' h hr.2.2⟩
  | .bool x :: l, b :: l', h, _, _, _, hr => by
    simp only [avsLe2, avLe2] at h; obtain ⟨rfl, h⟩ := h
    rw [Row_cons] at hr ⊢; exact ⟨hr.1, hr.2.1, avsLe2_row l l' h hr.2.2⟩
  | .str s :: l, b :: l', h, _, _, _, hr => by
    simp only [avsLe2, avLe2] at h; obtain ⟨rfl, h⟩ := h
    rw [Row_cons] at hr ⊢; exact ⟨hr.1, hr.2.1, avsLe2_row l l' h hr.2.2⟩
  | .fn g c :: l, b :: l', h, _, _, _, hr => by
    simp only [avsLe2, avLe2] at h; obtain ⟨rfl, h⟩ := h
    rw [Row_cons] at hr ⊢; exact ⟨hr.1, hr.2.1, avsLe2_row l l' h hr.2.2⟩
  | .nilfn :: l, b :: l', h, _, _, _, hr => by
    simp only [avsLe2, avLe2] at h; obtain ⟨rfl, h⟩ := h
    rw [Row_cons] at hr ⊢; exact ⟨hr.1, hr.2.1, avsLe2_row l l' h hr.2.2⟩
  | .ptr x o :: l, b :: l', h, _, _, _, hr => by
    simp only [avsLe2, avLe2] at h; obtain ⟨rfl, h⟩ := h
    rw [Row_cons] at hr ⊢; exact ⟨hr.1, hr.2.1, avsLe2_row l l' h hr.2.2⟩
  | .nilptr :: l, b :: l', h, _, _, _, hr => by
    simp only [avsLe2, avLe2] at h; obtain ⟨rfl, h⟩ := h
    rw [Row_cons] at hr ⊢; exact ⟨hr.1, hr.2.1, avsLe2_row l l' h hr.2.2⟩
  | .ep z es i o :: l, b :: l', h, _, _, _, hr => by
    simp only [avsLe2, avLe2] at h; obtain ⟨rfl, h⟩ := h
    rw [Row_cons] at hr ⊢; exact ⟨hr.1, hr.2.1, avsLe2_row l l' h hr.2.2⟩
  | .map x :: l, b :: l', h, _, _, _, hr => by
    simp only [avsLe2, avLe2] at h; obtain ⟨rfl, h⟩ := h
    rw [Row_cons] at hr ⊢; exact ⟨hr.1, hr.2.1, avsLe2_row l l' h hr.2.2⟩
  | .nilmap :: l, b :: l', h, _, _, _, hr => by
    simp only [avsLe2, avLe2] at h; obtain ⟨rfl, h⟩ := h
    rw [Row_cons] at hr ⊢; exact ⟨hr.1, hr.2.1, avsLe2_row l l' h hr.2.2⟩
end

/-- Stronger arguments. -/
theorem FSv.args {P : Program} {g : FuncId} {args args' : List AV} {v : AV} (h : FSv P g args v) (ha : avsLe2 args' args) : FSv P g args' v := by
  refine ⟨h.1, fun w M θ ω τ vals h1 h2 h3 => ?_⟩
  have hl := avsLe2_length ha
  rw [← hl] at h1
  exact (h.2 w M θ ω τ vals h1 h2 (avsLe2_reps _ _ ha h3)).mono fun e w' ⟨r, u, M', θ', ω', τ', k1, k2, k3, k4⟩ => ⟨r, u, M', θ', ω', τ', k1, k2, k3, k4⟩
end Go.Abs

namespace Go.Abs
open Go

/-! ### Pure functions whose result is known in part -/
def FSp (P : Program) (g : FuncId) (args : List AV) (Q : AV → Prop) : Prop := FS P g args [] [] fun r => Q r.v ∧ r.tg = .none
def retP (T : TE) (rs : Array ResultVar) (Q : AV → Prop) : AX → St → Prop := retQ T rs fun r => ∃ v, Q v ∧ avLe r.v v
theorem FSp_code {P : Program} {T : TE} (hT : TOk P T) (hm : P.follows .mixedOrders = true) (pl : Nat → RPlan) {g : FuncId} {fn : Func} (c : Code) (hf : P.funcs[g]? = some fn) (hname : (fn.name == "runtime.NumGoroutine") = false) (hb : fn.body = some c) (n : Nat) (hn : fn.ntmps = n) (hok : codeOk2 n pl c = true)
    {args : List AV} {Q : AV → Prop} (hlen : args.length ≤ n) (rs : Array ResultVar) (hr : fn.results = rs) (h : eWC P T pl c (S0 args [] [] n) (retP T rs Q) .mk) : FSp P g args Q := by
  subst hn; subst hr
  have := FS_body hT hf hname hb (own := []) (H := []) hlen (WC_sound hT hm c _ _ hok h)
  exact ⟨this.1, fun w M θ ω τ vals h1 h2 h3 => (this.2 w M θ ω τ vals h1 h2 h3).mono fun e w' ⟨r, u, M', θ', ω', τ', k1, ⟨v, k2, k2'⟩, k3, k4, k5⟩ => ⟨⟨v, .none, r.W⟩, u, M', θ', ω', τ', k1, ⟨k2, rfl⟩, k3, avLe_rep k2' k4, trivial⟩⟩
theorem callG_p {P : Program} {g : FuncId} {svs : List SV} {W : WPt} {K : WPt → SV → Prop} (Q : AV → Prop) (hf : FSp P g (svs.map (·.v)) Q) (hok : ∀ sv ∈ svs, sv.ok) (hbel : belowL 0 (svs.map (·.v))) (hv : ∀ v, Q v → belowV 0 v)
    (hk : ∀ v, Q v → K W ⟨True, v, .none⟩) : callG P g svs W K .mk := by
  refine ⟨none, .inl ⟨hok, hbel, (fun _ _ _ h => by cases h), _, hf, fun r hr => ?_⟩⟩
  obtain ⟨h1, h2⟩ := hr
  refine ⟨hv _ h1, ?_⟩
  have e1 : resTok r = none := by unfold resTok; rw [h2]
  have e2 : afterSV W r = ⟨True, r.v, .none⟩ := by unfold afterSV; rw [h2]; rfl
  rw [e1, e2]
  exact hk _ h1
theorem FSv.toP {P : Program} {g : FuncId} {args : List AV} {v : AV} {Q : AV → Prop} (h : FSv P g args v) (hq : Q v) : FSp P g args Q :=
  FS.mono h fun r hr => ⟨by rw [hr.1]; exact hq, hr.2⟩
theorem FSp.weaken {P : Program} {g : FuncId} {args : List AV} {Q Q' : AV → Prop} (h : FSp P g args Q) (hq : ∀ v, Q v → Q' v) : FSp P g args Q' :=
  FS.mono h fun r hr => ⟨hq _ hr.1, hr.2⟩
def isBool (v : AV) : Prop := ∃ b, v = .bool b
def isNat (n : Nat) (v : AV) : Prop := ∃ d : Nat, d ≤ n ∧ v = .int .i64 d
end Go.Abs

namespace Go.Abs
open Go

/-! ### Functions that write boxes -/
/-- Called with these boxes, the function returns v and leaves these. -/
def FSw (P : Program) (g : FuncId) (args : List AV) (H : List Box) (v : AV) (H' : List Box) : Prop := FS P g args [] H fun r => r.v = v ∧ r.tg = .none ∧ r.W.H = H'
def retW (T : TE) (rs : Array ResultVar) (v : AV) (m : Nat) (H' : List Box) : AX → St → Prop := retQ T rs fun r => avLe r.v v ∧ r.W.H.take m = H'

theorem FSw_of {P : Program} {g : FuncId} {args : List AV} {H H' : List Box} {v : AV} {m : Nat} (hm : H.length = m) (hv : belowV m v) (h : FS P g args [] H fun r => avLe r.v v ∧ r.W.H.take m = H') : FSw P g args H v H' := by
  refine ⟨h.1, fun w M θ ω τ vals h1 h2 h3 => (h.2 w M θ ω τ vals h1 h2 h3).mono fun e w' ⟨r, u, M', θ', ω', τ', k1, ⟨k2, k2'⟩, k3, k4, _⟩ => ?_⟩
  have hl : θ.length = H.length := h1.hlen
  refine ⟨⟨v, .none, { r.W with H := r.W.H.take m }⟩, u, M', θ'.take m, ω', τ', k1, ⟨rfl, rfl, k2'⟩, k3.trunc _ (Nat.le_of_eq (hl.trans hm)), Rep.cut _ _ (avLe_rep k2 k4) hv, trivial⟩
theorem FSw_code {P : Program} {T : TE} (hT : TOk P T) (hm : P.follows .mixedOrders = true) (pl : Nat → RPlan) {g : FuncId} {fn : Func} (c : Code) (hf : P.funcs[g]? = some fn) (hname : (fn.name == "runtime.NumGoroutine") = false) (hb : fn.body = some c) (n : Nat) (hn : fn.ntmps = n) (hok : codeOk2 n pl c = true)
    {args : List AV} {H H' : List Box} {v : AV} (m : Nat) (hH : H.length = m) (hv : belowV m v) (hlen : args.length ≤ n) (rs : Array ResultVar) (hr : fn.results = rs) (h : eWC P T pl c (S0 args [] H n) (retW T rs v m H') .mk) : FSw P g args H v H' := by
  subst hn; subst hr
  exact FSw_of hH hv (FS_body hT hf hname hb hlen (WC_sound hT hm c _ _ hok h))
theorem FSr.toW {P : Program} {g : FuncId} {args : List AV} {H : List Box} {v : AV} (h : FSr P g args H v) : FSw P g args H v H := h

/-- A call of such a function. -/
theorem callG_w {P : Program} {g : FuncId} {svs : List SV} {W : WPt} {K : WPt → SV → Prop} (v : AV) (H' : List Box) (hf : FSw P g (svs.map (·.v)) W.H v H') (hok : ∀ sv ∈ svs, sv.ok)
    (hk : K { W with H := H', stamp := W.stamp + 1 } ⟨True, v, .none⟩) : callG P g svs W K .mk := by
  refine ⟨none, .inr ⟨hok, (fun _ _ _ h => by cases h), _, hf, fun r hr => ?_⟩⟩
  obtain ⟨h1, h2, h3⟩ := hr
  have e1 : resTok r = none := by unfold resTok; rw [h2]
  have e2 : afterSV W r = ⟨True, v, .none⟩ := by unfold afterSV; rw [h1, h2]; rfl
  rw [e1, e2, h3]
  exact hk
end Go.Abs

namespace Go.Abs
open Go Go.RowKit

/-- The cells that were known, and those of the blocks that are new. -/
def Snap.new (M : Snap) (n : Nat) (w' : World) : Snap := fun b o => if b < n then M b o else w'.cell? ⟨b, o, none⟩
theorem cell_lt {w : World} {b o : Nat} {v : Value} (h : w.cell? ⟨b, o, none⟩ = some v) : b < w.heap.size := by
  unfold World.cell? at h
  split at h
  · rename_i hh; exact (Array.getElem?_eq_some_iff.1 hh).1
  · cases h
theorem cell_below {w w' : World} (h : Below w.heap.size w w') {b o : Nat} (hb : b < w.heap.size) : w'.cell? ⟨b, o, none⟩ = w.cell? ⟨b, o, none⟩ := by
  unfold World.cell?
  rw [h.block b hb]
theorem le_new {M : Snap} {w w' : World} (he : Ext w M) : M.le (M.new w.heap.size w') := fun b o v hv => by
  have := cell_lt (he b o v hv)
  simp only [Snap.new, this, if_true]; exact hv
theorem ext_new {M : Snap} {w w' : World} (he : Ext w M) (hB : Below w.heap.size w w') : Ext w' (M.new w.heap.size w') := fun b o v hv => by
  unfold Snap.new at hv
  split at hv
  · rename_i hb
    rw [cell_below hB hb]; exact he b o v hv
  · exact hv

/-- A contract of the kit's, as a contract of ours. -/
theorem FSv_bridge {P : Program} {g : FuncId} {args : List AV} {v : AV} (he : Entr P g)
    (h : ∀ (w : World) (M : Snap) (vals : List Value), Ext w M → Reps M [] args vals → Calls P g vals.toArray w fun e w' => ∃ u, e = .returned u ∧ Below w.heap.size w w' ∧ Rep (M.new w.heap.size w') [] v u) : FSv P g args v := by
  refine ⟨he, fun w M θ ω τ vals hc _ hr => ?_⟩
  have hθ : θ = [] := by
    have := hc.hlen
    exact List.length_eq_zero_iff.1 (by simpa using this)
  subst hθ
  refine (h w M vals hc.ext hr).mono fun e w' ⟨u, e1, hB, hu⟩ => ?_
  refine ⟨⟨v, .none, ⟨args.length, [], [], 0⟩⟩, u, M.new w.heap.size w', [], ω, τ, e1, ⟨rfl, rfl⟩, ?_, hu, trivial⟩
  exact
    { mle := le_new hc.ext
      tle := tle_refl _
      ext := ext_new hc.ext hB
      hlen := rfl
      inj := fun i j x h => by simp at h
      tnew := fun i x h => by simp at h
      tlt := fun i x h => by simp at h
      box := fun b bx blk h => by simp at h
      bel := fun b l ow h => by simp at h
      live := fun t e h => by simp at h
      own := fun blk ow h => ⟨Nat.lt_of_lt_of_le (hc.own blk ow h).1 hB.size, fun i => by simp⟩
      ow0 := fun blk _ h => h
      kp := ⟨hB.os, hB.tape, hB.output, hB.size, fun k hk _ => hB.block k hk⟩
      mkeep := fun blk o hb _ _ => by simp only [Snap.new, hb, if_true] }
/-- Where the result does not lie in memory. -/
theorem FSv_bridge0 {P : Program} {g : FuncId} {args : List AV} {v : AV} (he : Entr P g)
    (h : ∀ (w : World) (M : Snap) (vals : List Value), Ext w M → Reps M [] args vals → Calls P g vals.toArray w fun e w' => ∃ u, e = .returned u ∧ Below w.heap.size w w' ∧ ∀ M', Rep M' [] v u) : FSv P g args v :=
  FSv_bridge he fun w M vals h1 h2 => (h w M vals h1 h2).mono fun e w' ⟨u, a, b, c⟩ => ⟨u, a, b, c _⟩

theorem reps_cons {M : Snap} {θ : List Nat} {a : AV} {l : List AV} {vs : List Value} (h : Reps M θ (a :: l) vs) : ∃ v vs', vs = v :: vs' ∧ Rep M θ a v ∧ Reps M θ l vs' := by simpa only [Reps] using h
theorem reps_nil {M : Snap} {θ : List Nat} {vs : List Value} (h : Reps M θ [] vs) : vs = [] := by simpa only [Reps] using h
theorem entr_of {P : Program} {g : FuncId} {fn : Func} {c : Code} (h1 : P.funcs[g]? = some fn) (h2 : (fn.name == "runtime.NumGoroutine") = false) (h3 : fn.body = some c) : Entr P g := ⟨fn, c, h1, h2, h3⟩
end Go.Abs

namespace Go.Abs
open Go Go.RowKit

/-- All of memory. -/
def snap (w : World) : Snap := fun b o => w.cell? ⟨b, o, none⟩

theorem FSv_run {P : Program} {g : FuncId} {args : List AV} {b : Bool} (h : FSv P g args (.bool b)) {w : World} {vals : List Value} (hr : Reps (snap w) [] args vals) :
    Calls P g vals.toArray w fun e w' => e = .returned (.bool b) ∧ Below w.heap.size w w' := by
  have hc : Core P ⟨w, snap w, [], fun _ => none⟩ ⟨args.length, [], [], 0⟩ (snap w) [] (fun _ => none) (fun _ => .bool false) w :=
    { mle := Snap.le_refl _
      tle := tle_refl _
      ext := fun _ _ _ h => h
      hlen := rfl
      inj := fun i j x h => by simp at h
      tnew := fun i x h => by simp at h
      tlt := fun i x h => by simp at h
      box := fun b bx blk h => by simp at h
      bel := fun b l ow h => by simp at h
      live := fun t e h => by simp at h
      own := fun blk ow h => by simp at h
      ow0 := fun blk _ h => h
      kp := ⟨rfl, rfl, rfl, Nat.le_refl _, fun _ _ _ => rfl⟩
      mkeep := fun _ _ _ _ _ => rfl }
  refine (h.2 w (snap w) [] (fun _ => none) (fun _ => .bool false) vals hc (fun i e v h => by simp at h) hr).mono fun e w' ⟨r, u, M', θ', ω', τ', k1, k2, k3, k4, _⟩ => ?_
  have hk := k3.kp
  have hb : Below w.heap.size w w' := ⟨hk.os, hk.tape, hk.output, hk.size, fun k h => hk.block k h (by simp)⟩
  have h1 := k2.1
  rw [h1] at k4
  simp only [Rep] at k4
  subst k4
  exact ⟨k1, hb⟩

/-- An argument, read. -/
theorem open_arg {H : Type} {enc : TypeId × Value → H} {P : Program} {T : TE} (hT : TOk P T) {S : List Nat} (hS : ∀ t ∈ S, closedAt T S t = true) {w : World} {base0 base : Nat} {spare : Nat → Bool} {held : Bool} {t : Nat} {v : Value} {d : DataW H} {ps : List MemPlace}
    (ht : t ∈ S) (hv : Value.okWide P w .any base0 t v) (h : DataW.Trod enc P w base spare held t v d ps) : ∃ k l, Shp T k t l ∧ Rep (snap w) [] (boxE T t l) v ∧ wt (boxE T t l) ≤ bulkD d := by
  obtain ⟨k, hk⟩ := h
  obtain ⟨l, h1, h2, h3, h4⟩ := trod_shp hT hS (M := snap w) (fun _ _ _ h => h) k t _ d ps ht hk
  refine ⟨k, l, h1, ?_, h4⟩
  have hc := hS t ht
  unfold closedAt at hc
  cases hti : T t with
  | none => simp [hti] at hc
  | some ti =>
    simp only [hti, Bool.and_eq_true, decide_eq_true_eq] at hc
    have hdesc := hT.desc t ti hti
    have hbx : boxE T t l = if isAggD ti.d then .agg l else l.headD .unk := by simp only [boxE, isAggT, hti]
    rw [hbx]
    have one : ∀ {v : Value}, v.cells = #[v] → isAggD ti.d = false → RepC (snap w) l v.cells.toList → l.length = 1 → Rep (snap w) [] (if isAggD ti.d then .agg l else l.headD .unk) v := fun {v} hv ha hr hl => by
      rw [ha, hv] at *
      obtain ⟨a, rfl⟩ : ∃ a, l = [a] := List.length_eq_one_iff.1 hl
      simp only [RepC, Bool.false_eq_true, if_false, List.headD_cons] at hr ⊢
      obtain ⟨u, vs, e, ⟨_, h⟩, _⟩ := hr
      simp only [List.cons.injEq] at e
      rw [e.1]; exact h
    have l1 : v.cells = #[v] → l.length = 1 := fun e => by rw [← h2.length, e]; rfl
    unfold Value.okWide at hv
    cases hd : ti.d <;> simp only [hd, DescOk] at hdesc hc <;> try (simp only [Bool.false_eq_true, and_false] at hc; done)
    · obtain ⟨n, rfl⟩ := WideShapes.okWide_int hdesc (base := base0) (r := .any) (w := w) (by unfold Value.okWide; exact hv)
      exact hd ▸ one rfl (by rw [hd]; rfl) h2 (l1 rfl)
    · obtain ⟨n, rfl⟩ := WideShapes.okWide_bool hdesc (base := base0) (r := .any) (w := w) (by unfold Value.okWide; exact hv)
      exact hd ▸ one rfl (by rw [hd]; rfl) h2 (l1 rfl)
    · obtain ⟨n, rfl⟩ := WideShapes.okWide_string hdesc (base := base0) (r := .any) (w := w) (by unfold Value.okWide; exact hv)
      exact hd ▸ one rfl (by rw [hd]; rfl) h2 (l1 rfl)
    · obtain ⟨a, n, c, rfl⟩ := WideShapes.okWide_slice hdesc (base := base0) (r := .any) (w := w) (by unfold Value.okWide; exact hv)
      exact hd ▸ one rfl (by rw [hd]; rfl) h2 (l1 rfl)
    · obtain ⟨fields, hu, _⟩ := hdesc
      rw [hu] at hv
      obtain ⟨cs, rfl, _⟩ := hv
      simp only [isAggD, if_true, Rep]
      exact ⟨cs.toList, by simp, h2.reps⟩
    · rw [hdesc] at hv
      obtain ⟨cs, rfl, _⟩ := hv
      simp only [isAggD, if_true, Rep]
      exact ⟨cs.toList, by simp, h2.reps⟩
end Go.Abs

namespace Go.Abs
/-- Small laws of the library, one name for all. -/
theorem wz :
  (∀ {α : Type} (a : α) (l : List α), (a :: l)[0]? = some a) ∧
  (∀ {α : Type} (a : α) (l : List α) (i : Nat), (a :: l)[i + 1]? = l[i]?) ∧
  (∀ (p : Prop) [Decidable p], (decide p = false) = ¬ p) ∧
  (∀ (p : Prop) [Decidable p], (decide p = true) = p) ∧
  (∀ {α : Type} (l : List α) (i : Nat), l.toArray[i]? = l[i]?) ∧
  (∀ {α : Type} (a : α) (l : List α), [a] ++ l = a :: l) ∧
  (∀ {α : Type} (a : α) (l : List α) (d : α), (a :: l).getD 0 d = a) ∧
  (∀ {α : Type} (a : α) (l : List α) (i : Nat) (d : α), (a :: l).getD (i + 1) d = l.getD i d) ∧
  (∀ {α : Type} (a : α) (l : List α) (i : Nat), (a :: l).drop (i + 1) = l.drop i) ∧
  (∀ {α : Type} (a : α) (l : List α) (i : Nat), (a :: l).take (i + 1) = a :: l.take i) ∧
  (∀ {α : Type} (a : α), (some a).isSome = true) ∧
  ((false = true) = False) ∧ ((true = false) = False) ∧
  (∀ {α : Type} (a b : α) (l : List α), (a :: l).set 0 b = b :: l) ∧
  (∀ {α : Type} (a b : α) (l : List α) (i : Nat), (a :: l).set (i + 1) b = a :: l.set i b) ∧
  (∀ {α : Type} (a b c : List α), a ++ b ++ c = a ++ (b ++ c)) ∧
  (∀ {α : Type} (l : List α), l.toArray.size = l.length) ∧
  ((¬ True) = False) ∧ ((¬ False) = True) ∧
  (∀ {α : Type} (a : α) (l : List α) (n : Nat), (a :: l).zipIdx n = (a, n) :: l.zipIdx (n + 1)) ∧
  (∀ {α : Type} (a : α) (l m : List α), (a :: l) ++ m = a :: (l ++ m)) ∧
  (∀ {α β : Type} (a : α) (f : α → Option β), (some a).bind f = f a) ∧
  (∀ {α β : Type} (f : α → Option β), (none : Option α).bind f = none) ∧
  (∀ {α : Type} (a : α) (l : List α), (a :: l).length = l.length + 1) ∧
  (∀ {α : Type} (n : Nat), ([] : List α).zipIdx n = []) ∧
  (∀ {α : Type} (l : List α), [] ++ l = l) ∧
  (∀ {α β : Type} (a : α) (f : α → β), (some a).map f = some (f a)) ∧
  (∀ {α β : Type} (f : α → β), (none : Option α).map f = none) ∧
  (∀ {α β : Type} (f : α → β) (l : List α), (l.map f).length = l.length) ∧
  (∀ {α : Type}, ([] : List α).length = 0) ∧
  (∀ {α : Type} (l : List α), l ++ [] = l) ∧
  (∀ {α : Type} (l : List α), l.drop 0 = l) ∧ (∀ {α : Type} (l : List α), l.take 0 = []) ∧
  (∀ b : Bool, (false && b) = false) ∧ (∀ b : Bool, (b && false) = false) ∧ ((!false) = true) ∧ ((!true) = false) ∧
  ((0 : Int).toNat = 0) ∧ (((0 : Nat) : Int) = 0) ∧
  (∀ {α : Type} (p : α → Bool) (a : α) (l : List α), (a :: l).all p = (p a && l.all p)) ∧
  (∀ {α β : Type} (f : α → β) (a : α) (l : List α), (a :: l).map f = f a :: l.map f) ∧
  (∀ {α : Type} (p : α → Bool) (a : α) (l : List α), (a :: l).any p = (p a || l.any p)) ∧
  (∀ {α : Type} (i : Nat), ([] : List α).drop i = []) ∧ (∀ {α : Type} (i : Nat), ([] : List α).take i = []) ∧
  (∀ b : Bool, (true && b) = b) ∧ (∀ b : Bool, (b && true) = b) ∧ (∀ b : Bool, (false || b) = b) ∧ (∀ b : Bool, (b || false) = b) ∧
  (∀ {α : Type} (p : α → Bool), ([] : List α).all p = true) ∧ (∀ {α β : Type} (f : α → β), ([] : List α).map f = []) ∧ (∀ {α : Type} (p : α → Bool), ([] : List α).any p = false) ∧
  (∀ b : Bool, (true || b) = true) ∧ (∀ b : Bool, (b || true) = true) ∧ (decide False = false) ∧ (decide True = true) ∧
  (∀ p : Prop, (False ∧ p) = False) ∧ (∀ p : Prop, (p ∧ False) = False) ∧ (∀ p : Prop, (True ∧ p) = p) ∧ (∀ p : Prop, (p ∧ True) = p) ∧ (∀ p : Prop, (p ∧ p) = p) ∧
  (∀ p : Prop, (p ∨ False) = p) ∧ (∀ p : Prop, (False ∨ p) = p) ∧ (∀ p : Prop, (p ∨ True) = True) ∧ (∀ p : Prop, (True ∨ p) = True) := by
  refine ⟨?_, ?_, ?_, ?_, ?_, ?_, ?_, ?_, ?_, ?_, ?_, ?_, ?_, ?_, ?_, ?_, ?_, ?_, ?_, ?_, ?_, ?_, ?_, ?_, ?_, ?_, ?_, ?_, ?_, ?_, ?_, ?_, ?_, ?_, ?_, ?_, ?_, ?_, ?_, ?_, ?_, ?_, ?_, ?_, ?_, ?_, ?_, ?_, ?_, ?_, ?_, ?_, ?_, ?_, ?_, ?_, ?_, ?_, ?_, ?_, ?_, ?_, ?_, ?_⟩ <;> intros <;> simp
end Go.Abs

namespace Go.Abs
open Go
/-- The equations of the evaluation, one name for all. -/
theorem wq : type_of% (And.intro @eWC_skip <| And.intro @eWC_exit <| And.intro @eWC_ret <| And.intro @eWC_seq <| And.intro @eWC_block <| And.intro @eWC_cond <| And.intro @eWC_regF <| And.intro @eWC_regT <| And.intro @eWC_loop <| And.intro @eWOps_nil <| And.intro @eWOps_cons <| And.intro @eWOp_eq <| And.intro 
  @eWPl_done <| And.intro @eWPl_z <| And.intro @eWPl_q <| And.intro @eWPl_a <| And.intro @eAW_eq <| And.intro @evalQ.eq_1 <| And.intro @guardG.eq_1 <| And.intro @SV.noU.eq_1 <| And.intro @SV.un.eq_1 <| And.intro @quiet.eq_1 <| And.intro @evO.eq_1 <| And.intro @evO.eq_2 <| And.intro 
  @evO.eq_3 <| And.intro @evO.eq_4 <| And.intro @ofConst.eq_1 <| And.intro @ofConst.eq_2 <| And.intro @ofConst.eq_3 <| And.intro @ofConst.eq_4 <| And.intro @ofConst.eq_5 <| And.intro @ofConst.eq_6 <| And.intro @ofConst.eq_7 <| And.intro @ofConst.eq_8 <| And.intro 
  @St.put.eq_1 <| And.intro @St.put.eq_2 <| And.intro @SV.of.eq_1 <| And.intro @SV.no.eq_1 <| And.intro @binQ.eq_1 <| And.intro @binQ.eq_2 <| And.intro @binQ.eq_3 <| And.intro @binQ.eq_4 <| And.intro @binQ.eq_5 <| And.intro @binQ.eq_6 <| And.intro @binQ.eq_7 <| And.intro 
  @binQ.eq_8 <| And.intro @binQ.eq_9 <| And.intro @binQ.eq_10 <| And.intro @binQ.eq_11 <| And.intro @binQ.eq_12 <| And.intro @binQ.eq_13 <| And.intro @binQ.eq_14 <| And.intro @binQ.eq_15 <| And.intro @binQ.eq_16 <| And.intro @binQ.eq_17 <| And.intro @binQ.eq_18 <| And.intro 
  @binQ.eq_19 <| And.intro @binQ.eq_20 <| And.intro @binQ.eq_21 <| And.intro @binQ.eq_22 <| And.intro @binQ.eq_23 <| And.intro @binQ.eq_24 <| And.intro @binQ.eq_25 <| And.intro @binQ.eq_26 <| And.intro @binQ.eq_27 <| And.intro @binQ.eq_28 <| And.intro @binQ.eq_29 <| And.intro 
  @unQ.eq_1 <| And.intro @unQ.eq_2 <| And.intro @unQ.eq_3 <| And.intro @unQ.eq_4 <| And.intro @unQ.eq_5 <| And.intro @arQ.eq_1 <| And.intro @arQ.eq_2 <| And.intro @loadQ.eq_1 <| And.intro @loadQ.eq_2 <| And.intro @loadQ.eq_3 <| And.intro @sliceQ.eq_1 <| And.intro @sliceQ.eq_2 
  <| And.intro @sliceQ.eq_3 <| And.intro @sliceQ.eq_4 <| And.intro @sliceQ.eq_5 <| And.intro @sliceQ.eq_6 <| And.intro @sliceQ.eq_7 <| And.intro @partsQ.eq_1 <| And.intro @partsQ.eq_2 <| And.intro @fillAV.eq_1 <| And.intro @fillAV.eq_2 <| And.intro @fillOk.eq_1 <| And.intro 
  @fillOk.eq_2 <| And.intro @isU8.eq_1 <| And.intro @isU8.eq_2 <| And.intro @shapeOk.eq_1 <| And.intro @isAggD.eq_1 <| And.intro @isAggD.eq_2 <| And.intro @isAggD.eq_3 <| And.intro @isAggV.eq_1 <| And.intro @isAggV.eq_2 <| And.intro @cell1.eq_1 <| And.intro @cell1.eq_2 
  <| And.intro @cell1.eq_3 <| And.intro @cell1.eq_4 <| And.intro @cellsOf.eq_1 <| And.intro @cellsOf.eq_2 <| And.intro @isSeq.eq_1 <| And.intro @isSeq.eq_2 <| And.intro @pOk.eq_1 <| And.intro @pOk.eq_2 <| And.intro @capsOk.eq_1 <| And.intro @capsOk.eq_2 <| And.intro 
  @pureCall.eq_1 <| And.intro @pureCall.eq_2 <| And.intro @pickB_or <| And.intro @pickB_and <| And.intro @belowV.eq_1 <| And.intro @belowV.eq_2 <| And.intro @belowV.eq_3 <| And.intro @belowV.eq_4 <| And.intro @belowV.eq_5 <| And.intro @belowV.eq_6 <| And.intro 
  @belowL.eq_1 <| And.intro @belowL.eq_2 <| And.intro @elemsOf.eq_1 <| And.intro @elemsOf.eq_2 <| And.intro @elemsOf.eq_3 <| And.intro @Proms.eq_1 <| And.intro @Proms.eq_2 <| And.intro @Prom.eq_1 <| And.intro @svLe.eq_1 <| And.intro @tagLe.eq_1 <| And.intro @tagLe.eq_2 
  <| And.intro @tagLe.eq_3 <| And.intro @isLoad.eq_1 <| And.intro @isLoad.eq_2 <| And.intro @lk.eq_1 <| And.intro @lk.eq_2 <| And.intro @thenQ.eq_1 <| And.intro @thenQ.eq_2 <| And.intro @blockQ.eq_1 <| And.intro @blockQ.eq_2 <| And.intro @retV.eq_1 <| And.intro @retQ.eq_1 <| 
  And.intro @retQ.eq_2 <| And.intro @resL.eq_1 <| And.intro @resL.eq_2 <| And.intro @resQ.eq_1 <| And.intro @resQ.eq_2 <| And.intro @oneRes.eq_1 <| And.intro @oneRes.eq_2 <| And.intro @true_implies <| And.intro @false_implies <| And.intro @imp_self <| And.intro 
  @Go.Abs.byteOf.eq_1 @Go.byteOf.eq_1)  :=
  (And.intro @eWC_skip <| And.intro @eWC_exit <| And.intro @eWC_ret <| And.intro @eWC_seq <| And.intro @eWC_block <| And.intro @eWC_cond <| And.intro @eWC_regF <| And.intro @eWC_regT <| And.intro @eWC_loop <| And.intro @eWOps_nil <| And.intro @eWOps_cons <| And.intro @eWOp_eq <| And.intro 
  @eWPl_done <| And.intro @eWPl_z <| And.intro @eWPl_q <| And.intro @eWPl_a <| And.intro @eAW_eq <| And.intro @evalQ.eq_1 <| And.intro @guardG.eq_1 <| And.intro @SV.noU.eq_1 <| And.intro @SV.un.eq_1 <| And.intro @quiet.eq_1 <| And.intro @evO.eq_1 <| And.intro @evO.eq_2 <| And.intro 
  @evO.eq_3 <| And.intro @evO.eq_4 <| And.intro @ofConst.eq_1 <| And.intro @ofConst.eq_2 <| And.intro @ofConst.eq_3 <| And.intro @ofConst.eq_4 <| And.intro @ofConst.eq_5 <| And.intro @ofConst.eq_6 <| And.intro @ofConst.eq_7 <| And.intro @ofConst.eq_8 <| And.intro 
  @St.put.eq_1 <| And.intro @St.put.eq_2 <| And.intro @SV.of.eq_1 <| And.intro @SV.no.eq_1 <| And.intro @binQ.eq_1 <| And.intro @binQ.eq_2 <| And.intro @binQ.eq_3 <| And.intro @binQ.eq_4 <| And.intro @binQ.eq_5 <| And.intro @binQ.eq_6 <| And.intro @binQ.eq_7 <| And.intro 
  @binQ.eq_8 <| And.intro @binQ.eq_9 <| And.intro @binQ.eq_10 <| And.intro @binQ.eq_11 <| And.intro @binQ.eq_12 <| And.intro @binQ.eq_13 <| And.intro @binQ.eq_14 <| And.intro @binQ.eq_15 <| And.intro @binQ.eq_16 <| And.intro @binQ.eq_17 <| And.intro @binQ.eq_18 <| And.intro 
  @binQ.eq_19 <| And.intro @binQ.eq_20 <| And.intro @binQ.eq_21 <| And.intro @binQ.eq_22 <| And.intro @binQ.eq_23 <| And.intro @binQ.eq_24 <| And.intro @binQ.eq_25 <| And.intro @binQ.eq_26 <| And.intro @binQ.eq_27 <| And.intro @binQ.eq_28 <| And.intro @binQ.eq_29 <| And.intro 
  @unQ.eq_1 <| And.intro @unQ.eq_2 <| And.intro @unQ.eq_3 <| And.intro @unQ.eq_4 <| And.intro @unQ.eq_5 <| And.intro @arQ.eq_1 <| And.intro @arQ.eq_2 <| And.intro @loadQ.eq_1 <| And.intro @loadQ.eq_2 <| And.intro @loadQ.eq_3 <| And.intro @sliceQ.eq_1 <| And.intro @sliceQ.eq_2 
  <| And.intro @sliceQ.eq_3 <| And.intro @sliceQ.eq_4 <| And.intro @sliceQ.eq_5 <| And.intro @sliceQ.eq_6 <| And.intro @sliceQ.eq_7 <| And.intro @partsQ.eq_1 <| And.intro @partsQ.eq_2 <| And.intro @fillAV.eq_1 <| And.intro @fillAV.eq_2 <| And.intro @fillOk.eq_1 <| And.intro 
  @fillOk.eq_2 <| And.intro @isU8.eq_1 <| And.intro @isU8.eq_2 <| And.intro @shapeOk.eq_1 <| And.intro @isAggD.eq_1 <| And.intro @isAggD.eq_2 <| And.intro @isAggD.eq_3 <| And.intro @isAggV.eq_1 <| And.intro @isAggV.eq_2 <| And.intro @cell1.eq_1 <| And.intro @cell1.eq_2 
  <| And.intro @cell1.eq_3 <| And.intro @cell1.eq_4 <| And.intro @cellsOf.eq_1 <| And.intro @cellsOf.eq_2 <| And.intro @isSeq.eq_1 <| And.intro @isSeq.eq_2 <| And.intro @pOk.eq_1 <| And.intro @pOk.eq_2 <| And.intro @capsOk.eq_1 <| And.intro @capsOk.eq_2 <| And.intro 
  @pureCall.eq_1 <| And.intro @pureCall.eq_2 <| And.intro @pickB_or <| And.intro @pickB_and <| And.intro @belowV.eq_1 <| And.intro @belowV.eq_2 <| And.intro @belowV.eq_3 <| And.intro @belowV.eq_4 <| And.intro @belowV.eq_5 <| And.intro @belowV.eq_6 <| And.intro 
  @belowL.eq_1 <| And.intro @belowL.eq_2 <| And.intro @elemsOf.eq_1 <| And.intro @elemsOf.eq_2 <| And.intro @elemsOf.eq_3 <| And.intro @Proms.eq_1 <| And.intro @Proms.eq_2 <| And.intro @Prom.eq_1 <| And.intro @svLe.eq_1 <| And.intro @tagLe.eq_1 <| And.intro @tagLe.eq_2 
  <| And.intro @tagLe.eq_3 <| And.intro @isLoad.eq_1 <| And.intro @isLoad.eq_2 <| And.intro @lk.eq_1 <| And.intro @lk.eq_2 <| And.intro @thenQ.eq_1 <| And.intro @thenQ.eq_2 <| And.intro @blockQ.eq_1 <| And.intro @blockQ.eq_2 <| And.intro @retV.eq_1 <| And.intro @retQ.eq_1 <| 
  And.intro @retQ.eq_2 <| And.intro @resL.eq_1 <| And.intro @resL.eq_2 <| And.intro @resQ.eq_1 <| And.intro @resQ.eq_2 <| And.intro @oneRes.eq_1 <| And.intro @oneRes.eq_2 <| And.intro @true_implies <| And.intro @false_implies <| And.intro @imp_self <| And.intro 
  @Go.Abs.byteOf.eq_1 @Go.byteOf.eq_1) 
end Go.Abs

namespace Go.Proofs.Tryz
open Go Go.Abs
set_option linter.unusedSimpArgs false

def ti3 : TI := ⟨.int .i64, 1, 8, .int .i64 0⟩
def ti4 : TI := ⟨.bool, 1, 1, .bool false⟩
def ti5 : TI := ⟨.int .u8, 1, 1, .int .u8 0⟩
def ti9 : TI := ⟨.str, 1, 16, .str []⟩
def ti22 : TI := ⟨.slice 66, 1, 24, .snil⟩
def ti24 : TI := ⟨.struct [(9, 0), (9, 1), (9, 2), (9, 3), (3, 4), (3, 5)], 6, 80, .agg [.str [], .str [], .str [], .str [], .int .i64 0, .int .i64 0]⟩
def ti25 : TI := ⟨.slice 462, 1, 24, .snil⟩
def ti26 : TI := ⟨.slice 464, 1, 24, .snil⟩
def ti27 : TI := ⟨.slice 466, 1, 24, .snil⟩
def ti28 : TI := ⟨.slice 9, 1, 24, .snil⟩
def ti30 : TI := ⟨.struct [(9, 0), (9, 1), (9, 2), (22, 3), (22, 4), (24, 5), (25, 11), (26, 12), (27, 13), (28, 14), (28, 15)], 16, 296, .agg [.str [], .str [], .str [], .snil, .snil, .str [], .str [], .str [], .str [], .int .i64 0, .int .i64 0, .snil, .snil, .snil, .snil, .snil]⟩
def ti31 : TI := ⟨.slice 44, 1, 24, .snil⟩
def ti32 : TI := ⟨.slice 34, 1, 24, .snil⟩
def ti34 : TI := ⟨.struct [(3, 0), (9, 1), (9, 2), (9, 3), (31, 4), (32, 5)], 6, 104, .agg [.int .i64 0, .str [], .str [], .str [], .snil, .snil]⟩
def ti35 : TI := ⟨.slice 46, 1, 24, .snil⟩
def ti38 : TI := ⟨.int .i64, 1, 8, .int .i64 0⟩
def ti44 : TI := ⟨.struct [(9, 0), (32, 1)], 2, 40, .agg [.str [], .snil]⟩
def ti46 : TI := ⟨.struct [(9, 0), (3, 1), (9, 2), (3, 3), (28, 4)], 5, 72, .agg [.str [], .int .i64 0, .str [], .int .i64 0, .snil]⟩
def ti47 : TI := ⟨.array 2 9, 2, 32, .agg [.str [], .str []]⟩
def ti55 : TI := ⟨.struct [(3, 0), (28, 1)], 2, 32, .agg [.int .i64 0, .snil]⟩
def ti64 : TI := ⟨.slice 141, 1, 24, .snil⟩
def ti66 : TI := ⟨.struct [(9, 0), (64, 1)], 2, 40, .agg [.str [], .snil]⟩
def ti107 : TI := ⟨.struct [(4, 0), (9, 1), (9, 2)], 3, 40, .agg [.bool false, .str [], .str []]⟩
def ti133 : TI := ⟨.slice 3, 1, 24, .snil⟩
def ti137 : TI := ⟨.struct [(3, 0), (3, 1)], 2, 16, .agg [.int .i64 0, .int .i64 0]⟩
def ti138 : TI := ⟨.slice 137, 1, 24, .snil⟩
def ti140 : TI := ⟨.struct [(3, 0), (3, 1), (4, 2), (138, 3)], 4, 48, .agg [.int .i64 0, .int .i64 0, .bool false, .snil]⟩
def ti141 : TI := ⟨.slice 140, 1, 24, .snil⟩
def ti174 : TI := ⟨.fn, 1, 8, .nilfn⟩
def ti270 : TI := ⟨.array 6 9, 6, 96, .agg [.str [], .str [], .str [], .str [], .str [], .str []]⟩
def ti286 : TI := ⟨.fn, 1, 8, .nilfn⟩
def ti307 : TI := ⟨.struct [(4, 0), (9, 1), (9, 2)], 3, 40, .agg [.bool false, .str [], .str []]⟩
def ti329 : TI := ⟨.ptr 331, 1, 8, .nilptr⟩
def ti331 : TI := ⟨.struct [(9, 0), (3, 1), (3, 2), (38, 3)], 4, 40, .agg [.str [], .int .i64 0, .int .i64 0, .int .i64 0]⟩
def ti363 : TI := ⟨.fn, 1, 8, .nilfn⟩
def ti462 : TI := ⟨.struct [(9, 0), (9, 1), (9, 2), (9, 3), (9, 4)], 5, 80, .agg [.str [], .str [], .str [], .str [], .str []]⟩
def ti464 : TI := ⟨.struct [(9, 0), (9, 1), (9, 2)], 3, 48, .agg [.str [], .str [], .str []]⟩
def ti466 : TI := ⟨.struct [(9, 0), (9, 1)], 2, 32, .agg [.str [], .str []]⟩
def teL : List (Option TI) := [none, none, none, some ti3, some ti4, some ti5, none, none, none, some ti9, none, none, none, none, none, none, none, none, none, none, none, none, some ti22, none, some ti24, some ti25, some ti26, some ti27, some ti28, none, some ti30, some ti31, some ti32, none, some ti34, some ti35, none, none, some ti38, none, none, none, none, none, some ti44, none, some ti46, some ti47, none, none, none, none, none, none, none, some ti55, none, none, none, none, none, none, none, none, some ti64, none, some ti66, none, none, none, none, none, none, none, none, none, none, none, none, none, none, none, none, none, none, none, none, none, none, none, none, none, none, none, none, none, none, none, none, none, none, none, none, none, none, none, none, some ti107, none, none, none, none, none, none, none, none, none, none, none, none, none, none, none, none, none, none, none, none, none, none, none, none, none, some ti133, none, none, none, some ti137, some ti138, none, some ti140, some ti141, none, none, none, none, none, none, none, none, none, none, none, none, none, none, none, none, none, none, none, none, none, none, none, none, none, none, none, none, none, none, none, none, some ti174, none, none, none, none, none, none, none, none, none, none, none, none, none, none, none, none, none, none, none, none, none, none, none, none, none, none, none, none, none, none, none, none, none, none, none, none, none, none, none, none, none, none, none, none, none, none, none, none, none, none, none, none, none, none, none, none, none, none, none, none, none, none, none, none, none, none, none, none, none, none, none, none, none, none, none, none, none, none, none, none, none, none, none, none, none, none, none, none, none, none, none, none, none, none, none, some ti270, none, none, none, none, none, none, none, none, none, none, none, none, none, none, none, some ti286, none, none, none, none, none, none, none, none, none, none, none, none, none, none, none, none, none, none, none, none, some ti307, none, none, none, none, none, none, none, none, none, none, none, none, none, none, none, none, none, none, none, none, none, some ti329, none, some ti331, none, none, none, none, none, none, none, none, none, none, none, none, none, none, none, none, none, none, none, none, none, none, none, none, none, none, none, none, none, none, none, some ti363, none, none, none, none, none, none, none, none, none, none, none, none, none, none, none, none, none, none, none, none, none, none, none, none, none, none, none, none, none, none, none, none, none, none, none, none, none, none, none, none, none, none, none, none, none, none, none, none, none, none, none, none, none, none, none, none, none, none, none, none, none, none, none, none, none, none, none, none, none, none, none, none, none, none, none, none, none, none, none, none, none, none, none, none, none, none, none, none, none, none, none, none, none, none, none, none, none, none, some ti462, none, some ti464, none, some ti466]
def T0 : TE := fun t => (teL[t]?).join
theorem T0_3 : T0 3 = some ⟨.int .i64, 1, 8, .int .i64 0⟩ := rfl
theorem T0_4 : T0 4 = some ⟨.bool, 1, 1, .bool false⟩ := rfl
theorem T0_5 : T0 5 = some ⟨.int .u8, 1, 1, .int .u8 0⟩ := rfl
theorem T0_9 : T0 9 = some ⟨.str, 1, 16, .str []⟩ := rfl
theorem T0_22 : T0 22 = some ⟨.slice 66, 1, 24, .snil⟩ := rfl
theorem T0_24 : T0 24 = some ⟨.struct [(9, 0), (9, 1), (9, 2), (9, 3), (3, 4), (3, 5)], 6, 80, .agg [.str [], .str [], .str [], .str [], .int .i64 0, .int .i64 0]⟩ := rfl
theorem T0_25 : T0 25 = some ⟨.slice 462, 1, 24, .snil⟩ := rfl
theorem T0_26 : T0 26 = some ⟨.slice 464, 1, 24, .snil⟩ := rfl
theorem T0_27 : T0 27 = some ⟨.slice 466, 1, 24, .snil⟩ := rfl
theorem T0_28 : T0 28 = some ⟨.slice 9, 1, 24, .snil⟩ := rfl
theorem T0_30 : T0 30 = some ⟨.struct [(9, 0), (9, 1), (9, 2), (22, 3), (22, 4), (24, 5), (25, 11), (26, 12), (27, 13), (28, 14), (28, 15)], 16, 296, .agg [.str [], .str [], .str [], .snil, .snil, .str [], .str [], .str [], .str [], .int .i64 0, .int .i64 0, .snil, .snil, .snil, .snil, .snil]⟩ := rfl
theorem T0_31 : T0 31 = some ⟨.slice 44, 1, 24, .snil⟩ := rfl
theorem T0_32 : T0 32 = some ⟨.slice 34, 1, 24, .snil⟩ := rfl
theorem T0_34 : T0 34 = some ⟨.struct [(3, 0), (9, 1), (9, 2), (9, 3), (31, 4), (32, 5)], 6, 104, .agg [.int .i64 0, .str [], .str [], .str [], .snil, .snil]⟩ := rfl
theorem T0_35 : T0 35 = some ⟨.slice 46, 1, 24, .snil⟩ := rfl
theorem T0_38 : T0 38 = some ⟨.int .i64, 1, 8, .int .i64 0⟩ := rfl
theorem T0_44 : T0 44 = some ⟨.struct [(9, 0), (32, 1)], 2, 40, .agg [.str [], .snil]⟩ := rfl
theorem T0_46 : T0 46 = some ⟨.struct [(9, 0), (3, 1), (9, 2), (3, 3), (28, 4)], 5, 72, .agg [.str [], .int .i64 0, .str [], .int .i64 0, .snil]⟩ := rfl
theorem T0_47 : T0 47 = some ⟨.array 2 9, 2, 32, .agg [.str [], .str []]⟩ := rfl
theorem T0_55 : T0 55 = some ⟨.struct [(3, 0), (28, 1)], 2, 32, .agg [.int .i64 0, .snil]⟩ := rfl
theorem T0_64 : T0 64 = some ⟨.slice 141, 1, 24, .snil⟩ := rfl
theorem T0_66 : T0 66 = some ⟨.struct [(9, 0), (64, 1)], 2, 40, .agg [.str [], .snil]⟩ := rfl
theorem T0_107 : T0 107 = some ⟨.struct [(4, 0), (9, 1), (9, 2)], 3, 40, .agg [.bool false, .str [], .str []]⟩ := rfl
theorem T0_133 : T0 133 = some ⟨.slice 3, 1, 24, .snil⟩ := rfl
theorem T0_137 : T0 137 = some ⟨.struct [(3, 0), (3, 1)], 2, 16, .agg [.int .i64 0, .int .i64 0]⟩ := rfl
theorem T0_138 : T0 138 = some ⟨.slice 137, 1, 24, .snil⟩ := rfl
theorem T0_140 : T0 140 = some ⟨.struct [(3, 0), (3, 1), (4, 2), (138, 3)], 4, 48, .agg [.int .i64 0, .int .i64 0, .bool false, .snil]⟩ := rfl
theorem T0_141 : T0 141 = some ⟨.slice 140, 1, 24, .snil⟩ := rfl
theorem T0_174 : T0 174 = some ⟨.fn, 1, 8, .nilfn⟩ := rfl
theorem T0_270 : T0 270 = some ⟨.array 6 9, 6, 96, .agg [.str [], .str [], .str [], .str [], .str [], .str []]⟩ := rfl
theorem T0_286 : T0 286 = some ⟨.fn, 1, 8, .nilfn⟩ := rfl
theorem T0_307 : T0 307 = some ⟨.struct [(4, 0), (9, 1), (9, 2)], 3, 40, .agg [.bool false, .str [], .str []]⟩ := rfl
theorem T0_329 : T0 329 = some ⟨.ptr 331, 1, 8, .nilptr⟩ := rfl
theorem T0_331 : T0 331 = some ⟨.struct [(9, 0), (3, 1), (3, 2), (38, 3)], 4, 40, .agg [.str [], .int .i64 0, .int .i64 0, .int .i64 0]⟩ := rfl
theorem T0_363 : T0 363 = some ⟨.fn, 1, 8, .nilfn⟩ := rfl
theorem T0_462 : T0 462 = some ⟨.struct [(9, 0), (9, 1), (9, 2), (9, 3), (9, 4)], 5, 80, .agg [.str [], .str [], .str [], .str [], .str []]⟩ := rfl
theorem T0_464 : T0 464 = some ⟨.struct [(9, 0), (9, 1), (9, 2)], 3, 48, .agg [.str [], .str [], .str []]⟩ := rfl
theorem T0_466 : T0 466 = some ⟨.struct [(9, 0), (9, 1)], 2, 32, .agg [.str [], .str []]⟩ := rfl
theorem tk3 : TIOk prog 3 ti3 := ⟨⟨t3, _, info_of type3, rfl, rfl, rfl, rfl, by simp [ti3, Rep, Reps]⟩, underlying3⟩
theorem tk4 : TIOk prog 4 ti4 := ⟨⟨t4, _, info_of type4, rfl, rfl, rfl, rfl, by simp [ti4, Rep, Reps]⟩, underlying4⟩
theorem tk5 : TIOk prog 5 ti5 := ⟨⟨t5, _, info_of type5, rfl, rfl, rfl, rfl, by simp [ti5, Rep, Reps]⟩, underlying5⟩
theorem tk9 : TIOk prog 9 ti9 := ⟨⟨t9, _, info_of type9, rfl, rfl, rfl, rfl, by simp [ti9, Rep, Reps]⟩, underlying9⟩
theorem tk22 : TIOk prog 22 ti22 := ⟨⟨t22, _, info_of type22, rfl, rfl, rfl, rfl, by simp [ti22, Rep, Reps]⟩, underlying22⟩
theorem tk24 : TIOk prog 24 ti24 := ⟨⟨t24, _, info_of type24, rfl, rfl, rfl, rfl, by simp [ti24, Rep, Reps]⟩, ⟨_, underlying24, rfl⟩⟩
theorem tk25 : TIOk prog 25 ti25 := ⟨⟨t25, _, info_of type25, rfl, rfl, rfl, rfl, by simp [ti25, Rep, Reps]⟩, underlying25⟩
theorem tk26 : TIOk prog 26 ti26 := ⟨⟨t26, _, info_of type26, rfl, rfl, rfl, rfl, by simp [ti26, Rep, Reps]⟩, underlying26⟩
theorem tk27 : TIOk prog 27 ti27 := ⟨⟨t27, _, info_of type27, rfl, rfl, rfl, rfl, by simp [ti27, Rep, Reps]⟩, underlying27⟩
theorem tk28 : TIOk prog 28 ti28 := ⟨⟨t28, _, info_of type28, rfl, rfl, rfl, rfl, by simp [ti28, Rep, Reps]⟩, underlying28⟩
theorem tk30 : TIOk prog 30 ti30 := ⟨⟨t30, _, info_of type30, rfl, rfl, rfl, rfl, by simp [ti30, Rep, Reps]⟩, ⟨_, underlying30, rfl⟩⟩
theorem tk31 : TIOk prog 31 ti31 := ⟨⟨t31, _, info_of type31, rfl, rfl, rfl, rfl, by simp [ti31, Rep, Reps]⟩, underlying31⟩
theorem tk32 : TIOk prog 32 ti32 := ⟨⟨t32, _, info_of type32, rfl, rfl, rfl, rfl, by simp [ti32, Rep, Reps]⟩, underlying32⟩
theorem tk34 : TIOk prog 34 ti34 := ⟨⟨t34, _, info_of type34, rfl, rfl, rfl, rfl, by simp [ti34, Rep, Reps]⟩, ⟨_, underlying34, rfl⟩⟩
theorem tk35 : TIOk prog 35 ti35 := ⟨⟨t35, _, info_of type35, rfl, rfl, rfl, rfl, by simp [ti35, Rep, Reps]⟩, underlying35⟩
theorem tk38 : TIOk prog 38 ti38 := ⟨⟨t38, _, info_of type38, rfl, rfl, rfl, rfl, by simp [ti38, Rep, Reps]⟩, underlying38⟩
theorem tk44 : TIOk prog 44 ti44 := ⟨⟨t44, _, info_of type44, rfl, rfl, rfl, rfl, by simp [ti44, Rep, Reps]⟩, ⟨_, underlying44, rfl⟩⟩
theorem tk46 : TIOk prog 46 ti46 := ⟨⟨t46, _, info_of type46, rfl, rfl, rfl, rfl, by simp [ti46, Rep, Reps]⟩, ⟨_, underlying46, rfl⟩⟩
theorem tk47 : TIOk prog 47 ti47 := ⟨⟨t47, _, info_of type47, rfl, rfl, rfl, rfl, by simp [ti47, Rep, Reps]⟩, underlying47⟩
theorem tk55 : TIOk prog 55 ti55 := ⟨⟨t55, _, info_of type55, rfl, rfl, rfl, rfl, by simp [ti55, Rep, Reps]⟩, ⟨_, underlying55, rfl⟩⟩
theorem tk64 : TIOk prog 64 ti64 := ⟨⟨t64, _, info_of type64, rfl, rfl, rfl, rfl, by simp [ti64, Rep, Reps]⟩, underlying64⟩
theorem tk66 : TIOk prog 66 ti66 := ⟨⟨t66, _, info_of type66, rfl, rfl, rfl, rfl, by simp [ti66, Rep, Reps]⟩, ⟨_, underlying66, rfl⟩⟩
theorem tk107 : TIOk prog 107 ti107 := ⟨⟨t107, _, info_of type107, rfl, rfl, rfl, rfl, by simp [ti107, Rep, Reps]⟩, ⟨_, underlying107, rfl⟩⟩
theorem tk133 : TIOk prog 133 ti133 := ⟨⟨t133, _, info_of type133, rfl, rfl, rfl, rfl, by simp [ti133, Rep, Reps]⟩, underlying133⟩
theorem tk137 : TIOk prog 137 ti137 := ⟨⟨t137, _, info_of type137, rfl, rfl, rfl, rfl, by simp [ti137, Rep, Reps]⟩, ⟨_, underlying137, rfl⟩⟩
theorem tk138 : TIOk prog 138 ti138 := ⟨⟨t138, _, info_of type138, rfl, rfl, rfl, rfl, by simp [ti138, Rep, Reps]⟩, underlying138⟩
theorem tk140 : TIOk prog 140 ti140 := ⟨⟨t140, _, info_of type140, rfl, rfl, rfl, rfl, by simp [ti140, Rep, Reps]⟩, ⟨_, underlying140, rfl⟩⟩
theorem tk141 : TIOk prog 141 ti141 := ⟨⟨t141, _, info_of type141, rfl, rfl, rfl, rfl, by simp [ti141, Rep, Reps]⟩, underlying141⟩
theorem tk174 : TIOk prog 174 ti174 := ⟨⟨t174, _, info_of type174, rfl, rfl, rfl, rfl, by simp [ti174, Rep, Reps]⟩, ⟨_, _, _, underlying174⟩⟩
theorem tk270 : TIOk prog 270 ti270 := ⟨⟨t270, _, info_of type270, rfl, rfl, rfl, rfl, by simp [ti270, Rep, Reps]⟩, underlying270⟩
theorem tk286 : TIOk prog 286 ti286 := ⟨⟨t286, _, info_of type286, rfl, rfl, rfl, rfl, by simp [ti286, Rep, Reps]⟩, ⟨_, _, _, underlying286⟩⟩
theorem tk307 : TIOk prog 307 ti307 := ⟨⟨t307, _, info_of type307, rfl, rfl, rfl, rfl, by simp [ti307, Rep, Reps]⟩, ⟨_, underlying307, rfl⟩⟩
theorem tk329 : TIOk prog 329 ti329 := ⟨⟨t329, _, info_of type329, rfl, rfl, rfl, rfl, by simp [ti329, Rep, Reps]⟩, underlying329⟩
theorem tk331 : TIOk prog 331 ti331 := ⟨⟨t331, _, info_of type331, rfl, rfl, rfl, rfl, by simp [ti331, Rep, Reps]⟩, ⟨_, underlying331, rfl⟩⟩
theorem tk363 : TIOk prog 363 ti363 := ⟨⟨t363, _, info_of type363, rfl, rfl, rfl, rfl, by simp [ti363, Rep, Reps]⟩, ⟨_, _, _, underlying363⟩⟩
theorem tk462 : TIOk prog 462 ti462 := ⟨⟨t462, _, info_of type462, rfl, rfl, rfl, rfl, by simp [ti462, Rep, Reps]⟩, ⟨_, underlying462, rfl⟩⟩
theorem tk464 : TIOk prog 464 ti464 := ⟨⟨t464, _, info_of type464, rfl, rfl, rfl, rfl, by simp [ti464, Rep, Reps]⟩, ⟨_, underlying464, rfl⟩⟩
theorem tk466 : TIOk prog 466 ti466 := ⟨⟨t466, _, info_of type466, rfl, rfl, rfl, rfl, by simp [ti466, Rep, Reps]⟩, ⟨_, underlying466, rfl⟩⟩
set_option maxRecDepth 100000 in
theorem T0_ok : TOk prog T0 := tok_of_list teL <|
  .none <|
  .none <|
  .none <|
  .some tk3 <|
  .some tk4 <|
  .some tk5 <|
  .none <|
  .none <|
  .none <|
  .some tk9 <|
  .none <|
  .none <|
  .none <|
  .none <|
  .none <|
  .none <|
  .none <|
  .none <|
  .none <|
  .none <|
  .none <|
  .none <|
  .some tk22 <|
  .none <|
  .some tk24 <|
  .some tk25 <|
  .some tk26 <|
  .some tk27 <|
  .some tk28 <|
  .none <|
  .some tk30 <|
  .some tk31 <|
  .some tk32 <|
  .none <|
  .some tk34 <|
  .some tk35 <|
  .none <|
  .none <|
  .some tk38 <|
  .none <|
  .none <|
  .none <|
  .none <|
  .none <|
  .some tk44 <|
  .none <|
  .some tk46 <|
  .some tk47 <|
  .none <|
  .none <|
  .none <|
  .none <|
  .none <|
  .none <|
  .none <|
  .some tk55 <|
  .none <|
  .none <|
  .none <|
  .none <|
  .none <|
  .none <|
  .none <|
  .none <|
  .some tk64 <|
  .none <|
  .some tk66 <|
  .none <|
  .none <|
  .none <|
  .none <|
  .none <|
  .none <|
  .none <|
  .none <|
  .none <|
  .none <|
  .none <|
  .none <|
  .none <|
  .none <|
  .none <|
  .none <|
  .none <|
  .none <|
  .none <|
  .none <|
  .none <|
  .none <|
  .none <|
  .none <|
  .none <|
  .none <|
  .none <|
  .none <|
  .none <|
  .none <|
  .none <|
  .none <|
  .none <|
  .none <|
  .none <|
  .none <|
  .none <|
  .none <|
  .none <|
  .none <|
  .some tk107 <|
  .none <|
  .none <|
  .none <|
  .none <|
  .none <|
  .none <|
  .none <|
  .none <|
  .none <|
  .none <|
  .none <|
  .none <|
  .none <|
  .none <|
  .none <|
  .none <|
  .none <|
  .none <|
  .none <|
  .none <|
  .none <|
  .none <|
  .none <|
  .none <|
  .none <|
  .some tk133 <|
  .none <|
  .none <|
  .none <|
  .some tk137 <|
  .some tk138 <|
  .none <|
  .some tk140 <|
  .some tk141 <|
  .none <|
  .none <|
  .none <|
  .none <|
  .none <|
  .none <|
  .none <|
  .none <|
  .none <|
  .none <|
  .none <|
  .none <|
  .none <|
  .none <|
  .none <|
  .none <|
  .none <|
  .none <|
  .none <|
  .none <|
  .none <|
  .none <|
  .none <|
  .none <|
  .none <|
  .none <|
  .none <|
  .none <|
  .none <|
  .none <|
  .none <|
  .none <|
  .some tk174 <|
  .none <|
  .none <|
  .none <|
  .none <|
  .none <|
  .none <|
  .none <|
  .none <|
  .none <|
  .none <|
  .none <|
  .none <|
  .none <|
  .none <|
  .none <|
  .none <|
  .none <|
  .none <|
  .none <|
  .none <|
  .none <|
  .none <|
  .none <|
  .none <|
  .none <|
  .none <|
  .none <|
  .none <|
  .none <|
  .none <|
  .none <|
  .none <|
  .none <|
  .none <|
  .none <|
  .none <|
  .none <|
  .none <|
  .none <|
  .none <|
  .none <|
  .none <|
  .none <|
  .none <|
  .none <|
  .none <|
  .none <|
  .none <|
  .none <|
  .none <|
  .none <|
  .none <|
  .none <|
  .none <|
  .none <|
  .none <|
  .none <|
  .none <|
  .none <|
  .none <|
  .none <|
  .none <|
  .none <|
  .none <|
  .none <|
  .none <|
  .none <|
  .none <|
  .none <|
  .none <|
  .none <|
  .none <|
  .none <|
  .none <|
  .none <|
  .none <|
  .none <|
  .none <|
  .none <|
  .none <|
  .none <|
  .none <|
  .none <|
  .none <|
  .none <|
  .none <|
  .none <|
  .none <|
  .none <|
  .none <|
  .none <|
  .none <|
  .none <|
  .none <|
  .none <|
  .some tk270 <|
  .none <|
  .none <|
  .none <|
  .none <|
  .none <|
  .none <|
  .none <|
  .none <|
  .none <|
  .none <|
  .none <|
  .none <|
  .none <|
  .none <|
  .none <|
  .some tk286 <|
  .none <|
  .none <|
  .none <|
  .none <|
  .none <|
  .none <|
  .none <|
  .none <|
  .none <|
  .none <|
  .none <|
  .none <|
  .none <|
  .none <|
  .none <|
  .none <|
  .none <|
  .none <|
  .none <|
  .none <|
  .some tk307 <|
  .none <|
  .none <|
  .none <|
  .none <|
  .none <|
  .none <|
  .none <|
  .none <|
  .none <|
  .none <|
  .none <|
  .none <|
  .none <|
  .none <|
  .none <|
  .none <|
  .none <|
  .none <|
  .none <|
  .none <|
  .none <|
  .some tk329 <|
  .none <|
  .some tk331 <|
  .none <|
  .none <|
  .none <|
  .none <|
  .none <|
  .none <|
  .none <|
  .none <|
  .none <|
  .none <|
  .none <|
  .none <|
  .none <|
  .none <|
  .none <|
  .none <|
  .none <|
  .none <|
  .none <|
  .none <|
  .none <|
  .none <|
  .none <|
  .none <|
  .none <|
  .none <|
  .none <|
  .none <|
  .none <|
  .none <|
  .none <|
  .some tk363 <|
  .none <|
  .none <|
  .none <|
  .none <|
  .none <|
  .none <|
  .none <|
  .none <|
  .none <|
  .none <|
  .none <|
  .none <|
  .none <|
  .none <|
  .none <|
  .none <|
  .none <|
  .none <|
  .none <|
  .none <|
  .none <|
  .none <|
  .none <|
  .none <|
  .none <|
  .none <|
  .none <|
  .none <|
  .none <|
  .none <|
  .none <|
  .none <|
  .none <|
  .none <|
  .none <|
  .none <|
  .none <|
  .none <|
  .none <|
  .none <|
  .none <|
  .none <|
  .none <|
  .none <|
  .none <|
  .none <|
  .none <|
  .none <|
  .none <|
  .none <|
  .none <|
  .none <|
  .none <|
  .none <|
  .none <|
  .none <|
  .none <|
  .none <|
  .none <|
  .none <|
  .none <|
  .none <|
  .none <|
  .none <|
  .none <|
  .none <|
  .none <|
  .none <|
  .none <|
  .none <|
  .none <|
  .none <|
  .none <|
  .none <|
  .none <|
  .none <|
  .none <|
  .none <|
  .none <|
  .none <|
  .none <|
  .none <|
  .none <|
  .none <|
  .none <|
  .none <|
  .none <|
  .none <|
  .none <|
  .none <|
  .none <|
  .none <|
  .none <|
  .none <|
  .none <|
  .none <|
  .none <|
  .none <|
  .some tk462 <|
  .none <|
  .some tk464 <|
  .none <|
  .some tk466 <|
  .nil
end Go.Proofs.Tryz
