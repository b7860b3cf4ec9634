/-
  Part of a proof: contracts of functions in abstract values.
-/
import Derived.WalkKit
import Derived.Orders
set_option linter.unusedVariables false
set_option linter.unusedSimpArgs false
namespace Go.Abs
open Go

inductive AV where
  | unk
  | int (k : IntKind) (n : Int)
  | bool (b : Bool)
  | str (s : List UInt8)
  | agg (l : List AV)
  | tup (l : List AV)
  | snil
  | sl (z : Nat) (es : List AV)
  | fn (g : FuncId) (caps : List AV)
  | nilfn
  | ptr (b o : Nat)
  | nilptr
  | ep (z : Nat) (es : List AV) (i : Int) (o : Nat)
  | map (b : Nat)
  | nilmap

abbrev Snap := Nat → Nat → Option Value

mutual
def Rep (M : Snap) (θ : List Nat) : AV → Value → Prop
  | .unk, _ => True
  | .int k n, v => v = .int k n
  | .bool b, v => v = .bool b
  | .str s, v => v = .string ⟨s.toArray⟩
  | .agg l, v => ∃ vs, v = .agg vs.toArray ∧ Reps M θ l vs
  | .tup l, v => ∃ vs, v = .tuple vs.toArray ∧ Reps M θ l vs
  | .snil, v => v = .slice none 0 0
  | .sl z es, v => ∃ a c, v = .slice a es.length c ∧ es.length ≤ c ∧ (es ≠ [] → ∃ b o, a = some ⟨b, o, none⟩ ∧ Row M es z b o)
  | .fn g caps, v => ∃ vs, v = .func (.func g) #[] vs.toArray ∧ Reps M θ caps vs
  | .nilfn, v => v = .nilFunc
  | .ptr b o, v => ∃ blk, θ[b]? = some blk ∧ v = .pointer (some ⟨blk, o, none⟩)
  | .nilptr, v => v = .pointer none
  | .ep z es i o, v => 0 ≤ i ∧ i < es.length ∧ ∃ b off, v = .pointer (some ⟨b, off + i.toNat * z + o, none⟩) ∧ Row M es z b off
  | .map b, v => ∃ blk, θ[b]? = some blk ∧ v = .map (some blk)
  | .nilmap, v => v = .map none
def Reps (M : Snap) (θ : List Nat) : List AV → List Value → Prop
  | [], vs => vs = []
  | a :: l, vs => ∃ v vs', vs = v :: vs' ∧ Rep M θ a v ∧ Reps M θ l vs'
def Row (M : Snap) : List AV → (z b off : Nat) → Prop
  | [], _, _, _ => True
  | e :: es, z, b, off => (match e with
      | .agg l => l.length = z ∧ Cells M l b off
      | e => z = 1 ∧ ∃ v, M b off = some v ∧ v.oneCell' = true ∧ Rep M [] e v) ∧ Row M es z b (off + z)
def Cells (M : Snap) : List AV → (b off : Nat) → Prop
  | [], _, _ => True
  | a :: l, b, off => (∃ v, M b off = some v ∧ v.oneCell' = true ∧ Rep M [] a v) ∧ Cells M l b (off + 1)
end

def Snap.le (M M' : Snap) : Prop := ∀ b o v, M b o = some v → M' b o = some v
theorem Snap.le_refl (M : Snap) : M.le M := fun _ _ _ h => h
theorem Snap.le_trans {M M' M'' : Snap} (h : M.le M') (h' : M'.le M'') : M.le M'' := fun b o v hv => h' b o v (h b o v hv)
def tle (θ θ' : List Nat) : Prop := ∀ (i x : Nat), θ[i]? = some x → θ'[i]? = some x
theorem tle_refl (θ : List Nat) : tle θ θ := fun _ _ h => h
theorem tle_trans {a b c : List Nat} (h : tle a b) (h' : tle b c) : tle a c := fun i x hx => h' i x (h i x hx)
theorem tle_append (θ l : List Nat) : tle θ (θ ++ l) := fun i x h => by
  rw [List.getElem?_append_left]; exact h
  exact (List.getElem?_eq_some_iff.1 h).1
theorem tle_nil (θ : List Nat) : tle [] θ := fun i x h => by simp at h

mutual
theorem Rep.mono {M M' : Snap} (hM : M.le M') : ∀ {θ θ' : List Nat}, tle θ θ' → ∀ (a : AV) (v : Value), Rep M θ a v → Rep M' θ' a v
  | _, _, hθ, .unk, v, h => by simp only [Rep]
  | _, _, hθ, .int k n, v, h => by simp only [Rep] at h ⊢; exact h
  | _, _, hθ, .bool b, v, h => by simp only [Rep] at h ⊢; exact h
  | _, _, hθ, .str s, v, h => by simp only [Rep] at h ⊢; exact h
  | _, _, hθ, .agg l, v, h => by simp only [Rep] at h ⊢; obtain ⟨vs, e, h⟩ := h; exact ⟨vs, e, Reps.mono hM hθ l vs h⟩
  | _, _, hθ, .tup l, v, h => by simp only [Rep] at h ⊢; obtain ⟨vs, e, h⟩ := h; exact ⟨vs, e, Reps.mono hM hθ l vs h⟩
  | _, _, hθ, .snil, v, h => by simp only [Rep] at h ⊢; exact h
  | _, _, hθ, .sl z es, v, h => by
    simp only [Rep] at h ⊢
    obtain ⟨a, c, e, hc, h⟩ := h
    exact ⟨a, c, e, hc, fun hne => by obtain ⟨b, o, e2, hr⟩ := h hne; exact ⟨b, o, e2, Row.mono hM es z b o hr⟩⟩
  | _, _, hθ, .fn g caps, v, h => by simp only [Rep] at h ⊢; obtain ⟨vs, e, h⟩ := h; exact ⟨vs, e, Reps.mono hM hθ caps vs h⟩
  | _, _, hθ, .nilfn, v, h => by simp only [Rep] at h ⊢; exact h
  | _, _, hθ, .ptr b o, v, h => by simp only [Rep] at h ⊢; obtain ⟨x, hx, e⟩ := h; exact ⟨x, hθ _ _ hx, e⟩
  | _, _, hθ, .nilptr, v, h => by simp only [Rep] at h ⊢; exact h
  | _, _, hθ, .ep z es i o, v, h => by
    simp only [Rep] at h ⊢
    obtain ⟨h0, h1, b, off, e, hr⟩ := h
    exact ⟨h0, h1, b, off, e, Row.mono hM es z b off hr⟩
  | _, _, hθ, .map b, v, h => by simp only [Rep] at h ⊢; obtain ⟨x, hx, e⟩ := h; exact ⟨x, hθ _ _ hx, e⟩
  | _, _, hθ, .nilmap, v, h => by simp only [Rep] at h ⊢; exact h
theorem Reps.mono {M M' : Snap} (hM : M.le M') : ∀ {θ θ' : List Nat}, tle θ θ' → ∀ (l : List AV) (vs : List Value), Reps M θ l vs → Reps M' θ' l vs
  | _, _, hθ, [], vs, h => by simp only [Reps] at h ⊢; exact h
  | _, _, hθ, a :: l, vs, h => by
    simp only [Reps] at h ⊢
    obtain ⟨v, vs', e, h1, h2⟩ := h
    exact ⟨v, vs', e, Rep.mono hM hθ a v h1, Reps.mono hM hθ l vs' h2⟩
theorem Row.mono {M M' : Snap} (hM : M.le M') : ∀ (es : List AV) (z b off : Nat), Row M es z b off → Row M' es z b off
  | [], z, b, off, h => by simp only [Row]
  | .agg l :: es, z, b, off, h => by simp only [Row] at h ⊢; exact ⟨⟨h.1.1, Cells.mono hM l b off h.1.2⟩, Row.mono hM es z b _ h.2⟩
  | .unk :: es, z, b, off, h => by simp only [Row] at h ⊢; obtain ⟨⟨hz, v, hv, h1, hr⟩, h2⟩ := h; exact ⟨⟨hz, v, hM _ _ _ hv, h1, Rep.mono hM (tle_refl []) _ v hr⟩, Row.mono hM es z b _ h2⟩
  | .int k n :: es, z, b, off, h => by simp only [Row] at h ⊢; obtain ⟨⟨hz, v, hv, h1, hr⟩, h2⟩ := h; exact ⟨⟨hz, v, hM _ _ _ hv, h1, Rep.mono hM (tle_refl []) _ v hr⟩, Row.mono hM es z b _ h2⟩
  | .bool k :: es, z, b, off, h => by simp only [Row] at h ⊢; obtain ⟨⟨hz, v, hv, h1, hr⟩, h2⟩ := h; exact ⟨⟨hz, v, hM _ _ _ hv, h1, Rep.mono hM (tle_refl []) _ v hr⟩, Row.mono hM es z b _ h2⟩
  | .str k :: es, z, b, off, h => by simp only [Row] at h ⊢; obtain ⟨⟨hz, v, hv, h1, hr⟩, h2⟩ := h; exact ⟨⟨hz, v, hM _ _ _ hv, h1, Rep.mono hM (tle_refl []) _ v hr⟩, Row.mono hM es z b _ h2⟩
  | .tup k :: es, z, b, off, h => by simp only [Row] at h ⊢; obtain ⟨⟨hz, v, hv, h1, hr⟩, h2⟩ := h; exact ⟨⟨hz, v, hM _ _ _ hv, h1, Rep.mono hM (tle_refl []) _ v hr⟩, Row.mono hM es z b _ h2⟩
  | .snil :: es, z, b, off, h => by simp only [Row] at h ⊢; obtain ⟨⟨hz, v, hv, h1, hr⟩, h2⟩ := h; exact ⟨⟨hz, v, hM _ _ _ hv, h1, Rep.mono hM (tle_refl []) _ v hr⟩, Row.mono hM es z b _ h2⟩
  | .sl k l :: es, z, b, off, h => by simp only [Row] at h ⊢; obtain ⟨⟨hz, v, hv, h1, hr⟩, h2⟩ := h; exact ⟨⟨hz, v, hM _ _ _ hv, h1, Rep.mono hM (tle_refl []) _ v hr⟩, Row.mono hM es z b _ h2⟩
  | .fn k l :: es, z, b, off, h => by simp only [Row] at h ⊢; obtain ⟨⟨hz, v, hv, h1, hr⟩, h2⟩ := h; exact ⟨⟨hz, v, hM _ _ _ hv, h1, Rep.mono hM (tle_refl []) _ v hr⟩, Row.mono hM es z b _ h2⟩
  | .nilfn :: es, z, b, off, h => by simp only [Row] at h ⊢; obtain ⟨⟨hz, v, hv, h1, hr⟩, h2⟩ := h; exact ⟨⟨hz, v, hM _ _ _ hv, h1, Rep.mono hM (tle_refl []) _ v hr⟩, Row.mono hM es z b _ h2⟩
  | .ptr k l :: es, z, b, off, h => by simp only [Row] at h ⊢; obtain ⟨⟨hz, v, hv, h1, hr⟩, h2⟩ := h; exact ⟨⟨hz, v, hM _ _ _ hv, h1, Rep.mono hM (tle_refl []) _ v hr⟩, Row.mono hM es z b _ h2⟩
  | .nilptr :: es, z, b, off, h => by simp only [Row] at h ⊢; obtain ⟨⟨hz, v, hv, h1, hr⟩, h2⟩ := h; exact ⟨⟨hz, v, hM _ _ _ hv, h1, Rep.mono hM (tle_refl []) _ v hr⟩, Row.mono hM es z b _ h2⟩
  | .ep _ _ _ _ :: es, z, b, off, h => by simp only [Row] at h ⊢; obtain ⟨⟨hz, v, hv, h1, hr⟩, h2⟩ := h; exact ⟨⟨hz, v, hM _ _ _ hv, h1, Rep.mono hM (tle_refl []) _ v hr⟩, Row.mono hM es z b _ h2⟩
  | .map k :: es, z, b, off, h => by simp only [Row] at h ⊢; obtain ⟨⟨hz, v, hv, h1, hr⟩, h2⟩ := h; exact ⟨⟨hz, v, hM _ _ _ hv, h1, Rep.mono hM (tle_refl []) _ v hr⟩, Row.mono hM es z b _ h2⟩
  | .nilmap :: es, z, b, off, h => by simp only [Row] at h ⊢; obtain ⟨⟨hz, v, hv, h1, hr⟩, h2⟩ := h; exact ⟨⟨hz, v, hM _ _ _ hv, h1, Rep.mono hM (tle_refl []) _ v hr⟩, Row.mono hM es z b _ h2⟩
theorem Cells.mono {M M' : Snap} (hM : M.le M') : ∀ (l : List AV) (b off : Nat), Cells M l b off → Cells M' l b off
  | [], b, off, h => by simp only [Cells]
  | a :: l, b, off, h => by
    simp only [Cells] at h ⊢
    obtain ⟨⟨v, hv, h1, hr⟩, h2⟩ := h
    exact ⟨⟨v, hM _ _ _ hv, h1, Rep.mono hM (tle_refl []) a v hr⟩, Cells.mono hM l b _ h2⟩
end

def cellsOf : AV → List AV
  | .agg l => l
  | e => [e]

theorem Row_cons (M : Snap) (e : AV) (es : List AV) (z b off : Nat) :
    Row M (e :: es) z b off ↔ (cellsOf e).length = z ∧ Cells M (cellsOf e) b off ∧ Row M es z b (off + z) := by
  cases e <;> simp only [Row, cellsOf, Cells, List.length_singleton] <;> constructor <;>
    (first
      | (rintro ⟨⟨h1, h2⟩, h3⟩; exact ⟨h1, h2, h3⟩)
      | (rintro ⟨h1, h2, h3⟩; exact ⟨⟨h1, h2⟩, h3⟩)
      | (rintro ⟨⟨h1, h2⟩, h3⟩; exact ⟨h1.symm, ⟨h2, trivial⟩, h3⟩)
      | (rintro ⟨h1, ⟨h2, _⟩, h3⟩; exact ⟨⟨h1.symm, h2⟩, h3⟩))

theorem Row_get {M : Snap} : ∀ {es : List AV} {z b off : Nat}, Row M es z b off → ∀ (i : Nat) (h : i < es.length),
    (cellsOf es[i]).length = z ∧ Cells M (cellsOf es[i]) b (off + i * z)
  | [], _, _, _, _, i, h => by simp at h
  | e :: es, z, b, off, hr, 0, h => by
    rw [Row_cons] at hr
    simpa using ⟨hr.1, hr.2.1⟩
  | e :: es, z, b, off, hr, i + 1, h => by
    rw [Row_cons] at hr
    have := Row_get hr.2.2 i (by simpa using h)
    simp only [List.getElem_cons_succ]
    refine ⟨this.1, ?_⟩
    rw [Nat.add_mul, Nat.one_mul, Nat.add_comm (i * z) z, ← Nat.add_assoc]
    exact this.2

theorem Cells_get {M : Snap} : ∀ {l : List AV} {b off : Nat}, Cells M l b off → ∀ (j : Nat) (h : j < l.length),
    ∃ v, M b (off + j) = some v ∧ v.oneCell' = true ∧ Rep M [] l[j] v
  | [], _, _, _, j, h => by simp at h
  | a :: l, b, off, hc, 0, h => by simp only [Cells] at hc; simpa using hc.1
  | a :: l, b, off, hc, j + 1, h => by
    simp only [Cells] at hc
    have := Cells_get hc.2 j (by simpa using h)
    simpa [Nat.add_assoc, Nat.add_comm 1 j] using this

theorem Cells_vals {M : Snap} {θ : List Nat} : ∀ {l : List AV} {b off : Nat}, Cells M l b off →
    ∃ vs, Reps M θ l vs ∧ vs.length = l.length ∧ (∀ (j : Nat) (v : Value), vs[j]? = some v → M b (off + j) = some v) ∧ ∀ v ∈ vs, v.oneCell' = true
  | [], b, off, _ => ⟨[], by simp only [Reps], rfl, fun j v h => by simp at h, fun v h => by simp at h⟩
  | a :: l, b, off, hc => by
    simp only [Cells] at hc
    obtain ⟨⟨v, hv, h1, hr⟩, h2⟩ := hc
    obtain ⟨vs, h3, h4, h5, h6⟩ := Cells_vals (θ := θ) h2
    refine ⟨v :: vs, ?_, by simp [h4], ?_, fun u hu => by
      rcases List.mem_cons.1 hu with rfl | hu
      · exact h1
      · exact h6 u hu⟩
    · simp only [Reps]; exact ⟨v, vs, rfl, Rep.mono (Snap.le_refl M) (tle_nil θ) a v hr, h3⟩
    · intro j u hj
      cases j with
      | zero => simp at hj; subst hj; simpa using hv
      | succ j => have := h5 j u (by simpa using hj); rw [Nat.add_assoc, Nat.add_comm 1 j] at this; exact this

theorem Reps_length {M : Snap} {θ : List Nat} : ∀ {l : List AV} {vs : List Value}, Reps M θ l vs → vs.length = l.length
  | [], vs, h => by simp only [Reps] at h; subst h; rfl
  | a :: l, vs, h => by
    simp only [Reps] at h
    obtain ⟨v, vs', rfl, _, h2⟩ := h
    simp [Reps_length h2]

theorem Reps_get {M : Snap} {θ : List Nat} : ∀ {l : List AV} {vs : List Value}, Reps M θ l vs → ∀ (j : Nat) (h : j < l.length),
    ∃ v, vs[j]? = some v ∧ Rep M θ l[j] v
  | [], _, _, j, h => by simp at h
  | a :: l, vs, hr, j, h => by
    simp only [Reps] at hr
    obtain ⟨v, vs', rfl, h1, h2⟩ := hr
    cases j with
    | zero => exact ⟨v, rfl, h1⟩
    | succ j => simpa using Reps_get h2 j (by simpa using h)

theorem Reps_append {M : Snap} {θ : List Nat} : ∀ {l l' : List AV} {vs vs' : List Value}, Reps M θ l vs → Reps M θ l' vs' → Reps M θ (l ++ l') (vs ++ vs')
  | [], l', vs, vs', h, h' => by simp only [Reps] at h; subst h; simpa using h'
  | a :: l, l', vs, vs', h, h' => by
    simp only [Reps] at h
    obtain ⟨v, ws, rfl, h1, h2⟩ := h
    simp only [List.cons_append, Reps]
    exact ⟨v, ws ++ vs', rfl, h1, Reps_append h2 h'⟩

theorem Reps_set {M : Snap} {θ : List Nat} {a : AV} {v : Value} (ha : Rep M θ a v) : ∀ {l : List AV} {vs : List Value} (j : Nat), Reps M θ l vs → Reps M θ (l.set j a) (vs.set j v)
  | [], vs, j, h => by simp only [Reps] at h; subst h; simp only [List.set_nil, Reps]
  | b :: l, vs, j, h => by
    simp only [Reps] at h
    obtain ⟨u, ws, rfl, h1, h2⟩ := h
    cases j with
    | zero => simp only [List.set_cons_zero, Reps]; exact ⟨v, ws, rfl, ha, h2⟩
    | succ j => simp only [List.set_cons_succ, Reps]; exact ⟨u, _, rfl, h1, Reps_set ha j h2⟩

theorem Reps_drop {M : Snap} {θ : List Nat} : ∀ {l : List AV} {vs : List Value} (n : Nat), Reps M θ l vs → Reps M θ (l.drop n) (vs.drop n)
  | l, vs, 0, h => by simpa using h
  | [], vs, n + 1, h => by simp only [Reps] at h; subst h; simp only [List.drop_nil, Reps]
  | b :: l, vs, n + 1, h => by
    simp only [Reps] at h
    obtain ⟨u, ws, rfl, h1, h2⟩ := h
    simpa using Reps_drop n h2

theorem Reps_take {M : Snap} {θ : List Nat} : ∀ {l : List AV} {vs : List Value} (n : Nat), Reps M θ l vs → Reps M θ (l.take n) (vs.take n)
  | l, vs, 0, h => by simp only [List.take_zero, Reps]
  | [], vs, n + 1, h => by simp only [Reps] at h; subst h; simp only [List.take_nil, Reps]
  | b :: l, vs, n + 1, h => by
    simp only [Reps] at h
    obtain ⟨u, ws, rfl, h1, h2⟩ := h
    simp only [List.take_succ_cons, Reps]
    exact ⟨u, _, rfl, h1, Reps_take n h2⟩

theorem Row_append {M : Snap} : ∀ {es es' : List AV} {z b off : Nat}, Row M es z b off → Row M es' z b (off + es.length * z) → Row M (es ++ es') z b off
  | [], es', z, b, off, _, h' => by simpa using h'
  | e :: es, es', z, b, off, h, h' => by
    rw [List.cons_append, Row_cons]
    rw [Row_cons] at h
    refine ⟨h.1, h.2.1, Row_append h.2.2 ?_⟩
    have : off + (e :: es).length * z = off + z + es.length * z := by simp only [List.length_cons, Nat.add_mul, Nat.one_mul]; omega
    rw [this] at h'; exact h'

theorem Row_drop {M : Snap} : ∀ {es : List AV} {z b off : Nat} (n : Nat), Row M es z b off → Row M (es.drop n) z b (off + n * z)
  | es, z, b, off, 0, h => by simpa using h
  | [], z, b, off, n + 1, h => by simp only [List.drop_nil, Row]
  | e :: es, z, b, off, n + 1, h => by
    rw [Row_cons] at h
    have := Row_drop n h.2.2
    rw [List.drop_succ_cons, Nat.add_mul, Nat.one_mul, Nat.add_comm (n * z) z, ← Nat.add_assoc]; exact this

theorem Row_take {M : Snap} : ∀ {es : List AV} {z b off : Nat} (n : Nat), Row M es z b off → Row M (es.take n) z b off
  | es, z, b, off, 0, h => by simp only [List.take_zero, Row]
  | [], z, b, off, n + 1, h => by simp only [List.take_nil, Row]
  | e :: es, z, b, off, n + 1, h => by
    rw [Row_cons] at h
    rw [List.take_succ_cons, Row_cons]
    exact ⟨h.1, h.2.1, Row_take n h.2.2⟩
end Go.Abs

namespace Go.Abs
open Go

/-! ### Types, as the abstract evaluation wants them -/
inductive TD where
  | int (k : IntKind) | bool | str
  | slice (e : Nat)
  | struct (fs : List (Nat × Nat))
  | array (n e : Nat)
  | ptr (e : Nat)
  | fn
  | map (k e : Nat)
  | other
structure TI where
  d : TD
  size : Nat
  bytes : Nat
  zero : AV
abbrev TE := Nat → Option TI

def DescOk (P : Program) (t : TypeId) : TD → Prop
  | .int k => P.underlying t = some (.int k)
  | .bool => P.underlying t = some .bool
  | .str => P.underlying t = some .string
  | .slice e => P.underlying t = some (.slice e)
  | .struct fs => ∃ fields : Array Field, P.underlying t = some (.struct fields) ∧ fields.toList.map (fun f => (f.type, f.offset)) = fs
  | .array n e => P.underlying t = some (.array n e)
  | .ptr e => P.underlying t = some (.pointer e)
  | .fn => ∃ a b c, P.underlying t = some (.func a b c)
  | .map k e => P.underlying t = some (.map k e)
  | .other => False

structure TOk (P : Program) (T : TE) : Prop where
  info : ∀ t ti, T t = some ti → ∃ i z, P.info? t = some i ∧ i.size = ti.size ∧ i.bytes = ti.bytes ∧ i.zero = some z ∧ z.cells.size = ti.size ∧ Rep (fun _ _ => none) [] ti.zero z
  desc : ∀ t ti, T t = some ti → DescOk P t ti.d

def isAggD : TD → Bool
  | .struct _ | .array _ _ => true
  | _ => false

/-! ### Abstract states -/
inductive Tag where
  | none
  | free
  | tok (t : Nat)
  | cell (b o st : Nat)
  | tup (l : List Tag)
  | und
structure SV where
  ok : Prop
  v : AV
  tg : Tag
inductive Box where
  | dead
  | cells (l : List AV) (ow : List (Nat × Nat))
structure WPt where
  nt : Nat
  live : List (Nat × Nat)
  H : List Box
  stamp : Nat
structure St where
  fr : List (Nat × SV)
  n : Nat
  W : WPt
  b : Nat := 0

def SV.no : SV := ⟨False, .unk, .none⟩
def SV.of (v : AV) : SV := ⟨True, v, .none⟩
/-- A slot that an operation would have filled that was not wanted. -/
def SV.un : SV := ⟨False, .bool false, .und⟩
def SV.noU (sv : SV) : SV := ⟨sv.ok, sv.v, match sv.tg with | .und => .none | t => t⟩
def lk : List (Nat × SV) → Nat → SV
  | [], _ => SV.no
  | (k, s) :: fr, n => if k = n then s else lk fr n

def ofConst : Value → AV
  | .int k n => .int k n
  | .bool b => .bool b
  | .string s => .str s.data.toList
  | .slice none 0 0 => .snil
  | .pointer none => .nilptr
  | .nilFunc => .nilfn
  | .map none => .nilmap
  | _ => .unk

def evO (S : St) : Operand → SV
  | .tmp t => lk S.fr t
  | .const v => SV.of (ofConst v)
  | .func f => SV.of (.fn f [])
  | .global _ => SV.no

theorem rep_ofConst (M : Snap) (θ : List Nat) (v : Value) : Rep M θ (ofConst v) v := by
  unfold ofConst
  split <;> simp only [Rep, Array.toArray_toList]

/-- An int that is one. -/
def I64 (r : Int) : Prop := -9223372036854775808 ≤ r ∧ r ≤ 9223372036854775807
theorem wrap_i64 {r : Int} (h : I64 r) : IntKind.i64.wrap r = r := by
  unfold I64 at h
  exact Go.IntWalk.i64_in r (by omega)

/-! ### Quiet operations: a condition and a value -/
def arQ (k : IntKind) (r : Int) : Option (Prop × AV) :=
  match k with
  | .i64 => some (I64 r, .int .i64 r)
  | k => some (True, .int k (k.wrap r))

def binQ (T : TE) (op : BinOp) (t : Nat) : AV → AV → Option (Prop × AV)
  | .int k a, .int k' b =>
    match op with
    | .eql => some (k = k', .bool (decide (a = b)))
    | .neq => some (k = k', .bool (decide (a ≠ b)))
    | .lss => some (k = k', .bool (decide (a < b)))
    | .leq => some (k = k', .bool (decide (a ≤ b)))
    | .gtr => some (k = k', .bool (decide (b < a)))
    | .geq => some (k = k', .bool (decide (b ≤ a)))
    | .add => (arQ k (a + b)).map fun (c, v) => (k = k' ∧ c, v)
    | .sub => (arQ k (a - b)).map fun (c, v) => (k = k' ∧ c, v)
    | .mul => (arQ k (a * b)).map fun (c, v) => (k = k' ∧ c, v)
    | .quo => (arQ k (a / b)).map fun (c, v) => (k = k' ∧ 0 ≤ a ∧ 0 < b ∧ c, v)
    | .rem => some (k = k' ∧ 0 ≤ a ∧ 0 < b, .int k (a % b))
    | .shl => some (0 ≤ b, .int k (k.wrap (a * 2 ^ (min b.toNat k.bits))))
    | .shr => some (0 ≤ b, .int k (a.fdiv (2 ^ (min b.toNat k.bits))))
    | .and => some (k = k', .int k (bits .and k a b))
    | .or => some (k = k', .int k (bits .or k a b))
    | .xor => some (k = k', .int k (bits .xor k a b))
    | .andNot => some (k = k', .int k (bits .andNot k a b))
  | .str x, .str y =>
    match op with
    | .add => some ((x.length + y.length : Nat) ≤ 9223372036854775807, .str (x ++ y))
    | .eql => some (True, .bool (x == y))
    | .neq => some (True, .bool (!(x == y)))
    | .lss => some (True, .bool (Op.bytesLess x y))
    | .gtr => some (True, .bool (!(Op.bytesLess x y || x == y)))
    | .leq => some (True, .bool (Op.bytesLess x y || x == y))
    | .geq => some (True, .bool (!Op.bytesLess x y))
    | _ => none
  | .bool x, .bool y =>
    match op, T t with
    | .eql, some ⟨.bool, _, _, _⟩ => some (True, .bool (decide (x = y)))
    | .neq, some ⟨.bool, _, _, _⟩ => some (True, .bool (decide (x ≠ y)))
    | _, _ => none
  | _, _ => none

def unQ (op : UnOp) : AV → Option (Prop × AV)
  | .bool b => match op with
    | .not => some (True, .bool (!b))
    | _ => none
  | .int k a => match op with
    | .neg => arQ k (-a)
    | _ => none
  | _ => none

theorem arQ_sound {k : IntKind} {r : Int} {c : Prop} {v : AV} (h : arQ k r = some (c, v)) (hc : c) : v = .int k (k.wrap r) := by
  unfold arQ at h
  cases k <;> simp only [Option.some.injEq, Prod.mk.injEq] at h <;> obtain ⟨rfl, rfl⟩ := h
  all_goals first | rfl | (rw [wrap_i64 hc])

theorem mk_append (x y : List UInt8) : (ByteArray.mk x.toArray) ++ (ByteArray.mk y.toArray) = ByteArray.mk (x ++ y).toArray := by
  apply ByteArray.ext
  simp

theorem run_equalIn_bool {P : Program} {t : TypeId} (d : Nat) (hd : P.underlying t = some .bool) (a b : Bool) (w : World) :
    (Op.equalIn (d + 1) t (.bool a) (.bool b)).run P w = .ok (a == b) w := by
  simp [Op.equalIn, run_underlying hd]

theorem binQ_sound {P : Program} {T : TE} (hT : TOk P T) {op : BinOp} {t : Nat} {x y v : AV} {c : Prop} (h : binQ T op t x y = some (c, v)) (hc : c)
    {M : Snap} {θ : List Nat} {vx vy : Value} (hx : Rep M θ x vx) (hy : Rep M θ y vy) (ox oy : Operand) (w : World) :
    ∃ u, (do eqGuard op t ox oy vx vy; binOp op t vx vy : Sem Value).run P w = .ok u w ∧ Rep M θ v u := by
  cases x <;> cases y <;> try (simp only [binQ] at h; contradiction)
  case int.int k a k' b =>
    simp only [Rep] at hx hy
    subst hx; subst hy
    cases op <;> simp only [binQ, Option.some.injEq, Prod.mk.injEq, Option.map_eq_some_iff, Prod.exists] at h
    case add | sub | mul =>
      obtain ⟨c', v', ha, rfl, rfl⟩ := h
      obtain ⟨rfl, hc⟩ := hc
      have := arQ_sound ha hc
      subst this
      exact ⟨_, by simp [eqGuard_at_int, binOp, Op.intArith]; rfl, by simp only [Rep]⟩
    case quo =>
      obtain ⟨c', v', ha, rfl, rfl⟩ := h
      obtain ⟨rfl, h0, h1, hc⟩ := hc
      have := arQ_sound ha hc
      subst this
      refine ⟨_, by simp [eqGuard_at_int, binOp, Op.intDiv, show ¬ b = 0 by omega]; rfl, ?_⟩
      simp only [Rep]
      rw [Int.tdiv_eq_ediv_of_nonneg h0]
    case rem =>
      obtain ⟨rfl, rfl⟩ := h
      obtain ⟨rfl, h0, h1⟩ := hc
      refine ⟨_, by simp [eqGuard_at_int, binOp, Op.intDiv, show ¬ b = 0 by omega]; rfl, ?_⟩
      simp only [Rep]
      rw [Int.tmod_eq_emod_of_nonneg h0]
    case shl | shr =>
      obtain ⟨rfl, rfl⟩ := h
      exact ⟨_, by simp [eqGuard_at_int, binOp, Op.shift, show ¬ b < 0 by omega]; rfl, by simp only [Rep]⟩
    all_goals
      obtain ⟨rfl, rfl⟩ := h
      subst hc
      refine ⟨_, by simp [eqGuard_at_int, binOp, Op.intCmp, intBits_and, intBits_or, intBits_xor, intBits_andNot]; rfl, ?_⟩
      simp only [Rep]
    all_goals (by_cases hab : a = b <;> simp [hab])
  case str.str x y =>
    simp only [Rep] at hx hy
    subst hx; subst hy
    cases op <;> simp only [binQ, Option.some.injEq, Prod.mk.injEq] at h <;> try contradiction
    case add =>
      obtain ⟨rfl, rfl⟩ := h
      refine ⟨_, by simp [eqGuard_at_string, binOp, Op.stringOp, ByteArray.size, show ¬ (9223372036854775807 < (x.length : Int) + y.length) by omega]; rfl, ?_⟩
      simp only [Rep, mk_append]
    all_goals
      obtain ⟨rfl, rfl⟩ := h
      refine ⟨_, by simp only [eqGuard_at_string, binOp, Op.stringOp, ByteArray.toList_mk, Sem.run_bind, Sem.run_pure, Result.andThen_ok]; rfl, ?_⟩
      simp only [Rep]
  case bool.bool x y =>
    simp only [Rep] at hx hy
    subst hx; subst hy
    cases op <;> simp only [binQ] at h <;> try contradiction
    all_goals
      split at h
      all_goals first | contradiction | skip
      rename_i hti
      simp only [Option.some.injEq, Prod.mk.injEq] at h
      obtain ⟨rfl, rfl⟩ := h
      have hd := hT.desc t _ hti
      simp only [DescOk] at hd
      refine ⟨_, by simp only [eqGuard_at_bool, binOp, Op.equal, Op.maxDepth, Sem.run_bind, Sem.run_pure, Result.andThen_ok, run_equalIn_bool 9999 hd]; rfl, ?_⟩
      simp only [Rep]
      cases x <;> cases y <;> rfl
end Go.Abs

namespace Go.Abs
open Go

mutual
/-- All numbers of boxes in a value are below n. -/
def belowV (n : Nat) : AV → Prop
  | .ptr b _ => b < n
  | .map b => b < n
  | .fn _ caps => belowL n caps
  | .agg l => belowL n l
  | .tup l => belowL n l
  | _ => True
def belowL (n : Nat) : List AV → Prop
  | [] => True
  | a :: l => belowV n a ∧ belowL n l
end

mutual
theorem belowV.mono {n m : Nat} (h : n ≤ m) : ∀ (x : AV), belowV n x → belowV m x
  | .ptr b _, hx => by simp only [belowV] at hx ⊢; omega
  | .map b, hx => by simp only [belowV] at hx ⊢; omega
  | .fn _ caps, hx => by simp only [belowV] at hx ⊢; exact belowL.mono h caps hx
  | .agg l, hx => by simp only [belowV] at hx ⊢; exact belowL.mono h l hx
  | .tup l, hx => by simp only [belowV] at hx ⊢; exact belowL.mono h l hx
  | .unk, _ | .int _ _, _ | .bool _, _ | .str _, _ | .snil, _ | .sl _ _, _ | .nilfn, _ | .nilptr, _ | .ep _ _ _ _, _ | .nilmap, _ => by simp only [belowV]
theorem belowL.mono {n m : Nat} (h : n ≤ m) : ∀ (l : List AV), belowL n l → belowL m l
  | [], _ => by simp only [belowL]
  | a :: l, hx => by simp only [belowL] at hx ⊢; exact ⟨belowV.mono h a hx.1, belowL.mono h l hx.2⟩
end

mutual
theorem Rep.below {M : Snap} {θ : List Nat} : ∀ (x : AV) (v : Value), Rep M θ x v → belowV θ.length x
  | .ptr b _, v, h => by simp only [Rep] at h; obtain ⟨blk, hb, _⟩ := h; simp only [belowV]; exact (List.getElem?_eq_some_iff.1 hb).1
  | .map b, v, h => by simp only [Rep] at h; obtain ⟨blk, hb, _⟩ := h; simp only [belowV]; exact (List.getElem?_eq_some_iff.1 hb).1
  | .fn _ caps, v, h => by simp only [Rep] at h; obtain ⟨vs, _, hr⟩ := h; simp only [belowV]; exact Reps.below caps vs hr
  | .agg l, v, h => by simp only [Rep] at h; obtain ⟨vs, _, hr⟩ := h; simp only [belowV]; exact Reps.below l vs hr
  | .tup l, v, h => by simp only [Rep] at h; obtain ⟨vs, _, hr⟩ := h; simp only [belowV]; exact Reps.below l vs hr
  | .unk, _, _ | .int _ _, _, _ | .bool _, _, _ | .str _, _, _ | .snil, _, _ | .sl _ _, _, _ | .nilfn, _, _ | .nilptr, _, _ | .ep _ _ _ _, _, _ | .nilmap, _, _ => by simp only [belowV]
theorem Reps.below {M : Snap} {θ : List Nat} : ∀ (l : List AV) (vs : List Value), Reps M θ l vs → belowL θ.length l
  | [], _, _ => by simp only [belowL]
  | a :: l, vs, h => by simp only [Reps] at h; obtain ⟨v, vs', _, h1, h2⟩ := h; simp only [belowL]; exact ⟨Rep.below a v h1, Reps.below l vs' h2⟩
end

mutual
theorem Rep.cut {M : Snap} {θ : List Nat} {n : Nat} : ∀ (x : AV) (v : Value), Rep M θ x v → belowV n x → Rep M (θ.take n) x v
  | .ptr b _, v, h, hb => by
    simp only [Rep, belowV] at h hb ⊢; obtain ⟨blk, h1, h2⟩ := h; exact ⟨blk, by rw [List.getElem?_take, if_pos hb]; exact h1, h2⟩
  | .map b, v, h, hb => by
    simp only [Rep, belowV] at h hb ⊢; obtain ⟨blk, h1, h2⟩ := h; exact ⟨blk, by rw [List.getElem?_take, if_pos hb]; exact h1, h2⟩
  | .fn _ caps, v, h, hb => by simp only [Rep, belowV] at h hb ⊢; obtain ⟨vs, e, hr⟩ := h; exact ⟨vs, e, Reps.cut caps vs hr hb⟩
  | .agg l, v, h, hb => by simp only [Rep, belowV] at h hb ⊢; obtain ⟨vs, e, hr⟩ := h; exact ⟨vs, e, Reps.cut l vs hr hb⟩
  | .tup l, v, h, hb => by simp only [Rep, belowV] at h hb ⊢; obtain ⟨vs, e, hr⟩ := h; exact ⟨vs, e, Reps.cut l vs hr hb⟩
  | .unk, _, h, _ | .int _ _, _, h, _ | .bool _, _, h, _ | .str _, _, h, _ | .snil, _, h, _ | .sl _ _, _, h, _ | .nilfn, _, h, _ | .nilptr, _, h, _ | .ep _ _ _ _, _, h, _ | .nilmap, _, h, _ => by
    simp only [Rep] at h ⊢; try exact h
theorem Reps.cut {M : Snap} {θ : List Nat} {n : Nat} : ∀ (l : List AV) (vs : List Value), Reps M θ l vs → belowL n l → Reps M (θ.take n) l vs
  | [], vs, h, _ => by simp only [Reps] at h ⊢; exact h
  | a :: l, vs, h, hb => by
    simp only [Reps, belowL] at h hb ⊢; obtain ⟨v, vs', e, h1, h2⟩ := h; exact ⟨v, vs', e, Rep.cut a v h1 hb.1, Reps.cut l vs' h2 hb.2⟩
end

/-! ### The relation between abstract and concrete states -/
def Ext (w : World) (M : Snap) : Prop := ∀ b o v, M b o = some v → w.cell? ⟨b, o, none⟩ = some v

inductive Owner where
  | tok (t : Nat)
  | cell (b o : Nat)

structure Kp (X : Nat → Prop) (w w' : World) : Prop where
  os : w'.os = w.os
  tape : w'.tape = w.tape
  output : w'.output = w.output
  size : w.heap.size ≤ w'.heap.size
  block : ∀ k, k < w.heap.size → ¬ X k → w'.heap[k]? = w.heap[k]?

structure Cx where
  w0 : World
  M0 : Snap
  θ0 : List Nat
  ω0 : Nat → Option Owner

def OwnV (P : Program) (M : Snap) (ω : Nat → Option Owner) (w : World) (ow : Owner) (e : Nat) (v : Value) : Prop :=
  (∃ a, v = .slice a 0 0) ∨ ∃ g n cap cur, v = .slice (some ⟨g, 0, none⟩) n cap ∧ ω g = some ow ∧ w.heap[g]? = some (.cells cur e (0, 0)) ∧
    n ≤ cap ∧ cap ≤ maxLen ∧ cur.size = cap * P.cellsOf e ∧ ∀ o, n * P.cellsOf e ≤ o → M g o = none

def BoxOk (P : Program) (M : Snap) (θ : List Nat) (ω : Nat → Option Owner) (w : World) (b blk : Nat) : Box → Prop
  | .dead => True
  | .cells l ow => ∃ vs ty, w.heap[blk]? = some (.cells vs.toArray ty (0, 0)) ∧ Reps M θ l vs ∧ (∀ o, M blk o = none) ∧
      ∀ o e, (o, e) ∈ ow → ∃ v, vs[o]? = some v ∧ OwnV P M ω w (.cell b o) e v

structure Core (P : Program) (Γ : Cx) (W : WPt) (M : Snap) (θ : List Nat) (ω : Nat → Option Owner) (τ : Nat → Value) (w : World) : Prop where
  mle : Γ.M0.le M
  tle : tle Γ.θ0 θ
  ext : Ext w M
  hlen : θ.length = W.H.length
  inj : ∀ i j x : Nat, θ[i]? = some x → θ[j]? = some x → i = j
  tnew : ∀ i x : Nat, θ[i]? = some x → Γ.θ0.length ≤ i → Γ.w0.heap.size ≤ x
  tlt : ∀ i x : Nat, θ[i]? = some x → x < w.heap.size
  box : ∀ b bx blk, W.H[b]? = some bx → θ[b]? = some blk → BoxOk P M θ ω w b blk bx
  bel : ∀ b l ow, W.H[b]? = some (.cells l ow) → belowL (b + 1) l
  live : ∀ t e, (t, e) ∈ W.live → t < W.nt ∧ OwnV P M ω w (.tok t) e (τ t)
  own : ∀ blk ow, ω blk = some ow → blk < w.heap.size ∧ ∀ i : Nat, θ[i]? ≠ some blk
  ow0 : ∀ blk, blk < Γ.w0.heap.size → Γ.ω0 blk = none → ω blk = none
  kp : Kp (fun k => k ∈ Γ.θ0 ∨ Γ.ω0 k ≠ none) Γ.w0 w
  mkeep : ∀ blk o, blk < Γ.w0.heap.size → Γ.ω0 blk = none → blk ∉ Γ.θ0 → M blk o = Γ.M0 blk o

def Tag1Ok (W : WPt) (θ : List Nat) (τ : Nat → Value) (w : World) (v : Value) : Tag → Prop
  | .tok t => t < W.nt ∧ ((∃ e, (t, e) ∈ W.live) → v = τ t)
  | .free => ∃ a, v = .slice a 0 0
  | .cell b o st => st ≤ W.stamp ∧ (st = W.stamp → ∃ blk, θ[b]? = some blk ∧ w.cell? ⟨blk, o, none⟩ = some v)
  | _ => True
def TagOk (W : WPt) (θ : List Nat) (τ : Nat → Value) (w : World) (v : Value) : Tag → Prop
  | .tup l => ∀ (j : Nat) tg vs u, l[j]? = some tg → v = .tuple vs → vs[j]? = some u → Tag1Ok W θ τ w u tg
  | tg => Tag1Ok W θ τ w v tg

def SlotOk (W : WPt) (M : Snap) (θ : List Nat) (τ : Nat → Value) (w : World) (sv : SV) (v : Value) : Prop :=
  Rep M θ sv.v v ∧ TagOk W θ τ w v sv.tg

structure Fr (S : St) (M : Snap) (θ : List Nat) (τ : Nat → Value) (w : World) (a : Act) : Prop where
  size : a.tmps.size = S.n
  defers : a.defers = []
  slot : ∀ k, (lk S.fr k).ok → SlotOk S.W M θ τ w (lk S.fr k) (a.tmps.getD k undef)
  und : ∀ k, (lk S.fr k).tg = .und → ¬ (lk S.fr k).ok → a.tmps.getD k undef = undef

structure RelM (P : Program) (Γ : Cx) (S : St) (M : Snap) (θ : List Nat) (ω : Nat → Option Owner) (τ : Nat → Value) (a : Act) (w : World) : Prop where
  core : Core P Γ S.W M θ ω τ w
  fr : Fr S M θ τ w a
  bas : Γ.θ0.length ≤ S.b
def Rel (P : Program) (Γ : Cx) (S : St) (a : Act) (w : World) : Prop := ∃ M θ ω τ, RelM P Γ S M θ ω τ a w

/-- A slot is written. -/
def St.put (S : St) (dst : Option Tmp) (sv : SV) : St :=
  match dst with
  | some d => { S with fr := (d, sv) :: S.fr }
  | none => S

theorem SV.noU_und (sv : SV) : sv.noU.tg ≠ .und := by
  obtain ⟨ok, v, tg⟩ := sv
  cases tg <;> simp [SV.noU]
theorem SlotOk.noU {W : WPt} {M : Snap} {θ : List Nat} {τ : Nat → Value} {w : World} {sv : SV} {v : Value} (h : SlotOk W M θ τ w sv v) : SlotOk W M θ τ w sv.noU v := by
  obtain ⟨ok, x, tg⟩ := sv
  cases tg <;> exact h

theorem tagOk_none (W : WPt) (θ : List Nat) (τ : Nat → Value) (w : World) (v : Value) : TagOk W θ τ w v .none := trivial

theorem RelM.put {P : Program} {Γ : Cx} {S : St} {M : Snap} {θ : List Nat} {ω : Nat → Option Owner} {τ : Nat → Value} {a : Act} {w : World}
    (h : RelM P Γ S M θ ω τ a w) (dst : Option Tmp) (sv : SV) (v : Value) (hd : ∀ d, dst = some d → d < S.n)
    (hv : sv.ok → SlotOk S.W M θ τ w sv v) (hu : sv.tg = .und → ¬ sv.ok → v = undef) : RelM P Γ (S.put dst sv) M θ ω τ (a.put dst v) w := by
  cases dst with
  | none => exact h
  | some d =>
    refine ⟨⟨h.core.mle, h.core.tle, h.core.ext, h.core.hlen, h.core.inj, h.core.tnew, h.core.tlt, h.core.box, h.core.bel, h.core.live, h.core.own, h.core.ow0, h.core.kp, h.core.mkeep⟩, ?_, h.bas⟩
    have hdn := hd d rfl
    have hsz := h.fr.size
    have h1 : (a.put (some d) v).tmps.getD d undef = v := by
      simp [Act.put, hsz, hdn]
    have h2 : ∀ k, d ≠ k → (a.put (some d) v).tmps.getD k undef = a.tmps.getD k undef := fun k hdk => by
      simp [Act.put, Array.getElem?_setIfInBounds_ne hdk]
    refine ⟨by simpa [St.put, Act.put] using h.fr.size, h.fr.defers, fun k hk => ?_, fun k ht hk => ?_⟩
    · simp only [St.put, lk] at hk ⊢
      by_cases hdk : d = k
      · subst hdk
        simp only [if_true] at hk ⊢
        rw [h1]
        exact hv hk
      · rw [if_neg hdk] at hk ⊢
        rw [h2 k hdk]
        exact h.fr.slot k hk
    · simp only [St.put, lk] at ht hk ⊢
      by_cases hdk : d = k
      · subst hdk
        simp only [if_true] at ht hk
        rw [h1]
        exact hu ht hk
      · rw [if_neg hdk] at ht hk
        rw [h2 k hdk]
        exact h.fr.und k ht hk

/-- What an operand stands for. -/
theorem RelM.eval {P : Program} {Γ : Cx} {S : St} {M : Snap} {θ : List Nat} {ω : Nat → Option Owner} {τ : Nat → Value} {a : Act} {w : World}
    (h : RelM P Γ S M θ ω τ a w) (x : Operand) (hx : (evO S x).ok) : SlotOk S.W M θ τ w (evO S x) (a.eval x) := by
  cases x with
  | tmp t => exact h.fr.slot t hx
  | const v => exact ⟨rep_ofConst M θ v, trivial⟩
  | func f => exact ⟨by simp only [evO, SV.of, Rep, Act.eval]; exact ⟨[], rfl, by simp only [Reps]⟩, trivial⟩
  | global g => exact hx.elim
theorem RelM.rep {P : Program} {Γ : Cx} {S : St} {M : Snap} {θ : List Nat} {ω : Nat → Option Owner} {τ : Nat → Value} {a : Act} {w : World}
    (h : RelM P Γ S M θ ω τ a w) (x : Operand) (hx : (evO S x).ok) : Rep M θ (evO S x).v (a.eval x) := (h.eval x hx).1
end Go.Abs

namespace Go.Abs
open Go

def isAggV : AV → Bool
  | .agg _ => true
  | _ => false

def cell1 : AV → Bool
  | .unk | .tup _ | .agg _ => false
  | _ => true
def shapeOk (d : TD) (x : AV) : Prop := if isAggD d then isAggV x = true else cell1 x = true

def fillAV : List (Nat × Nat × List AV) → List AV → List AV
  | [], l => l
  | (off, _, cs) :: ps, l => fillAV ps (l.take off ++ cs ++ l.drop (off + cs.length))
def fillOk : List (Nat × Nat × List AV) → Nat → Prop
  | [], _ => True
  | (off, sz, cs) :: ps, n => cs.length = sz ∧ off + sz ≤ n ∧ fillOk ps n

/-- The parts of a struct or a row literal: where each goes, its size, its cells. -/
def partsQ (T : TE) (S : St) (place : Nat → Option (Nat × Nat)) : List (Nat × Operand) → Option (Prop × List (Nat × Nat × List AV))
  | [] => some (True, [])
  | (i, x) :: ps =>
    match place i, partsQ T S place ps with
    | some (t, off), some (c, l) => match T t with
      | some ti => some ((evO S x).ok ∧ shapeOk ti.d (evO S x).v ∧ c, (off, ti.size, cellsOf (evO S x).v) :: l)
      | none => none
    | _, _ => none

def loadQ (S : St) (ti : TI) : AV → Option (Prop × SV)
  | .ptr b o => match S.W.H[b]? with
    | some (.cells l ow) =>
      if isAggD ti.d then some (o + ti.size ≤ l.length, SV.of (.agg ((l.drop o).take ti.size)))
      else some (o < l.length, ⟨True, l.getD o .unk, if ow.any (fun p => p.1 == o) then .cell b o S.W.stamp else .none⟩)
    | _ => none
  | .ep z es i o =>
    if isAggD ti.d then
      if o = 0 then some (z = ti.size ∧ isAggV (es.getD i.toNat .unk) = true, SV.of (es.getD i.toNat .unk))
      else some (o + ti.size ≤ z, SV.of (.agg (((cellsOf (es.getD i.toNat .unk)).drop o).take ti.size)))
    else some (o < z, SV.of ((cellsOf (es.getD i.toNat .unk)).getD o .unk))
  | _ => none

def sliceQ (T : TE) (t : Nat) (x : SV) (lo hi mx : Option SV) : Option (Prop × SV) :=
  let L : Option (Prop × Int) := match lo with
    | none => some (True, 0)
    | some ⟨ok, .int _ n, _⟩ => some (ok, n)
    | _ => none
  let Hh (len : Nat) : Option (Prop × Int) := match hi with
    | none => some (True, (len : Int))
    | some ⟨ok, .int _ n, _⟩ => some (ok, n)
    | _ => none
  match x.v, T t, mx with
  | .str s, some ⟨.str, _, _, _⟩, none => match L, Hh s.length with
    | some (c, l), some (c', h) => some (x.ok ∧ c ∧ c' ∧ 0 ≤ l ∧ l ≤ h ∧ h ≤ s.length, SV.of (.str ((s.take h.toNat).drop l.toNat)))
    | _, _ => none
  | .sl z es, some ⟨.slice e, _, _, _⟩, none => match L, Hh es.length, T e with
    | some (c, l), some (c', h), some te => some (x.ok ∧ c ∧ c' ∧ 0 ≤ l ∧ l ≤ h ∧ h ≤ es.length ∧ z = te.size, SV.of (.sl z ((es.take h.toNat).drop l.toNat)))
    | _, _, _ => none
  | _, _, _ => none

def capsOk (S : St) : List Operand → Prop
  | [] => True
  | x :: l => (evO S x).ok ∧ capsOk S l
theorem capsOk_mem {S : St} : ∀ {l : List Operand}, capsOk S l → ∀ x ∈ l, (evO S x).ok
  | [], _, x, h => by simp at h
  | y :: l, h, x, hx => by
    simp only [capsOk] at h
    rcases List.mem_cons.1 hx with rfl | hx
    · exact h.1
    · exact capsOk_mem h.2 x hx
theorem capsOk_congr {S S' : St} : ∀ {l : List Operand}, (∀ x ∈ l, evO S x = evO S' x) → capsOk S l = capsOk S' l
  | [], _ => rfl
  | y :: l, h => by simp only [capsOk, h y (by simp), capsOk_congr fun x hx => h x (List.mem_cons_of_mem _ hx)]

def pickB (p x y : Bool) : Bool := if p then x else y
theorem pickB_or (p y : Bool) : pickB p true y = (p || y) := by cases p <;> rfl
theorem pickB_and (p x : Bool) : pickB p x false = (p && x) := by cases p <;> cases x <;> rfl

def isU8 : AV → Bool
  | .int .u8 _ => true
  | _ => false
def byteOf : AV → UInt8
  | .int _ n => UInt8.ofNat n.toNat
  | _ => 0

def quiet (T : TE) (S : St) (o : Oper) : Option (Prop × SV) :=
  match o.op with
  | .move x | .assign x => some (True, evO S x)
  | .pick c a b => match (evO S c).v, (evO S a).v, (evO S b).v with
    | .bool p, .bool x, .bool y => some ((evO S c).ok ∧ (p = true → (evO S a).ok) ∧ (p = false → (evO S b).ok), SV.of (.bool (pickB p x y)))
    | _, _, _ => none
  | .binOp op t x y _ => (binQ T op t (evO S x).v (evO S y).v).map fun (c, v) => ((evO S x).ok ∧ (evO S y).ok ∧ c, SV.of v)
  | .unOp op _ x => (unQ op (evO S x).v).map fun (c, v) => ((evO S x).ok ∧ c, SV.of v)
  | .convert src dst x => match T src, T dst, (evO S x).v with
    | some ⟨.int _, _, _, _⟩, some ⟨.int k, _, _, _⟩, .int _ n => (arQ k n).map fun (c, v) => ((evO S x).ok ∧ c, SV.of v)
    | some ⟨.str, _, _, _⟩, some ⟨.str, _, _, _⟩, .str s => some ((evO S x).ok, SV.of (.str s))
    | some ⟨.slice e, _, _, _⟩, some ⟨.str, _, _, _⟩, .sl z es => match T e with
      | some ⟨.int .u8, _, _, _⟩ => some ((evO S x).ok ∧ z = 1 ∧ es.all isU8 = true, SV.of (.str (es.map byteOf)))
      | _ => none
    | _, _, _ => none
  | .extract t j => match (evO S t).v with
    | .tup l => some ((evO S t).ok ∧ j < l.length, ⟨True, l.getD j .unk, match (evO S t).tg with | .tup tgs => (match tgs.getD j .none with | .tup _ => .none | tg => tg) | _ => .none⟩)
    | _ => none
  | .nilCheck x => match (evO S x).v with
    | .ptr _ _ | .ep _ _ _ _ | .fn _ _ => some ((evO S x).ok, SV.of (evO S x).v)
    | _ => none
  | .fieldAddr s x f => match T s with
    | some ⟨.struct fs, _, _, _⟩ => match fs[f]? with
      | some (ft, off) => match T ft, (evO S x).v with
        | some ti, .ptr b o => some ((evO S x).ok ∧ ti.size ≠ 0, SV.of (.ptr b (o + off)))
        | some ti, .ep z es i o => some ((evO S x).ok ∧ ti.size ≠ 0, SV.of (.ep z es i (o + off)))
        | _, _ => none
      | none => none
    | _ => none
  | .field s x f => match T s with
    | some ⟨.struct fs, _, _, _⟩ => match fs[f]? with
      | some (ft, off) => match T ft, (evO S x).v with
        | some ti, .agg l =>
          if isAggD ti.d then some ((evO S x).ok ∧ off + ti.size ≤ l.length, SV.of (.agg ((l.drop off).take ti.size)))
          else some ((evO S x).ok ∧ off < l.length, SV.of (l.getD off .unk))
        | _, _ => none
      | none => none
    | _ => none
  | .indexAddr t x i => match T t, (evO S x).v, (evO S i).v with
    | some ⟨.slice e, _, _, _⟩, .sl z es, .int _ n => match T e with
      | some te => some ((evO S x).ok ∧ (evO S i).ok ∧ 0 ≤ n ∧ n < es.length ∧ z = te.size, SV.of (.ep z es n 0))
      | none => none
    | some ⟨.array m e, _, _, _⟩, .ptr b o, .int _ n => match T e with
      | some te => some ((evO S x).ok ∧ (evO S i).ok ∧ 0 ≤ n ∧ n < m, SV.of (.ptr b (o + n.toNat * te.size)))
      | none => none
    | _, _, _ => none
  | .index t x i => match T t, (evO S x).v, (evO S i).v with
    | some ⟨.str, _, _, _⟩, .str s, .int _ n => some ((evO S x).ok ∧ (evO S i).ok ∧ 0 ≤ n ∧ n < s.length, SV.of (.int .u8 ((s.getD n.toNat 0).toNat : Int)))
    | some ⟨.array m e, _, _, _⟩, .agg l, .int _ n => match T e with
      | some te => if isAggD te.d then none else some ((evO S x).ok ∧ (evO S i).ok ∧ te.size = 1 ∧ 0 ≤ n ∧ n < m ∧ m ≤ l.length, SV.of (l.getD n.toNat .unk))
      | none => none
    | _, _, _ => none
  | .load t a => match T t with
    | some ti => (loadQ S ti (evO S a).v).map fun (c, sv) => ((evO S a).ok ∧ c, sv)
    | none => none
  | .build t parts => match T t with
    | some ⟨.struct fs, size, _, .agg zl⟩ => match partsQ T S (fun i => fs[i]?) parts.toList with
      | some (c, l) => some (c ∧ fillOk l size ∧ fs.all (fun p => (T p.1).isSome) = true, SV.of (.agg (fillAV l zl)))
      | none => none
    | some ⟨.array _ e, size, _, .agg zl⟩ => match T e with
      | some te => match partsQ T S (fun i => some (e, i * te.size)) parts.toList with
        | some (c, l) => some (c ∧ fillOk l size, SV.of (.agg (fillAV l zl)))
        | none => none
      | none => none
    | _ => none
  | .makeFunc (.func g) first caps => if first.size = 0 then some (capsOk S caps.toList, SV.of (.fn g (caps.toList.map fun x => (evO S x).v))) else none
  | .slice t x lo hi mx => sliceQ T t (evO S x) (lo.map (evO S)) (hi.map (evO S)) (mx.map (evO S))
  | .call { callee := .builtin .len, args, argTypes } => match args.toList, argTypes.toList with
    | [x], [t] => match T t, (evO S x).v with
      | some ⟨.str, _, _, _⟩, .str s => some ((evO S x).ok, SV.of (.int .i64 (s.length : Int)))
      | some ⟨.slice _, _, _, _⟩, .sl _ es => some ((evO S x).ok, SV.of (.int .i64 (es.length : Int)))
      | some ⟨.slice _, _, _, _⟩, .snil => some ((evO S x).ok, SV.of (.int .i64 0))
      | some ⟨.array n _, _, _, _⟩, _ => some (True, SV.of (.int .i64 (n : Int)))
      | _, _ => none
    | _, _ => none
  | .call { callee := .builtin .max, args, .. } => match args.toList with
    | [x, y] => match (evO S x).v, (evO S y).v with
      | .int k a, .int k' b => some ((evO S x).ok ∧ (evO S y).ok ∧ k = k', SV.of (.int k (if a < b then b else a)))
      | _, _ => none
    | [x, y, z] => match (evO S x).v, (evO S y).v, (evO S z).v with
      | .int k a, .int k' b, .int k'' c => some ((evO S x).ok ∧ (evO S y).ok ∧ (evO S z).ok ∧ k = k' ∧ k = k'', SV.of (.int k (if (if a < b then b else a) < c then c else (if a < b then b else a))))
      | _, _, _ => none
    | _ => none
  | .call { callee := .builtin .min, args, .. } => match args.toList with
    | [x, y] => match (evO S x).v, (evO S y).v with
      | .int k a, .int k' b => some ((evO S x).ok ∧ (evO S y).ok ∧ k = k', SV.of (.int k (if b < a then b else a)))
      | _, _ => none
    | _ => none
  | _ => none
end Go.Abs

namespace Go.Abs
open Go

section
variable {P : Program} {T : TE} (hT : TOk P T)
include hT

theorem run_isAgg {t : TypeId} {ti : TI} (ht : T t = some ti) (w : World) : (isAgg t).run P w = .ok (isAggD ti.d) w := by
  have hd := hT.desc t ti ht
  obtain ⟨d, sz, by_, z⟩ := ti
  cases d <;> simp only [DescOk] at hd
  case struct fs => obtain ⟨fields, hf, _⟩ := hd; simp [isAgg, run_underlying hf, isAggD]
  case fn => obtain ⟨x, y, z, hf⟩ := hd; simp [isAgg, run_underlying hf, isAggD]
  all_goals simp [isAgg, run_underlying hd, isAggD]

theorem run_sizeOf {t : TypeId} {ti : TI} (ht : T t = some ti) (w : World) : (sizeOf t).run P w = .ok ti.size w := by
  obtain ⟨i, z, hi, hs, _⟩ := hT.info t ti ht
  simp [sizeOf, typeInfo, hi, hs]

theorem cellsOf_size {t : TypeId} {ti : TI} (ht : T t = some ti) : P.cellsOf t = ti.size := by
  obtain ⟨i, z, hi, hs, _⟩ := hT.info t ti ht
  simp [Program.cellsOf, hi, hs]

theorem run_loadVar_cell {t : TypeId} {ti : TI} (ht : T t = some ti) (hs : isAggD ti.d = false) {w : World} {ad : Addr} {v : Value} (h : w.cell? ad = some v) :
    (loadVar t ad).run P w = .ok v w := by
  simp [loadVar, run_isAgg hT ht, hs, h]

theorem run_loadVar_agg {t : TypeId} {ti : TI} (ht : T t = some ti) (hs : isAggD ti.d = true) {w : World} {b o : Nat} {vs : List Value} (hl : vs.length = ti.size)
    (h : ∀ (j : Nat) v, vs[j]? = some v → w.cell? ⟨b, o + j, none⟩ = some v) :
    (loadVar t ⟨b, o, none⟩).run P w = .ok (.agg vs.toArray) w := by
  have hc := run_loadCells_list (P := P) w ⟨b, o, none⟩ vs (fun j v hv => by
    cases j with
    | zero => simpa [Addr.add] using h 0 v hv
    | succ j => simpa [Addr.add] using h (j + 1) v hv)
  rw [hl] at hc
  simp [loadVar, run_isAgg hT ht, hs, run_sizeOf hT ht, hc]
end

theorem cell_of_vals {w : World} {blk : Nat} {vs : List Value} {ty : TypeId} (hb : w.heap[blk]? = some (.cells vs.toArray ty (0, 0))) (o : Nat) :
    w.cell? ⟨blk, o, none⟩ = vs[o]? := by
  simp [World.cell?, hb]

theorem rep_agg_cells {M : Snap} {θ : List Nat} {l : List AV} {vs : List Value} (h : Reps M θ l vs) : Rep M θ (.agg l) (.agg vs.toArray) := by
  simp only [Rep]; exact ⟨vs, rfl, h⟩

/-- An element of a row: its cells as values, and where they lie. -/
theorem elem_vals {M : Snap} {θ : List Nat} {w : World} (hx : Ext w M) {es : List AV} {z b off : Nat} (hr : Row M es z b off) {i : Nat} (hi : i < es.length) :
    ∃ vs, Reps M θ (cellsOf es[i]) vs ∧ vs.length = z ∧ ∀ (j : Nat) v, vs[j]? = some v → w.cell? ⟨b, off + i * z + j, none⟩ = some v := by
  obtain ⟨h1, h2⟩ := Row_get hr i hi
  obtain ⟨vs, h3, h4, h5, _⟩ := Cells_vals (θ := θ) h2
  exact ⟨vs, h3, by rw [h4, h1], fun j v hv => hx _ _ _ (h5 j v hv)⟩

theorem agg_of_isAgg {e : AV} (h : isAggV e = true) : e = .agg (cellsOf e) := by
  cases e <;> simp [isAggV, cellsOf] at h ⊢

section
variable {P : Program} {T : TE} {Γ : Cx} {S : St} {M : Snap} {θ : List Nat} {ω : Nat → Option Owner} {τ : Nat → Value} {a : Act} {w : World}

theorem q_load (hT : TOk P T) (h : RelM P Γ S M θ ω τ a w) {t : TypeId} {ti : TI} (ht : T t = some ti) {x : AV} {vx : Value} (hx : Rep M θ x vx) {c : Prop} {sv : SV}
    (hq : loadQ S ti x = some (c, sv)) (hc : c) : ∃ v, (Instr.loadAt t vx).run P w = .ok v w ∧ SlotOk S.W M θ τ w sv v := by
  cases x <;> try (simp only [loadQ] at hq; contradiction)
  case ptr b o =>
    simp only [Rep] at hx
    obtain ⟨blk, hb, rfl⟩ := hx
    simp only [loadQ] at hq
    split at hq
    · rename_i l ow hH
      obtain ⟨vs, ty, hblk, hrs, _, _⟩ := h.core.box b _ blk hH hb
      have hlen := Reps_length hrs
      split at hq <;> rename_i hagg <;> simp only [Option.some.injEq, Prod.mk.injEq] at hq <;> obtain ⟨rfl, rfl⟩ := hq
      · have hl : ((vs.drop o).take ti.size).length = ti.size := by simp only [List.length_take, List.length_drop, hlen]; omega
        have := run_loadVar_agg hT ht hagg (w := w) (b := blk) (o := o) (vs := (vs.drop o).take ti.size) hl (fun j v hv => by
          rw [cell_of_vals hblk]
          rw [List.getElem?_take] at hv
          split at hv
          · simpa [List.getElem?_drop] using hv
          · cases hv)
        exact ⟨_, by simp [Instr.loadAt, Instr.sureAddr, this], rep_agg_cells (Reps_take _ (Reps_drop _ hrs)), trivial⟩
      · obtain ⟨v, hv, hr⟩ := Reps_get hrs o hc
        have hcell : w.cell? ⟨blk, o, none⟩ = some v := by rw [cell_of_vals hblk]; exact hv
        refine ⟨v, by simp [Instr.loadAt, Instr.sureAddr, run_loadVar_cell hT ht (by simpa using hagg) hcell], ?_, ?_⟩
        · simpa [List.getD, List.getElem?_eq_getElem hc] using hr
        · dsimp only
          split
          · exact ⟨Nat.le_refl _, fun _ => ⟨blk, hb, hcell⟩⟩
          · trivial
    · contradiction
  case ep z es i o =>
    simp only [Rep] at hx
    obtain ⟨h0, h1, b, off, rfl, hrow⟩ := hx
    have hi : i.toNat < es.length := by omega
    obtain ⟨vs, hrs, hlen, hcells⟩ := elem_vals (θ := θ) h.core.ext hrow hi
    have hget : es.getD i.toNat .unk = es[i.toNat] := by simp [List.getD, List.getElem?_eq_getElem hi]
    have hl := Reps_length hrs
    simp only [loadQ] at hq
    split at hq <;> rename_i hagg
    · split at hq <;> rename_i ho <;> simp only [Option.some.injEq, Prod.mk.injEq] at hq <;> obtain ⟨rfl, rfl⟩ := hq
      · subst ho
        obtain ⟨hz, hag⟩ := hc
        rw [hget] at hag ⊢
        have := run_loadVar_agg hT ht hagg (w := w) (b := b) (o := off + i.toNat * z + 0) (vs := vs) (by rw [hlen, hz]) (fun j v hv => by simpa using hcells j v hv)
        refine ⟨_, by simp only [Instr.loadAt, Instr.sureAddr, Sem.run_bind, Sem.run_pure, Result.andThen_ok, this]; rfl, ?_, trivial⟩
        rw [agg_of_isAgg hag]
        exact rep_agg_cells hrs
      · rw [hget]
        have hl2 : ((vs.drop o).take ti.size).length = ti.size := by simp only [List.length_take, List.length_drop, hlen]; omega
        have := run_loadVar_agg hT ht hagg (w := w) (b := b) (o := off + i.toNat * z + o) (vs := (vs.drop o).take ti.size) hl2 (fun j v hv => by
          rw [List.getElem?_take] at hv
          split at hv
          · have := hcells (o + j) v (by simpa [List.getElem?_drop] using hv)
            simpa [Nat.add_assoc] using this
          · cases hv)
        exact ⟨_, by simp only [Instr.loadAt, Instr.sureAddr, Sem.run_bind, Sem.run_pure, Result.andThen_ok, this], rep_agg_cells (Reps_take _ (Reps_drop _ hrs)), trivial⟩
    · simp only [Option.some.injEq, Prod.mk.injEq] at hq
      obtain ⟨rfl, rfl⟩ := hq
      rw [hget]
      have ho : o < (cellsOf es[i.toNat]).length := by rw [← hl, hlen]; exact hc
      obtain ⟨v, hv, hr⟩ := Reps_get hrs o ho
      have hcell := hcells o v hv
      refine ⟨v, by simp [Instr.loadAt, Instr.sureAddr, run_loadVar_cell hT ht (by simpa using hagg) hcell], ?_, trivial⟩
      simpa [List.getD, List.getElem?_eq_getElem ho, SV.of] using hr

theorem field_get {fields : Array Field} {fs : List (Nat × Nat)} (hf : fields.toList.map (fun f => (f.type, f.offset)) = fs) {f ft off : Nat} (h : fs[f]? = some (ft, off)) :
    ∃ fd, fields[f]? = some fd ∧ fd.type = ft ∧ fd.offset = off := by
  subst hf
  rw [List.getElem?_map] at h
  cases hg : fields.toList[f]? with
  | none => rw [hg] at h; cases h
  | some fd =>
    rw [hg] at h
    simp only [Option.map_some, Option.some.injEq, Prod.mk.injEq] at h
    exact ⟨fd, by simpa using hg, h.1, h.2⟩

theorem run_fieldPlace (hT : TOk P T) {fd : Field} {ti : TI} (ht : T fd.type = some ti) (hs : ti.size ≠ 0) (ad : Addr) (w : World) :
    (fieldPlace ad fd).run P w = .ok (ad.add fd.offset) w := by
  simp [fieldPlace, run_sizeOf hT ht, hs]

theorem add_mk (b o n : Nat) : Addr.add ⟨b, o, none⟩ n = ⟨b, o + n, none⟩ := by
  unfold Addr.add
  split
  · rename_i h; subst h; rfl
  · rfl

theorem q_fieldAddr (hT : TOk P T) {s : TypeId} {fs : List (Nat × Nat)} {sz by_ : Nat} {zz : AV} (hs : T s = some ⟨.struct fs, sz, by_, zz⟩) {f ft off : Nat} (hf : fs[f]? = some (ft, off))
    {ti : TI} (ht : T ft = some ti) (hsz : ti.size ≠ 0) {x : AV} {vx : Value} (hx : Rep M θ x vx) {y : AV}
    (hxy : (∃ b o, x = .ptr b o ∧ y = .ptr b (o + off)) ∨ (∃ z es i o, x = .ep z es i o ∧ y = .ep z es i (o + off))) :
    ∃ v, (Instr.fieldAt s vx f).run P w = .ok v w ∧ Rep M θ y v := by
  obtain ⟨fields, hu, hfs⟩ := hT.desc s _ hs
  obtain ⟨fd, hfd, rfl, rfl⟩ := field_get hfs hf
  rcases hxy with ⟨b, o, rfl, rfl⟩ | ⟨z, es, i, o, rfl, rfl⟩
  · simp only [Rep] at hx
    obtain ⟨blk, hb, rfl⟩ := hx
    refine ⟨_, by simp [Instr.fieldAt, run_underlying hu, hfd, Instr.sureAddr, run_fieldPlace hT ht hsz, add_mk]; rfl, ?_⟩
    simp only [Rep]; exact ⟨blk, hb, rfl⟩
  · simp only [Rep] at hx
    obtain ⟨h0, h1, b, of, rfl, hr⟩ := hx
    refine ⟨_, by simp [Instr.fieldAt, run_underlying hu, hfd, Instr.sureAddr, run_fieldPlace hT ht hsz, add_mk]; rfl, ?_⟩
    simp only [Rep]; exact ⟨h0, h1, b, of, by simp [Nat.add_assoc], hr⟩

theorem q_field (hT : TOk P T) {s : TypeId} {fs : List (Nat × Nat)} {sz by_ : Nat} {zz : AV} (hs : T s = some ⟨.struct fs, sz, by_, zz⟩) {f ft off : Nat} (hf : fs[f]? = some (ft, off))
    {ti : TI} (ht : T ft = some ti) {l : List AV} {vx : Value} (hx : Rep M θ (.agg l) vx) {y : AV}
    (hy : (isAggD ti.d = true ∧ off + ti.size ≤ l.length ∧ y = .agg ((l.drop off).take ti.size)) ∨ (isAggD ti.d = false ∧ off < l.length ∧ y = l.getD off .unk)) :
    ∃ v, (Instr.field s vx f).run P w = .ok v w ∧ Rep M θ y v := by
  obtain ⟨fields, hu, hfs⟩ := hT.desc s _ hs
  obtain ⟨fd, hfd, rfl, rfl⟩ := field_get hfs hf
  simp only [Rep] at hx
  obtain ⟨vs, rfl, hrs⟩ := hx
  have hlen := Reps_length hrs
  rcases hy with ⟨ha, hle, rfl⟩ | ⟨ha, hlt, rfl⟩
  · refine ⟨.agg (((vs.drop fd.offset).take ti.size).toArray), ?_, rep_agg_cells (Reps_take _ (Reps_drop _ hrs))⟩
    simp [Instr.field, run_underlying hu, hfd, asAgg, part, run_isAgg hT ht, ha, run_sizeOf hT ht]
  · obtain ⟨v, hv, hr⟩ := Reps_get hrs _ hlt
    refine ⟨v, ?_, by simpa [List.getD, List.getElem?_eq_getElem hlt] using hr⟩
    simp [Instr.field, run_underlying hu, hfd, asAgg, part, run_isAgg hT ht, ha, hv]

theorem q_indexSlice (hT : TOk P T) {t e : TypeId} {sz by_ : Nat} {zz : AV} (ht : T t = some ⟨.slice e, sz, by_, zz⟩) {te : TI} (he : T e = some te) {es : List AV} {n : Int} {k : IntKind}
    {vx vi : Value} (hx : Rep M θ (.sl te.size es) vx) (hi : Rep M θ (.int k n) vi) (h0 : 0 ≤ n) (h1 : n < es.length) :
    ∃ v, (Instr.indexAt t vx vi).run P w = .ok v w ∧ Rep M θ (.ep te.size es n 0) v := by
  have hu : P.underlying t = some (.slice e) := hT.desc t _ ht
  simp only [Rep] at hx hi
  subst hi
  obtain ⟨ad, c, rfl, hc, hrow⟩ := hx
  obtain ⟨b, o, rfl, hrw⟩ := hrow (by intro h; subst h; simp at h1; omega)
  refine ⟨_, by simp [Instr.indexAt, asIntOf, run_underlying hu, h0, h1, run_sizeOf hT he, add_mk]; rfl, ?_⟩
  simp only [Rep]
  exact ⟨h0, h1, b, o, by simp, hrw⟩

theorem q_indexArr (hT : TOk P T) {t e m : Nat} {sz by_ : Nat} {zz : AV} (ht : T t = some ⟨.array m e, sz, by_, zz⟩) {te : TI} (he : T e = some te) {b o : Nat} {n : Int} {k : IntKind}
    {vx vi : Value} (hx : Rep M θ (.ptr b o) vx) (hi : Rep M θ (.int k n) vi) (h0 : 0 ≤ n) (h1 : n < m) :
    ∃ v, (Instr.indexAt t vx vi).run P w = .ok v w ∧ Rep M θ (.ptr b (o + n.toNat * te.size)) v := by
  have hu : P.underlying t = some (.array m e) := hT.desc t _ ht
  simp only [Rep] at hx hi
  subst hi
  obtain ⟨blk, hb, rfl⟩ := hx
  refine ⟨_, by simp [Instr.indexAt, asIntOf, run_underlying hu, Instr.sureAddr, h0, h1, run_sizeOf hT he, add_mk]; rfl, ?_⟩
  simp only [Rep]
  exact ⟨blk, hb, rfl⟩

theorem q_indexStr (hT : TOk P T) {t : TypeId} {sz by_ : Nat} {zz : AV} (ht : T t = some ⟨.str, sz, by_, zz⟩) {s : List UInt8} {n : Int} {k : IntKind}
    {vx vi : Value} (hx : Rep M θ (.str s) vx) (hi : Rep M θ (.int k n) vi) (h0 : 0 ≤ n) (h1 : n < s.length) :
    ∃ v, (Instr.index t vx vi).run P w = .ok v w ∧ Rep M θ (.int .u8 ((s.getD n.toNat 0).toNat : Int)) v := by
  have hu : P.underlying t = some .string := hT.desc t _ ht
  simp only [Rep] at hx hi
  subst hi; subst hx
  have hn : n.toNat < s.length := by omega
  have hb : (ByteArray.mk s.toArray)[n.toNat]? = some s[n.toNat] := by
    rw [getElem?_pos (ByteArray.mk s.toArray) n.toNat (by simpa [ByteArray.size] using hn)]
    rfl
  refine ⟨_, by simp [Instr.index, asIntOf, run_underlying hu, h0, hb]; rfl, ?_⟩
  simp [Rep, List.getD, List.getElem?_eq_getElem hn]

theorem q_indexAgg (hT : TOk P T) {t e m : Nat} {sz by_ : Nat} {zz : AV} (ht : T t = some ⟨.array m e, sz, by_, zz⟩) {te : TI} (he : T e = some te) (ha : isAggD te.d = false) (hs : te.size = 1)
    {l : List AV} {n : Int} {k : IntKind} {vx vi : Value} (hx : Rep M θ (.agg l) vx) (hi : Rep M θ (.int k n) vi) (h0 : 0 ≤ n) (h1 : n < m) (hm : m ≤ l.length) :
    ∃ v, (Instr.index t vx vi).run P w = .ok v w ∧ Rep M θ (l.getD n.toNat .unk) v := by
  have hu : P.underlying t = some (.array m e) := hT.desc t _ ht
  simp only [Rep] at hx hi
  subst hi
  obtain ⟨vs, rfl, hrs⟩ := hx
  have hn : n.toNat < l.length := by omega
  obtain ⟨v, hv, hr⟩ := Reps_get hrs _ hn
  refine ⟨v, by simp [Instr.index, asIntOf, run_underlying hu, h0, h1, run_sizeOf hT he, hs, part, run_isAgg hT he, ha, hv], ?_⟩
  simpa [List.getD, List.getElem?_eq_getElem hn] using hr
end
end Go.Abs

namespace Go.Abs
open Go
section
variable {P : Program} {T : TE} {Γ : Cx} {S : St} {M : Snap} {θ : List Nat} {ω : Nat → Option Owner} {τ : Nat → Value} {a : Act} {w : World}

theorem cells_rep {x : AV} {v : Value} (h : Rep M θ x v) (hu : isAggV x = true ∨ (isAggV x = false ∧ v.oneCell' = true)) : Reps M θ (cellsOf x) v.cells.toList := by
  cases x <;> simp only [Rep] at h <;> simp only [isAggV, Bool.false_eq_true, false_and, or_false, false_or, true_and, reduceCtorEq] at hu
  case agg l => obtain ⟨vs, rfl, hr⟩ := h; simpa [cellsOf, Value.cells] using hr
  all_goals
    (cases v <;> simp only [Value.oneCell', Bool.false_eq_true] at hu) <;>
      (simp only [cellsOf, Value.cells, Reps]; exact ⟨_, [], rfl, by first | (simp only [Rep]; exact h) | simp only [Rep], rfl⟩)

theorem foldl_set (off : Nat) : ∀ (xs : List Value) (k : Nat) (cs : Array Value), off + k + xs.length ≤ cs.size →
    ((xs.zipIdx k).foldl (fun (cs : Array Value) (x : Value × Nat) => cs.setIfInBounds (off + x.2) x.1) cs).toList = cs.toList.take (off + k) ++ xs ++ cs.toList.drop (off + k + xs.length)
  | [], k, cs, h => by simp
  | x :: xs, k, cs, h => by
    simp only [List.zipIdx_cons, List.foldl_cons]
    have h2 : off + (k + 1) + xs.length ≤ (cs.setIfInBounds (off + k) x).size := by simp only [Array.size_setIfInBounds]; simp at h; omega
    rw [foldl_set off xs (k + 1) _ h2]
    have hlt : off + k < cs.toList.length := by simp at h ⊢; omega
    apply List.ext_getElem?
    intro j
    simp only [Array.toList_setIfInBounds, List.length_cons, List.append_assoc, List.cons_append]
    rw [← Nat.add_assoc off k 1]
    have e1 : (cs.toList.set (off + k) x).take (off + k + 1) = cs.toList.take (off + k) ++ [x] := by
      rw [List.take_succ_eq_append_getElem (by simpa using hlt)]
      simp [List.take_set_of_le]
    have e2 : (cs.toList.set (off + k) x).drop (off + k + 1 + xs.length) = cs.toList.drop (off + k + (xs.length + 1)) := by
      rw [List.drop_set_of_lt (by omega)]
      congr 1
      omega
    rw [e1, e2]
    simp

theorem fill_sound (place : Nat → Option (Nat × Nat)) : ∀ (ps : List (Nat × Value)) (qs : List (Nat × Nat × List AV)) (cs : Array Value) (l : List AV),
    ps.length = qs.length → (∀ (j : Nat) i v off sz cl, ps[j]? = some (i, v) → qs[j]? = some (off, sz, cl) → place i = some (off, sz) ∧ Reps M θ cl v.cells.toList) →
    Reps M θ l cs.toList → fillOk qs l.length → ∃ cs', Instr.fill place cs ps = some cs' ∧ Reps M θ (fillAV qs l) cs'.toList
  | [], [], cs, l, _, _, h, _ => ⟨cs, by simp [Instr.fill], by simpa [fillAV] using h⟩
  | [], _ :: _, _, _, hl, _, _, _ => by simp at hl
  | _ :: _, [], _, _, hl, _, _, _ => by simp at hl
  | (i, v) :: ps, (off, sz, cl) :: qs, cs, l, hl, hp, h, hok => by
    obtain ⟨h1, h2⟩ := hp 0 i v off sz cl rfl rfl
    simp only [fillOk] at hok
    obtain ⟨hc, hle, hok⟩ := hok
    have hcl := Reps_length h2
    have hcs := Reps_length h
    simp only [Array.length_toList] at hcl hcs
    have hsz : v.cells.size = sz := by omega
    let cs1 := v.cells.zipIdx.foldl (fun cs (c, j) => cs.setIfInBounds (off + j) c) cs
    have key : cs1.toList = cs.toList.take off ++ v.cells.toList ++ cs.toList.drop (off + v.cells.size) := by
      show (v.cells.zipIdx.foldl (fun (cs : Array Value) (x : Value × Nat) => cs.setIfInBounds (off + x.2) x.1) cs).toList = _
      rw [← Array.foldl_toList, Array.toList_zipIdx]
      have := foldl_set off v.cells.toList 0 cs (by simp only [Array.length_toList]; omega)
      simpa using this
    have hr1 : Reps M θ (l.take off ++ cl ++ l.drop (off + cl.length)) cs1.toList := by
      rw [key]
      refine Reps_append (Reps_append (Reps_take _ h) h2) ?_
      rw [← hcl]
      exact Reps_drop _ h
    have hlen1 : (l.take off ++ cl ++ l.drop (off + cl.length)).length = l.length := by simp; omega
    obtain ⟨cs', h3, h4⟩ := fill_sound place ps qs cs1 _ (by simpa using hl) (fun j i v off sz cl hj hq => hp (j + 1) i v off sz cl (by simpa using hj) (by simpa using hq)) hr1 (by rw [hlen1]; exact hok)
    refine ⟨cs', ?_, h4⟩
    simp only [Instr.fill, h1]
    rw [if_neg (by simp [hsz]; omega)]
    exact h3

theorem rep_oneCell {x : AV} {v : Value} (h : Rep M θ x v) (hu : cell1 x = true) : v.oneCell' = true := by
  cases x <;> simp only [cell1, Bool.false_eq_true] at hu <;> simp only [Rep] at h
  case fn g caps => obtain ⟨vs, rfl, _⟩ := h; rfl
  case sl z es => obtain ⟨a, c, rfl, _⟩ := h; rfl
  case ptr b o => obtain ⟨blk, _, rfl⟩ := h; rfl
  case ep z es i o => obtain ⟨_, _, b, off, rfl, _⟩ := h; rfl
  case map b => obtain ⟨blk, _, rfl⟩ := h; rfl
  all_goals subst h; rfl

theorem shape_cells {x : AV} {v : Value} {d : TD} (h : Rep M θ x v) (hs : shapeOk d x) : Reps M θ (cellsOf x) v.cells.toList := by
  refine cells_rep h ?_
  unfold shapeOk at hs
  split at hs
  · exact .inl hs
  · refine .inr ⟨?_, rep_oneCell h hs⟩
    cases x <;> simp_all [cell1, isAggV]

theorem partsQ_sound (h : RelM P Γ S M θ ω τ a w) (place : Nat → Option (Nat × Nat)) : ∀ (ps : List (Nat × Operand)) {c : Prop} {qs : List (Nat × Nat × List AV)},
    partsQ T S place ps = some (c, qs) → c → ps.length = qs.length ∧
      ∀ (j : Nat) i v off sz cl, (ps.map fun (i, x) => (i, a.eval x))[j]? = some (i, v) → qs[j]? = some (off, sz, cl) → (∃ t ti, place i = some (t, off) ∧ T t = some ti ∧ ti.size = sz) ∧ Reps M θ cl v.cells.toList
  | [], c, qs, hq, _ => by
    simp only [partsQ, Option.some.injEq, Prod.mk.injEq] at hq
    obtain ⟨_, rfl⟩ := hq
    exact ⟨rfl, fun j i v off sz cl hj => by simp at hj⟩
  | (i, x) :: ps, c, qs, hq, hc => by
    simp only [partsQ] at hq
    split at hq
    · rename_i t off c' l hpl hps
      split at hq
      · rename_i ti hti
        simp only [Option.some.injEq, Prod.mk.injEq] at hq
        obtain ⟨rfl, rfl⟩ := hq
        obtain ⟨hok, hsh, hc⟩ := hc
        obtain ⟨h1, h2⟩ := partsQ_sound h place ps hps hc
        refine ⟨by simp [h1], fun j i' v off' sz cl hj hqj => ?_⟩
        cases j with
        | zero =>
          simp only [List.map_cons, List.getElem?_cons_zero, Option.some.injEq, Prod.mk.injEq] at hj hqj
          obtain ⟨rfl, rfl⟩ := hj
          obtain ⟨rfl, rfl, rfl⟩ := hqj
          exact ⟨⟨t, ti, hpl, hti, rfl⟩, shape_cells (h.rep x hok) hsh⟩
        | succ j => exact h2 j i' v off' sz cl (by simpa using hj) (by simpa using hqj)
      · contradiction
    · contradiction

theorem mapM_places (hT : TOk P T) : ∀ (fields : List Field) (w : World), (∀ fd ∈ fields, ∃ ti, T fd.type = some ti) →
    ∃ l, (fields.mapM (fun (f : Field) => (do pure (f.offset, ← sizeOf f.type) : Sem (Nat × Nat)))).run P w = .ok l w ∧
      ∀ (i : Nat) fd ti, fields[i]? = some fd → T fd.type = some ti → l[i]? = some (fd.offset, ti.size)
  | [], w, _ => ⟨[], by simp, fun i fd ti h => by simp at h⟩
  | f :: fs, w, h => by
    obtain ⟨ti, hti⟩ := h f (by simp)
    obtain ⟨l, h1, h2⟩ := mapM_places hT fs w (fun fd hfd => h fd (by simp [hfd]))
    refine ⟨(f.offset, ti.size) :: l, ?_, ?_⟩
    · rw [List.mapM_cons]
      simp only [Sem.run_bind, run_sizeOf hT hti, Result.andThen_ok, Sem.run_pure, h1]
    · intro i fd ti' hi ht
      cases i with
      | zero =>
        simp only [List.getElem?_cons_zero, Option.some.injEq] at hi
        subst hi
        rw [hti] at ht; cases ht; rfl
      | succ i => exact h2 i fd ti' (by simpa using hi) ht

theorem rep_weak {x : AV} {v : Value} (h : Rep (fun _ _ => none) [] x v) : Rep M θ x v :=
  Rep.mono (fun _ _ _ h => by cases h) (tle_nil θ) x v h

theorem q_build (hT : TOk P T) (h : RelM P Γ S M θ ω τ a w) {t : TypeId} {fs : List (Nat × Nat)} {size by_ : Nat} {zl : List AV} (ht : T t = some ⟨.struct fs, size, by_, .agg zl⟩)
    {parts : Array (Nat × Operand)} {c : Prop} {qs : List (Nat × Nat × List AV)} (hq : partsQ T S (fun i => fs[i]?) parts.toList = some (c, qs)) (hc : c) (hf : fillOk qs size)
    (hall : fs.all (fun p => (T p.1).isSome) = true) :
    ∃ v, (Instr.build t (parts.map fun (i, x) => (i, a.eval x))).run P w = .ok v w ∧ Rep M θ (.agg (fillAV qs zl)) v := by
  obtain ⟨fields, hu, hfs⟩ := hT.desc t _ ht
  obtain ⟨i, z, hi, hsz, _, hz, hzs, hrep⟩ := hT.info t _ ht
  have hrep' := rep_weak (M := M) (θ := θ) hrep
  simp only [Rep] at hrep'
  obtain ⟨zs, rfl, hzr⟩ := hrep'
  simp only [Value.cells, List.size_toArray] at hzs
  have hzlen := Reps_length hzr
  have hknown : ∀ fd ∈ fields.toList, ∃ ti, T fd.type = some ti := fun fd hfd => by
    have hm : (fd.type, fd.offset) ∈ fs := by rw [← hfs]; exact List.mem_map.2 ⟨fd, hfd, rfl⟩
    have := List.all_eq_true.1 hall _ hm
    exact Option.isSome_iff_exists.1 this
  obtain ⟨pl, hpl, hplaces⟩ := mapM_places hT fields.toList w hknown
  obtain ⟨hlen, hps⟩ := partsQ_sound h (fun i => fs[i]?) parts.toList hq hc
  obtain ⟨cs', h1, h2⟩ := fill_sound (M := M) (θ := θ) (fun i => pl.toArray[i]?) (parts.toList.map fun (i, x) => (i, a.eval x)) qs zs.toArray zl (by simpa using hlen)
    (fun j i v off sz cl hj hqj => by
      obtain ⟨⟨t', ti, hpi, hti, hs⟩, hr⟩ := hps j i v off sz cl hj hqj
      obtain ⟨fd, hfd, hft, hfo⟩ := field_get hfs hpi
      subst hft hfo hs
      refine ⟨?_, hr⟩
      have := hplaces i fd ti (by simpa using hfd) hti
      simpa using this)
    (by simpa using hzr) (by rw [← hzlen, hzs]; exact hf)
  refine ⟨.agg cs', ?_, ?_⟩
  · have hm : (fields.mapM (fun (f : Field) => (do pure (f.offset, ← sizeOf f.type) : Sem (Nat × Nat)))).run P w = .ok pl.toArray w := by
      rw [Array.mapM_eq_mapM_toList]
      simp only [Sem.run_map, hpl, Result.andThen_ok]
    have hm2 : (parts.map fun (i, x) => (i, a.eval x)).toList = parts.toList.map fun (i, x) => (i, a.eval x) := by simp
    simp only [Instr.build, zeroValue, typeInfo, Sem.run_bind, run_program, Result.andThen_ok, hi, Sem.run_pure, hz, run_underlying hu, hm, hm2, Value.cells, h1]
  · have := rep_agg_cells h2
    simpa using this

theorem q_buildArr (hT : TOk P T) (h : RelM P Γ S M θ ω τ a w) {t e n : Nat} {size by_ : Nat} {zl : List AV} (ht : T t = some ⟨.array n e, size, by_, .agg zl⟩) {te : TI} (he : T e = some te)
    {parts : Array (Nat × Operand)} {c : Prop} {qs : List (Nat × Nat × List AV)} (hq : partsQ T S (fun i => some (e, i * te.size)) parts.toList = some (c, qs)) (hc : c) (hf : fillOk qs size) :
    ∃ v, (Instr.build t (parts.map fun (i, x) => (i, a.eval x))).run P w = .ok v w ∧ Rep M θ (.agg (fillAV qs zl)) v := by
  have hu : P.underlying t = some (.array n e) := hT.desc t _ ht
  obtain ⟨i, z, hi, hsz, _, hz, hzs, hrep⟩ := hT.info t _ ht
  have hrep' := rep_weak (M := M) (θ := θ) hrep
  simp only [Rep] at hrep'
  obtain ⟨zs, rfl, hzr⟩ := hrep'
  simp only [Value.cells, List.size_toArray] at hzs
  have hzlen := Reps_length hzr
  obtain ⟨hlen, hps⟩ := partsQ_sound h (fun i => some (e, i * te.size)) parts.toList hq hc
  obtain ⟨cs', h1, h2⟩ := fill_sound (M := M) (θ := θ) (fun i => some (i * te.size, te.size)) (parts.toList.map fun (i, x) => (i, a.eval x)) qs zs.toArray zl (by simpa using hlen)
    (fun j i v off sz cl hj hqj => by
      obtain ⟨⟨t', ti, hpi, hti, hs⟩, hr⟩ := hps j i v off sz cl hj hqj
      simp only [Option.some.injEq, Prod.mk.injEq] at hpi
      obtain ⟨rfl, rfl⟩ := hpi
      rw [he] at hti
      cases hti
      subst hs
      exact ⟨rfl, hr⟩)
    (by simpa using hzr) (by rw [← hzlen, hzs]; exact hf)
  refine ⟨.agg cs', ?_, ?_⟩
  · have hm2 : (parts.map fun (i, x) => (i, a.eval x)).toList = parts.toList.map fun (i, x) => (i, a.eval x) := by simp
    simp only [Instr.build, zeroValue, typeInfo, Sem.run_bind, run_program, Result.andThen_ok, hi, Sem.run_pure, hz, run_underlying hu, run_sizeOf hT he, hm2, Value.cells, h1]
  · have := rep_agg_cells h2
    simpa using this
end
end Go.Abs
