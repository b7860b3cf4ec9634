/-
  Part of a proof: contracts of functions in abstract values.
-/
import Derived.Test.YtejdblkohdbhaaaGreatDoorAc
import GoSem.ClaimChange
import Derived.DataReads
set_option linter.unusedVariables false
set_option linter.unusedSimpArgs false
namespace Go.Abs
open Go

/-! ### Regions whose order is drawn -/
inductive Plan where
  | done
  | q (i : Nat) (next : Plan)
  | a (j : Nat) (pr : List Nat) (p : Plan) (r : Plan)
  | z
structure RPlan where
  A : List (List Nat)
  sync : List Nat
  plan : Plan

def predsOf (o : Oper) : List Nat := (o.after.toList.filter (Region.binds .any)).map (·.on)
def predsAt (ops : Array Oper) (i : Nat) : List Nat := match ops[i]? with | some o => predsOf o | none => []
def dstAt (ops : Array Oper) (i : Nat) : Option Tmp := (ops[i]?).bind (·.dst)
def looksAtI (ops : Array Oper) (i : Nat) : List Tmp := match ops[i]? with | some o => o.looksAt ops | none => []
def ancAt (A : List (List Nat)) (i : Nat) : List Nat := A.getD i []

def subL (l E : List Nat) : Bool := l.all E.contains

/-- What holds of the region as such. -/
def okStat (ops : Array Oper) (A : List (List Nat)) (sync : List Nat) : Bool :=
  (List.range ops.size).all (fun i => (ancAt A i).all fun k => (predsAt ops i).any fun p => decide (p < i) && (k == p || (ancAt A p).contains k)) &&
  (List.range ops.size).all (fun i => (List.range ops.size).all fun k => match dstAt ops k with
    | some t => (i == k || dstAt ops i != some t) && (!(looksAtI ops i).contains t || (ancAt A i).contains k || (sync.contains k && ((ancAt A k).contains i || i == k)))
    | none => true) &&
  ops.toList.all fun o => match o.op with | .select _ _ => false | _ => true

def okP (ops : Array Oper) (A : List (List Nat)) (sync : List Nat) : List Nat → List Nat → Plan → Bool
  | E, seen, .done => seen.isEmpty && (List.range ops.size).all E.contains
  | E, seen, .q i next => seen.isEmpty && decide (i < ops.size) && !E.contains i && !sync.contains i && subL (predsAt ops i) E && okP ops A sync (i :: E) [] next
  | E, seen, .a j pr p r => decide (j < ops.size) && !E.contains j && sync.contains j && subL (predsAt ops j) E &&
      (E.all fun i => sync.contains i || (ancAt A j).contains i || pr.contains i || (match ops[i]? with | some o => !isLoad o.op | none => true)) &&
      okP ops A sync (j :: E) [] p && okP ops A sync E (j :: seen) r
  | E, seen, .z => !seen.isEmpty && (List.range ops.size).all fun k => E.contains k || seen.contains k || !subL (predsAt ops k) E

def okReg (ops : Array Oper) (rp : RPlan) : Bool := okStat ops rp.A rp.sync && okP ops rp.A rp.sync [] [] rp.plan

/-- A tag that is weaker. -/
def tagLe (st : Nat) : Tag → Tag → Prop
  | .none, _ => True
  | .cell b o s, tg => s < st ∨ tg = .cell b o s
  | t, tg => tg = t
def svLe (st : Nat) (r sv : SV) : Prop := (r.ok → sv.ok) ∧ r.v = sv.v ∧ tagLe st r.tg sv.tg ∧ (sv.ok → r.ok)

/-- What was read may be read again. -/
def Prom (T : TE) (ops : Array Oper) (S : St) (i : Nat) : Prop :=
  match ops[i]? with
  | some o => match evalQ T ops S o, o.dst with
    | some (c, sv), some d => c ∧ (if isLoad o.op = true then svLe S.W.stamp (lk S.fr d) sv else lk S.fr d = sv)
    | _, _ => False
  | none => False
def Proms (T : TE) (ops : Array Oper) (S : St) : List Nat → Prop
  | [] => True
  | i :: l => Prom T ops S i ∧ Proms T ops S l

def WPl (P : Program) (T : TE) (ops : Array Oper) : Plan → St → (St → Prop) → Prop
  | .done, S, K => K S
  | .q i next, S, K => match ops[i]? with
    | some o => match evalQ T ops S o, o.dst with
      | some (c, sv), some d => c ∧ WPl P T ops next { S with fr := (d, sv) :: S.fr } K
      | _, _ => False
    | none => False
  | .a j pr p r, S, K => (match ops[j]? with
    | some o => WOp P T ops S o fun S' => Proms T ops S' pr ∧ WPl P T ops p S' K
    | none => False) ∧ WPl P T ops r S K
  | .z, _, _ => True

/-- The slots that b names are forgotten. -/
def St.mask (S : St) (b : Nat → Bool) : St := { S with fr := S.fr.map fun (k, sv) => (k, if b k then SV.no else sv) }

theorem lk_map (b : Nat → Bool) : ∀ (fr : List (Nat × SV)) (k : Nat), lk (fr.map fun (k, sv) => (k, if b k then SV.no else sv)) k = if b k then SV.no else lk fr k
  | [], k => by simp [lk]
  | (k', sv) :: fr, k => by
    simp only [List.map_cons, lk]
    split
    · rename_i h; subst h; rfl
    · exact lk_map b fr k
theorem lk_mask (S : St) (b : Nat → Bool) (k : Nat) : lk (S.mask b).fr k = if b k then SV.no else lk S.fr k := lk_map b S.fr k

theorem evO_mask (S : St) (b : Nat → Bool) (x : Operand) (h : ∀ t, x = .tmp t → b t = false) : evO (S.mask b) x = evO S x := by
  cases x with
  | tmp t => simp only [evO, lk_mask, h t rfl]; rfl
  | _ => rfl

section
variable {P : Program} {T : TE} {ops : Array Oper}

theorem mem_looks_tmp {o : Oper} {x : Operand} (hx : x ∈ o.op.operands) {t : Tmp} (ht : x = .tmp t) : t ∈ o.looksAt ops := by
  subst ht
  exact List.mem_append_left _ (List.mem_filterMap.2 ⟨.tmp t, by simpa using hx, rfl⟩)
theorem mem_looks_guard {o : Oper} {j : Nat} {want : Bool} {d : Tmp} (hg : o.guard = some (j, want)) (hd : (ops[j]?).bind (·.dst) = some d) : d ∈ o.looksAt ops := by
  refine List.mem_append_right _ ?_
  rw [hg]
  simp [hd]

theorem guardG_congr {S1 S2 : St} {o : Oper} (h : ∀ t ∈ o.looksAt ops, lk S1.fr t = lk S2.fr t) : guardG ops S1 o = guardG ops S2 o := by
  unfold guardG
  split
  · rfl
  · rename_i j want hg
    split
    · rename_i d hd
      rw [h d (mem_looks_guard hg hd)]
    · rfl

theorem evalQ_congr {S1 S2 : St} {o : Oper} (h : ∀ t ∈ o.looksAt ops, lk S1.fr t = lk S2.fr t) (hW : S1.W = S2.W ∨ isLoad o.op = false) : evalQ T ops S1 o = evalQ T ops S2 o := by
  have hq : quiet T S1 o = quiet T S2 o := quiet_congr (fun x hx => by
    cases x with
    | tmp t => exact h t (mem_looks_tmp hx rfl)
    | _ => rfl) hW
  unfold evalQ
  rw [hq, guardG_congr h]

theorem mask_put (S : St) (b : Nat → Bool) (dst : Option Tmp) (sv : SV) (h : ∀ d, dst = some d → b d = false) : (S.mask b).put dst sv = (S.put dst sv).mask b := by
  cases dst with
  | none => rfl
  | some d => simp [St.put, St.mask, h d rfl]

theorem pureCall_congr {ρ ρ' : Operand → SV} {op : Op} {v : AV} (h : ∀ x ∈ op.operands, ρ x = ρ' x) (hp : pureCall P ρ op v) : pureCall P ρ' op v := by
  unfold pureCall at hp ⊢
  split at hp
  · rename_i f args at'
    simp only [Op.operands, Call.operands] at h
    have hf := h f (by simp)
    have ha : args.toList.map ρ' = args.toList.map ρ := List.map_congr_left fun x hx => (h x (by simp; exact .inr (by simpa using hx))).symm
    simp only [← hf, ha]
    exact hp
  · cases hp

theorem WOp_mask {S : St} {b : Nat → Bool} {o : Oper} {K K' : St → Prop} (h : ∀ t ∈ o.looksAt ops, b t = false) (hd : ∀ d, o.dst = some d → b d = false) (hK : ∀ S', K S' → K' (S'.mask b)) (hw : WOp P T ops S o K) : WOp P T ops (S.mask b) o K' := by
  have hlk : ∀ t ∈ o.looksAt ops, lk (S.mask b).fr t = lk S.fr t := fun t ht => by rw [lk_mask, h t ht]; rfl
  have e1 : evalQ T ops (S.mask b) o = evalQ T ops S o := evalQ_congr hlk (.inl rfl)
  have e2 : guardG ops (S.mask b) o = guardG ops S o := guardG_congr hlk
  have hev : ∀ x ∈ o.op.operands, evO S x = evO (S.mask b) x := fun x hx => (evO_mask S b x fun t ht => h t (mem_looks_tmp hx ht)).symm
  have aw : AW P T (evO S) S.W o.op (fun W' sv => K ({ S with W := W' }.put o.dst sv.noU)) → AW P T (evO (S.mask b)) (S.mask b).W o.op (fun W' sv => K' ({ S.mask b with W := W' }.put o.dst sv.noU)) := fun ha =>
    AW_mono hev (fun W' sv hk => by
      have := hK _ hk
      rw [← mask_put _ _ _ _ hd] at this
      exact this) ha
  unfold WOp at hw ⊢
  rw [e1, e2]
  split
  · rename_i c sv hq
    rw [hq] at hw
    exact ⟨hw.1, by rw [mask_put _ _ _ _ hd]; exact hK _ hw.2⟩
  · rename_i hq
    rw [hq] at hw
    simp only at hw
    split
    · rename_i hg
      rw [hg] at hw
      exact aw hw
    · rename_i hg
      rw [hg] at hw
      simp only at hw
      split
      · rename_i hga
        rw [hga] at hw
        refine ⟨hw.1, ?_⟩
        rcases hw.2 with ⟨k1, k2⟩ | ⟨v, k1, k2⟩
        · exact .inl ⟨fun hb => aw (k1 hb), fun hb => by rw [mask_put _ _ _ _ hd]; exact hK _ (k2 hb)⟩
        · exact .inr ⟨v, fun hb => pureCall_congr hev (k1 hb), by rw [mask_put _ _ _ _ hd]; exact hK _ k2⟩
      · rename_i hga
        rw [hga] at hw
        exact hw

theorem WOp_info {S : St} {o : Oper} {K : St → Prop} (hw : WOp P T ops S o K) : WOp P T ops S o (fun S' => K S' ∧ S'.n = S.n ∧ ∀ k, o.dst ≠ some k → lk S'.fr k = lk S.fr k) := by
  have hput : ∀ (S1 : St) sv, S1.fr = S.fr → S1.n = S.n → (S1.put o.dst sv).n = S.n ∧ ∀ k, o.dst ≠ some k → lk (S1.put o.dst sv).fr k = lk S.fr k := fun S1 sv h1 h2 => by
    cases ho : o.dst with
    | none => exact ⟨h2, fun k _ => by simp only [St.put, h1]⟩
    | some d => exact ⟨h2, fun k hk => by
        have : d ≠ k := fun e => hk (by rw [e])
        simp only [St.put, lk, if_neg this, h1]⟩
  have aw : AW P T (evO S) S.W o.op (fun W' sv => K ({ S with W := W' }.put o.dst sv.noU)) → AW P T (evO S) S.W o.op (fun W' sv => K ({ S with W := W' }.put o.dst sv.noU) ∧ ({ S with W := W' }.put o.dst sv.noU).n = S.n ∧ ∀ k, o.dst ≠ some k → lk ({ S with W := W' }.put o.dst sv.noU).fr k = lk S.fr k) := fun ha =>
    AW_mono (fun _ _ => rfl) (fun W' sv hk => ⟨hk, hput { S with W := W' } sv.noU rfl rfl⟩) ha
  unfold WOp at hw ⊢
  split
  · rename_i c sv hq
    rw [hq] at hw
    exact ⟨hw.1, hw.2, hput S sv rfl rfl⟩
  · rename_i hq
    rw [hq] at hw
    simp only at hw
    split
    · rename_i hg
      rw [hg] at hw
      exact aw hw
    · rename_i hg
      rw [hg] at hw
      simp only at hw
      split
      · rename_i hga
        rw [hga] at hw
        refine ⟨hw.1, ?_⟩
        rcases hw.2 with ⟨k1, k2⟩ | ⟨v, k1, k2⟩
        · exact .inl ⟨fun hb => aw (k1 hb), fun hb => ⟨k2 hb, hput S _ rfl rfl⟩⟩
        · exact .inr ⟨v, k1, k2, hput S _ rfl rfl⟩
      · rename_i hga
        rw [hga] at hw
        exact hw

theorem Rel.of_lk {Γ : Cx} {S1 S2 : St} {a : Act} {w : World} (h : Rel P Γ S1 a w) (hn : S2.n = S1.n) (hb : S2.b = S1.b) (hW : S2.W = S1.W) (hl : ∀ k, lk S2.fr k = SV.no ∨ lk S1.fr k = lk S2.fr k) : Rel P Γ S2 a w := by
  obtain ⟨M, θ, ω, τ, hr⟩ := h
  refine ⟨M, θ, ω, τ, by rw [hW]; exact hr.core, ⟨by rw [hn]; exact hr.fr.size, hr.fr.defers, fun k hk => ?_, fun k ht hk => ?_⟩, by rw [hb]; exact hr.bas⟩
  · rcases hl k with h1 | h1
    · rw [h1] at hk; exact hk.elim
    · have := hr.fr.slot k (by rw [h1]; exact hk)
      rw [h1] at this
      rw [hW]; exact this
  · rcases hl k with h1 | h1
    · rw [h1] at ht; cases ht
    · rw [← h1] at ht hk
      exact hr.fr.und k ht hk

variable {A : List (List Nat)} {sync : List Nat}

theorem st_anc (h : okStat ops A sync = true) {i k : Nat} (hi : i < ops.size) (hk : k ∈ ancAt A i) : ∃ p ∈ predsAt ops i, p < i ∧ (k = p ∨ k ∈ ancAt A p) := by
  simp only [okStat, Bool.and_eq_true] at h
  have := List.all_eq_true.1 (List.all_eq_true.1 h.1.1 i (List.mem_range.2 hi)) k hk
  obtain ⟨p, hp, h2⟩ := List.any_eq_true.1 this
  simp only [Bool.and_eq_true, decide_eq_true_eq, Bool.or_eq_true, beq_iff_eq, List.contains_iff_mem] at h2
  exact ⟨p, hp, h2.1, h2.2⟩

theorem st_dst (h : okStat ops A sync = true) {i k : Nat} (hi : i < ops.size) (hk : k < ops.size) {t : Tmp} (ht : dstAt ops k = some t) :
    (i = k ∨ dstAt ops i ≠ some t) ∧ (t ∈ looksAtI ops i → k ∈ ancAt A i ∨ (k ∈ sync ∧ (i ∈ ancAt A k ∨ i = k))) := by
  simp only [okStat, Bool.and_eq_true] at h
  have := List.all_eq_true.1 (List.all_eq_true.1 h.1.2 i (List.mem_range.2 hi)) k (List.mem_range.2 hk)
  rw [ht] at this
  simp only [Bool.and_eq_true, Bool.or_eq_true, beq_iff_eq, bne_iff_ne, ne_eq, Bool.not_eq_true', List.contains_iff_mem, ← Bool.not_eq_true] at this
  refine ⟨this.1, fun hm => ?_⟩
  rcases this.2 with (h1 | h1) | h1
  · exact absurd hm h1
  · exact .inl h1
  · exact .inr h1

theorem anc_sub (h : okStat ops A sync = true) {D : Nat → Prop} (hc : ∀ i, D i → ∀ p ∈ predsAt ops i, D p) : ∀ (i : Nat), i < ops.size → (∀ p ∈ predsAt ops i, D p) → ∀ k ∈ ancAt A i, D k := by
  intro i
  induction i using Nat.strongRecOn with
  | _ i ih =>
    intro hi hp k hk
    obtain ⟨p, h1, h2, h3⟩ := st_anc h hi hk
    rcases h3 with rfl | h3
    · exact hp k h1
    · exact ih p h2 (by omega) (hc p (hp p h1)) k h3

def EOk (ops : Array Oper) : List Nat → Prop
  | [] => True
  | i :: E => (∀ p ∈ predsAt ops i, p ∈ E) ∧ EOk ops E

theorem EOk.closed : ∀ {E : List Nat}, EOk ops E → ∀ i ∈ E, ∀ p ∈ predsAt ops i, p ∈ E
  | [], _, i, hi, _, _ => by simp at hi
  | j :: E, h, i, hi, p, hp => by
    rcases List.mem_cons.1 hi with rfl | hi
    · exact List.mem_cons_of_mem _ (h.1 p hp)
    · exact List.mem_cons_of_mem _ (EOk.closed h.2 i hi p hp)

def Ld (listed : Array Bool) (i : Nat) : Bool := listed.getD i false

theorem ready_iff {listed : Array Bool} (hs : listed.size = ops.size) {j : Nat} : j ∈ Region.ready .any ops listed ↔ j < ops.size ∧ Ld listed j = false ∧ ∀ p ∈ predsAt ops j, Ld listed p = true := by
  rw [mem_ready]
  have key : ∀ o, ops[j]? = some o → ((∀ e ∈ o.after, Region.binds .any e = true → listed.getD e.on false = true) ↔ ∀ p ∈ predsAt ops j, Ld listed p = true) := fun o ho => by
    unfold predsAt predsOf
    rw [ho]
    simp only [List.mem_map, List.mem_filter, Array.mem_toList_iff]
    constructor
    · rintro h p ⟨e, ⟨h1, h2⟩, rfl⟩; exact h e h1 h2
    · intro h e h1 h2; exact h e.on ⟨e, ⟨h1, h2⟩, rfl⟩
  constructor
  · rintro ⟨h0, o, ho, h⟩
    have hj := (Array.getElem?_eq_some_iff.1 ho).1
    refine ⟨hj, ?_, (key o ho).1 h⟩
    have hj' : j < listed.size := by omega
    simp only [Ld, Array.getD_eq_getD_getElem?, Array.getElem?_eq_getElem hj', Option.getD_some] at h0 ⊢
    exact h0
  · rintro ⟨hj, h0, h⟩
    obtain ⟨o, ho⟩ : ∃ o, ops[j]? = some o := ⟨ops[j], by simp [hj]⟩
    refine ⟨?_, o, ho, (key o ho).2 h⟩
    have hj' : j < listed.size := by omega
    simp only [Ld, Array.getD_eq_getD_getElem?, Array.getElem?_eq_getElem hj', Option.getD_some] at h0 ⊢
    exact h0

theorem Ld_set {listed : Array Bool} {i j : Nat} (hi : i < listed.size) : Ld (listed.setIfInBounds i true) j = if j = i then true else Ld listed j := by
  unfold Ld
  split
  · rename_i h; subst h; simp [hi]
  · rename_i h; simp [Array.getElem?_setIfInBounds_ne (fun e => h e.symm)]

def bm (ops : Array Oper) (E : List Nat) (listed : Array Bool) : Nat → Bool := fun d => E.any fun i => !Ld listed i && dstAt ops i == some d

theorem bm_true {E : List Nat} {listed : Array Bool} {d : Nat} : bm ops E listed d = true ↔ ∃ i ∈ E, Ld listed i = false ∧ dstAt ops i = some d := by
  unfold bm
  rw [List.any_eq_true]
  simp

structure RI (P : Program) (T : TE) (ops : Array Oper) (sync : List Nat) (Γ : Cx) (n : Nat) (E : List Nat) (S : St) (listed : Array Bool) (a : Act) (w : World) : Prop where
  size : listed.size = ops.size
  sub : ∀ i, Ld listed i = true → i ∈ E
  rng : ∀ i ∈ E, i < ops.size
  eok : EOk ops E
  closed : ∀ i, Ld listed i = true → ∀ p ∈ predsAt ops i, Ld listed p = true
  rel : Rel P Γ (S.mask (bm ops E listed)) a w
  prom : ∀ i ∈ E, Ld listed i = false → i ∉ sync ∧ Prom T ops S i
  n : S.n = n

theorem prom_spec {S : St} {i : Nat} (h : Prom T ops S i) : ∃ o c sv d, ops[i]? = some o ∧ evalQ T ops S o = some (c, sv) ∧ o.dst = some d ∧ c ∧ (if isLoad o.op = true then svLe S.W.stamp (lk S.fr d) sv else lk S.fr d = sv) := by
  unfold Prom at h
  split at h
  · rename_i o ho
    split at h
    · rename_i c sv d hq hd
      exact ⟨o, c, sv, d, ho, hq, hd, h.1, h.2⟩
    · cases h
  · cases h
theorem prom_mk {S : St} {i : Nat} {o : Oper} {c : Prop} {sv : SV} {d : Nat} (h1 : ops[i]? = some o) (h2 : evalQ T ops S o = some (c, sv)) (h3 : o.dst = some d) (h4 : c) (h5 : if isLoad o.op = true then svLe S.W.stamp (lk S.fr d) sv else lk S.fr d = sv) : Prom T ops S i := by
  unfold Prom
  rw [h1]
  simp only [h2, h3]
  exact ⟨h4, h5⟩

theorem svLe_refl (st : Nat) (sv : SV) : svLe st sv sv := by
  refine ⟨id, rfl, ?_, id⟩
  cases sv.tg <;> simp [tagLe]

theorem looks_at {i : Nat} {o : Oper} (ho : ops[i]? = some o) {t : Nat} (ht : t ∈ o.looksAt ops) : t ∈ looksAtI ops i := by
  unfold looksAtI; rw [ho]; exact ht
theorem dst_at {i : Nat} {o : Oper} (ho : ops[i]? = some o) : dstAt ops i = o.dst := by
  unfold dstAt; rw [ho]; rfl

/-- A quiet operation is reckoned ahead of its turn. -/
theorem RI.advance (hst : okStat ops A sync = true) {Γ : Cx} {n : Nat} {E : List Nat} {S : St} {listed : Array Bool} {a : Act} {w : World} (h : RI P T ops sync Γ n E S listed a w) {i : Nat} (hi : i < ops.size) (hE : i ∉ E) (hs : i ∉ sync)
    (hp : ∀ p ∈ predsAt ops i, p ∈ E) {o : Oper} (ho : ops[i]? = some o) {c : Prop} {sv : SV} {d : Nat} (hq : evalQ T ops S o = some (c, sv)) (hd : o.dst = some d) (hc : c) :
    RI P T ops sync Γ n (i :: E) { S with fr := (d, sv) :: S.fr } listed a w := by
  have hun : Ld listed i = false := by
    cases hh : Ld listed i with
    | false => rfl
    | true => exact absurd (h.sub i hh) hE
  have hdi : dstAt ops i = some d := by rw [dst_at ho, hd]
  have hclos : ∀ k ∈ E, ∀ p ∈ predsAt ops k, p ∈ E := EOk.closed h.eok
  have hself : d ∉ o.looksAt ops := fun hm => by
    rcases (st_dst hst hi hi hdi).2 (looks_at ho hm) with h1 | h1
    · exact hE (anc_sub hst (D := (· ∈ E)) hclos i hi hp i h1)
    · exact hs h1.1
  have hoth : ∀ k ∈ E, d ∉ looksAtI ops k := fun k hk hm => by
    rcases (st_dst hst (h.rng k hk) hi hdi).2 hm with h1 | h1
    · exact hE (anc_sub hst (D := (· ∈ E)) hclos k (h.rng k hk) (hclos k hk) i h1)
    · exact hs h1.1
  have hlk : ∀ t, t ≠ d → lk ({ S with fr := (d, sv) :: S.fr } : St).fr t = lk S.fr t := fun t ht => by simp only [lk, if_neg (Ne.symm ht)]
  refine ⟨h.size, fun j hj => List.mem_cons_of_mem _ (h.sub j hj), fun j hj => ?_, ⟨hp, h.eok⟩, h.closed, ?_, fun k hk hkl => ?_, h.n⟩
  · rcases List.mem_cons.1 hj with rfl | hj
    · exact hi
    · exact h.rng j hj
  · refine h.rel.of_lk rfl rfl rfl fun k => ?_
    rw [lk_mask, lk_mask]
    by_cases hb : bm ops (i :: E) listed k = true
    · rw [if_pos hb]; exact .inl rfl
    · refine .inr ?_
      have hkd : k ≠ d := fun e => hb (bm_true.2 ⟨i, by simp, hun, by rw [hdi, e]⟩)
      have hb2 : ¬ bm ops E listed k = true := fun hb2 => by
        obtain ⟨j, h1, h2, h3⟩ := bm_true.1 hb2
        exact hb (bm_true.2 ⟨j, List.mem_cons_of_mem _ h1, h2, h3⟩)
      rw [if_neg hb, if_neg hb2, hlk k hkd]
  · rcases List.mem_cons.1 hk with rfl | hk
    · refine ⟨hs, prom_mk ho (c := c) (sv := sv) (d := d) ?_ hd hc ?_⟩
      · rw [← hq]
        exact evalQ_congr (fun t ht => hlk t (fun e => hself (e ▸ ht))) (.inl rfl)
      · simp only [lk, if_true]
        split
        · exact svLe_refl _ _
        · trivial
    · obtain ⟨k1, k2⟩ := h.prom k hk hkl
      obtain ⟨o2, c2, sv2, d2, j1, j2, j3, j4, j5⟩ := prom_spec k2
      have hne : d2 ≠ d := fun e => by
        have := (st_dst hst (h.rng k hk) hi hdi).1
        rcases this with h1 | h1
        · exact hE (h1 ▸ hk)
        · exact h1 (by rw [dst_at j1, j3, e])
      refine ⟨k1, prom_mk j1 (c := c2) (sv := sv2) (d := d2) ?_ j3 j4 ?_⟩
      · rw [← j2]
        exact evalQ_congr (fun t ht => hlk t (fun e => hoth k hk (e ▸ looks_at j1 ht))) (.inl rfl)
      · rw [hlk d2 hne]; exact j5

theorem slot_le {Γ : Cx} {S : St} {M : Snap} {θ : List Nat} {τ : Nat → Value} {w : World} {W : WPt} {r sv : SV} {v : Value} (hle : svLe W.stamp r sv) (h : SlotOk W M θ τ w sv v) : SlotOk W M θ τ w r v := by
  obtain ⟨_, h2, h3, _⟩ := hle
  refine ⟨by rw [h2]; exact h.1, ?_⟩
  have ht := h.2
  revert h3
  cases hr : r.tg with
  | none => intro _; trivial
  | cell b o s =>
    simp only [tagLe]
    rintro (h4 | h4)
    · exact ⟨by omega, fun he => by omega⟩
    · rw [h4] at ht; exact ht
  | _ => simp only [tagLe]; intro h4; rw [h4] at ht; exact ht

/-- What was reckoned ahead is done. -/
theorem RI.doneQ (hst : okStat ops A sync = true) (hT : TOk P T) {Γ : Cx} {n : Nat} {E : List Nat} {S : St} {listed : Array Bool} {a : Act} {w : World} (hdb : ∀ o ∈ ops.toList, ∀ d, o.dst = some d → d < n) (h : RI P T ops sync Γ n E S listed a w) {i : Nat} (hE : i ∈ E) (hun : Ld listed i = false)
    (hp : ∀ p ∈ predsAt ops i, Ld listed p = true) {Kc : Act → World → Prop} {Q : Exit → Act → World → Prop} (hK : ∀ a' w', RI P T ops sync Γ n E S (listed.setIfInBounds i true) a' w' → Kc a' w') : wpOp P ops Q i Kc a w := by
  obtain ⟨hs, hpr⟩ := h.prom i hE hun
  obtain ⟨o, c, sv, d, ho, hq, hd, hc, hle⟩ := prom_spec hpr
  have hi := h.rng i hE
  have hdi : dstAt ops i = some d := by rw [dst_at ho, hd]
  have hanc : ∀ k ∈ ancAt A i, Ld listed k = true := anc_sub hst (D := fun k => Ld listed k = true) h.closed i hi hp
  have hlook : ∀ t ∈ o.looksAt ops, bm ops E listed t = false := fun t ht => by
    cases hb : bm ops E listed t with
    | false => rfl
    | true =>
      obtain ⟨k, h1, h2, h3⟩ := bm_true.1 hb
      rcases (st_dst hst hi (h.rng k h1) h3).2 (looks_at ho ht) with h4 | h4
      · rw [hanc k h4] at h2; cases h2
      · exact absurd h4.1 (h.prom k h1 h2).1
  have hqm : evalQ T ops (S.mask (bm ops E listed)) o = some (c, sv) := by
    rw [← hq]
    exact evalQ_congr (fun t ht => by rw [lk_mask, hlook t ht]; rfl) (.inl rfl)
  have hle' : svLe S.W.stamp (lk S.fr d) sv := by
    split at hle
    · exact hle
    · rw [hle]; exact svLe_refl _ _
  obtain ⟨M, θ, ω, τ, hr⟩ := h.rel
  have hsz : i < listed.size := by rw [h.size]; exact hi
  have fin : ∀ v, ((lk S.fr d).ok → SlotOk S.W M θ τ w (lk S.fr d) v) → ((lk S.fr d).tg = .und → ¬ (lk S.fr d).ok → v = undef) → Kc (a.put o.dst v) w := fun v hv hvu => by
    refine hK _ _ ⟨by simp [h.size], fun j hj => ?_, h.rng, h.eok, fun j hj p hpp => ?_, ?_, fun k hk hkl => ?_, h.n⟩
    · rw [Ld_set hsz] at hj
      split at hj
      · rename_i he; rw [he]; exact hE
      · exact h.sub j hj
    · rw [Ld_set hsz]
      split
      · rfl
      · rw [Ld_set hsz] at hj
        split at hj
        · rename_i he; subst he; exact hp p hpp
        · exact h.closed j hj p hpp
    · have h2 := hr.put o.dst (lk S.fr d) v (fun d' hd' => by
        show d' < S.n
        rw [h.n]
        exact hdb o (by rw [Array.mem_toList_iff]; exact Array.mem_of_getElem? ho) d' hd') hv hvu
      refine Rel.of_lk ⟨_, _, _, _, h2⟩ ?_ ?_ ?_ fun k => ?_
      · rw [hd]; rfl
      · rw [hd]; rfl
      · rw [hd]; rfl
      · rw [hd]
        simp only [St.put, lk]
        rw [lk_mask, lk_mask]
        by_cases hb : bm ops E (listed.setIfInBounds i true) k = true
        · rw [if_pos hb]; exact .inl rfl
        · rw [if_neg hb]
          refine .inr ?_
          by_cases hkd : d = k
          · subst hkd
            rw [if_pos rfl]
          · rw [if_neg hkd, if_neg]
            intro hb2
            obtain ⟨j, h3, h4, h5⟩ := bm_true.1 hb2
            refine hb (bm_true.2 ⟨j, h3, ?_, h5⟩)
            rw [Ld_set hsz, if_neg]
            · exact h4
            · intro e; subst e; rw [hdi] at h5; cases h5; exact hkd rfl
    · rw [Ld_set hsz] at hkl
      split at hkl
      · cases hkl
      · exact h.prom k hk hkl
  unfold wpOp
  rw [ho]
  simp only
  rcases evalQ_sound hT hr hqm hc with ⟨h1, hu, v, h2, h3⟩ | ⟨h1, h2⟩
  · rw [h1, if_pos rfl]
    refine .inl ?_
    unfold Oper.wp
    rw [h2, Oper.upon_value]
    refine fin v (fun hok => slot_le (Γ := Γ) (S := S) hle' (h3 (hle'.1 hok))) fun ht hno => ?_
    have : sv.tg = .und := by
      have h5 := hle'.2.2.1
      rw [ht] at h5
      exact h5
    exact absurd (hle'.2.2.2 (hu this)) hno
  · rw [h1, if_neg (by simp)]
    exact fin undef (fun hok => (h2 (hle'.1 hok)).elim) (fun _ _ => rfl)
end
end Go.Abs

namespace Go.Abs
open Go

section
variable {P : Program} {T : TE} {ops : Array Oper} {A : List (List Nat)} {sync : List Nat}

theorem Proms_mem {S : St} : ∀ {pr : List Nat} {k : Nat}, Proms T ops S pr → k ∈ pr → Prom T ops S k
  | [], k, _, h => by simp at h
  | x :: pr, k, h, hm => by
    simp only [Proms] at h
    rcases List.mem_cons.1 hm with rfl | hm
    · exact h.1
    · exact Proms_mem h.2 hm

/-- An operation that is reckoned at its turn. -/
theorem RI.doneA (hst : okStat ops A sync = true) (hT : TOk P T) {Γ : Cx} {n : Nat} {E : List Nat} {S : St} {listed : Array Bool} {a : Act} {w : World} (hdb : ∀ o ∈ ops.toList, ∀ d, o.dst = some d → d < n) (h : RI P T ops sync Γ n E S listed a w) {i : Nat} (hi : i < ops.size) (hE : i ∉ E)
    (hpE : ∀ p ∈ predsAt ops i, p ∈ E) (hp : ∀ p ∈ predsAt ops i, Ld listed p = true) {o : Oper} (ho : ops[i]? = some o) {pr : List Nat} {K : St → Prop}
    (hcov : ∀ k ∈ E, k ∈ sync ∨ k ∈ ancAt A i ∨ k ∈ pr ∨ ∀ o', ops[k]? = some o' → isLoad o'.op = false) (hw : WOp P T ops S o fun S' => Proms T ops S' pr ∧ K S')
    {Kc : Act → World → Prop} {Q : Exit → Act → World → Prop} (hK : ∀ S' a' w', K S' → RI P T ops sync Γ n (i :: E) S' (listed.setIfInBounds i true) a' w' → Kc a' w') : wpOp P ops Q i Kc a w := by
  have hanc : ∀ k ∈ ancAt A i, Ld listed k = true := anc_sub hst (D := fun k => Ld listed k = true) h.closed i hi hp
  have hclos : ∀ k ∈ E, ∀ p ∈ predsAt ops k, p ∈ E := EOk.closed h.eok
  have hlook : ∀ t ∈ o.looksAt ops, bm ops E listed t = false := fun t ht => by
    cases hb : bm ops E listed t with
    | false => rfl
    | true =>
      obtain ⟨k, h1, h2, h3⟩ := bm_true.1 hb
      rcases (st_dst hst hi (h.rng k h1) h3).2 (looks_at ho ht) with h4 | h4
      · rw [hanc k h4] at h2; cases h2
      · exact absurd h4.1 (h.prom k h1 h2).1
  have hdst : ∀ d, o.dst = some d → bm ops E listed d = false := fun d hd => by
    cases hb : bm ops E listed d with
    | false => rfl
    | true =>
      obtain ⟨k, h1, h2, h3⟩ := bm_true.1 hb
      rcases (st_dst hst hi (h.rng k h1) h3).1 with h4 | h4
      · exact absurd (h4 ▸ h1) hE
      · exact absurd (by rw [dst_at ho, hd]) h4
  have hsz : i < listed.size := by rw [h.size]; exact hi
  have hbm : bm ops (i :: E) (listed.setIfInBounds i true) = bm ops E listed := by
    funext d
    apply Bool.eq_iff_iff.2
    rw [bm_true, bm_true]
    constructor
    · rintro ⟨k, h1, h2, h3⟩
      rw [Ld_set hsz] at h2
      split at h2
      · cases h2
      · rename_i hne
        rcases List.mem_cons.1 h1 with h1 | h1
        · exact absurd h1 hne
        · exact ⟨k, h1, h2, h3⟩
    · rintro ⟨k, h1, h2, h3⟩
      refine ⟨k, List.mem_cons_of_mem _ h1, ?_, h3⟩
      rw [Ld_set hsz, if_neg]
      · exact h2
      · intro e; exact hE (e ▸ h1)
  have hw2 := WOp_mask (b := bm ops E listed) (K' := fun S'' => ∃ S', S'' = S'.mask (bm ops E listed) ∧ (Proms T ops S' pr ∧ K S') ∧ S'.n = S.n ∧ ∀ k, o.dst ≠ some k → lk S'.fr k = lk S.fr k) hlook hdst (fun S' hS => ⟨S', rfl, hS⟩) (WOp_info hw)
  obtain ⟨M, θ, ω, τ, hr⟩ := h.rel
  unfold wpOp
  rw [ho]
  refine WOp_sound hT hr hw2 (fun d hd => ?_) fun S'' a' w' _ hS hr' => ?_
  · show d < S.n
    rw [h.n]
    exact hdb o (by rw [Array.mem_toList_iff]; exact Array.mem_of_getElem? ho) d hd
  · obtain ⟨S', rfl, ⟨hpr, hk⟩, hn, hlk⟩ := hS
    refine hK S' a' w' hk ⟨by simp [h.size], fun j hj => ?_, fun j hj => ?_, ⟨hpE, h.eok⟩, fun j hj p hpp => ?_, by rw [hbm]; exact hr', fun k hk hkl => ?_, hn.trans h.n⟩
    · rw [Ld_set hsz] at hj
      split at hj
      · rename_i he; rw [he]; simp
      · exact List.mem_cons_of_mem _ (h.sub j hj)
    · rcases List.mem_cons.1 hj with rfl | hj
      · exact hi
      · exact h.rng j hj
    · rw [Ld_set hsz]
      split
      · rfl
      · rw [Ld_set hsz] at hj
        split at hj
        · rename_i he; subst he; exact hp p hpp
        · exact h.closed j hj p hpp
    · rw [Ld_set hsz] at hkl
      split at hkl
      · cases hkl
      · rename_i hki
        have hkE : k ∈ E := (List.mem_cons.1 hk).resolve_left hki
        obtain ⟨k1, k2⟩ := h.prom k hkE hkl
        refine ⟨k1, ?_⟩
        obtain ⟨o2, c2, sv2, d2, j1, j2, j3, j4, j5⟩ := prom_spec k2
        have inP : k ∈ pr → Prom T ops S' k := fun hm => Proms_mem hpr hm
        rcases hcov k hkE with h4 | h4 | h4 | h4
        · exact absurd h4 k1
        · rw [hanc k h4] at hkl; cases hkl
        · exact inP h4
        · have hnl := h4 o2 j1
          have hdk : o.dst ≠ some d2 := fun e => by
            rcases (st_dst hst hi (h.rng k hkE) (t := d2) (by rw [dst_at j1, j3])).1 with h5 | h5
            · exact hki h5.symm
            · exact h5 (by rw [dst_at ho, e])
          refine prom_mk j1 (c := c2) (sv := sv2) (d := d2) ?_ j3 j4 ?_
          · rw [← j2]
            refine evalQ_congr (fun t ht => hlk t fun e => ?_) (.inr hnl)
            rcases (st_dst hst (h.rng k hkE) hi (t := t) (by rw [dst_at ho, e])).2 (looks_at j1 ht) with h5 | h5
            · exact hE (anc_sub hst (D := (· ∈ E)) hclos k (h.rng k hkE) (hclos k hkE) i h5)
            · rcases h5.2 with h6 | h6
              · rw [hanc k h6] at hkl; cases hkl
              · exact hki h6
          · rw [hlk d2 hdk]
            rw [if_neg (by rw [hnl]; simp)] at j5 ⊢
            exact j5

theorem subL_spec {l E : List Nat} (h : subL l E = true) : ∀ p ∈ l, p ∈ E := fun p hp => by
  have := List.all_eq_true.1 h p hp
  simpa using this

theorem find_alt {E : List Nat} {S : St} {K : St → Prop} {i : Nat} (hi : i < ops.size) (hE : i ∉ E) (hp : ∀ p ∈ predsAt ops i, p ∈ E) : ∀ (p : Plan) (seen : List Nat), okP ops A sync E seen p = true → WPl P T ops p S K → i ∉ seen →
    (seen ≠ [] ∨ ∃ j pr p' r, p = .a j pr p' r) → ∃ pr p' o, ops[i]? = some o ∧ (∀ k ∈ E, k ∈ sync ∨ k ∈ ancAt A i ∨ k ∈ pr ∨ ∀ o', ops[k]? = some o' → isLoad o'.op = false) ∧ okP ops A sync (i :: E) [] p' = true ∧
      WOp P T ops S o fun S' => Proms T ops S' pr ∧ WPl P T ops p' S' K
  | .done, seen, h, _, _, hs => by
    rcases hs with hs | ⟨_, _, _, _, hs⟩
    · simp only [okP, Bool.and_eq_true, List.isEmpty_iff] at h; exact absurd h.1 hs
    · cases hs
  | .q _ _, seen, h, _, _, hs => by
    rcases hs with hs | ⟨_, _, _, _, hs⟩
    · simp only [okP, Bool.and_eq_true, List.isEmpty_iff] at h; exact absurd h.1.1.1.1.1 hs
    · cases hs
  | .z, seen, h, _, hns, hs => by
    simp only [okP, Bool.and_eq_true] at h
    have := List.all_eq_true.1 h.2 i (List.mem_range.2 hi)
    simp only [Bool.or_eq_true, List.contains_iff_mem, Bool.not_eq_true'] at this
    rcases this with (h1 | h1) | h1
    · exact absurd h1 hE
    · exact absurd h1 hns
    · have : subL (predsAt ops i) E = true := List.all_eq_true.2 fun p hpp => by simpa using hp p hpp
      rw [this] at h1; cases h1
  | .a j pr p' r, seen, h, hw, hns, hs => by
    simp only [okP, Bool.and_eq_true] at h
    simp only [WPl] at hw
    by_cases hij : j = i
    · subst hij
      obtain ⟨hw1, _⟩ := hw
      split at hw1
      · rename_i o ho
        refine ⟨pr, p', o, ho, fun k hk => ?_, h.1.2, hw1⟩
        have := List.all_eq_true.1 h.1.1.2 k hk
        simp only [Bool.or_eq_true, List.contains_iff_mem] at this
        rcases this with ((h1 | h1) | h1) | h1
        · exact .inl h1
        · exact .inr (.inl h1)
        · exact .inr (.inr (.inl h1))
        · refine .inr (.inr (.inr fun o' ho' => ?_))
          rw [ho'] at h1
          simpa using h1
      · cases hw1
    · exact find_alt hi hE hp r (j :: seen) h.2 hw.2 (fun hm => by
        rcases List.mem_cons.1 hm with h1 | h1
        · exact hij h1.symm
        · exact hns h1) (.inl (by simp))

def cnt (l : List Bool) : Nat := l.countP fun b => !b
theorem cnt_set : ∀ (l : List Bool) (i : Nat), l[i]? = some false → cnt (l.set i true) + 1 = cnt l
  | [], i, h => by simp at h
  | b :: l, 0, h => by simp at h; subst h; simp [cnt]
  | b :: l, i + 1, h => by
    have := cnt_set l i (by simpa using h)
    simp only [cnt, List.set_cons_succ, List.countP_cons] at this ⊢
    omega
theorem cnt_zero {listed : Array Bool} (h : cnt listed.toList = 0) {i : Nat} (hi : i < listed.size) : Ld listed i = true := by
  have := List.countP_eq_zero.1 h listed[i] (by simp)
  simp only [Ld, Array.getD_eq_getD_getElem?, Array.getElem?_eq_getElem hi, Option.getD_some]
  simpa using this
theorem cnt_lt {listed : Array Bool} {i : Nat} (hi : i < listed.size) (h : Ld listed i = false) : cnt (listed.setIfInBounds i true).toList + 1 = cnt listed.toList := by
  rw [Array.toList_setIfInBounds]
  refine cnt_set _ _ ?_
  simp only [Ld, Array.getD_eq_getD_getElem?, Array.getElem?_eq_getElem hi, Option.getD_some] at h
  simp [hi, h]

theorem some_ready {E : List Nat} {listed : Array Bool} : EOk ops E → (∀ i ∈ E, Ld listed i = true) ∨ ∃ i ∈ E, Ld listed i = false ∧ ∀ p ∈ predsAt ops i, Ld listed p = true := by
  induction E with
  | nil => intro _; exact .inl fun i hi => by simp at hi
  | cons j E ih =>
    intro h
    rcases ih h.2 with h1 | ⟨i, h1, h2⟩
    · cases hj : Ld listed j with
      | true =>
        refine .inl fun i hi => ?_
        rcases List.mem_cons.1 hi with rfl | hi
        · exact hj
        · exact h1 i hi
      | false => exact .inr ⟨j, by simp, hj, fun p hp => h1 p (h.1 p hp)⟩
    · exact .inr ⟨i, List.mem_cons_of_mem _ h1, h2⟩

theorem plan_sound (hst : okStat ops A sync = true) (hT : TOk P T) {Γ : Cx} {n : Nat} (hdb : ∀ o ∈ ops.toList, ∀ d, o.dst = some d → d < n) {K : St → Prop} {Q : Exit → Act → World → Prop} (hQ : ∀ S' a' w', S'.n = n → K S' → Rel P Γ S' a' w' → Q .normal a' w') :
    ∀ (fuel : Nat) (p : Plan) (E : List Nat) (S : St) (listed : Array Bool) (a : Act) (w : World), okP ops A sync E [] p = true → WPl P T ops p S K → RI P T ops sync Γ n E S listed a w → cnt listed.toList ≤ fuel → wpAny P .any ops Q fuel listed a w := by
  intro fuel
  induction fuel with
  | zero =>
    intro p
    induction p with
    | done =>
      intro E S listed a w hok hw h hc
      have hall : ∀ i, i < ops.size → Ld listed i = true := fun i hi => cnt_zero (by omega) (by rw [h.size]; exact hi)
      refine ⟨?_, hQ S a w h.n hw (h.rel.of_lk rfl rfl rfl fun k => .inr ?_)⟩
      · rw [List.eq_nil_iff_forall_not_mem]
        intro j hj
        obtain ⟨h1, h2, _⟩ := (ready_iff h.size).1 hj
        rw [hall j h1] at h2; cases h2
      · rw [lk_mask, if_neg]
        intro hb
        obtain ⟨i, h1, h2, _⟩ := bm_true.1 hb
        rw [hall i (h.rng i h1)] at h2; cases h2
    | q i next ih =>
      intro E S listed a w hok hw h hc
      simp only [okP, Bool.and_eq_true, decide_eq_true_eq, Bool.not_eq_true', ← Bool.not_eq_true, List.contains_iff_mem] at hok
      obtain ⟨⟨⟨⟨⟨_, k1⟩, k2⟩, k3⟩, k4⟩, k5⟩ := hok
      simp only [WPl] at hw
      split at hw
      · rename_i o ho
        split at hw
        · rename_i c sv d hq hd
          exact ih (i :: E) _ listed a w k5 hw.2 (h.advance hst k1 k2 k3 (subL_spec k4) ho hq hd hw.1) hc
        · cases hw
      · cases hw
    | a j pr p' r _ _ =>
      intro E S listed a w hok hw h hc
      simp only [okP, Bool.and_eq_true, decide_eq_true_eq, Bool.not_eq_true', ← Bool.not_eq_true, List.contains_iff_mem] at hok
      have := cnt_zero (listed := listed) (i := j) (by omega) (by rw [h.size]; exact hok.1.1.1.1.1.1)
      exact absurd (h.sub j this) hok.1.1.1.1.1.2
    | z =>
      intro E S listed a w hok _ _ _
      simp [okP] at hok
  | succ fuel ihf =>
    intro p
    have real : ∀ (p : Plan) (E : List Nat) (S : St) (listed : Array Bool) (a : Act) (w : World), okP ops A sync E [] p = true → WPl P T ops p S K → RI P T ops sync Γ n E S listed a w → cnt listed.toList ≤ fuel + 1 →
        ∀ i ∈ Region.ready .any ops listed, i ∈ E → wpOp P ops Q i (wpAny P .any ops Q fuel (listed.setIfInBounds i true)) a w := fun p E S listed a w hok hw h hc i hi hE => by
      obtain ⟨h1, h2, h3⟩ := (ready_iff h.size).1 hi
      refine h.doneQ hst hT hdb hE h2 h3 fun a' w' h' => ihf p E S _ a' w' hok hw h' ?_
      have := cnt_lt (by rw [h.size]; exact h1) h2
      omega
    induction p with
    | done =>
      intro E S listed a w hok hw h hc
      have hall : ∀ i, i < ops.size → i ∈ E := fun i hi => by
        simp only [okP, Bool.and_eq_true] at hok
        have := List.all_eq_true.1 hok.2 i (List.mem_range.2 hi)
        simpa using this
      refine ⟨fun hr => ?_, fun i hi => real .done E S listed a w hok hw h hc i hi (hall i ((ready_iff h.size).1 hi).1)⟩
      refine hQ S a w h.n hw (h.rel.of_lk rfl rfl rfl fun k => .inr ?_)
      rw [lk_mask, if_neg]
      intro hb
      obtain ⟨i, h1, h2, _⟩ := bm_true.1 hb
      rcases some_ready (listed := listed) h.eok with h3 | ⟨j, h3, h4, h5⟩
      · rw [h3 i h1] at h2; cases h2
      · have := (ready_iff h.size).2 ⟨h.rng j h3, h4, h5⟩
        rw [hr] at this; simp at this
    | q i next ih =>
      intro E S listed a w hok hw h hc
      simp only [okP, Bool.and_eq_true, decide_eq_true_eq, Bool.not_eq_true', ← Bool.not_eq_true, List.contains_iff_mem] at hok
      obtain ⟨⟨⟨⟨⟨_, k1⟩, k2⟩, k3⟩, k4⟩, k5⟩ := hok
      simp only [WPl] at hw
      split at hw
      · rename_i o ho
        split at hw
        · rename_i c sv d hq hd
          exact ih (i :: E) _ listed a w k5 hw.2 (h.advance hst k1 k2 k3 (subL_spec k4) ho hq hd hw.1) hc
        · cases hw
      · cases hw
    | z =>
      intro E S listed a w hok _ _ _
      simp [okP] at hok
    | a j pr p' r _ _ =>
      intro E S listed a w hok hw h hc
      refine ⟨fun hr => ?_, fun i hi => ?_⟩
      · exfalso
        rcases some_ready (listed := listed) h.eok with h3 | ⟨k, h3, h4, h5⟩
        · have hok' := hok
          simp only [okP, Bool.and_eq_true, decide_eq_true_eq, Bool.not_eq_true', ← Bool.not_eq_true, List.contains_iff_mem] at hok'
          obtain ⟨⟨⟨⟨⟨⟨k1, k2⟩, k3⟩, k4⟩, k5⟩, k6⟩, k7⟩ := hok'
          have hun : Ld listed j = false := by
            cases hh : Ld listed j with
            | false => rfl
            | true => exact absurd (h.sub j hh) k2
          have := (ready_iff h.size).2 ⟨k1, hun, fun p hp => h3 p (subL_spec k4 p hp)⟩
          rw [hr] at this; simp at this
        · have := (ready_iff h.size).2 ⟨h.rng k h3, h4, h5⟩
          rw [hr] at this; simp at this
      · by_cases hE : i ∈ E
        · exact real _ E S listed a w hok hw h hc i hi hE
        · obtain ⟨h1, h2, h3⟩ := (ready_iff h.size).1 hi
          have hpE : ∀ p ∈ predsAt ops i, p ∈ E := fun p hp => h.sub p (h3 p hp)
          obtain ⟨pr', p2, o, ho, hcov, hok2, hw2⟩ := find_alt h1 hE hpE _ [] hok hw (by simp) (.inr ⟨_, _, _, _, rfl⟩)
          refine h.doneA hst hT hdb h1 hE hpE h3 ho hcov hw2 fun S' a' w' hk h' => ihf p2 _ S' _ a' w' hok2 hk h' ?_
          have := cnt_lt (by rw [h.size]; exact h1) h2
          omega

theorem T3_draw (hT : TOk P T) (hm : P.follows .mixedOrders = true) {id : Nat} {S : St} {Q : AX → St → Prop} (rp : RPlan) (hok : okReg ops rp = true) (hd : ∀ o ∈ ops.toList, ∀ d, o.dst = some d → d < S.n) (h : WPl P T ops rp.plan S (Q .normal)) : T3 P (.region id ops true) S Q := fun Γ a w hr => by
  simp only [okReg, Bool.and_eq_true] at hok
  refine wp_region_any hm ?_
  have hl : ∀ i, Ld (Array.replicate ops.size false) i = false := fun i => by
    simp only [Ld, Array.getD_eq_getD_getElem?]
    rcases Nat.lt_or_ge i ops.size with h1 | h1
    · simp [h1]
    · simp [Nat.not_lt.2 h1]
  refine plan_sound hok.1 hT (Γ := Γ) (n := S.n) hd (fun S' a' w' hn hK hr' => ⟨.normal, S', rfl, hn, hK, hr'⟩) ops.size rp.plan [] S _ a _ hok.2 h ?_ ?_
  · refine ⟨by simp, (fun i hi => by rw [hl] at hi; cases hi), (fun i hi => by simp at hi), trivial, (fun i hi => by rw [hl] at hi; cases hi), ?_, (fun i hi => by simp at hi), rfl⟩
    obtain ⟨M, θ, ω, τ, h1⟩ := hr
    have h2 : Rel P Γ S a { w with drawn := w.drawn + 1 } := ⟨M, θ, ω, τ, h1.core.drew, ⟨h1.fr.size, h1.fr.defers, fun k hk => by
      have := h1.fr.slot k hk
      exact this, h1.fr.und⟩, h1.bas⟩
    refine h2.of_lk rfl rfl rfl fun k => .inr ?_
    rw [lk_mask, if_neg]
    intro hb
    obtain ⟨i, h1, _⟩ := bm_true.1 hb
    simp at h1
  · have := List.countP_le_length (p := fun b => !b) (l := (Array.replicate ops.size false).toList)
    simpa [cnt] using this
end
end Go.Abs

namespace Go.Abs
open Go

def LP (P : Program) (c : Code) (S : St) (Q : AX → St → Prop) (_ : Fx Q) : Prop := T3 P c S Q

/-- Code, evaluated; pl: a plan for each region whose order is drawn. -/
def WC (P : Program) (T : TE) (pl : Nat → RPlan) : Code → St → (AX → St → Prop) → Prop
  | .skip, S, Q => Q .normal S
  | .seq x y, S, Q => WC P T pl x S (thenQ (fun S' => WC P T pl y S' Q) Q)
  | .cond c x y, S, Q => match (evO S c).v with
    | .bool b => (evO S c).ok ∧ (b = true → WC P T pl x S Q) ∧ (b = false → WC P T pl y S Q)
    | _ => False
  | .block id c, S, Q => WC P T pl c S (blockQ id Q)
  | .exit id, S, Q => Q (.exit id) S
  | .ret, S, Q => Q .ret S
  | .region _ ops false, S, Q => WOps P T ops ops.toList S (Q .normal)
  | .region id ops true, S, Q => WPl P T ops (pl id).plan S (Q .normal)
  | c, S, Q => LP P c S Q .mk

def codeOk2 (n : Nat) (pl : Nat → RPlan) : Code → Bool
  | .seq x y => codeOk2 n pl x && codeOk2 n pl y
  | .cond _ x y => codeOk2 n pl x && codeOk2 n pl y
  | .block _ c => codeOk2 n pl c
  | .region _ ops false => dstsOk n ops
  | .region id ops true => dstsOk n ops && okReg ops (pl id)
  | _ => true

section
variable {P : Program} {T : TE} {pl : Nat → RPlan}

theorem WC_sound (hT : TOk P T) (hm : P.follows .mixedOrders = true) : ∀ (c : Code) (S : St) (Q : AX → St → Prop), codeOk2 S.n pl c = true → WC P T pl c S Q → T3 P c S Q
  | .skip, S, Q, _, h => T3_skip h
  | .exit id, S, Q, _, h => T3_exit h
  | .ret, S, Q, _, h => T3_ret h
  | .seq x y, S, Q, hc, h => by
    simp only [codeOk2, Bool.and_eq_true] at hc
    simp only [WC] at h
    exact T3_seq (T3.thenMono rfl (WC_sound hT hm x S _ hc.1 h) fun S' hn hS => WC_sound hT hm y S' Q (by rw [hn]; exact hc.2) hS)
  | .block id c, S, Q, hc, h => by
    simp only [codeOk2] at hc
    simp only [WC] at h
    exact T3_block (WC_sound hT hm c S _ hc h)
  | .cond c x y, S, Q, hc, h => by
    simp only [codeOk2, Bool.and_eq_true] at hc
    simp only [WC] at h
    split at h
    · rename_i b hv
      exact T3_cond hv h.1 (fun hb => WC_sound hT hm x S Q hc.1 (h.2.1 hb)) (fun hb => WC_sound hT hm y S Q hc.2 (h.2.2 hb))
    · cases h
  | .region id ops false, S, Q, hc, h => by
    simp only [codeOk2] at hc
    simp only [WC] at h
    exact T3_region hT (dstsOk_spec hc) h
  | .region id ops true, S, Q, hc, h => by
    simp only [codeOk2, Bool.and_eq_true] at hc
    simp only [WC] at h
    exact T3_draw hT hm (pl id) hc.2 (dstsOk_spec hc.1) h
  | .loop c, S, Q, _, h => h
  | .rangeFunc _ _ _ _, S, Q, _, h => h
  | .scope _, S, Q, _, h => h
  | .label _, S, Q, _, h => h
  | .goto _, S, Q, _, h => h
  | .refuse _, S, Q, _, h => h


theorem callG_v {g : FuncId} {svs : List SV} {W : WPt} {K : WPt → SV → Prop} (v : AV) (hf : FSv P g (svs.map (·.v)) v) (hok : ∀ sv ∈ svs, sv.ok) (hbel : belowL 0 (svs.map (·.v))) (hv : belowV 0 v)
    (hk : K W ⟨True, v, .none⟩) : callG P g svs W K .mk := ⟨none, .inl (callP_v hok hbel hv hf hk)⟩

theorem WOp_mono {ops : Array Oper} {o : Oper} {S : St} {K K' : St → Prop} (h : WOp P T ops S o K) (hk : ∀ S', K S' → K' S') : WOp P T ops S o K' := by
  have aw : AW P T (evO S) S.W o.op (fun W' sv => K ({ S with W := W' }.put o.dst sv.noU)) → AW P T (evO S) S.W o.op (fun W' sv => K' ({ S with W := W' }.put o.dst sv.noU)) := fun ha => AW_mono (fun _ _ => rfl) (fun W' sv hh => hk _ hh) ha
  unfold WOp at h ⊢
  split
  · rename_i c sv hq
    rw [hq] at h
    exact ⟨h.1, hk _ h.2⟩
  · rename_i hq
    rw [hq] at h
    simp only at h
    split
    · rename_i hg
      rw [hg] at h
      exact aw h
    · rename_i hg
      rw [hg] at h
      simp only at h
      split
      · rename_i hga
        rw [hga] at h
        refine ⟨h.1, ?_⟩
        rcases h.2 with ⟨k1, k2⟩ | ⟨v, k1, k2⟩
        · exact .inl ⟨fun hb => aw (k1 hb), fun hb => hk _ (k2 hb)⟩
        · exact .inr ⟨v, k1, hk _ k2⟩
      · rename_i hga
        rw [hga] at h
        exact h
theorem WOps_mono {ops : Array Oper} : ∀ {l : List Oper} {S : St} {K K' : St → Prop}, WOps P T ops l S K → (∀ S', K S' → K' S') → WOps P T ops l S K'
  | [], _, _, _, h, hk => hk _ h
  | o :: l, S, K, K', h, hk => WOp_mono h fun S' hS => WOps_mono hS hk
theorem WPl_mono {ops : Array Oper} : ∀ {p : Plan} {S : St} {K K' : St → Prop}, WPl P T ops p S K → (∀ S', K S' → K' S') → WPl P T ops p S K'
  | .done, _, _, _, h, hk => hk _ h
  | .z, _, _, _, _, _ => trivial
  | .q i next, S, K, K', h, hk => by
    simp only [WPl] at h ⊢
    split
    · rename_i o ho
      rw [ho] at h
      simp only at h
      split
      · rename_i c sv d hq hd
        rw [hq, hd] at h
        exact ⟨h.1, WPl_mono h.2 hk⟩
      · rename_i hne
        split at h
        · rename_i c sv d hq hd; exact absurd hd (hne c sv d hq)
        · exact h
    · rename_i ho
      rw [ho] at h
      exact h
  | .a j pr p r, S, K, K', h, hk => by
    simp only [WPl] at h ⊢
    refine ⟨?_, WPl_mono h.2 hk⟩
    have h1 := h.1
    split
    · rename_i o ho
      rw [ho] at h1
      exact WOp_mono h1 fun S' hS => ⟨hS.1, WPl_mono hS.2 hk⟩
    · rename_i ho
      rw [ho] at h1
      exact h1
theorem WC_mono : ∀ {c : Code} {S : St} {Q Q' : AX → St → Prop}, WC P T pl c S Q → (∀ e S', Q e S' → Q' e S') → WC P T pl c S Q'
  | .skip, S, Q, Q', h, hq => hq _ _ h
  | .exit id, S, Q, Q', h, hq => hq _ _ h
  | .ret, S, Q, Q', h, hq => hq _ _ h
  | .seq x y, S, Q, Q', h, hq => WC_mono (c := x) h fun e S' hS => by
    cases e with
    | normal => exact WC_mono (c := y) hS hq
    | exit id => exact hq _ _ hS
    | ret => exact hq _ _ hS
  | .block id c, S, Q, Q', h, hq => WC_mono (c := c) h fun e S' hS => by
    cases e with
    | normal => exact hq _ _ hS
    | exit id' =>
      simp only [blockQ] at hS ⊢
      split
      · rename_i he; rw [if_pos he] at hS; exact hq _ _ hS
      · rename_i he; rw [if_neg he] at hS; exact hq _ _ hS
    | ret => exact hq _ _ hS
  | .cond c x y, S, Q, Q', h, hq => by
    simp only [WC] at h ⊢
    split
    · rename_i b hv
      rw [hv] at h
      exact ⟨h.1, fun hb => WC_mono (c := x) (h.2.1 hb) hq, fun hb => WC_mono (c := y) (h.2.2 hb) hq⟩
    · rename_i hne
      split at h
      · rename_i b hv; exact absurd hv (hne b)
      · exact h
  | .region id ops false, S, Q, Q', h, hq => WOps_mono h fun S' hS => hq _ _ hS
  | .region id ops true, S, Q, Q', h, hq => WPl_mono h fun S' hS => hq _ _ hS
  | .loop c, S, Q, Q', h, hq => T3.mono h hq
  | .rangeFunc _ _ _ _, S, Q, Q', h, hq => T3.mono h hq
  | .scope _, S, Q, Q', h, hq => T3.mono h hq
  | .label _, S, Q, Q', h, hq => T3.mono h hq
  | .goto _, S, Q, Q', h, hq => T3.mono h hq
  | .refuse _, S, Q, Q', h, hq => T3.mono h hq

/-! #### The same, for the simplifier: it leaves what follows alone until its turn comes -/
def eWOps (P : Program) (T : TE) (ops : Array Oper) (l : List Oper) (S : St) (K : St → Prop) (_ : Fx K) : Prop := WOps P T ops l S K
def eWOp (P : Program) (T : TE) (ops : Array Oper) (S : St) (o : Oper) (K : St → Prop) (_ : Fx K) : Prop := WOp P T ops S o K
/-- What is under a guard and makes, writes or calls: either the two cases, or, of a call of a function that changes nothing, its value. -/
def eGA (P : Program) (T : TE) (g : Prop) (op : Op) (dst : Option Tmp) (S : St) (K : St → Prop) (_ : Fx K) : Prop :=
  ((g → AW P T (evO S) S.W op fun W' sv => K ({ S with W := W' }.put dst sv.noU)) ∧ (¬ g → K (S.put dst SV.un))) ∨ ∃ v, (g → pureCall P (evO S) op v) ∧ K (S.put dst ⟨g, v, .und⟩)
def eWPl (P : Program) (T : TE) (ops : Array Oper) (p : Plan) (S : St) (K : St → Prop) (_ : Fx K) : Prop := WPl P T ops p S K
def eAW (P : Program) (T : TE) (ρ : Operand → SV) (W : WPt) (op : Op) (K : WPt → SV → Prop) (_ : Fx K) : Prop := AW P T ρ W op K
def eWC (P : Program) (T : TE) (pl : Nat → RPlan) (c : Code) (S : St) (Q : AX → St → Prop) (_ : Fx Q) : Prop := WC P T pl c S Q

section
variable {P : Program} {T : TE} {pl : Nat → RPlan} {ops : Array Oper} {S : St}
theorem eWOps_nil {K : St → Prop} {d : Fx K} : eWOps P T ops [] S K d = K S := rfl
theorem eWOps_cons {o : Oper} {l : List Oper} {K : St → Prop} {d : Fx K} : eWOps P T ops (o :: l) S K d = eWOp P T ops S o (fun S' => eWOps P T ops l S' K .mk) .mk := rfl
theorem eWOp_eq {o : Oper} {K : St → Prop} {d : Fx K} : eWOp P T ops S o K d = (match evalQ T ops S o with
  | some (c, sv) => c ∧ K (S.put o.dst sv)
  | none => match o.guard with
    | none => eAW P T (evO S) S.W o.op (fun W' sv => K ({ S with W := W' }.put o.dst sv.noU)) .mk
    | some _ => match guardG ops S o with
      | some (c, g) => c ∧ eGA P T g o.op o.dst S K .mk
      | none => False) := rfl
theorem eGA_split {g : Prop} {op : Op} {dst : Option Tmp} {K : St → Prop} (h : (g → eAW P T (evO S) S.W op (fun W' sv => K ({ S with W := W' }.put dst sv.noU)) .mk) ∧ (¬ g → K (S.put dst SV.un))) : eGA P T g op dst S K .mk := .inl h
theorem eGA_v {g : Prop} {op : Op} {dst : Option Tmp} {K : St → Prop} (v : AV) (h : g → pureCall P (evO S) op v) (hk : K (S.put dst ⟨g, v, .und⟩)) : eGA P T g op dst S K .mk := .inr ⟨v, h, hk⟩
theorem eWPl_done {K : St → Prop} {d : Fx K} : eWPl P T ops .done S K d = K S := rfl
theorem eWPl_z {K : St → Prop} {d : Fx K} : eWPl P T ops .z S K d = True := rfl
theorem eWPl_q {i : Nat} {next : Plan} {K : St → Prop} {d : Fx K} : eWPl P T ops (.q i next) S K d = (match ops[i]? with
    | some o => match evalQ T ops S o, o.dst with
      | some (c, sv), some d => c ∧ eWPl P T ops next { S with fr := (d, sv) :: S.fr } K .mk
      | _, _ => False
    | none => False) := rfl
theorem eWPl_a {j : Nat} {pr : List Nat} {p r : Plan} {K : St → Prop} {d : Fx K} : eWPl P T ops (.a j pr p r) S K d = ((match ops[j]? with
    | some o => eWOp P T ops S o (fun S' => Proms T ops S' pr ∧ eWPl P T ops p S' K .mk) .mk
    | none => False) ∧ eWPl P T ops r S K .mk) := rfl
theorem eAW_eq {ρ : Operand → SV} {W : WPt} {op : Op} {K : WPt → SV → Prop} {d : Fx K} : eAW P T ρ W op K d = AW P T ρ W op K := rfl
theorem eWC_skip {Q : AX → St → Prop} {d : Fx Q} : eWC P T pl .skip S Q d = Q .normal S := rfl
theorem eWC_exit {id : Nat} {Q : AX → St → Prop} {d : Fx Q} : eWC P T pl (.exit id) S Q d = Q (.exit id) S := rfl
theorem eWC_ret {Q : AX → St → Prop} {d : Fx Q} : eWC P T pl .ret S Q d = Q .ret S := rfl
theorem eWC_seq {x y : Code} {Q : AX → St → Prop} {d : Fx Q} : eWC P T pl (.seq x y) S Q d = eWC P T pl x S (thenQ (fun S' => eWC P T pl y S' Q .mk) Q) .mk := rfl
theorem eWC_block {id : Nat} {c : Code} {Q : AX → St → Prop} {d : Fx Q} : eWC P T pl (.block id c) S Q d = eWC P T pl c S (blockQ id Q) .mk := rfl
theorem eWC_cond {c : Operand} {x y : Code} {Q : AX → St → Prop} {d : Fx Q} : eWC P T pl (.cond c x y) S Q d = (match (evO S c).v with
    | .bool b => (evO S c).ok ∧ (b = true → eWC P T pl x S Q .mk) ∧ (b = false → eWC P T pl y S Q .mk)
    | _ => False) := rfl
theorem eWC_regF {id : Nat} {Q : AX → St → Prop} {d : Fx Q} : eWC P T pl (.region id ops false) S Q d = eWOps P T ops ops.toList S (Q .normal) .mk := rfl
theorem eWC_regT {id : Nat} {Q : AX → St → Prop} {d : Fx Q} : eWC P T pl (.region id ops true) S Q d = eWPl P T ops (pl id).plan S (Q .normal) .mk := rfl
theorem eWC_loop {c : Code} {Q : AX → St → Prop} {d : Fx Q} : eWC P T pl (.loop c) S Q d = LP P (.loop c) S Q .mk := rfl
end

theorem FSv_code (hT : TOk P T) (hm : P.follows .mixedOrders = true) (pl : Nat → RPlan) {g : FuncId} {fn : Func} (c : Code) (hf : P.funcs[g]? = some fn) (hname : (fn.name == "runtime.NumGoroutine") = false) (hb : fn.body = some c) (n : Nat) (hn : fn.ntmps = n) (hok : codeOk2 n pl c = true)
    {args : List AV} {v : AV} (hlen : args.length ≤ n) (rs : Array ResultVar) (hr : fn.results = rs) (h : eWC P T pl c (S0 args [] [] n) (retV T rs v) .mk) : FSv P g args v := by
  subst hn; subst hr
  exact FSv_body2 hT hf hname hb hlen (WC_sound hT hm c _ _ hok h)
where
  FSv_body2 {P : Program} {T : TE} (hT : TOk P T) {g : FuncId} {fn : Func} {c : Code} (hf : P.funcs[g]? = some fn) (hname : (fn.name == "runtime.NumGoroutine") = false) (hb : fn.body = some c)
    {args : List AV} {v : AV} (hlen : args.length ≤ fn.ntmps) (h : T3 P c (S0 args [] [] fn.ntmps) (retV T fn.results v)) : FSv P g args v :=
  FS.dropTag (FS_body hT hf hname hb hlen h)

/-- A loop that counts. -/
theorem T3_for (hT : TOk P T) (hm : P.follows .mixedOrders = true) (pl : Nat → RPlan) {c : Code} {S : St} {Q : AX → St → Prop} {ι : Type} (n : Nat) (J : Nat → ι → St) (I : Nat → ι → Prop) (m : Nat) (hn : ∀ i x, (J i x).n = m) (hok : codeOk2 m pl c = true)
    (x0 : ι) (hI : I 0 x0) (h0 : Le S (J 0 x0))
    (body : ∀ i x, i < n → I i x → eWC P T pl c (J i x) (thenQ (fun S' => ∃ x', I (i + 1) x' ∧ Le S' (J (i + 1) x')) Q) .mk)
    (last : ∀ x, I n x → eWC P T pl c (J n x) (thenQ (fun _ => False) Q) .mk) : T3 P (.loop c) S Q := by
  refine T3_loopI (ι := Nat × ι) (fun p => J p.1 p.2) (fun p => p.1 ≤ n ∧ I p.1 p.2) (fun p => n - p.1) (0, x0) ⟨Nat.zero_le _, hI⟩ h0 fun p hp => ?_
  obtain ⟨i, x⟩ := p
  obtain ⟨h1, h2⟩ := hp
  refine WC_sound hT hm _ _ _ (by rw [hn]; exact hok) ?_
  rcases Nat.lt_or_ge i n with hlt | hge
  · refine WC_mono (body i x hlt h2) fun e S' h => ?_
    cases e with
    | normal => obtain ⟨x', h3, h4⟩ := h; exact ⟨(i + 1, x'), ⟨hlt, h3⟩, by simp only; omega, h4⟩
    | exit id => exact h
    | ret => exact h
  · have : i = n := Nat.le_antisymm h1 hge
    subst this
    refine WC_mono (last x h2) fun e S' h => ?_
    cases e with
    | normal => exact h.elim
    | exit id => exact h
    | ret => exact h
theorem Le_lit {fr fr' : List (Nat × SV)} {n b : Nat} {Wp : WPt} (h : frLe fr' fr) : Le ⟨fr, n, Wp, b⟩ ⟨fr', n, Wp, b⟩ := Le_fr rfl rfl rfl h
end
end Go.Abs

namespace Go.Abs
open Go

/-! ### Forgetting boxes -/
def tagBel (m : Nat) : Tag → Prop
  | .cell b _ _ => b < m
  | .tup _ => False
  | _ => True
def frBel (m : Nat) : List (Nat × SV) → Prop
  | [] => True
  | (_, sv) :: l => (sv.ok → belowV m sv.v ∧ tagBel m sv.tg) ∧ frBel m l
theorem frBel_lk {m : Nat} : ∀ {fr : List (Nat × SV)}, frBel m fr → ∀ k, (lk fr k).ok → belowV m (lk fr k).v ∧ tagBel m (lk fr k).tg
  | [], _, _, h => h.elim
  | (k', sv) :: l, h, k, hok => by
    simp only [frBel] at h
    simp only [lk] at hok ⊢
    split
    · rename_i he; subst he; rw [if_pos rfl] at hok; exact h.1 hok
    · rename_i he; rw [if_neg he] at hok; exact frBel_lk h.2 k hok

section
variable {P : Program}
theorem take_get {θ : List Nat} {m i x : Nat} (h : (θ.take m)[i]? = some x) : i < m ∧ θ[i]? = some x := by
  rw [List.getElem?_take] at h
  split at h
  · rename_i hi; exact ⟨hi, h⟩
  · cases h

theorem Core.trunc {Γ : Cx} {W : WPt} {M : Snap} {θ : List Nat} {ω : Nat → Option Owner} {τ : Nat → Value} {w : World} (h : Core P Γ W M θ ω τ w) (m : Nat) (hb : Γ.θ0.length ≤ m) : Core P Γ { W with H := W.H.take m } M (θ.take m) ω τ w where
  mle := h.mle
  tle := fun i x hi => by
    have hlt := (List.getElem?_eq_some_iff.1 hi).1
    rw [List.getElem?_take, if_pos (by omega)]
    exact h.tle i x hi
  ext := h.ext
  hlen := by simp [h.hlen]
  inj := fun i j x hi hj => h.inj i j x (take_get hi).2 (take_get hj).2
  tnew := fun i x hi hge => h.tnew i x (take_get hi).2 hge
  tlt := fun i x hi => h.tlt i x (take_get hi).2
  box := fun b bx blk hH hθ => by
    obtain ⟨h1, h2⟩ := take_get hθ
    have hH' : W.H[b]? = some bx := by
      rw [List.getElem?_take, if_pos h1] at hH; exact hH
    have := h.box b bx blk hH' h2
    cases bx with
    | dead => trivial
    | cells l ow =>
      obtain ⟨vs, ty, k1, k2, k3, k4⟩ := this
      exact ⟨vs, ty, k1, Reps.cut l vs k2 (belowL.mono (by omega) l (h.bel b l ow hH')), k3, k4⟩
  bel := fun b l ow hH => by
    have hH' : W.H[b]? = some (.cells l ow) := by
      rw [List.getElem?_take] at hH
      split at hH
      · exact hH
      · cases hH
    exact h.bel b l ow hH'
  live := h.live
  own := fun blk ow hb => ⟨(h.own blk ow hb).1, fun i hi => (h.own blk ow hb).2 i (take_get hi).2⟩
  ow0 := h.ow0
  kp := h.kp
  mkeep := h.mkeep

theorem SlotOk.trunc {W : WPt} {M : Snap} {θ : List Nat} {τ : Nat → Value} {w : World} {sv : SV} {v : Value} (m : Nat) (h : SlotOk W M θ τ w sv v) (hb : belowV m sv.v) (ht : tagBel m sv.tg) : SlotOk { W with H := W.H.take m } M (θ.take m) τ w sv v := by
  refine ⟨Rep.cut _ _ h.1 hb, ?_⟩
  have h2 := h.2
  revert h2 ht
  cases sv.tg with
  | none => intro _ _; trivial
  | und => intro _ _; trivial
  | free => intro _ h2; exact h2
  | tok t => intro _ h2; exact h2
  | cell b o st =>
    intro ht h2
    refine ⟨h2.1, fun he => ?_⟩
    obtain ⟨blk, h3, h4⟩ := h2.2 he
    exact ⟨blk, by rw [List.getElem?_take, if_pos (show b < m from ht)]; exact h3, h4⟩
  | tup l => intro ht; exact ht.elim

/-- The boxes from m on are forgotten. -/
theorem Le_trunc {S : St} (m : Nat) (hm : S.b ≤ m) (fr : List (Nat × SV)) (hfr : frLe fr S.fr) (hb : frBel m fr) : Le S { fr := fr, n := S.n, W := { S.W with H := S.W.H.take m }, b := S.b } := by
  refine ⟨rfl, fun P Γ a w ⟨M, θ, ω, τ, hr⟩ => ⟨M, θ.take m, ω, τ, hr.core.trunc m (Nat.le_trans hr.bas hm), ⟨hr.fr.size, hr.fr.defers, fun k hk => ?_, fun k hk => absurd hk (frLe_und hfr k)⟩, hr.bas⟩⟩
  obtain ⟨h1, h2, h3⟩ := frLe_lk hfr k hk
  obtain ⟨h4, h5⟩ := frBel_lk hb k hk
  have hs := hr.fr.slot k h1
  have : SlotOk S.W M θ τ w (lk fr k) (a.tmps.getD k undef) := ⟨avLe_rep h2 hs.1, hs.2.none_or h3⟩
  exact this.trunc m h4 h5

/-! ### Functions that read boxes -/
def FSr (P : Program) (g : FuncId) (args : List AV) (H : List Box) (v : AV) : Prop := FS P g args [] H fun r => r.v = v ∧ r.tg = .none ∧ r.W.H = H

theorem FSr_of {g : FuncId} {args : List AV} {H : List Box} {v : AV} (hv : belowV H.length v) (h : FS P g args [] H fun r => avLe r.v v ∧ r.W.H.take H.length = H) : FSr P g args H v := by
  refine ⟨h.1, fun w M θ ω τ vals h1 h2 h3 => (h.2 w M θ ω τ vals h1 h2 h3).mono fun e w' ⟨r, u, M', θ', ω', τ', k1, ⟨k2, k2'⟩, k3, k4, _⟩ => ?_⟩
  have hl : θ.length = H.length := h1.hlen
  refine ⟨⟨v, .none, { r.W with H := r.W.H.take H.length }⟩, u, M', θ'.take H.length, ω', τ', k1, ⟨rfl, rfl, k2'⟩, k3.trunc _ (Nat.le_of_eq hl), Rep.cut _ _ (avLe_rep k2 k4) hv, trivial⟩

theorem FSv.toR {g : FuncId} {args : List AV} {v : AV} (h : FSr P g args [] v) : FSv P g args v := h.mono fun r hr => ⟨hr.1, hr.2.1⟩

def retR (T : TE) (rs : Array ResultVar) (v : AV) (H : List Box) : AX → St → Prop := retQ T rs fun r => avLe r.v v ∧ r.W.H.take H.length = H

theorem FSr_code {T : TE} (hT : TOk P T) (hm : P.follows .mixedOrders = true) (pl : Nat → RPlan) {g : FuncId} {fn : Func} (c : Code) (hf : P.funcs[g]? = some fn) (hname : (fn.name == "runtime.NumGoroutine") = false) (hb : fn.body = some c) (n : Nat) (hn : fn.ntmps = n) (hok : codeOk2 n pl c = true)
    {args : List AV} {H : List Box} {v : AV} (hv : belowV H.length v) (hlen : args.length ≤ n) (rs : Array ResultVar) (hr : fn.results = rs) (h : eWC P T pl c (S0 args [] H n) (retR T rs v H) .mk) : FSr P g args H v := by
  subst hn; subst hr
  exact FSr_of hv (FS_body hT hf hname hb hlen (WC_sound hT hm c _ _ hok h))

/-- A call of such a function. -/
theorem callG_r {g : FuncId} {svs : List SV} {W : WPt} {K : WPt → SV → Prop} (v : AV) (hf : FSr P g (svs.map (·.v)) W.H v) (hok : ∀ sv ∈ svs, sv.ok)
    (hk : K { W with stamp := W.stamp + 1 } ⟨True, v, .none⟩) : callG P g svs W K .mk := by
  refine ⟨none, .inr ⟨hok, (fun _ _ _ h => by cases h), _, hf, fun r hr => ?_⟩⟩
  obtain ⟨h1, h2, h3⟩ := hr
  have e1 : resTok r = none := by unfold resTok; rw [h2]
  have e2 : afterSV W r = ⟨True, v, .none⟩ := by unfold afterSV; rw [h1, h2]; rfl
  rw [e1, e2, h3]
  exact hk

/-! ### Code in pieces -/
theorem LP_pre {T : TE} (hT : TOk P T) (hm : P.follows .mixedOrders = true) (pl : Nat → RPlan) (n : Nat) {x y : Code} {S : St} {Q : AX → St → Prop} (hn : S.n = n) (hok : codeOk2 n pl x = true)
    (h : eWC P T pl x S (thenQ (fun S' => LP P y S' Q .mk) Q) .mk) : LP P (.seq x y) S Q .mk := by
  subst hn
  exact T3_seq (WC_sound hT hm x S _ hok h)
theorem LP_le {y : Code} {S S' : St} {Q : AX → St → Prop} (hl : Le S S') (h : LP P y S' Q .mk) : LP P y S Q .mk := T3.le hl h
theorem LP_run {T : TE} (hT : TOk P T) (hm : P.follows .mixedOrders = true) (pl : Nat → RPlan) (n : Nat) {y : Code} {S : St} {Q : AX → St → Prop} (hn : S.n = n) (hok : codeOk2 n pl y = true) (h : eWC P T pl y S Q .mk) : LP P y S Q .mk := by
  subst hn
  exact WC_sound hT hm y S _ hok h
/-- The piece x ends in states that the family J covers. -/
theorem LP_cut {T : TE} (hT : TOk P T) (hm : P.follows .mixedOrders = true) (pl : Nat → RPlan) (n : Nat) {ι : Type} (J : ι → St) {x y : Code} {S : St} {Q : AX → St → Prop} (hn : S.n = n) (hok : codeOk2 n pl x = true)
    (h : eWC P T pl x S (thenQ (fun S' => ∃ i, Le S' (J i)) Q) .mk) (hy : ∀ i, LP P y (J i) Q .mk) : LP P (.seq x y) S Q .mk := by
  subst hn
  refine T3_seq (T3.mono (WC_sound hT hm x S _ hok h) fun e S' h' => ?_)
  cases e with
  | normal => obtain ⟨i, hi⟩ := h'; exact T3.le hi (hy i)
  | exit id => exact h'
  | ret => exact h'
theorem FSv_LP {T : TE} (hT : TOk P T) {g : FuncId} {fn : Func} (c : Code) (hf : P.funcs[g]? = some fn) (hname : (fn.name == "runtime.NumGoroutine") = false) (hb : fn.body = some c) (n : Nat) (hn : fn.ntmps = n)
    {args : List AV} {v : AV} (hlen : args.length ≤ n) (rs : Array ResultVar) (hr : fn.results = rs) (h : LP P c (S0 args [] [] n) (retV T rs v) .mk) : FSv P g args v := by
  subst hn; subst hr
  exact FSv_body hT hf hname hb hlen h
theorem FSr_LP {T : TE} (hT : TOk P T) {g : FuncId} {fn : Func} (c : Code) (hf : P.funcs[g]? = some fn) (hname : (fn.name == "runtime.NumGoroutine") = false) (hb : fn.body = some c) (n : Nat) (hn : fn.ntmps = n)
    {args : List AV} {H : List Box} {v : AV} (hv : belowV H.length v) (hlen : args.length ≤ n) (rs : Array ResultVar) (hr : fn.results = rs) (h : LP P c (S0 args [] H n) (retR T rs v H) .mk) : FSr P g args H v := by
  subst hn; subst hr
  exact FSr_of hv (FS_body hT hf hname hb hlen h)
end
end Go.Abs

namespace Go.Abs
open Go

/-! ### The weight of a value -/
mutual
def wt : AV → Nat
  | .str s => 1 + s.length
  | .agg l => 1 + wts l
  | .tup l => 1 + wts l
  | .sl _ es => 1 + wts es
  | _ => 1
def wts : List AV → Nat
  | [] => 0
  | a :: l => wt a + wts l
end
theorem wt_pos (a : AV) : 1 ≤ wt a := by cases a <;> simp only [wt] <;> omega
theorem wts_append : ∀ (l l' : List AV), wts (l ++ l') = wts l + wts l'
  | [], l' => by simp [wts]
  | a :: l, l' => by simp only [List.cons_append, wts, wts_append l l']; omega
theorem wts_take_succ (l : List AV) (i : Nat) (h : i < l.length) : wts (l.take (i + 1)) = wts (l.take i) + wt l[i] := by
  rw [List.take_succ_eq_append_getElem h, wts_append]; simp [wts]
theorem wts_take_le (l : List AV) (i : Nat) : wts (l.take i) ≤ wts l := by
  have : wts l = wts (l.take i) + wts (l.drop i) := by rw [← wts_append, List.take_append_drop]
  omega
theorem wts_mem {a : AV} : ∀ {l : List AV}, a ∈ l → wt a ≤ wts l
  | b :: l, h => by
    simp only [wts]
    rcases List.mem_cons.1 h with rfl | h
    · omega
    · have := wts_mem h; omega
theorem wts_length : ∀ (l : List AV), l.length ≤ wts l
  | [] => by simp [wts]
  | a :: l => by have := wts_length l; have := wt_pos a; simp only [wts, List.length_cons]; omega


/-! ### How much a datum holds -/
mutual
def bulkD {H : Type} : DataW H → Nat
  | .lit (.string bytes) => bytes.length + 1
  | .slice elems spare => bulkL elems + bulkL spare + 1
  | .agg parts => bulkL parts + 1
  | _ => 1
def bulkL {H : Type} : List (DataW H) → Nat
  | [] => 0
  | d :: r => bulkD d + bulkL r
end
theorem bulkL_append {H : Type} : ∀ (l r : List (DataW H)), bulkL (l ++ r) = bulkL l + bulkL r
  | [], r => by simp [bulkL]
  | d :: l, r => by simp only [List.cons_append, bulkL, bulkL_append l r]; omega
theorem wts_bulk {H : Type} {α : Type} (f : α → AV) : ∀ (r : List α) (xs : List (DataW H)), r.length = xs.length → (∀ (i : Nat) (a : α) (x : DataW H), r[i]? = some a → xs[i]? = some x → wt (f a) ≤ bulkD x) → wts (r.map f) ≤ bulkL xs
  | [], xs, _, _ => by simp [wts]
  | a :: r, [], h, _ => by simp at h
  | a :: r, x :: xs, h, hp => by
    have h0 := hp 0 a x rfl rfl
    have h1 := wts_bulk f r xs (by simpa using h) fun i b y hb hy => hp (i + 1) b y (by simpa using hb) (by simpa using hy)
    simp only [List.map_cons, wts, bulkL]; omega
end Go.Abs

namespace Go.Abs
open Go

def ShpF (p : Nat → List AV → Prop) : List (Nat × Nat) → List AV → Prop
  | [], l => l = []
  | (t, _) :: fs, l => ∃ l1 l2, l = l1 ++ l2 ∧ p t l1 ∧ ShpF p fs l2
def sizeT (T : TE) (t : Nat) : Nat := ((T t).map (·.size)).getD 0
def isAggT (T : TE) (t : Nat) : Bool := match T t with
  | some ti => isAggD ti.d
  | none => false
def boxE (T : TE) (t : Nat) (l : List AV) : AV := if isAggT T t then .agg l else l.headD .unk
/-- The shape of the cells of a value of a type. -/
def Shp (T : TE) : Nat → Nat → List AV → Prop
  | 0, _, _ => False
  | k + 1, t, l => match (T t).map TI.d with
    | some (.int q) => ∃ n, l = [.int q n] ∧ (Lit.int q n).wf = true
    | some .bool => ∃ b, l = [.bool b]
    | some .str => ∃ s, l = [.str s] ∧ s.length ≤ maxLen
    | some (.slice e) => ∃ ls : List (List AV), l = [.sl (sizeT T e) (ls.map (boxE T e))] ∧ ls.length ≤ maxLen ∧ ∀ x ∈ ls, Shp T k e x
    | some (.struct fs) => ShpF (Shp T k) fs l
    | some (.array n e) => ∃ ls : List (List AV), ls.length = n ∧ l = ls.flatten ∧ ∀ x ∈ ls, Shp T k e x
    | _ => False
def contig (T : TE) (S : List Nat) : Nat → List (Nat × Nat) → Nat → Bool
  | off, [], n => off == n
  | off, (t, o) :: r, n => (o == off) && S.contains t && contig T S (off + sizeT T t) r n
/-- A set of types that are made of each other. -/
def closedAt (T : TE) (S : List Nat) (t : Nat) : Bool := match T t with
  | some ti => decide (1 ≤ ti.size) && match ti.d with
    | .int _ | .bool | .str => ti.size == 1
    | .slice e => ti.size == 1 && S.contains e
    | .struct fs => contig T S 0 fs ti.size
    | .array n e => S.contains e && (ti.size == n * sizeT T e)
    | _ => false
  | none => false

/-- Cells' values, one by one. -/
def RepC (M : Snap) : List AV → List Value → Prop
  | [], vs => vs = []
  | a :: l, vs => ∃ v vs', vs = v :: vs' ∧ (v.oneCell' = true ∧ Rep M [] a v) ∧ RepC M l vs'
theorem RepC.reps {M : Snap} : ∀ {l : List AV} {vs : List Value}, RepC M l vs → Reps M [] l vs
  | [], vs, h => by simp only [RepC] at h; simp only [Reps]; exact h
  | a :: l, vs, h => by
    simp only [RepC] at h; obtain ⟨v, vs', rfl, ⟨_, h1⟩, h2⟩ := h
    simp only [Reps]; exact ⟨v, vs', rfl, h1, h2.reps⟩
theorem RepC.append {M : Snap} : ∀ {l l' : List AV} {vs vs' : List Value}, RepC M l vs → RepC M l' vs' → RepC M (l ++ l') (vs ++ vs')
  | [], l', vs, vs', h, h' => by simp only [RepC] at h; subst h; simpa using h'
  | a :: l, l', vs, vs', h, h' => by
    simp only [RepC] at h; obtain ⟨v, ws, rfl, h1, h2⟩ := h
    simp only [List.cons_append, RepC]; exact ⟨v, ws ++ vs', rfl, h1, RepC.append h2 h'⟩
theorem RepC.one {M : Snap} {a : AV} {v : Value} (h1 : v.oneCell' = true) (h2 : Rep M [] a v) : RepC M [a] [v] := by
  simp only [RepC]; exact ⟨v, [], rfl, ⟨h1, h2⟩, rfl⟩
theorem RepC.length {M : Snap} : ∀ {l : List AV} {vs : List Value}, RepC M l vs → vs.length = l.length
  | [], vs, h => by simp only [RepC] at h; subst h; rfl
  | a :: l, vs, h => by
    simp only [RepC] at h; obtain ⟨v, vs', rfl, _, h2⟩ := h; simp [h2.length]
theorem RepC.cells {M : Snap} {b : Nat} : ∀ {l : List AV} {vs : List Value} {off : Nat}, RepC M l vs → (∀ (j : Nat) (v : Value), vs[j]? = some v → M b (off + j) = some v) → Cells M l b off
  | [], vs, off, h, _ => by simp only [Cells]
  | a :: l, vs, off, h, hm => by
    simp only [RepC] at h; obtain ⟨v, vs', rfl, h1, h2⟩ := h
    simp only [Cells]
    refine ⟨⟨v, by simpa using hm 0 v rfl, h1.1, h1.2⟩, h2.cells fun j u hj => ?_⟩
    have := hm (j + 1) u (by simpa using hj)
    rw [Nat.add_assoc, Nat.add_comm 1 j]; exact this

theorem cellsOf_info {P : Program} {T : TE} (hT : TOk P T) {t : Nat} {ti : TI} (h : T t = some ti) : P.cellsOf t = ti.size := by
  obtain ⟨i, z, h1, h2, _⟩ := hT.info t ti h
  unfold Program.cellsOf
  rw [h1]; simpa using h2
theorem cellsOf_sizeT {P : Program} {T : TE} (hT : TOk P T) {S : List Nat} (hS : ∀ t ∈ S, closedAt T S t = true) {t : Nat} (h : t ∈ S) : P.cellsOf t = sizeT T t ∧ 1 ≤ sizeT T t := by
  have := hS t h
  unfold closedAt at this
  unfold sizeT
  cases ht : T t with
  | none => simp [ht] at this
  | some ti =>
    simp only [ht, Bool.and_eq_true, decide_eq_true_eq] at this
    exact ⟨by simpa using cellsOf_info hT ht, by simpa using this.1⟩

theorem cellsOf_boxE {T : TE} {k t : Nat} {l : List AV} (h : Shp T k t l) (hl : 1 ≤ l.length) : cellsOf (boxE T t l) = l := by
  cases k with
  | zero => simp only [Shp] at h
  | succ k =>
    unfold boxE isAggT
    simp only [Shp] at h
    cases ht : T t with
    | none => simp [ht] at h
    | some ti =>
      obtain ⟨d, z, b, v⟩ := ti
      simp only [ht, Option.map_some] at h
      cases d <;> simp only [isAggD, Bool.false_eq_true, if_true, if_false] at h ⊢
      · obtain ⟨n, rfl, _⟩ := h; rfl
      · obtain ⟨n, rfl⟩ := h; rfl
      · obtain ⟨n, rfl, _⟩ := h; rfl
      · obtain ⟨ls, rfl, _⟩ := h; rfl
      · rfl
      · rfl

theorem wts_boxE {T : TE} {k t : Nat} {l : List AV} (h : Shp T k t l) : wts l ≤ wt (boxE T t l) := by
  cases k with
  | zero => simp only [Shp] at h
  | succ k =>
    unfold boxE isAggT
    simp only [Shp] at h
    cases ht : T t with
    | none => simp [ht] at h
    | some ti =>
      obtain ⟨d, z, b, v⟩ := ti
      simp only [ht, Option.map_some] at h
      cases d <;> simp only [isAggD, Bool.false_eq_true, if_true, if_false] at h ⊢
      · obtain ⟨n, rfl, _⟩ := h; exact Nat.le_refl _
      · obtain ⟨n, rfl⟩ := h; exact Nat.le_refl _
      · obtain ⟨n, rfl, _⟩ := h; exact Nat.le_refl _
      · obtain ⟨ls, rfl, _⟩ := h; exact Nat.le_refl _
      · simp only [wt]; omega
      · simp only [wt]; omega

theorem Row_ofC {M : Snap} {z b : Nat} : ∀ (es : List AV) (off : Nat), (∀ (i : Nat) (h : i < es.length), (cellsOf es[i]).length = z ∧ Cells M (cellsOf es[i]) b (off + i * z)) → Row M es z b off
  | [], off, _ => by simp only [Row]
  | e :: es, off, h => by
    rw [Row_cons]
    refine ⟨(h 0 (by simp)).1, by have := (h 0 (by simp)).2; rw [Nat.zero_mul, Nat.add_zero] at this; exact this, Row_ofC es _ fun i hi => ?_⟩
    have := h (i + 1) (by simpa using hi)
    simp only [List.getElem_cons_succ] at this
    refine ⟨this.1, ?_⟩
    have e2 := this.2
    rwa [Nat.add_mul, Nat.one_mul, Nat.add_comm (i * z) z, ← Nat.add_assoc] at e2

theorem choose_list {α β : Type} {p : α → β → Prop} : ∀ (l : List α), (∀ x ∈ l, ∃ y, p x y) → ∃ r : List β, r.length = l.length ∧ ∀ (i : Nat) (x : α) (y : β), l[i]? = some x → r[i]? = some y → p x y
  | [], _ => ⟨[], rfl, fun i x y h => by simp at h⟩
  | a :: l, h => by
    obtain ⟨y, hy⟩ := h a (by simp)
    obtain ⟨r, hr, hp⟩ := choose_list l fun x hx => h x (by simp [hx])
    refine ⟨y :: r, by simp [hr], fun i x z hx hz => ?_⟩
    cases i with
    | zero => simp at hx hz; subst hx; subst hz; exact hy
    | succ i => exact hp i x z (by simpa using hx) (by simpa using hz)

theorem mapM_cons_some {α β : Type} {f : α → Option β} {a : α} {l : List α} {r : List β} (h : (a :: l).mapM f = some r) : ∃ y r', f a = some y ∧ l.mapM f = some r' ∧ r = y :: r' := by
  rw [List.mapM_cons] at h
  simp only [Option.bind_eq_bind, Option.bind_eq_some_iff, Option.pure_def, Option.some.injEq] at h
  obtain ⟨y, hy, r', hr, e⟩ := h
  exact ⟨y, r', hy, hr, e.symm⟩

theorem fields_shp {H : Type} {P : Program} {T : TE} {S : List Nat} {M : Snap} {k : Nat} {cs : List Value} {g : Nat → List Value → Option (DataW H × List MemPlace)} (hz : ∀ t ∈ S, P.cellsOf t = sizeT T t)
    (hg : ∀ t cs x, t ∈ S → g t cs = some x → ∃ l, Shp T k t l ∧ RepC M l cs ∧ l.length = sizeT T t ∧ wt (boxE T t l) ≤ bulkD x.1) : ∀ (fl : List Field) (off : Nat) (xs : List (DataW H × List MemPlace)), contig T S off (fl.map fun f => (f.type, f.offset)) cs.length = true →
    fl.mapM (fun f => g f.type ((cs.drop f.offset).take (P.cellsOf f.type))) = some xs → ∃ l, ShpF (Shp T k) (fl.map fun f => (f.type, f.offset)) l ∧ RepC M l (cs.drop off) ∧ off + l.length = cs.length ∧ wts l ≤ bulkL (xs.map (·.1))
  | [], off, xs, hc, h => by
    simp only [List.map_nil, contig, beq_iff_eq] at hc
    exact ⟨[], by simp only [List.map_nil, ShpF], by simp only [RepC, hc, List.drop_length], by simpa using hc, by simp [wts]⟩
  | f :: fl, off, xs, hc, h => by
    simp only [List.map_cons, contig, Bool.and_eq_true, beq_iff_eq, and_assoc] at hc
    obtain ⟨ho, hm, hc⟩ := hc
    have hm : f.type ∈ S := by simpa using hm
    obtain ⟨y, r', h1, h2, rfl⟩ := mapM_cons_some h
    obtain ⟨l1, a1, a2, a3, a4⟩ := hg _ _ _ hm h1
    obtain ⟨l2, b1, b2, b3, b4⟩ := fields_shp hz hg fl _ r' hc h2
    have a5 := wts_boxE a1
    refine ⟨l1 ++ l2, ?_, ?_, by rw [List.length_append, a3]; omega, by rw [wts_append]; simp only [List.map_cons, bulkL]; omega⟩
    · simp only [List.map_cons, ShpF]; exact ⟨l1, l2, rfl, a1, b1⟩
    · have e : cs.drop off = (cs.drop off).take (sizeT T f.type) ++ cs.drop (off + sizeT T f.type) := by
        rw [← List.drop_drop]; exact (List.take_append_drop _ _).symm
      rw [e]
      refine RepC.append ?_ b2
      rw [hz _ hm, ho] at a2
      exact a2

theorem wts_flat {H : Type} {T : TE} {k e : Nat} : ∀ (r : List (List AV)) (xs : List (DataW H)), r.length = xs.length → (∀ x ∈ r, Shp T k e x) → (∀ (i : Nat) (a : List AV) (x : DataW H), r[i]? = some a → xs[i]? = some x → wt (boxE T e a) ≤ bulkD x) → wts r.flatten ≤ bulkL xs
  | [], xs, _, _, _ => by simp [wts]
  | a :: r, [], h, _, _ => by simp at h
  | a :: r, x :: xs, h, hs, hp => by
    have h0 := hp 0 a x rfl rfl
    have h1 := wts_flat r xs (by simpa using h) (fun y hy => hs y (by simp [hy])) fun i b y hb hy => hp (i + 1) b y (by simpa using hb) (by simpa using hy)
    have h2 := wts_boxE (hs a (by simp))
    rw [List.flatten_cons, wts_append]
    simp only [bulkL]; omega

theorem flat_shp {M : Snap} {z : Nat} {cs : List Value} : ∀ (ls : List (List AV)) (off : Nat), (∀ (i : Nat) (l : List AV), ls[i]? = some l → RepC M l ((cs.drop (off + i * z)).take z)) → off + ls.length * z = cs.length →
    RepC M ls.flatten (cs.drop off)
  | [], off, _, h => by
    have : off = cs.length := by simpa using h
    simp only [List.flatten_nil, RepC, this, List.drop_length]
  | l :: ls, off, h, hl => by
    have h0 := h 0 l rfl
    rw [Nat.zero_mul, Nat.add_zero] at h0
    have hl' : off + z + ls.length * z = cs.length := by rw [← hl, List.length_cons, Nat.add_mul, Nat.one_mul]; omega
    have e : cs.drop off = (cs.drop off).take z ++ cs.drop (off + z) := by
      rw [← List.drop_drop]; exact (List.take_append_drop _ _).symm
    rw [e, List.flatten_cons]
    refine RepC.append h0 (flat_shp ls _ (fun i l' hi => ?_) hl')
    have := h (i + 1) l' (by simpa using hi)
    rwa [Nat.add_mul, Nat.one_mul, Nat.add_comm (i * z) z, ← Nat.add_assoc] at this

theorem trod_shp {H : Type} {enc : TypeId × Value → H} {P : Program} {T : TE} (hT : TOk P T) {S : List Nat} (hS : ∀ t ∈ S, closedAt T S t = true) {w : World} {base : Nat} {spare : Nat → Bool} {held : Bool}
    {M : Snap} (hM : ∀ b o v, w.cell? ⟨b, o, none⟩ = some v → M b o = some v) : ∀ (fuel : Nat) (t : Nat) (cs : List Value) (d : DataW H) (ps : List MemPlace), t ∈ S →
    DataW.trod enc P w base spare held fuel t cs = some (d, ps) → ∃ l, Shp T fuel t l ∧ RepC M l cs ∧ l.length = sizeT T t ∧ wt (boxE T t l) ≤ bulkD d
  | 0, t, cs, d, ps, _, h => by simp [DataW.trod] at h
  | k + 1, t, cs, d, ps, ht, h => by
    have IH := trod_shp hT hS hM (enc := enc) (base := base) (spare := spare) (held := held) k
    have hc := hS t ht
    unfold closedAt at hc
    cases hti : T t with
    | none => simp [hti] at hc
    | some ti =>
      simp only [hti, Bool.and_eq_true, decide_eq_true_eq] at hc
      obtain ⟨_, hc⟩ := hc
      have hdesc := hT.desc t ti hti
      have hsz : sizeT T t = ti.size := by simp [sizeT, hti]
      have hcz := cellsOf_info hT hti
      rw [hsz]
      have hbx : ∀ l : List AV, boxE T t l = if isAggD ti.d then .agg l else l.headD .unk := fun l => by simp only [boxE, isAggT, hti]
      simp only [Shp, hti, Option.map_some, hbx]
      unfold DataW.trod at h
      cases hd : ti.d <;> simp only [hd, DescOk, isAggD, Bool.false_eq_true, if_true, if_false] at hdesc hc ⊢ <;> try (simp only [Bool.false_eq_true] at hc)
      case int q =>
        rw [hdesc] at h
        simp only [beq_iff_eq] at hc
        rcases cs with _ | ⟨c, _ | ⟨c', cs⟩⟩ <;> try (simp at h; done)
        cases c <;> try (simp at h; done)
        simp only [Option.ite_none_right_eq_some, and_assoc] at h
        obtain ⟨rfl, hw, h⟩ := h
        cases h
        rename_i q n
        exact ⟨[.int q n], ⟨n, rfl, hw⟩, .one rfl (by simp only [Rep]), by simp [hc], by simp [wt, bulkD]⟩
      case bool =>
        rw [hdesc] at h
        simp only [beq_iff_eq] at hc
        rcases cs with _ | ⟨c, _ | ⟨c', cs⟩⟩ <;> try (simp at h; done)
        cases c <;> try (simp at h; done)
        rename_i b
        simp only [Option.some.injEq, Prod.mk.injEq] at h
        obtain ⟨rfl, _⟩ := h
        exact ⟨[.bool b], ⟨b, rfl⟩, .one rfl (by simp only [Rep]), by simp [hc], by simp [wt, bulkD]⟩
      case str =>
        rw [hdesc] at h
        simp only [beq_iff_eq] at hc
        rcases cs with _ | ⟨c, _ | ⟨c', cs⟩⟩ <;> try (simp at h; done)
        cases c <;> try (simp at h; done)
        rename_i s
        simp only [Option.ite_none_right_eq_some] at h
        obtain ⟨h1, h⟩ := h
        cases h
        exact ⟨_, ⟨s.data.toList, rfl, by simpa using h1⟩, .one rfl (by simp only [Rep, Array.toArray_toList]), by simp [hc], by simp [wt, bulkD, Nat.add_comm]⟩
      case slice e =>
        rw [hdesc] at h
        simp only [beq_iff_eq, Bool.and_eq_true] at hc
        rcases cs with _ | ⟨c, _ | ⟨c', cs⟩⟩ <;> try (simp at h; done)
        cases c <;> try (simp at h; done)
        rename_i a len cap
        have he : e ∈ S := by simpa using hc.2
        obtain ⟨hze, hz1⟩ := cellsOf_sizeT hT hS he
        cases a with
        | none =>
          rcases len with _ | len <;> try (simp at h; done)
          rcases cap with _ | cap <;> try (simp at h; done)
          simp only [Option.some.injEq, Prod.mk.injEq] at h
          obtain ⟨rfl, _⟩ := h
          exact ⟨_, ⟨[], rfl, Nat.zero_le _, fun x hx => by simp at hx⟩, .one rfl (by simp only [Rep, List.map_nil]; exact ⟨none, 0, rfl, Nat.zero_le _, fun h => absurd rfl h⟩), by simp [hc.1], by simp [wt, wts, bulkD]⟩
        | some a =>
          simp only [Option.ite_none_right_eq_some] at h
          obtain ⟨⟨hb, hlc, hcm⟩, h⟩ := h
          simp only [Option.bind_eq_some_iff, Option.map_eq_some_iff] at h
          obtain ⟨els, hels, rest, _, hd'⟩ := h
          cases hd'
          have hx : ∀ i, i < len → ∃ cs' x, els[i]? = some x ∧ w.cells? base (a.add (i * sizeT T e)) (sizeT T e) = some cs' ∧ DataW.trod enc P w base spare held k e cs' = some x := fun i hi => by
            have h1 := mapM_some_get hels i i (by simp [hi])
            have h2 : i < els.length := by rw [mapM_some_length hels]; simpa using hi
            rw [List.getElem?_eq_getElem h2, hze] at h1
            simp only [Option.bind_eq_some_iff] at h1
            obtain ⟨cs', h3, h4⟩ := h1
            exact ⟨cs', _, List.getElem?_eq_getElem h2, h3, h4⟩
          have hsp : 0 < len → a.spot = none := fun h0 => by
            obtain ⟨cs', x, _, h1, _⟩ := hx 0 h0
            obtain ⟨_, h2, h3⟩ := World.cells?_some h1
            have h4 := h3 0 hz1
            rw [List.getElem?_eq_getElem (by omega), Nat.zero_mul] at h4
            simp only [Addr.add, if_true] at h4
            unfold World.cell? at h4
            split at h4 <;> try (simp at h4; done)
            split at h4
            · simp at h4
            · rename_i hs; simpa using hs
          obtain ⟨r, hr, hp⟩ := choose_list (p := fun i l => Shp T k e l ∧ l.length = sizeT T e ∧ Cells M l a.block (a.off + i * sizeT T e) ∧ ∀ x, els[i]? = some x → wt (boxE T e l) ≤ bulkD x.1) (List.range len) (fun i hi => by
            have hi : i < len := by simpa using hi
            obtain ⟨cs', ⟨d', ps'⟩, h0, h1, h2⟩ := hx i hi
            obtain ⟨l, b1, b2, b3, b4⟩ := IH e cs' d' ps' he h2
            obtain ⟨_, h4, h5⟩ := World.cells?_some h1
            refine ⟨l, b1, b3, b2.cells fun j v hj => ?_, fun x hx => by rw [h0] at hx; cases hx; exact b4⟩
            have hj' : j < sizeT T e := by
              have := (List.getElem?_eq_some_iff.1 hj).1
              omega
            have h6 := h5 j hj'
            rw [hj] at h6
            refine hM _ _ _ ?_
            rw [← h6]
            have hs := hsp (by omega)
            congr 1
            obtain ⟨ab, ao, asp⟩ := a
            simp only at hs; subst hs
            simp only [Addr.add]
            split <;> split <;> simp_all)
          have hr : r.length = len := by simpa using hr
          have hp' : ∀ (i : Nat) (l : List AV), r[i]? = some l → Shp T k e l ∧ l.length = sizeT T e ∧ Cells M l a.block (a.off + i * sizeT T e) ∧ ∀ x, els[i]? = some x → wt (boxE T e l) ≤ bulkD x.1 := fun i l hl => by
            have : i < len := by rw [← hr]; exact (List.getElem?_eq_some_iff.1 hl).1
            exact hp i i l (by simp [this]) hl
          have hlel : els.length = len := by rw [mapM_some_length hels]; simp
          refine ⟨_, ⟨r, rfl, by omega, fun x hx => ?_⟩, .one rfl ?_, by simp [hc.1], ?_⟩
          rotate_left 2
          · have := wts_bulk (boxE T e) r (els.map (·.1)) (by simp [hr, hlel]) fun i a x ha hx => by
              rw [List.getElem?_map, Option.map_eq_some_iff] at hx
              obtain ⟨y, hy, rfl⟩ := hx
              exact (hp' i a ha).2.2.2 y hy
            simp only [List.headD_cons, wt, bulkD]; omega
          · obtain ⟨i, hi⟩ := List.getElem?_of_mem hx
            exact (hp' i x hi).1
          · simp only [Rep]
            refine ⟨some a, cap, by rw [List.length_map, hr], by rw [List.length_map, hr]; exact hlc, fun hne => ?_⟩
            have hl0 : 0 < len := by
              rw [← hr]
              cases r with
              | nil => simp at hne
              | cons => simp
            have hs := hsp hl0
            obtain ⟨ab, ao, asp⟩ := a
            simp only at hs; subst hs
            refine ⟨ab, ao, rfl, Row_ofC _ _ fun i hi => ?_⟩
            have hi' : i < r.length := by simpa using hi
            obtain ⟨q1, q2, q3, _⟩ := hp' i r[i] (List.getElem?_eq_getElem hi')
            rw [List.getElem_map, cellsOf_boxE q1 (by omega)]
            exact ⟨q2, q3⟩
      case struct fs =>
        obtain ⟨fields, hu, rfl⟩ := hdesc
        rw [hu] at h
        have hall : ∀ t ∈ S, P.cellsOf t = sizeT T t := fun t h => (cellsOf_sizeT hT hS h).1
        have h' : cs.length = ti.size ∧ ∃ xs, (fields.toList.mapM fun f => DataW.trod enc P w base spare held k f.type ((cs.drop f.offset).take (P.cellsOf f.type))) = some xs ∧ d = .agg (xs.map (·.1)) := by
          rw [← hcz]
          rcases cs with _ | ⟨c, _ | ⟨c', cs⟩⟩ <;> (try cases c) <;> simp only [Option.ite_none_right_eq_some, Option.map_eq_some_iff, Prod.mk.injEq] at h <;> exact ⟨h.1, _, h.2.choose_spec.1, h.2.choose_spec.2.1.symm⟩
        obtain ⟨hl, xs, hxs, rfl⟩ := h'
        rw [← hl] at hc
        obtain ⟨l, a1, a2, a3, a4⟩ := fields_shp (g := fun t cs => DataW.trod enc P w base spare held k t cs) hall (fun t cs x ht hx => IH t cs x.1 x.2 ht hx) fields.toList 0 xs hc hxs
        exact ⟨l, a1, a2, by omega, by simp only [wt, bulkD]; omega⟩
      case array n e =>
        rw [hdesc] at h
        simp only [Bool.and_eq_true, beq_iff_eq] at hc
        have he : e ∈ S := by simpa using hc.1
        obtain ⟨hze, hz1⟩ := cellsOf_sizeT hT hS he
        have h' : cs.length = ti.size ∧ ∃ xs, ((List.range n).mapM fun i => DataW.trod enc P w base spare held k e ((cs.drop (i * sizeT T e)).take (sizeT T e))) = some xs ∧ d = .agg (xs.map (·.1)) := by
          rw [← hcz, ← hze]
          rcases cs with _ | ⟨c, _ | ⟨c', cs⟩⟩ <;> (try cases c) <;> simp only [Option.ite_none_right_eq_some, Option.map_eq_some_iff, Prod.mk.injEq] at h <;> exact ⟨h.1, _, h.2.choose_spec.1, h.2.choose_spec.2.1.symm⟩
        obtain ⟨hl, xs, hxs, rfl⟩ := h'
        have hlx : xs.length = n := by rw [mapM_some_length hxs]; simp
        obtain ⟨r, hr, hp⟩ := choose_list (p := fun i l => Shp T k e l ∧ l.length = sizeT T e ∧ RepC M l ((cs.drop (i * sizeT T e)).take (sizeT T e)) ∧ ∀ x, xs[i]? = some x → wt (boxE T e l) ≤ bulkD x.1) (List.range n) (fun i hi => by
          have hi : i < n := by simpa using hi
          have h1 := mapM_some_get hxs i i (by simp [hi])
          have h2 : i < xs.length := by omega
          rw [List.getElem?_eq_getElem h2] at h1
          obtain ⟨l, b1, b2, b3, b4⟩ := IH e _ _ _ he h1
          exact ⟨l, b1, b3, b2, fun x hx => by rw [List.getElem?_eq_getElem h2] at hx; cases hx; exact b4⟩)
        have hr : r.length = n := by simpa using hr
        have hp' : ∀ (i : Nat) (l : List AV), r[i]? = some l → Shp T k e l ∧ l.length = sizeT T e ∧ RepC M l ((cs.drop (i * sizeT T e)).take (sizeT T e)) ∧ ∀ x, xs[i]? = some x → wt (boxE T e l) ≤ bulkD x.1 := fun i l hl => by
          have : i < n := by rw [← hr]; exact (List.getElem?_eq_some_iff.1 hl).1
          exact hp i i l (by simp [this]) hl
        have hfl : RepC M r.flatten cs := by
          have := flat_shp (M := M) (z := sizeT T e) (cs := cs) r 0 (fun i l hi => by simpa using (hp' i l hi).2.2.1) (by rw [hr, hl, hc.2]; omega)
          simpa using this
        have hsh : ∀ x ∈ r, Shp T k e x := fun x hx => by
          obtain ⟨i, hi⟩ := List.getElem?_of_mem hx
          exact (hp' i x hi).1
        refine ⟨r.flatten, ⟨r, hr, rfl, hsh⟩, hfl, by rw [← hfl.length, hl], ?_⟩
        have := wts_flat r (xs.map (·.1)) (by simp [hr, hlx]) hsh fun i a x ha hx => by
          rw [List.getElem?_map, Option.map_eq_some_iff] at hx
          obtain ⟨y, hy, rfl⟩ := hx
          exact (hp' i a ha).2.2.2 y hy
        simp only [wt, bulkD]; omega
theorem list_of {α : Type} {f : α → AV} {p : α → Prop} (g : List AV → AV) : ∀ (ls : List (List AV)), (∀ x ∈ ls, ∃ r, g x = f r ∧ p r) → ∃ rs : List α, ls.map g = rs.map f ∧ rs.length = ls.length ∧ ∀ r ∈ rs, p r
  | [], _ => ⟨[], rfl, rfl, fun r h => by simp at h⟩
  | x :: ls, h => by
    obtain ⟨r, h1, h2⟩ := h x (by simp)
    obtain ⟨rs, h3, h4, h5⟩ := list_of g ls fun y hy => h y (by simp [hy])
    exact ⟨r :: rs, by simp [h1, h3], by simp [h4], fun q hq => by
      rcases List.mem_cons.1 hq with rfl | hq
      · exact h2
      · exact h5 q hq⟩
end Go.Abs
