/-
  Part of a proof: contracts of functions in abstract values.
-/
import Derived.Test.YtejdblkohdbhaaaGreatDoorNaac
set_option linter.unusedVariables false
set_option linter.unusedSimpArgs false
namespace Go.Abs
open Go

/-! ### Code, evaluated -/
def W (P : Program) (T : TE) : Code → St → (AX → St → Prop) → Prop
  | .skip, S, Q => Q .normal S
  | .seq x y, S, Q => W P T x S (thenQ (fun S' => W P T y S' Q) Q)
  | .cond c x y, S, Q => match (evO S c).v with
    | .bool b => (evO S c).ok ∧ (b = true → W P T x S Q) ∧ (b = false → W P T y S Q)
    | _ => False
  | .block id c, S, Q => W P T c S (blockQ id Q)
  | .exit id, S, Q => Q (.exit id) S
  | .ret, S, Q => Q .ret S
  | .region _ ops false, S, Q => WOps P T ops ops.toList S (Q .normal)
  | c, S, Q => T3 P c S Q

def dstsOk (n : Nat) (ops : Array Oper) : Bool := ops.toList.all fun o => match o.dst with | some d => decide (d < n) | none => true
def codeOk (n : Nat) : Code → Bool
  | .seq x y => codeOk n x && codeOk n y
  | .cond _ x y => codeOk n x && codeOk n y
  | .block _ c => codeOk n c
  | .region _ ops _ => dstsOk n ops
  | _ => true

theorem dstsOk_spec {n : Nat} {ops : Array Oper} (h : dstsOk n ops = true) : ∀ o ∈ ops.toList, ∀ d, o.dst = some d → d < n := fun o ho d hd => by
  have := List.all_eq_true.1 h o ho
  rw [hd] at this
  simpa using this

section
variable {P : Program} {T : TE}

theorem T3.thenMono {c : Code} {S : St} {n : Nat} {K K' : St → Prop} {Q : AX → St → Prop} (hn : S.n = n) (h : T3 P c S (thenQ K Q)) (hk : ∀ S', S'.n = n → K S' → K' S') : T3 P c S (thenQ K' Q) := fun Γ a w hr =>
  wp_mono (h Γ a w hr) fun e a' w' ⟨x, S', h1, h2, h3, h4⟩ => ⟨x, S', h1, h2, by
    cases x with
    | normal => exact hk S' (h2.trans hn) h3
    | exit id => exact h3
    | ret => exact h3, h4⟩

theorem W_sound (hT : TOk P T) : ∀ (c : Code) (S : St) (Q : AX → St → Prop), codeOk S.n c = true → W P T c S Q → T3 P c S Q
  | .skip, S, Q, _, h => T3_skip h
  | .exit id, S, Q, _, h => T3_exit h
  | .ret, S, Q, _, h => T3_ret h
  | .seq x y, S, Q, hc, h => by
    simp only [codeOk, Bool.and_eq_true] at hc
    simp only [W] at h
    exact T3_seq (T3.thenMono rfl (W_sound hT x S _ hc.1 h) fun S' hn hS => W_sound hT y S' Q (by rw [hn]; exact hc.2) hS)
  | .block id c, S, Q, hc, h => by
    simp only [codeOk] at hc
    simp only [W] at h
    exact T3_block (W_sound hT c S _ hc h)
  | .cond c x y, S, Q, hc, h => by
    simp only [codeOk, Bool.and_eq_true] at hc
    simp only [W] at h
    split at h
    · rename_i b hv
      exact T3_cond hv h.1 (fun hb => W_sound hT x S Q hc.1 (h.2.1 hb)) (fun hb => W_sound hT y S Q hc.2 (h.2.2 hb))
    · cases h
  | .region id ops false, S, Q, hc, h => by
    simp only [codeOk] at hc
    simp only [W] at h
    exact T3_region hT (dstsOk_spec hc) h
  | .region id ops true, S, Q, _, h => h
  | .loop c, S, Q, _, h => h
  | .rangeFunc _ _ _ _, S, Q, _, h => h
  | .scope _, S, Q, _, h => h
  | .label _, S, Q, _, h => h
  | .goto _, S, Q, _, h => h
  | .refuse _, S, Q, _, h => h

/-! ### Weakening -/
mutual
/-- A nil slice is a slice without elements, too. -/
def avLe : AV → AV → Prop
  | .snil, b => match b with
    | .sl _ es => es = []
    | b => b = .snil
  | .tup l, b => match b with
    | .tup l' => avsLe l l'
    | _ => False
  | .agg l, b => match b with
    | .agg l' => avsLe l l'
    | _ => False
  | .unk, b => b = .unk
  | .int k n, b => b = .int k n
  | .bool x, b => b = .bool x
  | .str s, b => b = .str s
  | .sl z es, b => b = .sl z es
  | .fn g c, b => b = .fn g c
  | .nilfn, b => b = .nilfn
  | .ptr x o, b => b = .ptr x o
  | .nilptr, b => b = .nilptr
  | .ep z es i o, b => b = .ep z es i o
  | .map x, b => b = .map x
  | .nilmap, b => b = .nilmap
def avsLe : List AV → List AV → Prop
  | [], l => l = []
  | a :: l, l' => match l' with
    | b :: l' => avLe a b ∧ avsLe l l'
    | [] => False
end

mutual
theorem avLe_rep {M : Snap} {θ : List Nat} : ∀ {a b : AV} {v : Value}, avLe a b → Rep M θ a v → Rep M θ b v
  | .snil, b, v, h, hr => by
    cases b <;> simp only [avLe, reduceCtorEq] at h
    · exact hr
    · subst h
      simp only [Rep] at hr ⊢
      exact ⟨none, 0, hr, Nat.le_refl _, fun h => absurd rfl h⟩
  | .tup l, b, v, h, hr => by
    cases b <;> simp only [avLe] at h
    simp only [Rep] at hr ⊢
    obtain ⟨vs, e, h2⟩ := hr
    exact ⟨vs, e, avsLe_rep h h2⟩
  | .agg l, b, v, h, hr => by
    cases b <;> simp only [avLe] at h
    simp only [Rep] at hr ⊢
    obtain ⟨vs, e, h2⟩ := hr
    exact ⟨vs, e, avsLe_rep h h2⟩
  | .unk, b, v, h, hr | .int _ _, b, v, h, hr | .bool _, b, v, h, hr | .str _, b, v, h, hr | .sl _ _, b, v, h, hr | .fn _ _, b, v, h, hr | .nilfn, b, v, h, hr | .ptr _ _, b, v, h, hr | .nilptr, b, v, h, hr | .ep _ _ _ _, b, v, h, hr | .map _, b, v, h, hr | .nilmap, b, v, h, hr => by
    simp only [avLe] at h; subst h; exact hr
theorem avsLe_rep {M : Snap} {θ : List Nat} : ∀ {l l' : List AV} {vs : List Value}, avsLe l l' → Reps M θ l vs → Reps M θ l' vs
  | [], l', vs, h, hr => by simp only [avsLe] at h; subst h; exact hr
  | a :: l, l', vs, h, hr => by
    cases l' <;> simp only [avsLe] at h
    simp only [Reps] at hr ⊢
    obtain ⟨v, vs', e, h1, h2⟩ := hr
    exact ⟨v, vs', e, avLe_rep h.1 h1, avsLe_rep h.2 h2⟩
end

def frLe : List (Nat × SV) → List (Nat × SV) → Prop
  | [], _ => True
  | (k, sv) :: l, fr => (sv.tg ≠ .und ∧ (sv.ok → (lk fr k).ok ∧ avLe (lk fr k).v sv.v ∧ (sv.tg = .none ∨ sv.tg = (lk fr k).tg))) ∧ frLe l fr

theorem frLe_lk : ∀ {l fr : List (Nat × SV)}, frLe l fr → ∀ k, (lk l k).ok → (lk fr k).ok ∧ avLe (lk fr k).v (lk l k).v ∧ ((lk l k).tg = .none ∨ (lk l k).tg = (lk fr k).tg)
  | [], _, _, k, h => h.elim
  | (k', sv) :: l, fr, h, k, hok => by
    simp only [frLe] at h
    simp only [lk] at hok ⊢
    split
    · rename_i he; subst he; rw [if_pos rfl] at hok; exact h.1.2 hok
    · rename_i he; rw [if_neg he] at hok; exact frLe_lk h.2 k hok
theorem frLe_und : ∀ {l fr : List (Nat × SV)}, frLe l fr → ∀ k, (lk l k).tg ≠ .und
  | [], _, _, k => by simp [lk, SV.no]
  | (k', sv) :: l, fr, h, k => by
    simp only [frLe] at h
    simp only [lk]
    split
    · exact h.1.1
    · exact frLe_und h.2 k

theorem Le.refl (S : St) : Le S S := ⟨rfl, fun _ _ _ _ h => h⟩
theorem Le.trans {S S' S'' : St} (h : Le S S') (h' : Le S' S'') : Le S S'' := ⟨h'.1.trans h.1, fun P Γ a w hr => h'.2 P Γ a w (h.2 P Γ a w hr)⟩

theorem TagOk.none_or {W : WPt} {θ : List Nat} {τ : Nat → Value} {w : World} {v : Value} {tg tg' : Tag} (h : TagOk W θ τ w v tg) (he : tg' = .none ∨ tg' = tg) : TagOk W θ τ w v tg' := by
  rcases he with rfl | rfl
  · trivial
  · exact h

theorem Le_of {S S' : St} (hn : S'.n = S.n) (hb : S.b ≤ S'.b) (hnt : S.W.nt ≤ S'.W.nt) (hst : S.W.stamp ≤ S'.W.stamp) (hH : S'.W.H = S.W.H) (hl : ∀ p ∈ S'.W.live, p ∈ S.W.live) (hfr : frLe S'.fr S.fr) : Le S S' := by
  refine ⟨hn, fun P Γ a w ⟨M, θ, ω, τ, hr⟩ => ⟨M, θ, ω, τ, ?_⟩⟩
  have hc := hr.core
  have hcore : Core P Γ S'.W M θ ω τ w := ⟨hc.mle, hc.tle, hc.ext, by rw [hH]; exact hc.hlen, hc.inj, hc.tnew, hc.tlt, by rw [hH]; exact hc.box, by rw [hH]; exact hc.bel, fun t e hte => ⟨Nat.lt_of_lt_of_le (hc.live t e (hl _ hte)).1 hnt, (hc.live t e (hl _ hte)).2⟩, hc.own, hc.ow0, hc.kp, hc.mkeep⟩
  have hadv : Adv S.W θ τ w S'.W θ τ w := ⟨hnt, hst, fun t e _ hte => ⟨⟨e, hl _ hte⟩, rfl⟩, tle_refl θ, fun _ _ _ _ _ _ h => h⟩
  refine ⟨hcore, ⟨by rw [hr.fr.size, hn], hr.fr.defers, fun k hk => ?_, fun k hk => absurd hk (frLe_und hfr k)⟩, Nat.le_trans hr.bas hb⟩
  obtain ⟨h1, h2, h3⟩ := frLe_lk hfr k hk
  have := (hr.fr.slot k h1).adv hadv (Snap.le_refl M)
  exact ⟨avLe_rep h2 this.1, this.2.none_or h3⟩

/-- A nil slice is owned: a token for the one in slot k. -/
theorem Le_nil {S : St} (k e z : Nat) (hk : (lk S.fr k).ok) (hv : (lk S.fr k).v = .snil) :
    Le S { S with fr := (k, ⟨True, .sl z [], .tok S.W.nt⟩) :: S.fr, W := { S.W with nt := S.W.nt + 1, live := (S.W.nt, e) :: S.W.live } } := by
  refine ⟨rfl, fun P Γ a w ⟨M, θ, ω, τ, hr⟩ => ⟨M, θ, ω, updT τ S.W.nt (a.tmps.getD k undef), ?_⟩⟩
  have hc := hr.core
  have hrep := (hr.fr.slot k hk).1
  rw [hv] at hrep
  simp only [Rep] at hrep
  have hadv : Adv S.W θ τ w { S.W with nt := S.W.nt + 1, live := (S.W.nt, e) :: S.W.live } θ (updT τ S.W.nt (a.tmps.getD k undef)) w := ⟨by simp, Nat.le_refl _, fun t e' hlt hte => by
    simp only [List.mem_cons, Prod.mk.injEq] at hte
    rcases hte with ⟨rfl, _⟩ | hte
    · omega
    · exact ⟨⟨e', hte⟩, by unfold updT; rw [if_neg (by omega)]⟩, tle_refl θ, fun _ _ _ _ _ _ h => h⟩
  refine ⟨⟨hc.mle, hc.tle, hc.ext, hc.hlen, hc.inj, hc.tnew, hc.tlt, hc.box, hc.bel, fun t e' hte => ?_, hc.own, hc.ow0, hc.kp, hc.mkeep⟩, ⟨hr.fr.size, hr.fr.defers, fun j hj => ?_, fun j hj hno => ?_⟩, hr.bas⟩
  · simp only [List.mem_cons, Prod.mk.injEq] at hte
    rcases hte with ⟨rfl, rfl⟩ | hte
    · refine ⟨by simp, .inl ⟨none, ?_⟩⟩
      simp only [updT, if_true]; exact hrep
    · have := hc.live t e' hte
      refine ⟨by simp; omega, ?_⟩
      have ht : updT τ S.W.nt (a.tmps.getD k undef) t = τ t := by unfold updT; rw [if_neg (by omega)]
      rw [ht]; exact this.2
  · simp only [lk] at hj ⊢
    split
    · rename_i he
      subst he
      refine ⟨?_, by simp, fun _ => by simp [updT]⟩
      simp only [Rep]
      exact ⟨none, 0, hrep, Nat.le_refl _, fun h => absurd rfl h⟩
    · rename_i he
      rw [if_neg he] at hj
      exact (hr.fr.slot j hj).adv hadv (Snap.le_refl M)
  · simp only [lk] at hj hno
    split at hj
    · cases hj
    · rename_i he
      rw [if_neg he] at hno
      exact hr.fr.und j hj hno

/-! ### A function's body -/
def S0 (args : List AV) (own : List (Nat × Nat)) (H : List Box) (n : Nat) : St :=
  { fr := args.zipIdx.map fun (x, i) => (i, ⟨True, x, if own.any (fun p => p.1 == i) then .tok i else .none⟩), n := n, W := ⟨args.length, own, H, 0⟩, b := H.length }

def resQ (T : TE) (S : St) : ResultVar → Option (Prop × SV)
  | .tmp t => some (True, lk S.fr t)
  | .cell x t => match T t with
    | some ti => match (lk S.fr x).v with
      | .ptr b o => (loadQ S ti (.ptr b o)).map fun (c, sv) => ((lk S.fr x).ok ∧ c, sv)
      | _ => none
    | none => none
def resL (T : TE) (S : St) : List ResultVar → Option (Prop × List SV)
  | [] => some (True, [])
  | r :: l => match resQ T S r, resL T S l with
    | some (c, sv), some (c', svs) => some (c ∧ sv.ok ∧ c', sv :: svs)
    | _, _ => none
def oneRes (W : WPt) : List SV → FRes
  | [sv] => ⟨sv.v, sv.tg, W⟩
  | l => ⟨.tup (l.map (·.v)), .tup (l.map (·.tg)), W⟩
def retQ (T : TE) (rs : Array ResultVar) (K : FRes → Prop) : AX → St → Prop
  | .exit _, _ => False
  | _, S => match resL T S rs.toList with
    | some (c, svs) => c ∧ K (oneRes S.W svs)
    | none => False

def resF (tmps : Array Value) (r : ResultVar) : Sem Value :=
  match r with
  | .tmp t => pure (tmps.getD t undef)
  | .cell a t => do loadVar t (← asAddr (tmps.getD a undef))

theorem results_eq (fn : Func) (tmps : Array Value) : results fn tmps = (fn.results.mapM (resF tmps) >>= fun vs => pure (if h : vs.size = 1 then vs[0] else .tuple vs)) := rfl

theorem resQ_sound (hT : TOk P T) {Γ : Cx} {S : St} {M : Snap} {θ : List Nat} {ω : Nat → Option Owner} {τ : Nat → Value} {a : Act} {w : World} (h : RelM P Γ S M θ ω τ a w) {r : ResultVar} {c : Prop} {sv : SV}
    (hr : resQ T S r = some (c, sv)) (hc : c) (hok : sv.ok) :
    ∃ v, (resF a.tmps r).run P w = .ok v w ∧ SlotOk S.W M θ τ w sv v := by
  cases r with
  | tmp t =>
    simp only [resQ, Option.some.injEq, Prod.mk.injEq] at hr
    obtain ⟨rfl, rfl⟩ := hr
    exact ⟨_, by simp [resF], h.fr.slot t hok⟩
  | cell x t =>
    simp only [resQ] at hr
    split at hr
    · rename_i ti ht
      split at hr
      · rename_i b o hx0
        rw [Option.map_eq_some_iff] at hr
        obtain ⟨⟨c', sv'⟩, h1, h2⟩ := hr
        cases h2
        have hx := (h.fr.slot x hc.1).1
        rw [hx0] at hx
        obtain ⟨v, hv, hs⟩ := q_load hT h ht hx h1 hc.2
        simp only [Rep] at hx
        obtain ⟨blk, _, hp⟩ := hx
        rw [hp] at hv
        refine ⟨v, ?_, hs⟩
        simp only [resF, hp]
        simpa [Instr.loadAt, Instr.sureAddr, asAddr] using hv
      · cases hr
    · cases hr

theorem resL_sound (hT : TOk P T) {Γ : Cx} {S : St} {M : Snap} {θ : List Nat} {ω : Nat → Option Owner} {τ : Nat → Value} {a : Act} {w : World} (h : RelM P Γ S M θ ω τ a w) : ∀ (l : List ResultVar) {c : Prop} {svs : List SV},
    resL T S l = some (c, svs) → c → ∃ vs, (l.mapM (resF a.tmps)).run P w = .ok vs w ∧ vs.length = svs.length ∧ ∀ (j : Nat) sv v, svs[j]? = some sv → vs[j]? = some v → SlotOk S.W M θ τ w sv v
  | [], c, svs, hr, hc => by
    simp only [resL, Option.some.injEq, Prod.mk.injEq] at hr
    obtain ⟨rfl, rfl⟩ := hr
    exact ⟨[], by simp, rfl, fun j sv v h => by simp at h⟩
  | r :: l, c, svs, hr, hc => by
    simp only [resL] at hr
    split at hr
    · rename_i c1 sv c2 svs2 h1 h2
      cases hr
      obtain ⟨v, hv, hs⟩ := resQ_sound hT h h1 hc.1 hc.2.1
      obtain ⟨vs, hvs, hl, hss⟩ := resL_sound hT h l h2 hc.2.2
      refine ⟨v :: vs, ?_, by simp [hl], fun j sv' v' hj hj' => ?_⟩
      · rw [List.mapM_cons]
        simp only [Sem.run_bind, hv, Result.andThen_ok, hvs, Sem.run_pure]
      · cases j with
        | zero => simp at hj hj'; subst hj; subst hj'; exact hs
        | succ j => exact hss j sv' v' (by simpa using hj) (by simpa using hj')
    · cases hr

theorem lk_zip (own : List (Nat × Nat)) : ∀ (args : List AV) (i0 k : Nat), lk ((args.zipIdx i0).map fun (x, i) => (i, (⟨True, x, if own.any (fun p => p.1 == i) then .tok i else .none⟩ : SV))) k =
    if i0 ≤ k then (match args[k - i0]? with
      | some x => ⟨True, x, if own.any (fun p => p.1 == k) then .tok k else .none⟩
      | none => SV.no) else SV.no
  | [], i0, k => by simp [lk]
  | x :: args, i0, k => by
    simp only [List.zipIdx_cons, List.map_cons, lk]
    by_cases h : i0 = k
    · subst h; simp
    · rw [if_neg h, lk_zip own args (i0 + 1) k]
      by_cases h1 : i0 + 1 ≤ k
      · simp only [h1, show i0 ≤ k by omega, if_true]
        rw [show k - i0 = (k - (i0 + 1)) + 1 by omega, List.getElem?_cons_succ]
      · simp only [h1, show ¬ i0 ≤ k by omega, if_false]

theorem oneRes_W (W : WPt) (l : List SV) : (oneRes W l).W = W := by
  unfold oneRes; split <;> rfl

theorem FS_body (hT : TOk P T) {g : FuncId} {fn : Func} {c : Code} (hf : P.funcs[g]? = some fn) (hname : (fn.name == "runtime.NumGoroutine") = false) (hb : fn.body = some c)
    {args : List AV} {own : List (Nat × Nat)} {H : List Box} {K : FRes → Prop} (hlen : args.length ≤ fn.ntmps) (h : T3 P c (S0 args own H fn.ntmps) (retQ T fn.results K)) : FS P g args own H K := by
  refine ⟨⟨fn, c, hf, hname, hb⟩, fun w M θ ω τ vals hcore hown hreps => ?_⟩
  have hvl := Reps_length hreps
  refine calls_of_wp hf hb ?_
  have hrel : Rel P ⟨w, M, θ, ω⟩ (S0 args own H fn.ntmps) { tmps := vals.toArray ++ Array.replicate (fn.ntmps - vals.toArray.size) undef, defers := [] } w := by
    refine ⟨M, θ, ω, τ, hcore, ⟨by simp [S0, hvl]; omega, rfl, fun k hk => ?_, fun k hk => ?_⟩, Nat.le_of_eq hcore.hlen⟩
    rotate_left
    · simp only [S0] at hk
      rw [lk_zip] at hk
      simp only [Nat.zero_le, if_true] at hk
      split at hk
      · split at hk <;> cases hk
      · cases hk
    simp only [S0] at hk ⊢
    rw [lk_zip] at hk ⊢
    simp only [Nat.zero_le, if_true, Nat.sub_zero] at hk ⊢
    cases hx : args[k]? with
    | none => rw [hx] at hk; exact hk.elim
    | some x =>
      have hkl : k < args.length := (List.getElem?_eq_some_iff.1 hx).1
      obtain ⟨v, hv, hr⟩ := Reps_get hreps k hkl
      rw [(List.getElem?_eq_some_iff.1 hx).2] at hr
      have hval : (vals.toArray ++ Array.replicate (fn.ntmps - vals.toArray.size) undef).getD k undef = v := by
        rw [Array.getD_eq_getD_getElem?, Array.getElem?_append_left (by simp; omega)]
        simp [hv]
      simp only [hval]
      refine ⟨hr, ?_⟩
      by_cases ho : own.any (fun p => p.1 == k) = true
      · rw [if_pos ho]
        refine ⟨hkl, fun ⟨e, he⟩ => (hown k e v he hv).symm⟩
      · rw [if_neg ho]; trivial
  refine wp_mono (h _ _ _ hrel) fun e a' w' ⟨x, S', h1, h2, h3, ⟨M', θ', ω', τ', h4⟩⟩ => ?_
  subst h1
  have fin : ∀ c svs, resL T S' fn.results.toList = some (c, svs) → c → K (oneRes S'.W svs) →
      a'.defers = [] ∧ ∃ v, (results fn a'.tmps).run P w' = .ok v w' ∧ ∃ (r : FRes) (v' : Value) (M' : Snap) (θ' : List Nat) (ω' : Nat → Option Owner) (τ' : Nat → Value),
        Ending.returned v = .returned v' ∧ K r ∧ Core P ⟨w, M, θ, ω⟩ r.W M' θ' ω' τ' w' ∧ Rep M' θ' r.v v' ∧ TagOk r.W θ' τ' w' v' r.tg := fun c svs hq hc hK => by
    obtain ⟨vs, hvs, hl, hss⟩ := resL_sound hT h4 _ hq hc
    refine ⟨h4.fr.defers, ?_⟩
    have hrun : (results fn a'.tmps).run P w' = .ok (if h : vs.toArray.size = 1 then vs.toArray[0] else .tuple vs.toArray) w' := by
      rw [results_eq]
      simp only [Sem.run_bind]
      rw [← Array.toArray_toList (xs := fn.results)]
      rw [List.mapM_toArray]
      simp only [Sem.run_map, hvs, Result.andThen_ok, Sem.run_pure]
    refine ⟨_, hrun, oneRes S'.W svs, _, M', θ', ω', τ', rfl, hK, by rw [oneRes_W]; exact h4.core, ?_⟩
    rw [oneRes_W]
    match svs, vs, hl, hss with
    | [], [], _, _ => 
      simp only [oneRes]
      exact ⟨by simp [Rep, Reps], fun j tg vs u h => by simp at h⟩
    | [sv], [v], _, hss =>
      have := hss 0 sv v rfl rfl
      exact this
    | sv1 :: sv2 :: svs, v1 :: v2 :: vs, hl, hss =>
      simp only [oneRes]
      refine ⟨?_, fun j tg vs' u hj hv hu => ?_⟩
      · simp only [Rep]
        refine ⟨v1 :: v2 :: vs, by simp, ?_⟩
        exact reps_of _ _ hl.symm fun j sv v hj hj' => (hss j sv v hj hj').1
      · simp at hv
        subst hv
        rw [List.getElem?_map, Option.map_eq_some_iff] at hj
        obtain ⟨sv, hj, rfl⟩ := hj
        have hs := (hss j sv u hj (by simpa using hu)).2
        cases htg : sv.tg with
        | tup l => trivial
        | none => trivial
        | und => trivial
        | _ => rw [htg] at hs; exact hs
  cases x with
  | exit id => exact h3.elim
  | normal =>
    simp only [retQ] at h3
    split at h3
    · rename_i c svs hq; exact fin c svs hq h3.1 h3.2
    · cases h3
  | ret =>
    simp only [retQ] at h3
    split at h3
    · rename_i c svs hq; exact fin c svs hq h3.1 h3.2
    · cases h3
end
end Go.Abs

namespace Go.Abs
open Go

def TIOk (P : Program) (t : Nat) (ti : TI) : Prop :=
  (∃ i z, P.info? t = some i ∧ i.size = ti.size ∧ i.bytes = ti.bytes ∧ i.zero = some z ∧ z.cells.size = ti.size ∧ Rep (fun _ _ => none) [] ti.zero z) ∧ DescOk P t ti.d

theorem info_of {P : Program} {t : Nat} {i : TypeInfo} (h : P.types[t]? = some i) : P.info? t = some i := by
  have hlt := (Array.getElem?_eq_some_iff.1 h).1
  unfold Tables.info?
  rw [if_pos hlt]; exact h

/-- All types of a list, from the number i0 on. -/
inductive AllOk (P : Program) : Nat → List (Option TI) → Prop
  | nil {i : Nat} : AllOk P i []
  | some {i : Nat} {ti : TI} {l : List (Option TI)} (h : TIOk P i ti) (hl : AllOk P (i + 1) l) : AllOk P i (some ti :: l)
  | none {i : Nat} {l : List (Option TI)} (hl : AllOk P (i + 1) l) : AllOk P i (none :: l)

theorem AllOk.get {P : Program} : ∀ {i : Nat} {l : List (Option TI)}, AllOk P i l → ∀ (j : Nat) ti, l[j]? = Option.some (Option.some ti) → TIOk P (i + j) ti
  | _, _, .nil, j, ti, h => by simp at h
  | i, _, .some h0 hl, 0, ti, h => by simp at h; subst h; exact h0
  | i, _, .some _ hl, j + 1, ti, h => by have := hl.get j ti (by simpa using h); rwa [Nat.add_assoc, Nat.add_comm 1 j] at this
  | i, _, .none hl, 0, ti, h => by simp at h
  | i, _, .none hl, j + 1, ti, h => by have := hl.get j ti (by simpa using h); rwa [Nat.add_assoc, Nat.add_comm 1 j] at this

theorem tok_of_list {P : Program} (l : List (Option TI)) (h : AllOk P 0 l) : TOk P (fun t => (l[t]?).join) := by
  have key : ∀ t ti, (l[t]?).join = some ti → TIOk P t ti := fun t ti ht => by
    have := h.get t ti (by
      cases hq : l[t]? with
      | none => rw [hq] at ht; cases ht
      | some x => rw [hq] at ht; simp only [Option.join_some] at ht; rw [ht])
    rwa [Nat.zero_add] at this
  exact ⟨fun t ti ht => (key t ti ht).1, fun t ti ht => (key t ti ht).2⟩
end Go.Abs

namespace Go.Abs
open Go

/-- A function that changes nothing and whose result none owns. -/
def FSv (P : Program) (g : FuncId) (args : List AV) (v : AV) : Prop := FS P g args [] [] fun r => r.v = v ∧ r.tg = .none

theorem FS.mono {P : Program} {g : FuncId} {args : List AV} {own : List (Nat × Nat)} {H : List Box} {K K' : FRes → Prop} (h : FS P g args own H K) (hk : ∀ r, K r → K' r) : FS P g args own H K' :=
  ⟨h.1, fun w M θ ω τ vals h1 h2 h3 => (h.2 w M θ ω τ vals h1 h2 h3).mono fun e w' ⟨r, v, M', θ', ω', τ', k1, k2, k3⟩ => ⟨r, v, M', θ', ω', τ', k1, hk r k2, k3⟩⟩

theorem FS.dropTag {P : Program} {g : FuncId} {args : List AV} {own : List (Nat × Nat)} {H : List Box} {v : AV} (h : FS P g args own H fun r => avLe r.v v) : FS P g args own H fun r => r.v = v ∧ r.tg = .none :=
  ⟨h.1, fun w M θ ω τ vals h1 h2 h3 => (h.2 w M θ ω τ vals h1 h2 h3).mono fun e w' ⟨r, u, M', θ', ω', τ', k1, k2, k3, k4, k5⟩ => ⟨⟨v, .none, r.W⟩, u, M', θ', ω', τ', k1, ⟨rfl, rfl⟩, k3, avLe_rep k2 k4, trivial⟩⟩

/-- The value that a body leaves. -/
def retV (T : TE) (rs : Array ResultVar) (v : AV) : AX → St → Prop := retQ T rs fun r => avLe r.v v

theorem FSv_body {P : Program} {T : TE} (hT : TOk P T) {g : FuncId} {fn : Func} {c : Code} (hf : P.funcs[g]? = some fn) (hname : (fn.name == "runtime.NumGoroutine") = false) (hb : fn.body = some c)
    {args : List AV} {v : AV} (hlen : args.length ≤ fn.ntmps) (h : T3 P c (S0 args [] [] fn.ntmps) (retV T fn.results v)) : FSv P g args v :=
  FS.dropTag (FS_body hT hf hname hb hlen h)

theorem callP_v {P : Program} {g : FuncId} {svs : List SV} {W : WPt} {K : WPt → SV → Prop} {v : AV} (hok : ∀ sv ∈ svs, sv.ok) (hbel : belowL 0 (svs.map (·.v))) (hv : belowV 0 v) (hf : FSv P g (svs.map (·.v)) v)
    (hk : K W ⟨True, v, .none⟩) : CallP P g svs W none K := by
  refine ⟨hok, hbel, (fun _ _ _ h => by cases h), _, hf, fun r hr => ?_⟩
  obtain ⟨h1, h2⟩ := hr
  refine ⟨by rw [h1]; exact hv, ?_⟩
  have e1 : resTok r = none := by unfold resTok; rw [h2]
  have e2 : afterSV W r = ⟨True, v, .none⟩ := by unfold afterSV; rw [h1, h2]; rfl
  rw [e1, e2]
  exact hk
end Go.Abs
namespace Go.Abs
open Go
theorem T3_loopI {P : Program} {S : St} {Q : AX → St → Prop} {c : Code} {ι : Type} (J : ι → St) (I : ι → Prop) (μ : ι → Nat) (i0 : ι) (hi : I i0) (h0 : Le S (J i0))
    (round : ∀ i, I i → T3 P c (J i) (thenQ (fun S' => ∃ i', I i' ∧ μ i' < μ i ∧ Le S' (J i')) Q)) : T3 P (.loop c) S Q :=
  T3_loop (ι := {i // I i}) (fun i => J i.1) (fun i => μ i.1) ⟨i0, hi⟩ h0 fun i => (round i.1 i.2).mono fun e S' h => by
    cases e with
    | normal => obtain ⟨i', h1, h2, h3⟩ := h; exact ⟨⟨i', h1⟩, h2, h3⟩
    | exit id => exact h
    | ret => exact h

/-- Equal world's parts. -/
theorem Le_fr {S S' : St} (hn : S'.n = S.n) (hb : S'.b = S.b) (hW : S'.W = S.W) (hfr : frLe S'.fr S.fr) : Le S S' :=
  Le_of hn (Nat.le_of_eq hb.symm) (by rw [hW]; exact Nat.le_refl _) (by rw [hW]; exact Nat.le_refl _) (by rw [hW]) (by rw [hW]; exact fun _ h => h) hfr
end Go.Abs
namespace Go.Abs
theorem gd {α : Type} (f : α → AV) (xs : List α) (i : Nat) (d : AV) (h : i < xs.length) : (xs.map f).getD ((i : Int).toNat) d = f xs[i] := by
  simp [List.getD, h]
theorem dlt {i n : Nat} (h : i < n) : decide ((i : Int) < (n : Int)) = true := by simp; omega
theorem dge {i n : Nat} (h : n ≤ i) : decide ((i : Int) < (n : Int)) = false := by simp; omega
end Go.Abs

namespace Go.Abs
open Go

def isLoad : Op → Bool
  | .load _ _ => true
  | _ => false

section
variable {P : Program} {T : TE}

theorem partsQ_congr {S1 S2 : St} {place : Nat → Option (Nat × Nat)} : ∀ (ps : List (Nat × Operand)), (∀ p ∈ ps, evO S1 p.2 = evO S2 p.2) → partsQ T S1 place ps = partsQ T S2 place ps
  | [], _ => rfl
  | (i, x) :: ps, h => by
    have h1 := h (i, x) (by simp)
    have h2 := partsQ_congr (S1 := S1) (S2 := S2) (place := place) ps (fun p hp => h p (List.mem_cons_of_mem _ hp))
    simp only at h1
    simp only [partsQ, h1, h2]

theorem quiet_congr {S1 S2 : St} {o : Oper} (h : ∀ x ∈ o.op.operands, evO S1 x = evO S2 x) (hW : S1.W = S2.W ∨ isLoad o.op = false) : quiet T S1 o = quiet T S2 o := by
  obtain ⟨dst, op, ty, pos, after, guard⟩ := o
  cases op <;> simp only [quiet] <;> simp only [Op.operands] at h
  case build t ps =>
    have hp := fun place => partsQ_congr (T := T) (S1 := S1) (S2 := S2) (place := place) ps.toList (fun p hp => h p.2 (by simp; exact ⟨p.1, by simpa using hp⟩))
    simp only [hp]
  case makeFunc fn first caps =>
    have hc : ∀ x ∈ caps.toList, evO S1 x = evO S2 x := fun x hx => h x (by simp; exact .inr (by simpa using hx))
    cases fn <;> simp only
    split
    · congr 2
      · exact capsOk_congr hc
      · congr 2
        exact List.map_congr_left fun x hx => by rw [hc x hx]
    · rfl
  case slice t x lo hi mx =>
    have h1 := h x (by simp)
    have h2 : lo.map (evO S1) = lo.map (evO S2) := by cases lo with | none => rfl | some y => simp [h y (by simp)]
    have h3 : hi.map (evO S1) = hi.map (evO S2) := by cases hi with | none => rfl | some y => simp [h y (by simp)]
    have h4 : mx.map (evO S1) = mx.map (evO S2) := by cases mx with | none => rfl | some y => simp [h y (by simp)]
    simp only [h1, h2, h3, h4]
  case load t x =>
    have h1 := h x (by simp)
    have h2 : S1.W = S2.W := hW.resolve_right (by simp [isLoad])
    have h3 : ∀ ti a, loadQ S1 ti a = loadQ S2 ti a := fun ti a => by cases a <;> simp only [loadQ, h2]
    simp only [h1, h3]
  case call c =>
    obtain ⟨callee, args, argTypes⟩ := c
    cases callee with
    | value f => rfl
    | invoke r m => rfl
    | builtin b =>
      have ha : ∀ x ∈ args.toList, evO S1 x = evO S2 x := fun x hx => h x (by simp [Call.operands]; simpa using hx)
      cases b <;> simp only
      all_goals (generalize args.toList = l at *)
      case len =>
        match l, ha with
        | [], _ => rfl
        | [x], ha =>
          have hx := ha x (by simp)
          generalize argTypes.toList = lt
          match lt with
          | [] => rfl
          | [t] => dsimp only; rw [hx]
          | _ :: _ :: _ => rfl
        | _ :: _ :: _, _ => rfl
      all_goals
        match l, ha with
        | [], _ => rfl
        | [x], _ => rfl
        | [x, y], ha => simp only [ha x (by simp), ha y (by simp)]
        | [x, y, z], ha => first | rfl | simp only [ha x (by simp), ha y (by simp), ha z (by simp)]
        | _ :: _ :: _ :: _ :: _, _ => rfl
  all_goals (try rfl)
  all_goals (try simp at h)
  all_goals (try (simp only [h]; done))
  all_goals (first | (obtain ⟨h1, h2, h3⟩ := h; simp only [h1, h2, h3]; done) | (obtain ⟨h1, h2⟩ := h; simp only [h1, h2]; done) | skip)

theorem pOk_congr {te : TI} {ρ ρ' : Operand → SV} : ∀ {l : List (Nat × Operand)}, (∀ p ∈ l, ρ p.2 = ρ' p.2) → pOk te ρ l → pOk te ρ' l
  | [], _, _ => trivial
  | (i, x) :: l, h, hp => by
    simp only [pOk] at hp ⊢
    have h1 := h (i, x) (by simp)
    simp only at h1
    rw [← h1]
    exact ⟨hp.1, pOk_congr (fun p hm => h p (List.mem_cons_of_mem _ hm)) hp.2⟩

theorem AW_mono {ρ ρ' : Operand → SV} {Wp : WPt} {op : Op} {K K' : WPt → SV → Prop} (h : ∀ x ∈ op.operands, ρ x = ρ' x) (hK : ∀ W' sv, K W' sv → K' W' sv) (ha : AW P T ρ Wp op K) : AW P T ρ' Wp op K' := by
  cases op <;> simp only [AW] at ha ⊢ <;> try contradiction
  case box t x =>
    simp only [Op.operands] at h
    have h1 := h x (by simp)
    rw [← h1]
    split at ha <;> try contradiction
    exact ⟨ha.1, ha.2.1, hK _ _ ha.2.2⟩
  case alloc t =>
    split at ha <;> try contradiction
    exact ⟨ha.1, hK _ _ ha.2⟩
  case store t x y =>
    simp only [Op.operands] at h
    have h1 := h x (by simp)
    have h2 := h y (by simp)
    rw [← h1, ← h2]
    split at ha <;> try contradiction
    split at ha <;> try contradiction
    obtain ⟨k1, k2, k3, k4, k5, k6, k7, k8⟩ := ha
    refine ⟨k1, k2, k3, k4, k5, k6, k7, ?_⟩
    revert k8
    try simp only
    split
    · split
      · exact hK _ _
      · exact hK _ _
    · exact hK _ _
  case buildSlice t len parts =>
    simp only [Op.operands] at h
    have hp : ∀ p ∈ parts.toList, ρ p.2 = ρ' p.2 := fun p hp => h p.2 (by simp; exact ⟨p.1, by simpa using hp⟩)
    split at ha <;> try contradiction
    split at ha <;> try contradiction
    obtain ⟨k1, k1', k2, k3, k4, k5⟩ := ha
    refine ⟨k1, k1', k2, k3, pOk_congr hp k4, ?_⟩
    have : (parts.toList.map fun p => (ρ' p.2).v) = parts.toList.map fun p => (ρ p.2).v := List.map_congr_left fun p hm => by rw [hp p hm]
    rw [this]
    exact hK _ _ k5
  case slice t x lo hi mx =>
    simp only [Op.operands] at h
    have h1 := h x (by simp)
    cases lo with
    | some _ => exact ha
    | none =>
    cases hi with
    | some _ => exact ha
    | none =>
    cases mx with
    | some _ => exact ha
    | none =>
    dsimp only at ha ⊢
    rw [← h1]
    split at ha <;> try contradiction
    split at ha <;> try contradiction
    obtain ⟨k1, k2, k3, k4, k5, k6, k7⟩ := ha
    exact ⟨k1, k2, k3, k4, k5, k6, hK _ _ k7⟩
  case call c =>
    obtain ⟨callee, args, argTypes⟩ := c
    simp only [Op.operands, Call.operands] at h
    cases callee with
    | invoke r m => exact ha
    | builtin b =>
      have ha' : ∀ x ∈ args.toList, ρ x = ρ' x := fun x hx => h x (by simp; simpa using hx)
      cases b <;> dsimp only at ha ⊢ <;> try contradiction
      generalize args.toList = l at *
      generalize argTypes.toList = lt at *
      match l, lt, ha' with
      | [s, x], [t, t'], ha' =>
        dsimp only at ha ⊢
        rw [← ha' s (by simp), ← ha' x (by simp)]
        split at ha <;> try contradiction
        split at ha <;> try contradiction
        obtain ⟨k1, k2, k3, k4, k5, k6, k7, k8, k10⟩ := ha
        refine ⟨k1, k2, k3, k4, k5, k6, k7, k8, ?_⟩
        revert k10
        split
        · exact hK _ _
        split
        · exact hK _ _
        · exact hK _ _
        · exact fun hh => ⟨hh.1, hK _ _ hh.2⟩
        · intro hh
          refine ⟨hh.1, ?_⟩
          have := hh.2
          revert this
          split
          · exact fun h3 => ⟨h3.1, hK _ _ h3.2⟩
          · exact id
        · exact id
      | [], _, _ => exact ha
      | [_], _, _ => exact ha
      | _ :: _ :: _ :: _, _, _ => exact ha
      | [_, _], [], _ => exact ha
      | [_, _], [_], _ => exact ha
      | [_, _], _ :: _ :: _ :: _, _ => exact ha
    | value f =>
      have hf := h f (by simp)
      have ha' : args.toList.map ρ' = args.toList.map ρ := List.map_congr_left fun x hx => (h x (by simp; exact .inr (by simpa using hx))).symm
      dsimp only at ha ⊢
      rw [← hf, ha']
      split at ha <;> try contradiction
      obtain ⟨k1, pass, k2⟩ := ha
      refine ⟨k1, pass, ?_⟩
      rcases k2 with ⟨j1, j2, j3, Kr, j4, j5⟩ | ⟨j1, j3, Kr, j4, j5⟩
      · exact .inl ⟨j1, j2, j3, Kr, j4, fun r hr => ⟨(j5 r hr).1, hK _ _ (j5 r hr).2⟩⟩
      · exact .inr ⟨j1, j3, Kr, j4, fun r hr => hK _ _ (j5 r hr)⟩
end
end Go.Abs

namespace Go.Abs
open Go

/-! ### Regions whose order is drawn -/
inductive Plan where
  | done
  | q (i : Nat) (next : Plan)
  | a (j : Nat) (pr : List Nat) (p : Plan) (r : Plan)
  | z
structure RPlan where
  A : List (List Nat)
  sync : List Nat
  plan : Plan

def predsOf (o : Oper) : List Nat := (o.after.toList.filter (Region.binds .any)).map (·.on)
def predsAt (ops : Array Oper) (i : Nat) : List Nat := match ops[i]? with | some o => predsOf o | none => []
def dstAt (ops : Array Oper) (i : Nat) : Option Tmp := (ops[i]?).bind (·.dst)
def looksAtI (ops : Array Oper) (i : Nat) : List Tmp := match ops[i]? with | some o => o.looksAt ops | none => []
def ancAt (A : List (List Nat)) (i : Nat) : List Nat := A.getD i []

def subL (l E : List Nat) : Bool := l.all E.contains

/-- What holds of the region as such. -/
def okStat (ops : Array Oper) (A : List (List Nat)) (sync : List Nat) : Bool :=
  (List.range ops.size).all (fun i => (ancAt A i).all fun k => (predsAt ops i).any fun p => decide (p < i) && (k == p || (ancAt A p).contains k)) &&
  (List.range ops.size).all (fun i => (List.range ops.size).all fun k => match dstAt ops k with
    | some t => (i == k || dstAt ops i != some t) && (!(looksAtI ops i).contains t || (ancAt A i).contains k || (sync.contains k && ((ancAt A k).contains i || i == k)))
    | none => true) &&
  ops.toList.all fun o => match o.op with | .select _ _ => false | _ => true

def okP (ops : Array Oper) (A : List (List Nat)) (sync : List Nat) : List Nat → List Nat → Plan → Bool
  | E, seen, .done => seen.isEmpty && (List.range ops.size).all E.contains
  | E, seen, .q i next => seen.isEmpty && decide (i < ops.size) && !E.contains i && !sync.contains i && subL (predsAt ops i) E && okP ops A sync (i :: E) [] next
  | E, seen, .a j pr p r => decide (j < ops.size) && !E.contains j && sync.contains j && subL (predsAt ops j) E &&
      (E.all fun i => sync.contains i || (ancAt A j).contains i || pr.contains i || (match ops[i]? with | some o => !isLoad o.op | none => true)) &&
      okP ops A sync (j :: E) [] p && okP ops A sync E (j :: seen) r
  | E, seen, .z => !seen.isEmpty && (List.range ops.size).all fun k => E.contains k || seen.contains k || !subL (predsAt ops k) E

def okReg (ops : Array Oper) (rp : RPlan) : Bool := okStat ops rp.A rp.sync && okP ops rp.A rp.sync [] [] rp.plan

/-- A tag that is weaker. -/
def tagLe (st : Nat) : Tag → Tag → Prop
  | .none, _ => True
  | .cell b o s, tg => s < st ∨ tg = .cell b o s
  | t, tg => tg = t
def svLe (st : Nat) (r sv : SV) : Prop := (r.ok → sv.ok) ∧ r.v = sv.v ∧ tagLe st r.tg sv.tg ∧ (sv.ok → r.ok)

/-- What was read may be read again. -/
def Prom (T : TE) (ops : Array Oper) (S : St) (i : Nat) : Prop :=
  match ops[i]? with
  | some o => match evalQ T ops S o, o.dst with
    | some (c, sv), some d => c ∧ (if isLoad o.op = true then svLe S.W.stamp (lk S.fr d) sv else lk S.fr d = sv)
    | _, _ => False
  | none => False
def Proms (T : TE) (ops : Array Oper) (S : St) : List Nat → Prop
  | [] => True
  | i :: l => Prom T ops S i ∧ Proms T ops S l

def WPl (P : Program) (T : TE) (ops : Array Oper) : Plan → St → (St → Prop) → Prop
  | .done, S, K => K S
  | .q i next, S, K => match ops[i]? with
    | some o => match evalQ T ops S o, o.dst with
      | some (c, sv), some d => c ∧ WPl P T ops next { S with fr := (d, sv) :: S.fr } K
      | _, _ => False
    | none => False
  | .a j pr p r, S, K => (match ops[j]? with
    | some o => WOp P T ops S o fun S' => Proms T ops S' pr ∧ WPl P T ops p S' K
    | none => False) ∧ WPl P T ops r S K
  | .z, _, _ => True

/-- The slots that b names are forgotten. -/
def St.mask (S : St) (b : Nat → Bool) : St := { S with fr := S.fr.map fun (k, sv) => (k, if b k then SV.no else sv) }

theorem lk_map (b : Nat → Bool) : ∀ (fr : List (Nat × SV)) (k : Nat), lk (fr.map fun (k, sv) => (k, if b k then SV.no else sv)) k = if b k then SV.no else lk fr k
  | [], k => by simp [lk]
  | (k', sv) :: fr, k => by
    simp only [List.map_cons, lk]
    split
    · rename_i h; subst h; rfl
    · exact lk_map b fr k
theorem lk_mask (S : St) (b : Nat → Bool) (k : Nat) : lk (S.mask b).fr k = if b k then SV.no else lk S.fr k := lk_map b S.fr k

theorem evO_mask (S : St) (b : Nat → Bool) (x : Operand) (h : ∀ t, x = .tmp t → b t = false) : evO (S.mask b) x = evO S x := by
  cases x with
  | tmp t => simp only [evO, lk_mask, h t rfl]; rfl
  | _ => rfl

section
variable {P : Program} {T : TE} {ops : Array Oper}

theorem mem_looks_tmp {o : Oper} {x : Operand} (hx : x ∈ o.op.operands) {t : Tmp} (ht : x = .tmp t) : t ∈ o.looksAt ops := by
  subst ht
  exact List.mem_append_left _ (List.mem_filterMap.2 ⟨.tmp t, by simpa using hx, rfl⟩)
theorem mem_looks_guard {o : Oper} {j : Nat} {want : Bool} {d : Tmp} (hg : o.guard = some (j, want)) (hd : (ops[j]?).bind (·.dst) = some d) : d ∈ o.looksAt ops := by
  refine List.mem_append_right _ ?_
  rw [hg]
  simp [hd]

theorem guardG_congr {S1 S2 : St} {o : Oper} (h : ∀ t ∈ o.looksAt ops, lk S1.fr t = lk S2.fr t) : guardG ops S1 o = guardG ops S2 o := by
  unfold guardG
  split
  · rfl
  · rename_i j want hg
    split
    · rename_i d hd
      rw [h d (mem_looks_guard hg hd)]
    · rfl

theorem evalQ_congr {S1 S2 : St} {o : Oper} (h : ∀ t ∈ o.looksAt ops, lk S1.fr t = lk S2.fr t) (hW : S1.W = S2.W ∨ isLoad o.op = false) : evalQ T ops S1 o = evalQ T ops S2 o := by
  have hq : quiet T S1 o = quiet T S2 o := quiet_congr (fun x hx => by
    cases x with
    | tmp t => exact h t (mem_looks_tmp hx rfl)
    | _ => rfl) hW
  unfold evalQ
  rw [hq, guardG_congr h]

theorem mask_put (S : St) (b : Nat → Bool) (dst : Option Tmp) (sv : SV) (h : ∀ d, dst = some d → b d = false) : (S.mask b).put dst sv = (S.put dst sv).mask b := by
  cases dst with
  | none => rfl
  | some d => simp [St.put, St.mask, h d rfl]

theorem pureCall_congr {ρ ρ' : Operand → SV} {op : Op} {v : AV} (h : ∀ x ∈ op.operands, ρ x = ρ' x) (hp : pureCall P ρ op v) : pureCall P ρ' op v := by
  unfold pureCall at hp ⊢
  split at hp
  · rename_i f args at'
    simp only [Op.operands, Call.operands] at h
    have hf := h f (by simp)
    have ha : args.toList.map ρ' = args.toList.map ρ := List.map_congr_left fun x hx => (h x (by simp; exact .inr (by simpa using hx))).symm
    simp only [← hf, ha]
    exact hp
  · cases hp

theorem WOp_mask {S : St} {b : Nat → Bool} {o : Oper} {K K' : St → Prop} (h : ∀ t ∈ o.looksAt ops, b t = false) (hd : ∀ d, o.dst = some d → b d = false) (hK : ∀ S', K S' → K' (S'.mask b)) (hw : WOp P T ops S o K) : WOp P T ops (S.mask b) o K' := by
  have hlk : ∀ t ∈ o.looksAt ops, lk (S.mask b).fr t = lk S.fr t := fun t ht => by rw [lk_mask, h t ht]; rfl
  have e1 : evalQ T ops (S.mask b) o = evalQ T ops S o := evalQ_congr hlk (.inl rfl)
  have e2 : guardG ops (S.mask b) o = guardG ops S o := guardG_congr hlk
  have hev : ∀ x ∈ o.op.operands, evO S x = evO (S.mask b) x := fun x hx => (evO_mask S b x fun t ht => h t (mem_looks_tmp hx ht)).symm
  have aw : AW P T (evO S) S.W o.op (fun W' sv => K ({ S with W := W' }.put o.dst sv.noU)) → AW P T (evO (S.mask b)) (S.mask b).W o.op (fun W' sv => K' ({ S.mask b with W := W' }.put o.dst sv.noU)) := fun ha =>
    AW_mono hev (fun W' sv hk => by
      have := hK _ hk
      rw [← mask_put _ _ _ _ hd] at this
      exact this) ha
  unfold WOp at hw ⊢
  rw [e1, e2]
  split
  · rename_i c sv hq
    rw [hq] at hw
    exact ⟨hw.1, by rw [mask_put _ _ _ _ hd]; exact hK _ hw.2⟩
  · rename_i hq
    rw [hq] at hw
    simp only at hw
    split
    · rename_i hg
      rw [hg] at hw
      exact aw hw
    · rename_i hg
      rw [hg] at hw
      simp only at hw
      split
      · rename_i hga
        rw [hga] at hw
        refine ⟨hw.1, ?_⟩
        rcases hw.2 with ⟨k1, k2⟩ | ⟨v, k1, k2⟩
        · exact .inl ⟨fun hb => aw (k1 hb), fun hb => by rw [mask_put _ _ _ _ hd]; exact hK _ (k2 hb)⟩
        · exact .inr ⟨v, fun hb => pureCall_congr hev (k1 hb), by rw [mask_put _ _ _ _ hd]; exact hK _ k2⟩
      · rename_i hga
        rw [hga] at hw
        exact hw

theorem WOp_info {S : St} {o : Oper} {K : St → Prop} (hw : WOp P T ops S o K) : WOp P T ops S o (fun S' => K S' ∧ S'.n = S.n ∧ ∀ k, o.dst ≠ some k → lk S'.fr k = lk S.fr k) := by
  have hput : ∀ (S1 : St) sv, S1.fr = S.fr → S1.n = S.n → (S1.put o.dst sv).n = S.n ∧ ∀ k, o.dst ≠ some k → lk (S1.put o.dst sv).fr k = lk S.fr k := fun S1 sv h1 h2 => by
    cases ho : o.dst with
    | none => exact ⟨h2, fun k _ => by simp only [St.put, h1]⟩
    | some d => exact ⟨h2, fun k hk => by
        have : d ≠ k := fun e => hk (by rw [e])
        simp only [St.put, lk, if_neg this, h1]⟩
  have aw : AW P T (evO S) S.W o.op (fun W' sv => K ({ S with W := W' }.put o.dst sv.noU)) → AW P T (evO S) S.W o.op (fun W' sv => K ({ S with W := W' }.put o.dst sv.noU) ∧ ({ S with W := W' }.put o.dst sv.noU).n = S.n ∧ ∀ k, o.dst ≠ some k → lk ({ S with W := W' }.put o.dst sv.noU).fr k = lk S.fr k) := fun ha =>
    AW_mono (fun _ _ => rfl) (fun W' sv hk => ⟨hk, hput { S with W := W' } sv.noU rfl rfl⟩) ha
  unfold WOp at hw ⊢
  split
  · rename_i c sv hq
    rw [hq] at hw
    exact ⟨hw.1, hw.2, hput S sv rfl rfl⟩
  · rename_i hq
    rw [hq] at hw
    simp only at hw
    split
    · rename_i hg
      rw [hg] at hw
      exact aw hw
    · rename_i hg
      rw [hg] at hw
      simp only at hw
      split
      · rename_i hga
        rw [hga] at hw
        refine ⟨hw.1, ?_⟩
        rcases hw.2 with ⟨k1, k2⟩ | ⟨v, k1, k2⟩
        · exact .inl ⟨fun hb => aw (k1 hb), fun hb => ⟨k2 hb, hput S _ rfl rfl⟩⟩
        · exact .inr ⟨v, k1, k2, hput S _ rfl rfl⟩
      · rename_i hga
        rw [hga] at hw
        exact hw

theorem Rel.of_lk {Γ : Cx} {S1 S2 : St} {a : Act} {w : World} (h : Rel P Γ S1 a w) (hn : S2.n = S1.n) (hb : S2.b = S1.b) (hW : S2.W = S1.W) (hl : ∀ k, lk S2.fr k = SV.no ∨ lk S1.fr k = lk S2.fr k) : Rel P Γ S2 a w := by
  obtain ⟨M, θ, ω, τ, hr⟩ := h
  refine ⟨M, θ, ω, τ, by rw [hW]; exact hr.core, ⟨by rw [hn]; exact hr.fr.size, hr.fr.defers, fun k hk => ?_, fun k ht hk => ?_⟩, by rw [hb]; exact hr.bas⟩
  · rcases hl k with h1 | h1
    · rw [h1] at hk; exact hk.elim
    · have := hr.fr.slot k (by rw [h1]; exact hk)
      rw [h1] at this
      rw [hW]; exact this
  · rcases hl k with h1 | h1
    · rw [h1] at ht; cases ht
    · rw [← h1] at ht hk
      exact hr.fr.und k ht hk

variable {A : List (List Nat)} {sync : List Nat}

theorem st_anc (h : okStat ops A sync = true) {i k : Nat} (hi : i < ops.size) (hk : k ∈ ancAt A i) : ∃ p ∈ predsAt ops i, p < i ∧ (k = p ∨ k ∈ ancAt A p) := by
  simp only [okStat, Bool.and_eq_true] at h
  have := List.all_eq_true.1 (List.all_eq_true.1 h.1.1 i (List.mem_range.2 hi)) k hk
  obtain ⟨p, hp, h2⟩ := List.any_eq_true.1 this
  simp only [Bool.and_eq_true, decide_eq_true_eq, Bool.or_eq_true, beq_iff_eq, List.contains_iff_mem] at h2
  exact ⟨p, hp, h2.1, h2.2⟩

theorem st_dst (h : okStat ops A sync = true) {i k : Nat} (hi : i < ops.size) (hk : k < ops.size) {t : Tmp} (ht : dstAt ops k = some t) :
    (i = k ∨ dstAt ops i ≠ some t) ∧ (t ∈ looksAtI ops i → k ∈ ancAt A i ∨ (k ∈ sync ∧ (i ∈ ancAt A k ∨ i = k))) := by
  simp only [okStat, Bool.and_eq_true] at h
  have := List.all_eq_true.1 (List.all_eq_true.1 h.1.2 i (List.mem_range.2 hi)) k (List.mem_range.2 hk)
  rw [ht] at this
  simp only [Bool.and_eq_true, Bool.or_eq_true, beq_iff_eq, bne_iff_ne, ne_eq, Bool.not_eq_true', List.contains_iff_mem, ← Bool.not_eq_true] at this
  refine ⟨this.1, fun hm => ?_⟩
  rcases this.2 with (h1 | h1) | h1
  · exact absurd hm h1
  · exact .inl h1
  · exact .inr h1

theorem anc_sub (h : okStat ops A sync = true) {D : Nat → Prop} (hc : ∀ i, D i → ∀ p ∈ predsAt ops i, D p) : ∀ (i : Nat), i < ops.size → (∀ p ∈ predsAt ops i, D p) → ∀ k ∈ ancAt A i, D k := by
  intro i
  induction i using Nat.strongRecOn with
  | _ i ih =>
    intro hi hp k hk
    obtain ⟨p, h1, h2, h3⟩ := st_anc h hi hk
    rcases h3 with rfl | h3
    · exact hp k h1
    · exact ih p h2 (by omega) (hc p (hp p h1)) k h3

def EOk (ops : Array Oper) : List Nat → Prop
  | [] => True
  | i :: E => (∀ p ∈ predsAt ops i, p ∈ E) ∧ EOk ops E

theorem EOk.closed : ∀ {E : List Nat}, EOk ops E → ∀ i ∈ E, ∀ p ∈ predsAt ops i, p ∈ E
  | [], _, i, hi, _, _ => by simp at hi
  | j :: E, h, i, hi, p, hp => by
    rcases List.mem_cons.1 hi with rfl | hi
    · exact List.mem_cons_of_mem _ (h.1 p hp)
    · exact List.mem_cons_of_mem _ (EOk.closed h.2 i hi p hp)

def Ld (listed : Array Bool) (i : Nat) : Bool := listed.getD i false

theorem ready_iff {listed : Array Bool} (hs : listed.size = ops.size) {j : Nat} : j ∈ Region.ready .any ops listed ↔ j < ops.size ∧ Ld listed j = false ∧ ∀ p ∈ predsAt ops j, Ld listed p = true := by
  rw [mem_ready]
  have key : ∀ o, ops[j]? = some o → ((∀ e ∈ o.after, Region.binds .any e = true → listed.getD e.on false = true) ↔ ∀ p ∈ predsAt ops j, Ld listed p = true) := fun o ho => by
    unfold predsAt predsOf
    rw [ho]
    simp only [List.mem_map, List.mem_filter, Array.mem_toList_iff]
    constructor
    · rintro h p ⟨e, ⟨h1, h2⟩, rfl⟩; exact h e h1 h2
    · intro h e h1 h2; exact h e.on ⟨e, ⟨h1, h2⟩, rfl⟩
  constructor
  · rintro ⟨h0, o, ho, h⟩
    have hj := (Array.getElem?_eq_some_iff.1 ho).1
    refine ⟨hj, ?_, (key o ho).1 h⟩
    have hj' : j < listed.size := by omega
    simp only [Ld, Array.getD_eq_getD_getElem?, Array.getElem?_eq_getElem hj', Option.getD_some] at h0 ⊢
    exact h0
  · rintro ⟨hj, h0, h⟩
    obtain ⟨o, ho⟩ : ∃ o, ops[j]? = some o := ⟨ops[j], by simp [hj]⟩
    refine ⟨?_, o, ho, (key o ho).2 h⟩
    have hj' : j < listed.size := by omega
    simp only [Ld, Array.getD_eq_getD_getElem?, Array.getElem?_eq_getElem hj', Option.getD_some] at h0 ⊢
    exact h0

theorem Ld_set {listed : Array Bool} {i j : Nat} (hi : i < listed.size) : Ld (listed.setIfInBounds i true) j = if j = i then true else Ld listed j := by
  unfold Ld
  split
  · rename_i h; subst h; simp [hi]
  · rename_i h; simp [Array.getElem?_setIfInBounds_ne (fun e => h e.symm)]

def bm (ops : Array Oper) (E : List Nat) (listed : Array Bool) : Nat → Bool := fun d => E.any fun i => !Ld listed i && dstAt ops i == some d

theorem bm_true {E : List Nat} {listed : Array Bool} {d : Nat} : bm ops E listed d = true ↔ ∃ i ∈ E, Ld listed i = false ∧ dstAt ops i = some d := by
  unfold bm
  rw [List.any_eq_true]
  simp

structure RI (P : Program) (T : TE) (ops : Array Oper) (sync : List Nat) (Γ : Cx) (n : Nat) (E : List Nat) (S : St) (listed : Array Bool) (a : Act) (w : World) : Prop where
  size : listed.size = ops.size
  sub : ∀ i, Ld listed i = true → i ∈ E
  rng : ∀ i ∈ E, i < ops.size
  eok : EOk ops E
  closed : ∀ i, Ld listed i = true → ∀ p ∈ predsAt ops i, Ld listed p = true
  rel : Rel P Γ (S.mask (bm ops E listed)) a w
  prom : ∀ i ∈ E, Ld listed i = false → i ∉ sync ∧ Prom T ops S i
  n : S.n = n

theorem prom_spec {S : St} {i : Nat} (h : Prom T ops S i) : ∃ o c sv d, ops[i]? = some o ∧ evalQ T ops S o = some (c, sv) ∧ o.dst = some d ∧ c ∧ (if isLoad o.op = true then svLe S.W.stamp (lk S.fr d) sv else lk S.fr d = sv) := by
  unfold Prom at h
  split at h
  · rename_i o ho
    split at h
    · rename_i c sv d hq hd
      exact ⟨o, c, sv, d, ho, hq, hd, h.1, h.2⟩
    · cases h
  · cases h
theorem prom_mk {S : St} {i : Nat} {o : Oper} {c : Prop} {sv : SV} {d : Nat} (h1 : ops[i]? = some o) (h2 : evalQ T ops S o = some (c, sv)) (h3 : o.dst = some d) (h4 : c) (h5 : if isLoad o.op = true then svLe S.W.stamp (lk S.fr d) sv else lk S.fr d = sv) : Prom T ops S i := by
  unfold Prom
  rw [h1]
  simp only [h2, h3]
  exact ⟨h4, h5⟩

theorem svLe_refl (st : Nat) (sv : SV) : svLe st sv sv := by
  refine ⟨id, rfl, ?_, id⟩
  cases sv.tg <;> simp [tagLe]

theorem looks_at {i : Nat} {o : Oper} (ho : ops[i]? = some o) {t : Nat} (ht : t ∈ o.looksAt ops) : t ∈ looksAtI ops i := by
  unfold looksAtI; rw [ho]; exact ht
theorem dst_at {i : Nat} {o : Oper} (ho : ops[i]? = some o) : dstAt ops i = o.dst := by
  unfold dstAt; rw [ho]; rfl

/-- A quiet operation is reckoned ahead of its turn. -/
theorem RI.advance (hst : okStat ops A sync = true) {Γ : Cx} {n : Nat} {E : List Nat} {S : St} {listed : Array Bool} {a : Act} {w : World} (h : RI P T ops sync Γ n E S listed a w) {i : Nat} (hi : i < ops.size) (hE : i ∉ E) (hs : i ∉ sync)
    (hp : ∀ p ∈ predsAt ops i, p ∈ E) {o : Oper} (ho : ops[i]? = some o) {c : Prop} {sv : SV} {d : Nat} (hq : evalQ T ops S o = some (c, sv)) (hd : o.dst = some d) (hc : c) :
    RI P T ops sync Γ n (i :: E) { S with fr := (d, sv) :: S.fr } listed a w := by
  have hun : Ld listed i = false := by
    cases hh : Ld listed i with
    | false => rfl
    | true => exact absurd (h.sub i hh) hE
  have hdi : dstAt ops i = some d := by rw [dst_at ho, hd]
  have hclos : ∀ k ∈ E, ∀ p ∈ predsAt ops k, p ∈ E := EOk.closed h.eok
  have hself : d ∉ o.looksAt ops := fun hm => by
    rcases (st_dst hst hi hi hdi).2 (looks_at ho hm) with h1 | h1
    · exact hE (anc_sub hst (D := (· ∈ E)) hclos i hi hp i h1)
    · exact hs h1.1
  have hoth : ∀ k ∈ E, d ∉ looksAtI ops k := fun k hk hm => by
    rcases (st_dst hst (h.rng k hk) hi hdi).2 hm with h1 | h1
    · exact hE (anc_sub hst (D := (· ∈ E)) hclos k (h.rng k hk) (hclos k hk) i h1)
    · exact hs h1.1
  have hlk : ∀ t, t ≠ d → lk ({ S with fr := (d, sv) :: S.fr } : St).fr t = lk S.fr t := fun t ht => by simp only [lk, if_neg (Ne.symm ht)]
  refine ⟨h.size, fun j hj => List.mem_cons_of_mem _ (h.sub j hj), fun j hj => ?_, ⟨hp, h.eok⟩, h.closed, ?_, fun k hk hkl => ?_, h.n⟩
  · rcases List.mem_cons.1 hj with rfl | hj
    · exact hi
    · exact h.rng j hj
  · refine h.rel.of_lk rfl rfl rfl fun k => ?_
    rw [lk_mask, lk_mask]
    by_cases hb : bm ops (i :: E) listed k = true
    · rw [if_pos hb]; exact .inl rfl
    · refine .inr ?_
      have hkd : k ≠ d := fun e => hb (bm_true.2 ⟨i, by simp, hun, by rw [hdi, e]⟩)
      have hb2 : ¬ bm ops E listed k = true := fun hb2 => by
        obtain ⟨j, h1, h2, h3⟩ := bm_true.1 hb2
        exact hb (bm_true.2 ⟨j, List.mem_cons_of_mem _ h1, h2, h3⟩)
      rw [if_neg hb, if_neg hb2, hlk k hkd]
  · rcases List.mem_cons.1 hk with rfl | hk
    · refine ⟨hs, prom_mk ho (c := c) (sv := sv) (d := d) ?_ hd hc ?_⟩
      · rw [← hq]
        exact evalQ_congr (fun t ht => hlk t (fun e => hself (e ▸ ht))) (.inl rfl)
      · simp only [lk, if_true]
        split
        · exact svLe_refl _ _
        · trivial
    · obtain ⟨k1, k2⟩ := h.prom k hk hkl
      obtain ⟨o2, c2, sv2, d2, j1, j2, j3, j4, j5⟩ := prom_spec k2
      have hne : d2 ≠ d := fun e => by
        have := (st_dst hst (h.rng k hk) hi hdi).1
        rcases this with h1 | h1
        · exact hE (h1 ▸ hk)
        · exact h1 (by rw [dst_at j1, j3, e])
      refine ⟨k1, prom_mk j1 (c := c2) (sv := sv2) (d := d2) ?_ j3 j4 ?_⟩
      · rw [← j2]
        exact evalQ_congr (fun t ht => hlk t (fun e => hoth k hk (e ▸ looks_at j1 ht))) (.inl rfl)
      · rw [hlk d2 hne]; exact j5

theorem slot_le {Γ : Cx} {S : St} {M : Snap} {θ : List Nat} {τ : Nat → Value} {w : World} {W : WPt} {r sv : SV} {v : Value} (hle : svLe W.stamp r sv) (h : SlotOk W M θ τ w sv v) : SlotOk W M θ τ w r v := by
  obtain ⟨_, h2, h3, _⟩ := hle
  refine ⟨by rw [h2]; exact h.1, ?_⟩
  have ht := h.2
  revert h3
  cases hr : r.tg with
  | none => intro _; trivial
  | cell b o s =>
    simp only [tagLe]
    rintro (h4 | h4)
    · exact ⟨by omega, fun he => by omega⟩
    · rw [h4] at ht; exact ht
  | _ => simp only [tagLe]; intro h4; rw [h4] at ht; exact ht

/-- What was reckoned ahead is done. -/
theorem RI.doneQ (hst : okStat ops A sync = true) (hT : TOk P T) {Γ : Cx} {n : Nat} {E : List Nat} {S : St} {listed : Array Bool} {a : Act} {w : World} (hdb : ∀ o ∈ ops.toList, ∀ d, o.dst = some d → d < n) (h : RI P T ops sync Γ n E S listed a w) {i : Nat} (hE : i ∈ E) (hun : Ld listed i = false)
    (hp : ∀ p ∈ predsAt ops i, Ld listed p = true) {Kc : Act → World → Prop} {Q : Exit → Act → World → Prop} (hK : ∀ a' w', RI P T ops sync Γ n E S (listed.setIfInBounds i true) a' w' → Kc a' w') : wpOp P ops Q i Kc a w := by
  obtain ⟨hs, hpr⟩ := h.prom i hE hun
  obtain ⟨o, c, sv, d, ho, hq, hd, hc, hle⟩ := prom_spec hpr
  have hi := h.rng i hE
  have hdi : dstAt ops i = some d := by rw [dst_at ho, hd]
  have hanc : ∀ k ∈ ancAt A i, Ld listed k = true := anc_sub hst (D := fun k => Ld listed k = true) h.closed i hi hp
  have hlook : ∀ t ∈ o.looksAt ops, bm ops E listed t = false := fun t ht => by
    cases hb : bm ops E listed t with
    | false => rfl
    | true =>
      obtain ⟨k, h1, h2, h3⟩ := bm_true.1 hb
      rcases (st_dst hst hi (h.rng k h1) h3).2 (looks_at ho ht) with h4 | h4
      · rw [hanc k h4] at h2; cases h2
      · exact absurd h4.1 (h.prom k h1 h2).1
  have hqm : evalQ T ops (S.mask (bm ops E listed)) o = some (c, sv) := by
    rw [← hq]
    exact evalQ_congr (fun t ht => by rw [lk_mask, hlook t ht]; rfl) (.inl rfl)
  have hle' : svLe S.W.stamp (lk S.fr d) sv := by
    split at hle
    · exact hle
    · rw [hle]; exact svLe_refl _ _
  obtain ⟨M, θ, ω, τ, hr⟩ := h.rel
  have hsz : i < listed.size := by rw [h.size]; exact hi
  have fin : ∀ v, ((lk S.fr d).ok → SlotOk S.W M θ τ w (lk S.fr d) v) → ((lk S.fr d).tg = .und → ¬ (lk S.fr d).ok → v = undef) → Kc (a.put o.dst v) w := fun v hv hvu => by
    refine hK _ _ ⟨by simp [h.size], fun j hj => ?_, h.rng, h.eok, fun j hj p hpp => ?_, ?_, fun k hk hkl => ?_, h.n⟩
    · rw [Ld_set hsz] at hj
      split at hj
      · rename_i he; rw [he]; exact hE
      · exact h.sub j hj
    · rw [Ld_set hsz]
      split
      · rfl
      · rw [Ld_set hsz] at hj
        split at hj
        · rename_i he; subst he; exact hp p hpp
        · exact h.closed j hj p hpp
    · have h2 := hr.put o.dst (lk S.fr d) v (fun d' hd' => by
        show d' < S.n
        rw [h.n]
        exact hdb o (by rw [Array.mem_toList_iff]; exact Array.mem_of_getElem? ho) d' hd') hv hvu
      refine Rel.of_lk ⟨_, _, _, _, h2⟩ ?_ ?_ ?_ fun k => ?_
      · rw [hd]; rfl
      · rw [hd]; rfl
      · rw [hd]; rfl
      · rw [hd]
        simp only [St.put, lk]
        rw [lk_mask, lk_mask]
        by_cases hb : bm ops E (listed.setIfInBounds i true) k = true
        · rw [if_pos hb]; exact .inl rfl
        · rw [if_neg hb]
          refine .inr ?_
          by_cases hkd : d = k
          · subst hkd
            rw [if_pos rfl]
          · rw [if_neg hkd, if_neg]
            intro hb2
            obtain ⟨j, h3, h4, h5⟩ := bm_true.1 hb2
            refine hb (bm_true.2 ⟨j, h3, ?_, h5⟩)
            rw [Ld_set hsz, if_neg]
            · exact h4
            · intro e; subst e; rw [hdi] at h5; cases h5; exact hkd rfl
    · rw [Ld_set hsz] at hkl
      split at hkl
      · cases hkl
      · exact h.prom k hk hkl
  unfold wpOp
  rw [ho]
  simp only
  rcases evalQ_sound hT hr hqm hc with ⟨h1, hu, v, h2, h3⟩ | ⟨h1, h2⟩
  · rw [h1, if_pos rfl]
    refine .inl ?_
    unfold Oper.wp
    rw [h2, Oper.upon_value]
    refine fin v (fun hok => slot_le (Γ := Γ) (S := S) hle' (h3 (hle'.1 hok))) fun ht hno => ?_
    have : sv.tg = .und := by
      have h5 := hle'.2.2.1
      rw [ht] at h5
      exact h5
    exact absurd (hle'.2.2.2 (hu this)) hno
  · rw [h1, if_neg (by simp)]
    exact fin undef (fun hok => (h2 (hle'.1 hok)).elim) (fun _ _ => rfl)
end
end Go.Abs

namespace Go.Abs
open Go

section
variable {P : Program} {T : TE} {ops : Array Oper} {A : List (List Nat)} {sync : List Nat}

theorem Proms_mem {S : St} : ∀ {pr : List Nat} {k : Nat}, Proms T ops S pr → k ∈ pr → Prom T ops S k
  | [], k, _, h => by simp at h
  | x :: pr, k, h, hm => by
    simp only [Proms] at h
    rcases List.mem_cons.1 hm with rfl | hm
    · exact h.1
    · exact Proms_mem h.2 hm

/-- An operation that is reckoned at its turn. -/
theorem RI.doneA (hst : okStat ops A sync = true) (hT : TOk P T) {Γ : Cx} {n : Nat} {E : List Nat} {S : St} {listed : Array Bool} {a : Act} {w : World} (hdb : ∀ o ∈ ops.toList, ∀ d, o.dst = some d → d < n) (h : RI P T ops sync Γ n E S listed a w) {i : Nat} (hi : i < ops.size) (hE : i ∉ E)
    (hpE : ∀ p ∈ predsAt ops i, p ∈ E) (hp : ∀ p ∈ predsAt ops i, Ld listed p = true) {o : Oper} (ho : ops[i]? = some o) {pr : List Nat} {K : St → Prop}
    (hcov : ∀ k ∈ E, k ∈ sync ∨ k ∈ ancAt A i ∨ k ∈ pr ∨ ∀ o', ops[k]? = some o' → isLoad o'.op = false) (hw : WOp P T ops S o fun S' => Proms T ops S' pr ∧ K S')
    {Kc : Act → World → Prop} {Q : Exit → Act → World → Prop} (hK : ∀ S' a' w', K S' → RI P T ops sync Γ n (i :: E) S' (listed.setIfInBounds i true) a' w' → Kc a' w') : wpOp P ops Q i Kc a w := by
  have hanc : ∀ k ∈ ancAt A i, Ld listed k = true := anc_sub hst (D := fun k => Ld listed k = true) h.closed i hi hp
  have hclos : ∀ k ∈ E, ∀ p ∈ predsAt ops k, p ∈ E := EOk.closed h.eok
  have hlook : ∀ t ∈ o.looksAt ops, bm ops E listed t = false := fun t ht => by
    cases hb : bm ops E listed t with
    | false => rfl
    | true =>
      obtain ⟨k, h1, h2, h3⟩ := bm_true.1 hb
      rcases (st_dst hst hi (h.rng k h1) h3).2 (looks_at ho ht) with h4 | h4
      · rw [hanc k h4] at h2; cases h2
      · exact absurd h4.1 (h.prom k h1 h2).1
  have hdst : ∀ d, o.dst = some d → bm ops E listed d = false := fun d hd => by
    cases hb : bm ops E listed d with
    | false => rfl
    | true =>
      obtain ⟨k, h1, h2, h3⟩ := bm_true.1 hb
      rcases (st_dst hst hi (h.rng k h1) h3).1 with h4 | h4
      · exact absurd (h4 ▸ h1) hE
      · exact absurd (by rw [dst_at ho, hd]) h4
  have hsz : i < listed.size := by rw [h.size]; exact hi
  have hbm : bm ops (i :: E) (listed.setIfInBounds i true) = bm ops E listed := by
    funext d
    apply Bool.eq_iff_iff.2
    rw [bm_true, bm_true]
    constructor
    · rintro ⟨k, h1, h2, h3⟩
      rw [Ld_set hsz] at h2
      split at h2
      · cases h2
      · rename_i hne
        rcases List.mem_cons.1 h1 with h1 | h1
        · exact absurd h1 hne
        · exact ⟨k, h1, h2, h3⟩
    · rintro ⟨k, h1, h2, h3⟩
      refine ⟨k, List.mem_cons_of_mem _ h1, ?_, h3⟩
      rw [Ld_set hsz, if_neg]
      · exact h2
      · intro e; exact hE (e ▸ h1)
  have hw2 := WOp_mask (b := bm ops E listed) (K' := fun S'' => ∃ S', S'' = S'.mask (bm ops E listed) ∧ (Proms T ops S' pr ∧ K S') ∧ S'.n = S.n ∧ ∀ k, o.dst ≠ some k → lk S'.fr k = lk S.fr k) hlook hdst (fun S' hS => ⟨S', rfl, hS⟩) (WOp_info hw)
  obtain ⟨M, θ, ω, τ, hr⟩ := h.rel
  unfold wpOp
  rw [ho]
  refine WOp_sound hT hr hw2 (fun d hd => ?_) fun S'' a' w' _ hS hr' => ?_
  · show d < S.n
    rw [h.n]
    exact hdb o (by rw [Array.mem_toList_iff]; exact Array.mem_of_getElem? ho) d hd
  · obtain ⟨S', rfl, ⟨hpr, hk⟩, hn, hlk⟩ := hS
    refine hK S' a' w' hk ⟨by simp [h.size], fun j hj => ?_, fun j hj => ?_, ⟨hpE, h.eok⟩, fun j hj p hpp => ?_, by rw [hbm]; exact hr', fun k hk hkl => ?_, hn.trans h.n⟩
    · rw [Ld_set hsz] at hj
      split at hj
      · rename_i he; rw [he]; simp
      · exact List.mem_cons_of_mem _ (h.sub j hj)
    · rcases List.mem_cons.1 hj with rfl | hj
      · exact hi
      · exact h.rng j hj
    · rw [Ld_set hsz]
      split
      · rfl
      · rw [Ld_set hsz] at hj
        split at hj
        · rename_i he; subst he; exact hp p hpp
        · exact h.closed j hj p hpp
    · rw [Ld_set hsz] at hkl
      split at hkl
      · cases hkl
      · rename_i hki
        have hkE : k ∈ E := (List.mem_cons.1 hk).resolve_left hki
        obtain ⟨k1, k2⟩ := h.prom k hkE hkl
        refine ⟨k1, ?_⟩
        obtain ⟨o2, c2, sv2, d2, j1, j2, j3, j4, j5⟩ := prom_spec k2
        have inP : k ∈ pr → Prom T ops S' k := fun hm => Proms_mem hpr hm
        rcases hcov k hkE with h4 | h4 | h4 | h4
        · exact absurd h4 k1
        · rw [hanc k h4] at hkl; cases hkl
        · exact inP h4
        · have hnl := h4 o2 j1
          have hdk : o.dst ≠ some d2 := fun e => by
            rcases (st_dst hst hi (h.rng k hkE) (t := d2) (by rw [dst_at j1, j3])).1 with h5 | h5
            · exact hki h5.symm
            · exact h5 (by rw [dst_at ho, e])
          refine prom_mk j1 (c := c2) (sv := sv2) (d := d2) ?_ j3 j4 ?_
          · rw [← j2]
            refine evalQ_congr (fun t ht => hlk t fun e => ?_) (.inr hnl)
            rcases (st_dst hst (h.rng k hkE) hi (t := t) (by rw [dst_at ho, e])).2 (looks_at j1 ht) with h5 | h5
            · exact hE (anc_sub hst (D := (· ∈ E)) hclos k (h.rng k hkE) (hclos k hkE) i h5)
            · rcases h5.2 with h6 | h6
              · rw [hanc k h6] at hkl; cases hkl
              · exact hki h6
          · rw [hlk d2 hdk]
            rw [if_neg (by rw [hnl]; simp)] at j5 ⊢
            exact j5

theorem subL_spec {l E : List Nat} (h : subL l E = true) : ∀ p ∈ l, p ∈ E := fun p hp => by
  have := List.all_eq_true.1 h p hp
  simpa using this

theorem find_alt {E : List Nat} {S : St} {K : St → Prop} {i : Nat} (hi : i < ops.size) (hE : i ∉ E) (hp : ∀ p ∈ predsAt ops i, p ∈ E) : ∀ (p : Plan) (seen : List Nat), okP ops A sync E seen p = true → WPl P T ops p S K → i ∉ seen →
    (seen ≠ [] ∨ ∃ j pr p' r, p = .a j pr p' r) → ∃ pr p' o, ops[i]? = some o ∧ (∀ k ∈ E, k ∈ sync ∨ k ∈ ancAt A i ∨ k ∈ pr ∨ ∀ o', ops[k]? = some o' → isLoad o'.op = false) ∧ okP ops A sync (i :: E) [] p' = true ∧
      WOp P T ops S o fun S' => Proms T ops S' pr ∧ WPl P T ops p' S' K
  | .done, seen, h, _, _, hs => by
    rcases hs with hs | ⟨_, _, _, _, hs⟩
    · simp only [okP, Bool.and_eq_true, List.isEmpty_iff] at h; exact absurd h.1 hs
    · cases hs
  | .q _ _, seen, h, _, _, hs => by
    rcases hs with hs | ⟨_, _, _, _, hs⟩
    · simp only [okP, Bool.and_eq_true, List.isEmpty_iff] at h; exact absurd h.1.1.1.1.1 hs
    · cases hs
  | .z, seen, h, _, hns, hs => by
    simp only [okP, Bool.and_eq_true] at h
    have := List.all_eq_true.1 h.2 i (List.mem_range.2 hi)
    simp only [Bool.or_eq_true, List.contains_iff_mem, Bool.not_eq_true'] at this
    rcases this with (h1 | h1) | h1
    · exact absurd h1 hE
    · exact absurd h1 hns
    · have : subL (predsAt ops i) E = true := List.all_eq_true.2 fun p hpp => by simpa using hp p hpp
      rw [this] at h1; cases h1
  | .a j pr p' r, seen, h, hw, hns, hs => by
    simp only [okP, Bool.and_eq_true] at h
    simp only [WPl] at hw
    by_cases hij : j = i
    · subst hij
      obtain ⟨hw1, _⟩ := hw
      split at hw1
      · rename_i o ho
        refine ⟨pr, p', o, ho, fun k hk => ?_, h.1.2, hw1⟩
        have := List.all_eq_true.1 h.1.1.2 k hk
        simp only [Bool.or_eq_true, List.contains_iff_mem] at this
        rcases this with ((h1 | h1) | h1) | h1
        · exact .inl h1
        · exact .inr (.inl h1)
        · exact .inr (.inr (.inl h1))
        · refine .inr (.inr (.inr fun o' ho' => ?_))
          rw [ho'] at h1
          simpa using h1
      · cases hw1
    · exact find_alt hi hE hp r (j :: seen) h.2 hw.2 (fun hm => by
        rcases List.mem_cons.1 hm with h1 | h1
        · exact hij h1.symm
        · exact hns h1) (.inl (by simp))

def cnt (l : List Bool) : Nat := l.countP fun b => !b
theorem cnt_set : ∀ (l : List Bool) (i : Nat), l[i]? = some false → cnt (l.set i true) + 1 = cnt l
  | [], i, h => by simp at h
  | b :: l, 0, h => by simp at h; subst h; simp [cnt]
  | b :: l, i + 1, h => by
    have := cnt_set l i (by simpa using h)
    simp only [cnt, List.set_cons_succ, List.countP_cons] at this ⊢
    omega
theorem cnt_zero {listed : Array Bool} (h : cnt listed.toList = 0) {i : Nat} (hi : i < listed.size) : Ld listed i = true := by
  have := List.countP_eq_zero.1 h listed[i] (by simp)
  simp only [Ld, Array.getD_eq_getD_getElem?, Array.getElem?_eq_getElem hi, Option.getD_some]
  simpa using this
theorem cnt_lt {listed : Array Bool} {i : Nat} (hi : i < listed.size) (h : Ld listed i = false) : cnt (listed.setIfInBounds i true).toList + 1 = cnt listed.toList := by
  rw [Array.toList_setIfInBounds]
  refine cnt_set _ _ ?_
  simp only [Ld, Array.getD_eq_getD_getElem?, Array.getElem?_eq_getElem hi, Option.getD_some] at h
  simp [hi, h]

theorem some_ready {E : List Nat} {listed : Array Bool} : EOk ops E → (∀ i ∈ E, Ld listed i = true) ∨ ∃ i ∈ E, Ld listed i = false ∧ ∀ p ∈ predsAt ops i, Ld listed p = true := by
  induction E with
  | nil => intro _; exact .inl fun i hi => by simp at hi
  | cons j E ih =>
    intro h
    rcases ih h.2 with h1 | ⟨i, h1, h2⟩
    · cases hj : Ld listed j with
      | true =>
        refine .inl fun i hi => ?_
        rcases List.mem_cons.1 hi with rfl | hi
        · exact hj
        · exact h1 i hi
      | false => exact .inr ⟨j, by simp, hj, fun p hp => h1 p (h.1 p hp)⟩
    · exact .inr ⟨i, List.mem_cons_of_mem _ h1, h2⟩

theorem plan_sound (hst : okStat ops A sync = true) (hT : TOk P T) {Γ : Cx} {n : Nat} (hdb : ∀ o ∈ ops.toList, ∀ d, o.dst = some d → d < n) {K : St → Prop} {Q : Exit → Act → World → Prop} (hQ : ∀ S' a' w', S'.n = n → K S' → Rel P Γ S' a' w' → Q .normal a' w') :
    ∀ (fuel : Nat) (p : Plan) (E : List Nat) (S : St) (listed : Array Bool) (a : Act) (w : World), okP ops A sync E [] p = true → WPl P T ops p S K → RI P T ops sync Γ n E S listed a w → cnt listed.toList ≤ fuel → wpAny P .any ops Q fuel listed a w := by
  intro fuel
  induction fuel with
  | zero =>
    intro p
    induction p with
    | done =>
      intro E S listed a w hok hw h hc
      have hall : ∀ i, i < ops.size → Ld listed i = true := fun i hi => cnt_zero (by omega) (by rw [h.size]; exact hi)
      refine ⟨?_, hQ S a w h.n hw (h.rel.of_lk rfl rfl rfl fun k => .inr ?_)⟩
      · rw [List.eq_nil_iff_forall_not_mem]
        intro j hj
        obtain ⟨h1, h2, _⟩ := (ready_iff h.size).1 hj
        rw [hall j h1] at h2; cases h2
      · rw [lk_mask, if_neg]
        intro hb
        obtain ⟨i, h1, h2, _⟩ := bm_true.1 hb
        rw [hall i (h.rng i h1)] at h2; cases h2
    | q i next ih =>
      intro E S listed a w hok hw h hc
      simp only [okP, Bool.and_eq_true, decide_eq_true_eq, Bool.not_eq_true', ← Bool.not_eq_true, List.contains_iff_mem] at hok
      obtain ⟨⟨⟨⟨⟨_, k1⟩, k2⟩, k3⟩, k4⟩, k5⟩ := hok
      simp only [WPl] at hw
      split at hw
      · rename_i o ho
        split at hw
        · rename_i c sv d hq hd
          exact ih (i :: E) _ listed a w k5 hw.2 (h.advance hst k1 k2 k3 (subL_spec k4) ho hq hd hw.1) hc
        · cases hw
      · cases hw
    | a j pr p' r _ _ =>
      intro E S listed a w hok hw h hc
      simp only [okP, Bool.and_eq_true, decide_eq_true_eq, Bool.not_eq_true', ← Bool.not_eq_true, List.contains_iff_mem] at hok
      have := cnt_zero (listed := listed) (i := j) (by omega) (by rw [h.size]; exact hok.1.1.1.1.1.1)
      exact absurd (h.sub j this) hok.1.1.1.1.1.2
    | z =>
      intro E S listed a w hok _ _ _
      simp [okP] at hok
  | succ fuel ihf =>
    intro p
    have real : ∀ (p : Plan) (E : List Nat) (S : St) (listed : Array Bool) (a : Act) (w : World), okP ops A sync E [] p = true → WPl P T ops p S K → RI P T ops sync Γ n E S listed a w → cnt listed.toList ≤ fuel + 1 →
        ∀ i ∈ Region.ready .any ops listed, i ∈ E → wpOp P ops Q i (wpAny P .any ops Q fuel (listed.setIfInBounds i true)) a w := fun p E S listed a w hok hw h hc i hi hE => by
      obtain ⟨h1, h2, h3⟩ := (ready_iff h.size).1 hi
      refine h.doneQ hst hT hdb hE h2 h3 fun a' w' h' => ihf p E S _ a' w' hok hw h' ?_
      have := cnt_lt (by rw [h.size]; exact h1) h2
      omega
    induction p with
    | done =>
      intro E S listed a w hok hw h hc
      have hall : ∀ i, i < ops.size → i ∈ E := fun i hi => by
        simp only [okP, Bool.and_eq_true] at hok
        have := List.all_eq_true.1 hok.2 i (List.mem_range.2 hi)
        simpa using this
      refine ⟨fun hr => ?_, fun i hi => real .done E S listed a w hok hw h hc i hi (hall i ((ready_iff h.size).1 hi).1)⟩
      refine hQ S a w h.n hw (h.rel.of_lk rfl rfl rfl fun k => .inr ?_)
      rw [lk_mask, if_neg]
      intro hb
      obtain ⟨i, h1, h2, _⟩ := bm_true.1 hb
      rcases some_ready (listed := listed) h.eok with h3 | ⟨j, h3, h4, h5⟩
      · rw [h3 i h1] at h2; cases h2
      · have := (ready_iff h.size).2 ⟨h.rng j h3, h4, h5⟩
        rw [hr] at this; simp at this
    | q i next ih =>
      intro E S listed a w hok hw h hc
      simp only [okP, Bool.and_eq_true, decide_eq_true_eq, Bool.not_eq_true', ← Bool.not_eq_true, List.contains_iff_mem] at hok
      obtain ⟨⟨⟨⟨⟨_, k1⟩, k2⟩, k3⟩, k4⟩, k5⟩ := hok
      simp only [WPl] at hw
      split at hw
      · rename_i o ho
        split at hw
        · rename_i c sv d hq hd
          exact ih (i :: E) _ listed a w k5 hw.2 (h.advance hst k1 k2 k3 (subL_spec k4) ho hq hd hw.1) hc
        · cases hw
      · cases hw
    | z =>
      intro E S listed a w hok _ _ _
      simp [okP] at hok
    | a j pr p' r _ _ =>
      intro E S listed a w hok hw h hc
      refine ⟨fun hr => ?_, fun i hi => ?_⟩
      · exfalso
        rcases some_ready (listed := listed) h.eok with h3 | ⟨k, h3, h4, h5⟩
        · have hok' := hok
          simp only [okP, Bool.and_eq_true, decide_eq_true_eq, Bool.not_eq_true', ← Bool.not_eq_true, List.contains_iff_mem] at hok'
          obtain ⟨⟨⟨⟨⟨⟨k1, k2⟩, k3⟩, k4⟩, k5⟩, k6⟩, k7⟩ := hok'
          have hun : Ld listed j = false := by
            cases hh : Ld listed j with
            | false => rfl
            | true => exact absurd (h.sub j hh) k2
          have := (ready_iff h.size).2 ⟨k1, hun, fun p hp => h3 p (subL_spec k4 p hp)⟩
          rw [hr] at this; simp at this
        · have := (ready_iff h.size).2 ⟨h.rng k h3, h4, h5⟩
          rw [hr] at this; simp at this
      · by_cases hE : i ∈ E
        · exact real _ E S listed a w hok hw h hc i hi hE
        · obtain ⟨h1, h2, h3⟩ := (ready_iff h.size).1 hi
          have hpE : ∀ p ∈ predsAt ops i, p ∈ E := fun p hp => h.sub p (h3 p hp)
          obtain ⟨pr', p2, o, ho, hcov, hok2, hw2⟩ := find_alt h1 hE hpE _ [] hok hw (by simp) (.inr ⟨_, _, _, _, rfl⟩)
          refine h.doneA hst hT hdb h1 hE hpE h3 ho hcov hw2 fun S' a' w' hk h' => ihf p2 _ S' _ a' w' hok2 hk h' ?_
          have := cnt_lt (by rw [h.size]; exact h1) h2
          omega

theorem T3_draw (hT : TOk P T) (hm : P.follows .mixedOrders = true) {id : Nat} {S : St} {Q : AX → St → Prop} (rp : RPlan) (hok : okReg ops rp = true) (hd : ∀ o ∈ ops.toList, ∀ d, o.dst = some d → d < S.n) (h : WPl P T ops rp.plan S (Q .normal)) : T3 P (.region id ops true) S Q := fun Γ a w hr => by
  simp only [okReg, Bool.and_eq_true] at hok
  refine wp_region_any hm ?_
  have hl : ∀ i, Ld (Array.replicate ops.size false) i = false := fun i => by
    simp only [Ld, Array.getD_eq_getD_getElem?]
    rcases Nat.lt_or_ge i ops.size with h1 | h1
    · simp [h1]
    · simp [Nat.not_lt.2 h1]
  refine plan_sound hok.1 hT (Γ := Γ) (n := S.n) hd (fun S' a' w' hn hK hr' => ⟨.normal, S', rfl, hn, hK, hr'⟩) ops.size rp.plan [] S _ a _ hok.2 h ?_ ?_
  · refine ⟨by simp, (fun i hi => by rw [hl] at hi; cases hi), (fun i hi => by simp at hi), trivial, (fun i hi => by rw [hl] at hi; cases hi), ?_, (fun i hi => by simp at hi), rfl⟩
    obtain ⟨M, θ, ω, τ, h1⟩ := hr
    have h2 : Rel P Γ S a { w with drawn := w.drawn + 1 } := ⟨M, θ, ω, τ, h1.core.drew, ⟨h1.fr.size, h1.fr.defers, fun k hk => by
      have := h1.fr.slot k hk
      exact this, h1.fr.und⟩, h1.bas⟩
    refine h2.of_lk rfl rfl rfl fun k => .inr ?_
    rw [lk_mask, if_neg]
    intro hb
    obtain ⟨i, h1, _⟩ := bm_true.1 hb
    simp at h1
  · have := List.countP_le_length (p := fun b => !b) (l := (Array.replicate ops.size false).toList)
    simpa [cnt] using this
end
end Go.Abs

namespace Go.Abs
open Go

def LP (P : Program) (c : Code) (S : St) (Q : AX → St → Prop) (_ : Fx Q) : Prop := T3 P c S Q

/-- Code, evaluated; pl: a plan for each region whose order is drawn. -/
def WC (P : Program) (T : TE) (pl : Nat → RPlan) : Code → St → (AX → St → Prop) → Prop
  | .skip, S, Q => Q .normal S
  | .seq x y, S, Q => WC P T pl x S (thenQ (fun S' => WC P T pl y S' Q) Q)
  | .cond c x y, S, Q => match (evO S c).v with
    | .bool b => (evO S c).ok ∧ (b = true → WC P T pl x S Q) ∧ (b = false → WC P T pl y S Q)
    | _ => False
  | .block id c, S, Q => WC P T pl c S (blockQ id Q)
  | .exit id, S, Q => Q (.exit id) S
  | .ret, S, Q => Q .ret S
  | .region _ ops false, S, Q => WOps P T ops ops.toList S (Q .normal)
  | .region id ops true, S, Q => WPl P T ops (pl id).plan S (Q .normal)
  | c, S, Q => LP P c S Q .mk

def codeOk2 (n : Nat) (pl : Nat → RPlan) : Code → Bool
  | .seq x y => codeOk2 n pl x && codeOk2 n pl y
  | .cond _ x y => codeOk2 n pl x && codeOk2 n pl y
  | .block _ c => codeOk2 n pl c
  | .region _ ops false => dstsOk n ops
  | .region id ops true => dstsOk n ops && okReg ops (pl id)
  | _ => true

section
variable {P : Program} {T : TE} {pl : Nat → RPlan}

theorem WC_sound (hT : TOk P T) (hm : P.follows .mixedOrders = true) : ∀ (c : Code) (S : St) (Q : AX → St → Prop), codeOk2 S.n pl c = true → WC P T pl c S Q → T3 P c S Q
  | .skip, S, Q, _, h => T3_skip h
  | .exit id, S, Q, _, h => T3_exit h
  | .ret, S, Q, _, h => T3_ret h
  | .seq x y, S, Q, hc, h => by
    simp only [codeOk2, Bool.and_eq_true] at hc
    simp only [WC] at h
    exact T3_seq (T3.thenMono rfl (WC_sound hT hm x S _ hc.1 h) fun S' hn hS => WC_sound hT hm y S' Q (by rw [hn]; exact hc.2) hS)
  | .block id c, S, Q, hc, h => by
    simp only [codeOk2] at hc
    simp only [WC] at h
    exact T3_block (WC_sound hT hm c S _ hc h)
  | .cond c x y, S, Q, hc, h => by
    simp only [codeOk2, Bool.and_eq_true] at hc
    simp only [WC] at h
    split at h
    · rename_i b hv
      exact T3_cond hv h.1 (fun hb => WC_sound hT hm x S Q hc.1 (h.2.1 hb)) (fun hb => WC_sound hT hm y S Q hc.2 (h.2.2 hb))
    · cases h
  | .region id ops false, S, Q, hc, h => by
    simp only [codeOk2] at hc
    simp only [WC] at h
    exact T3_region hT (dstsOk_spec hc) h
  | .region id ops true, S, Q, hc, h => by
    simp only [codeOk2, Bool.and_eq_true] at hc
    simp only [WC] at h
    exact T3_draw hT hm (pl id) hc.2 (dstsOk_spec hc.1) h
  | .loop c, S, Q, _, h => h
  | .rangeFunc _ _ _ _, S, Q, _, h => h
  | .scope _, S, Q, _, h => h
  | .label _, S, Q, _, h => h
  | .goto _, S, Q, _, h => h
  | .refuse _, S, Q, _, h => h


theorem callG_v {g : FuncId} {svs : List SV} {W : WPt} {K : WPt → SV → Prop} (v : AV) (hf : FSv P g (svs.map (·.v)) v) (hok : ∀ sv ∈ svs, sv.ok) (hbel : belowL 0 (svs.map (·.v))) (hv : belowV 0 v)
    (hk : K W ⟨True, v, .none⟩) : callG P g svs W K .mk := ⟨none, .inl (callP_v hok hbel hv hf hk)⟩

theorem WOp_mono {ops : Array Oper} {o : Oper} {S : St} {K K' : St → Prop} (h : WOp P T ops S o K) (hk : ∀ S', K S' → K' S') : WOp P T ops S o K' := by
  have aw : AW P T (evO S) S.W o.op (fun W' sv => K ({ S with W := W' }.put o.dst sv.noU)) → AW P T (evO S) S.W o.op (fun W' sv => K' ({ S with W := W' }.put o.dst sv.noU)) := fun ha => AW_mono (fun _ _ => rfl) (fun W' sv hh => hk _ hh) ha
  unfold WOp at h ⊢
  split
  · rename_i c sv hq
    rw [hq] at h
    exact ⟨h.1, hk _ h.2⟩
  · rename_i hq
    rw [hq] at h
    simp only at h
    split
    · rename_i hg
      rw [hg] at h
      exact aw h
    · rename_i hg
      rw [hg] at h
      simp only at h
      split
      · rename_i hga
        rw [hga] at h
        refine ⟨h.1, ?_⟩
        rcases h.2 with ⟨k1, k2⟩ | ⟨v, k1, k2⟩
        · exact .inl ⟨fun hb => aw (k1 hb), fun hb => hk _ (k2 hb)⟩
        · exact .inr ⟨v, k1, hk _ k2⟩
      · rename_i hga
        rw [hga] at h
        exact h
theorem WOps_mono {ops : Array Oper} : ∀ {l : List Oper} {S : St} {K K' : St → Prop}, WOps P T ops l S K → (∀ S', K S' → K' S') → WOps P T ops l S K'
  | [], _, _, _, h, hk => hk _ h
  | o :: l, S, K, K', h, hk => WOp_mono h fun S' hS => WOps_mono hS hk
theorem WPl_mono {ops : Array Oper} : ∀ {p : Plan} {S : St} {K K' : St → Prop}, WPl P T ops p S K → (∀ S', K S' → K' S') → WPl P T ops p S K'
  | .done, _, _, _, h, hk => hk _ h
  | .z, _, _, _, _, _ => trivial
  | .q i next, S, K, K', h, hk => by
    simp only [WPl] at h ⊢
    split
    · rename_i o ho
      rw [ho] at h
      simp only at h
      split
      · rename_i c sv d hq hd
        rw [hq, hd] at h
        exact ⟨h.1, WPl_mono h.2 hk⟩
      · rename_i hne
        split at h
        · rename_i c sv d hq hd; exact absurd hd (hne c sv d hq)
        · exact h
    · rename_i ho
      rw [ho] at h
      exact h
  | .a j pr p r, S, K, K', h, hk => by
    simp only [WPl] at h ⊢
    refine ⟨?_, WPl_mono h.2 hk⟩
    have h1 := h.1
    split
    · rename_i o ho
      rw [ho] at h1
      exact WOp_mono h1 fun S' hS => ⟨hS.1, WPl_mono hS.2 hk⟩
    · rename_i ho
      rw [ho] at h1
      exact h1
theorem WC_mono : ∀ {c : Code} {S : St} {Q Q' : AX → St → Prop}, WC P T pl c S Q → (∀ e S', Q e S' → Q' e S') → WC P T pl c S Q'
  | .skip, S, Q, Q', h, hq => hq _ _ h
  | .exit id, S, Q, Q', h, hq => hq _ _ h
  | .ret, S, Q, Q', h, hq => hq _ _ h
  | .seq x y, S, Q, Q', h, hq => WC_mono (c := x) h fun e S' hS => by
    cases e with
    | normal => exact WC_mono (c := y) hS hq
    | exit id => exact hq _ _ hS
    | ret => exact hq _ _ hS
  | .block id c, S, Q, Q', h, hq => WC_mono (c := c) h fun e S' hS => by
    cases e with
    | normal => exact hq _ _ hS
    | exit id' =>
      simp only [blockQ] at hS ⊢
      split
      · rename_i he; rw [if_pos he] at hS; exact hq _ _ hS
      · rename_i he; rw [if_neg he] at hS; exact hq _ _ hS
    | ret => exact hq _ _ hS
  | .cond c x y, S, Q, Q', h, hq => by
    simp only [WC] at h ⊢
    split
    · rename_i b hv
      rw [hv] at h
      exact ⟨h.1, fun hb => WC_mono (c := x) (h.2.1 hb) hq, fun hb => WC_mono (c := y) (h.2.2 hb) hq⟩
    · rename_i hne
      split at h
      · rename_i b hv; exact absurd hv (hne b)
      · exact h
  | .region id ops false, S, Q, Q', h, hq => WOps_mono h fun S' hS => hq _ _ hS
  | .region id ops true, S, Q, Q', h, hq => WPl_mono h fun S' hS => hq _ _ hS
  | .loop c, S, Q, Q', h, hq => T3.mono h hq
  | .rangeFunc _ _ _ _, S, Q, Q', h, hq => T3.mono h hq
  | .scope _, S, Q, Q', h, hq => T3.mono h hq
  | .label _, S, Q, Q', h, hq => T3.mono h hq
  | .goto _, S, Q, Q', h, hq => T3.mono h hq
  | .refuse _, S, Q, Q', h, hq => T3.mono h hq

/-! #### The same, for the simplifier: it leaves what follows alone until its turn comes -/
def eWOps (P : Program) (T : TE) (ops : Array Oper) (l : List Oper) (S : St) (K : St → Prop) (_ : Fx K) : Prop := WOps P T ops l S K
def eWOp (P : Program) (T : TE) (ops : Array Oper) (S : St) (o : Oper) (K : St → Prop) (_ : Fx K) : Prop := WOp P T ops S o K
/-- What is under a guard and makes, writes or calls: either the two cases, or, of a call of a function that changes nothing, its value. -/
def eGA (P : Program) (T : TE) (g : Prop) (op : Op) (dst : Option Tmp) (S : St) (K : St → Prop) (_ : Fx K) : Prop :=
  ((g → AW P T (evO S) S.W op fun W' sv => K ({ S with W := W' }.put dst sv.noU)) ∧ (¬ g → K (S.put dst SV.un))) ∨ ∃ v, (g → pureCall P (evO S) op v) ∧ K (S.put dst ⟨g, v, .und⟩)
def eWPl (P : Program) (T : TE) (ops : Array Oper) (p : Plan) (S : St) (K : St → Prop) (_ : Fx K) : Prop := WPl P T ops p S K
def eAW (P : Program) (T : TE) (ρ : Operand → SV) (W : WPt) (op : Op) (K : WPt → SV → Prop) (_ : Fx K) : Prop := AW P T ρ W op K
def eWC (P : Program) (T : TE) (pl : Nat → RPlan) (c : Code) (S : St) (Q : AX → St → Prop) (_ : Fx Q) : Prop := WC P T pl c S Q

section
variable {P : Program} {T : TE} {pl : Nat → RPlan} {ops : Array Oper} {S : St}
theorem eWOps_nil {K : St → Prop} {d : Fx K} : eWOps P T ops [] S K d = K S := rfl
theorem eWOps_cons {o : Oper} {l : List Oper} {K : St → Prop} {d : Fx K} : eWOps P T ops (o :: l) S K d = eWOp P T ops S o (fun S' => eWOps P T ops l S' K .mk) .mk := rfl
theorem eWOp_eq {o : Oper} {K : St → Prop} {d : Fx K} : eWOp P T ops S o K d = (match evalQ T ops S o with
  | some (c, sv) => c ∧ K (S.put o.dst sv)
  | none => match o.guard with
    | none => eAW P T (evO S) S.W o.op (fun W' sv => K ({ S with W := W' }.put o.dst sv.noU)) .mk
    | some _ => match guardG ops S o with
      | some (c, g) => c ∧ eGA P T g o.op o.dst S K .mk
      | none => False) := rfl
theorem eGA_split {g : Prop} {op : Op} {dst : Option Tmp} {K : St → Prop} (h : (g → eAW P T (evO S) S.W op (fun W' sv => K ({ S with W := W' }.put dst sv.noU)) .mk) ∧ (¬ g → K (S.put dst SV.un))) : eGA P T g op dst S K .mk := .inl h
theorem eGA_v {g : Prop} {op : Op} {dst : Option Tmp} {K : St → Prop} (v : AV) (h : g → pureCall P (evO S) op v) (hk : K (S.put dst ⟨g, v, .und⟩)) : eGA P T g op dst S K .mk := .inr ⟨v, h, hk⟩
theorem eWPl_done {K : St → Prop} {d : Fx K} : eWPl P T ops .done S K d = K S := rfl
theorem eWPl_z {K : St → Prop} {d : Fx K} : eWPl P T ops .z S K d = True := rfl
theorem eWPl_q {i : Nat} {next : Plan} {K : St → Prop} {d : Fx K} : eWPl P T ops (.q i next) S K d = (match ops[i]? with
    | some o => match evalQ T ops S o, o.dst with
      | some (c, sv), some d => c ∧ eWPl P T ops next { S with fr := (d, sv) :: S.fr } K .mk
      | _, _ => False
    | none => False) := rfl
theorem eWPl_a {j : Nat} {pr : List Nat} {p r : Plan} {K : St → Prop} {d : Fx K} : eWPl P T ops (.a j pr p r) S K d = ((match ops[j]? with
    | some o => eWOp P T ops S o (fun S' => Proms T ops S' pr ∧ eWPl P T ops p S' K .mk) .mk
    | none => False) ∧ eWPl P T ops r S K .mk) := rfl
theorem eAW_eq {ρ : Operand → SV} {W : WPt} {op : Op} {K : WPt → SV → Prop} {d : Fx K} : eAW P T ρ W op K d = AW P T ρ W op K := rfl
theorem eWC_skip {Q : AX → St → Prop} {d : Fx Q} : eWC P T pl .skip S Q d = Q .normal S := rfl
theorem eWC_exit {id : Nat} {Q : AX → St → Prop} {d : Fx Q} : eWC P T pl (.exit id) S Q d = Q (.exit id) S := rfl
theorem eWC_ret {Q : AX → St → Prop} {d : Fx Q} : eWC P T pl .ret S Q d = Q .ret S := rfl
theorem eWC_seq {x y : Code} {Q : AX → St → Prop} {d : Fx Q} : eWC P T pl (.seq x y) S Q d = eWC P T pl x S (thenQ (fun S' => eWC P T pl y S' Q .mk) Q) .mk := rfl
theorem eWC_block {id : Nat} {c : Code} {Q : AX → St → Prop} {d : Fx Q} : eWC P T pl (.block id c) S Q d = eWC P T pl c S (blockQ id Q) .mk := rfl
theorem eWC_cond {c : Operand} {x y : Code} {Q : AX → St → Prop} {d : Fx Q} : eWC P T pl (.cond c x y) S Q d = (match (evO S c).v with
    | .bool b => (evO S c).ok ∧ (b = true → eWC P T pl x S Q .mk) ∧ (b = false → eWC P T pl y S Q .mk)
    | _ => False) := rfl
theorem eWC_regF {id : Nat} {Q : AX → St → Prop} {d : Fx Q} : eWC P T pl (.region id ops false) S Q d = eWOps P T ops ops.toList S (Q .normal) .mk := rfl
theorem eWC_regT {id : Nat} {Q : AX → St → Prop} {d : Fx Q} : eWC P T pl (.region id ops true) S Q d = eWPl P T ops (pl id).plan S (Q .normal) .mk := rfl
theorem eWC_loop {c : Code} {Q : AX → St → Prop} {d : Fx Q} : eWC P T pl (.loop c) S Q d = LP P (.loop c) S Q .mk := rfl
end

theorem FSv_code (hT : TOk P T) (hm : P.follows .mixedOrders = true) (pl : Nat → RPlan) {g : FuncId} {fn : Func} (c : Code) (hf : P.funcs[g]? = some fn) (hname : (fn.name == "runtime.NumGoroutine") = false) (hb : fn.body = some c) (n : Nat) (hn : fn.ntmps = n) (hok : codeOk2 n pl c = true)
    {args : List AV} {v : AV} (hlen : args.length ≤ n) (rs : Array ResultVar) (hr : fn.results = rs) (h : eWC P T pl c (S0 args [] [] n) (retV T rs v) .mk) : FSv P g args v := by
  subst hn; subst hr
  exact FSv_body2 hT hf hname hb hlen (WC_sound hT hm c _ _ hok h)
where
  FSv_body2 {P : Program} {T : TE} (hT : TOk P T) {g : FuncId} {fn : Func} {c : Code} (hf : P.funcs[g]? = some fn) (hname : (fn.name == "runtime.NumGoroutine") = false) (hb : fn.body = some c)
    {args : List AV} {v : AV} (hlen : args.length ≤ fn.ntmps) (h : T3 P c (S0 args [] [] fn.ntmps) (retV T fn.results v)) : FSv P g args v :=
  FS.dropTag (FS_body hT hf hname hb hlen h)

/-- A loop that counts. -/
theorem T3_for (hT : TOk P T) (hm : P.follows .mixedOrders = true) (pl : Nat → RPlan) {c : Code} {S : St} {Q : AX → St → Prop} {ι : Type} (n : Nat) (J : Nat → ι → St) (I : Nat → ι → Prop) (m : Nat) (hn : ∀ i x, (J i x).n = m) (hok : codeOk2 m pl c = true)
    (x0 : ι) (hI : I 0 x0) (h0 : Le S (J 0 x0))
    (body : ∀ i x, i < n → I i x → eWC P T pl c (J i x) (thenQ (fun S' => ∃ x', I (i + 1) x' ∧ Le S' (J (i + 1) x')) Q) .mk)
    (last : ∀ x, I n x → eWC P T pl c (J n x) (thenQ (fun _ => False) Q) .mk) : T3 P (.loop c) S Q := by
  refine T3_loopI (ι := Nat × ι) (fun p => J p.1 p.2) (fun p => p.1 ≤ n ∧ I p.1 p.2) (fun p => n - p.1) (0, x0) ⟨Nat.zero_le _, hI⟩ h0 fun p hp => ?_
  obtain ⟨i, x⟩ := p
  obtain ⟨h1, h2⟩ := hp
  refine WC_sound hT hm _ _ _ (by rw [hn]; exact hok) ?_
  rcases Nat.lt_or_ge i n with hlt | hge
  · refine WC_mono (body i x hlt h2) fun e S' h => ?_
    cases e with
    | normal => obtain ⟨x', h3, h4⟩ := h; exact ⟨(i + 1, x'), ⟨hlt, h3⟩, by simp only; omega, h4⟩
    | exit id => exact h
    | ret => exact h
  · have : i = n := Nat.le_antisymm h1 hge
    subst this
    refine WC_mono (last x h2) fun e S' h => ?_
    cases e with
    | normal => exact h.elim
    | exit id => exact h
    | ret => exact h
theorem Le_lit {fr fr' : List (Nat × SV)} {n b : Nat} {Wp : WPt} (h : frLe fr' fr) : Le ⟨fr, n, Wp, b⟩ ⟨fr', n, Wp, b⟩ := Le_fr rfl rfl rfl h
end
end Go.Abs
