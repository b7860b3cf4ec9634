/-
  Part of a proof: contracts of functions in abstract values.
-/
import Derived.Test.YtejdblkohdbhaaaGreatDoorNaab
import Derived.Great.BuildSlice
import Derived.Tactics
set_option linter.unusedVariables false
set_option linter.unusedSimpArgs false
namespace Go.Abs
open Go

/-! ### Slice literals -/
theorem fillAV_seq (z : Nat) : ∀ (cs : List (List AV)) (i0 : Nat) (dn rest : List AV), (∀ c ∈ cs, c.length = z) → dn.length = i0 * z → rest.length = cs.length * z →
    fillAV ((cs.zipIdx i0).map fun x => (x.2 * z, z, x.1)) (dn ++ rest) = dn ++ cs.flatten ∧ fillOk ((cs.zipIdx i0).map fun x => (x.2 * z, z, x.1)) (dn ++ rest).length
  | [], i0, dn, rest, _, _, h => by
    have : rest = [] := List.eq_nil_of_length_eq_zero (by simpa using h)
    subst this
    simp [fillAV, fillOk]
  | c :: cs, i0, dn, rest, hz, hd, hr => by
    have hc := hz c (by simp)
    simp only [List.length_cons, Nat.add_mul, Nat.one_mul] at hr
    have e1 : (dn ++ rest).take (i0 * z) = dn := by rw [← hd]; exact List.take_left
    have e2 : (dn ++ rest).drop (i0 * z + c.length) = rest.drop z := by
      rw [← hd, hc, List.drop_append]; simp
    obtain ⟨h1, h2⟩ := fillAV_seq z cs (i0 + 1) (dn ++ c) (rest.drop z) (fun c hc => hz c (List.mem_cons_of_mem _ hc)) (by simp only [List.length_append, hd, hc, Nat.add_mul, Nat.one_mul]) (by simp only [List.length_drop]; omega)
    simp only [List.zipIdx_cons, List.map_cons, fillAV, fillOk, e1, e2]
    refine ⟨by rw [h1]; simp, hc, by simp only [List.length_append, hd]; omega, ?_⟩
    have : (dn ++ rest).length = (dn ++ c ++ rest.drop z).length := by simp only [List.length_append, List.length_drop, hc]; omega
    rw [this]; exact h2

section
variable {P : Program} {T : TE} {Γ : Cx} {S : St} {W W' : WPt} {M M' : Snap} {θ θ' : List Nat} {ω ω' : Nat → Option Owner} {τ τ' : Nat → Value} {a : Act} {w w' : World}

theorem Cells_of {pre : List Value} {g : Nat} : ∀ {l : List AV} {vs : List Value} (off : Nat), Reps M θ l vs → belowL 0 l → (∀ v ∈ vs, v.oneCell' = true) → (∀ (j : Nat) v, vs[j]? = some v → pre[off + j]? = some v) →
    M.le (M.row g pre) → Cells (M.row g pre) l g off
  | [], _, _, _, _, _, _, _ => by simp only [Cells]
  | a :: l, vs, off, h, hb, h1, hp, hM => by
    simp only [Reps] at h
    simp only [belowL] at hb
    obtain ⟨v, vs', rfl, ha, hl⟩ := h
    simp only [Cells]
    refine ⟨⟨v, ?_, h1 v (by simp), ?_⟩, Cells_of (off + 1) hl hb.2 (fun u hu => h1 u (List.mem_cons_of_mem _ hu)) (fun j u hj => ?_) hM⟩
    · have := hp 0 v rfl
      unfold Snap.row; rw [if_pos rfl]; exact this
    · have := Rep.cut (n := 0) a v ha hb.1
      rw [List.take_zero] at this
      exact Rep.mono hM (tle_refl []) a v this
    · have := hp (j + 1) u (by simpa using hj)
      rw [Nat.add_assoc, Nat.add_comm 1 j]; exact this

theorem Row_of {pre : List Value} {g z : Nat} : ∀ {es : List AV} {vs : List Value} (off : Nat), Reps M θ (es.map cellsOf).flatten vs → (∀ e ∈ es, (cellsOf e).length = z) → belowL 0 (es.map cellsOf).flatten → (∀ v ∈ vs, v.oneCell' = true) →
    (∀ (j : Nat) v, vs[j]? = some v → pre[off + j]? = some v) → M.le (M.row g pre) → Row (M.row g pre) es z g off
  | [], _, _, _, _, _, _, _, _ => by simp only [Row]
  | e :: es, vs, off, h, hz, hb, h1, hp, hM => by
    simp only [List.map_cons, List.flatten_cons] at h hb
    have he := hz e (by simp)
    have hlen := Reps_length h
    have ht := Reps_take z h
    have hd := Reps_drop z h
    have hbt := belowL_take z hb
    have hbd := belowL_drop z hb
    rw [← he, List.take_left, he] at ht
    rw [← he, List.drop_left, he] at hd
    rw [← he, List.take_left] at hbt
    rw [← he, List.drop_left] at hbd
    rw [Row_cons]
    refine ⟨he, Cells_of off ht hbt (fun v hv => h1 v (List.mem_of_mem_take hv)) (fun j v hj => ?_) hM, Row_of (off + z) hd (fun e he => hz e (List.mem_cons_of_mem _ he)) hbd (fun v hv => h1 v (List.mem_of_mem_drop hv)) (fun j v hj => ?_) hM⟩
    · refine hp j v ?_
      rw [List.getElem?_take] at hj
      split at hj
      · exact hj
      · cases hj
    · rw [List.getElem?_drop] at hj
      have := hp _ v hj
      rw [Nat.add_assoc]; exact this

theorem belowL_flatten {n : Nat} : ∀ {l : List (List AV)}, (∀ c ∈ l, belowL n c) → belowL n l.flatten
  | [], _ => by simp only [List.flatten_nil, belowL]
  | c :: l, h => by rw [List.flatten_cons]; exact belowL_append (h c (by simp)) (belowL_flatten fun d hd => h d (List.mem_cons_of_mem _ hd))
theorem belowV_cells {n : Nat} {e : AV} (h : belowV n e) : belowL n (cellsOf e) := by
  cases e <;> simp only [cellsOf, belowL, belowV] at h ⊢ <;> first | exact h | exact ⟨trivial, trivial⟩ | exact ⟨h, trivial⟩

theorem Row_vals : ∀ {es : List AV} {z b off : Nat}, Row M es z b off → ∃ vs, Reps M [] (es.map cellsOf).flatten vs ∧ vs.length = es.length * z ∧ (∀ (j : Nat) v, vs[j]? = some v → M b (off + j) = some v) ∧
    (∀ v ∈ vs, v.oneCell' = true) ∧ ∀ e ∈ es, (cellsOf e).length = z
  | [], _, _, _, _ => ⟨[], by simp only [List.map_nil, List.flatten_nil, Reps], by simp, fun j v h => by simp at h, fun v h => by simp at h, fun e h => by simp at h⟩
  | e :: es, z, b, off, h => by
    rw [Row_cons] at h
    obtain ⟨h1, h2, h3⟩ := h
    obtain ⟨vs, k1, k2, k3, k4⟩ := Cells_vals (θ := []) h2
    obtain ⟨us, j1, j2, j3, j4, j5⟩ := Row_vals h3
    refine ⟨vs ++ us, by simp only [List.map_cons, List.flatten_cons]; exact Reps_append k1 j1, by simp only [List.length_append, List.length_cons, k2, j2, h1, Nat.add_mul, Nat.one_mul]; omega, fun j v hj => ?_, fun v hv => ?_, fun x hx => ?_⟩
    · rcases Nat.lt_or_ge j vs.length with hlt | hge
      · rw [List.getElem?_append_left hlt] at hj; exact k3 j v hj
      · rw [List.getElem?_append_right hge] at hj
        have := j3 _ v hj
        rw [k2, h1] at this
        rw [k2, h1] at hge
        rw [show off + j = off + z + (j - z) by omega]; exact this
    · rcases List.mem_append.1 hv with hv | hv
      · exact k4 v hv
      · exact j4 v hv
    · rcases List.mem_cons.1 hx with rfl | hx
      · exact h1
      · exact j5 x hx

theorem le_row_new (h : Core P Γ W M θ ω τ w) (pre : List Value) : M.le (M.row w.heap.size pre) := fun b o v hv => by
  unfold Snap.row
  have := h.mlt hv
  rw [if_neg (by omega)]; exact hv

theorem reps_flatten {z : Nat} : ∀ (ps : List (AV × Value)), (∀ p ∈ ps, Reps M θ (cellsOf p.1) p.2.cells.toList) → Reps M θ (ps.map fun p => cellsOf p.1).flatten (ps.map fun p => p.2.cells.toList).flatten
  | [], _ => by simp only [List.map_nil, List.flatten_nil, Reps]
  | p :: ps, h => by
    simp only [List.map_cons, List.flatten_cons]
    exact Reps_append (h p (by simp)) (reps_flatten (z := z) ps (fun q hq => h q (List.mem_cons_of_mem _ hq)))

theorem Reps_zero : ∀ (n : Nat) (vs : List Value), vs.length = n → Reps M θ (List.replicate n .unk) vs
  | 0, vs, h => by simp only [List.replicate_zero, Reps]; exact List.eq_nil_of_length_eq_zero h
  | n + 1, [], h => by simp at h
  | n + 1, v :: vs, h => by simp only [List.replicate_succ, Reps]; exact ⟨v, vs, rfl, by simp only [Rep], Reps_zero n vs (by simpa using h)⟩

theorem run_buildSlice0 (w : World) (t e : TypeId) (ie : TypeInfo) (hu : P.underlying t = some (.slice e)) (hie : P.info? e = some ie) :
    (Instr.buildSlice t 0 #[]).run P w = .ok (.slice (some ⟨w.heap.size, 0, none⟩) 0 0) (w.alloc (.cells #[] e)) := by
  have h0 : Array.range 0 = #[] := Array.eq_empty_of_size_eq_zero (by simp)
  simp [Instr.buildSlice, run_underlying hu, sizeOf, typeInfo, hie, newRow, Instr.fill, h0]

theorem aw_buildSlice (hT : TOk P T) (h : RelM P Γ S M θ ω τ a w) {t e : TypeId} {sz by_ : Nat} {zz : AV} (ht : T t = some ⟨.slice e, sz, by_, zz⟩) {te : TI} (he : T e = some te) {len : Nat} {parts : Array (Nat × Operand)}
    (hidx : parts.toList.map (·.1) = List.range len) (hsm : len * te.size ≤ 2 ^ 24) (hpos : 0 < te.size)
    (hp : ∀ p ∈ parts.toList, (evO S p.2).ok ∧ shapeOk te.d (evO S p.2).v ∧ (cellsOf (evO S p.2).v).length = te.size ∧ (cellsOf (evO S p.2).v).all cell1 = true ∧ belowV 0 (evO S p.2).v)
    {K : WPt → SV → Prop} (hk : K { S.W with nt := S.W.nt + 1, live := (S.W.nt, e) :: S.W.live } ⟨True, .sl te.size (parts.toList.map fun p => (evO S p.2).v), .tok S.W.nt⟩) (dst : Option Tmp) :
    ∃ v w', (Instr.buildSlice t len (parts.map fun (i, x) => (i, a.eval x))).run P w = .ok v w' ∧ Left P Γ S.W M θ τ w a dst K (a.put dst v) w' := by
  obtain ⟨ie, z, hie, hies, _, hz, hzs, _⟩ := hT.info e te he
  have hu : P.underlying t = some (.slice e) := hT.desc t _ ht
  have hpl : parts.toList.length = len := by have := congrArg List.length hidx; simpa using this
  let cs := parts.toList.map fun p => cellsOf (evO S p.2).v
  have hcs : ∀ c ∈ cs, c.length = te.size := fun c hc => by
    obtain ⟨p, hp1, rfl⟩ := List.mem_map.1 hc
    exact (hp p hp1).2.2.1
  let init : Array Value := (Array.range (len * te.size)).map (z.cells[· % z.cells.size]!)
  have hinit : Reps M θ (List.replicate (len * te.size) .unk) init.toList := Reps_zero _ _ (by simp [init])
  obtain ⟨h1, h2⟩ := fillAV_seq te.size cs 0 [] (List.replicate (len * te.size) .unk) hcs (by simp) (by simp [cs, hpl])
  simp only [List.nil_append] at h1 h2
  have hcell : ∀ p ∈ parts.toList, Reps M θ (cellsOf (evO S p.2).v) (a.eval p.2).cells.toList := fun p hp1 => shape_cells (h.rep p.2 (hp p hp1).1) (hp p hp1).2.1
  have hone : ∀ p ∈ parts.toList, ∀ u ∈ (a.eval p.2).cells.toList, u.oneCell' = true := fun p hp1 => all_oneCell (h.rep p.2 (hp p hp1).1) (hp p hp1).2.1 (hp p hp1).2.2.2.1
  have hget : ∀ (j : Nat) (i : Nat) (x : Operand), parts.toList[j]? = some (i, x) → i = j := fun j i x hj => by
    have h3 := congrArg (·[j]?) hidx
    simp only [List.getElem?_map, hj, Option.map_some] at h3
    have hjl : j < len := by rw [← hpl]; exact (List.getElem?_eq_some_iff.1 hj).1
    rw [List.getElem?_range hjl] at h3
    exact Option.some.inj h3
  obtain ⟨cells, hf, hr⟩ := fill_sound (M := M) (θ := θ) (fun i => some (i * te.size, te.size)) ((parts.map fun (i, x) => (i, a.eval x)).toList) ((cs.zipIdx 0).map fun x => (x.2 * te.size, te.size, x.1)) init _
    (by simp [cs]) (fun j i v off s cl hj hq => by
      simp only [Array.toList_map, List.getElem?_map, Option.map_eq_some_iff] at hj
      obtain ⟨⟨i', x⟩, hj, he2⟩ := hj
      simp only [Prod.mk.injEq] at he2
      obtain ⟨rfl, rfl⟩ := he2
      have hij := hget j i' x hj
      subst hij
      simp only [List.getElem?_map, List.getElem?_zipIdx, cs, hj, Option.map_some, Option.some.injEq, Prod.mk.injEq, Nat.zero_add] at hq
      obtain ⟨rfl, rfl, rfl⟩ := hq
      exact ⟨rfl, hcell _ (List.mem_of_getElem? hj)⟩) hinit h2
  rw [h1] at hr
  have hlen := Reps_length hr
  have hfl : cs.flatten.length = len * te.size := by
    have : ∀ (l : List (List AV)), (∀ c ∈ l, c.length = te.size) → l.flatten.length = l.length * te.size := fun l => by
      induction l with
      | nil => simp
      | cons c l ih => intro hc; simp only [List.flatten_cons, List.length_append, List.length_cons, Nat.add_mul, Nat.one_mul, ih (fun c h => hc c (List.mem_cons_of_mem _ h)), hc c (by simp)]; omega
    rw [this cs hcs]; simp [cs, hpl]
  have hone' : ∀ v ∈ cells.toList, v.oneCell' = true := by
    intro u hu
    obtain ⟨j, hj, rfl⟩ := List.getElem_of_mem hu
    obtain ⟨u', h3, h4⟩ := Reps_get hr j (by rw [← hlen]; exact hj)
    rw [List.getElem?_eq_getElem hj] at h3
    cases h3
    refine rep_oneCell h4 ?_
    have : ∀ x ∈ cs.flatten, cell1 x = true := fun x hx => by
      obtain ⟨c, hc, hxc⟩ := List.mem_flatten.1 hx
      obtain ⟨p, hp1, rfl⟩ := List.mem_map.1 hc
      exact List.all_eq_true.1 (hp p hp1).2.2.2.1 x hxc
    exact this _ (List.getElem_mem _)
  have hrun : (Instr.buildSlice t len (parts.map fun (i, x) => (i, a.eval x))).run P w = .ok (.slice (some ⟨w.heap.size, 0, none⟩) len len) (w.alloc (.cells cells e)) := by
    rcases Nat.eq_zero_or_pos len with h0 | hlen0
    · subst h0
      have hp0 : parts = #[] := by
        rw [← Array.toList_eq_nil_iff]; exact List.eq_nil_of_length_eq_zero hpl
      have hc0 : cells = #[] := by
        rw [← Array.toList_eq_nil_iff]; exact List.eq_nil_of_length_eq_zero (by rw [hlen, hfl]; simp)
      subst hp0; subst hc0
      have h0 := run_buildSlice0 w t e ie hu hie
      simp only [Array.map_empty]
      exact h0
    · have hmul : 0 < len * te.size := Nat.mul_pos hlen0 hpos
      have n1 : ¬ len * ie.size > 2 ^ 24 := by rw [hies]; omega
      have n2 : ¬ len * ie.size = 0 := by rw [hies]; omega
      have n3 : Instr.fill (fun i => some (i * ie.size, ie.size)) ((Array.range (len * ie.size)).map (z.cells[· % z.cells.size]!)) (parts.map fun (i, x) => (i, a.eval x)).toList = some cells := by rw [hies]; exact hf
      have n4 := run_buildSlice w t e len (parts.map fun (i, x) => (i, a.eval x)) cells ie z hu hie hz n1 n2 n3
      exact n4
  refine ⟨_, _, hrun, ?_⟩
  have hcore := h.core.alloc_row cells.toList e len (by rw [hlen, hfl, cellsOf_size hT he]) (by simp only [maxLen]; have : len ≤ len * te.size := Nat.le_mul_of_pos_right _ hpos; omega)
  have hle := le_row_new h.core cells.toList
  refine ⟨_, _, _, _, θ, _, _, hk, rfl, by simpa using hcore, hle, ⟨by simp, Nat.le_refl _, fun t' e' hlt hm => ?_, tle_refl θ, fun _ b blk o v hb hv => ?_⟩, fun _ => ⟨?_, ?_⟩⟩
  · simp only [List.mem_cons, Prod.mk.injEq] at hm
    rcases hm with ⟨rfl, _⟩ | hm
    · omega
    · refine ⟨⟨e', hm⟩, ?_⟩
      unfold updT; rw [if_neg (by omega)]
  · rw [World.cell?_alloc_lt _ _ _ (h.core.tlt b blk hb)]; exact hv
  · simp only [Rep, List.length_map, hpl]
    refine ⟨_, _, rfl, Nat.le_refl _, fun _ => ⟨w.heap.size, 0, rfl, ?_⟩⟩
    refine Row_of (vs := cells.toList) 0 (θ := θ) ?_ (fun x hx => ?_) (belowL_flatten fun c hc => ?_) hone' (fun j v hj => by simpa using hj) hle
    · simpa [cs, List.map_map, Function.comp_def] using hr
    · obtain ⟨p, hp1, rfl⟩ := List.mem_map.1 hx
      exact (hp p hp1).2.2.1
    · obtain ⟨x, hx, rfl⟩ := List.mem_map.1 hc
      obtain ⟨p, hp1, rfl⟩ := List.mem_map.1 hx
      exact belowV_cells (hp p hp1).2.2.2.2
  · exact ⟨by simp, fun _ => by simp [updT]⟩

theorem slice_own (h : Core P Γ W M θ ω τ w) {e : Nat} {ss : SV} {v : Value} (hs : SlotOk W M θ τ w ss v) {es : List AV} (hes : elemsOf ss.v = some es) {ow : Owner}
    (hc : (ss.v = .snil ∧ ow = .tok W.nt) ∨ (ss.tg = .free ∧ ow = .tok W.nt) ∨ (∃ tk, ss.tg = .tok tk ∧ (tk, e) ∈ W.live ∧ ow = .tok tk) ∨
      (∃ b o l l2, ss.tg = .cell b o W.stamp ∧ W.H[b]? = some (.cells l l2) ∧ (o, e) ∈ l2 ∧ ow = .cell b o)) :
    OwnV P M ω w ow e v ∧ ∃ a0 c0, v = .slice a0 es.length c0 ∧ (es ≠ [] → ∃ b o z, ss.v = .sl z es ∧ a0 = some ⟨b, o, none⟩ ∧ Row M es z b o) := by
  have hv : ∃ a0 c0, v = .slice a0 es.length c0 ∧ (es ≠ [] → ∃ b o z, ss.v = .sl z es ∧ a0 = some ⟨b, o, none⟩ ∧ Row M es z b o) := by
    have hr := hs.1
    revert hr hes
    cases hsv : ss.v <;> intro hes hr <;> simp only [elemsOf, Option.some.injEq, reduceCtorEq] at hes
    · subst hes
      simp only [Rep] at hr
      exact ⟨none, 0, hr, fun h => absurd rfl h⟩
    · subst hes
      simp only [Rep] at hr
      obtain ⟨a, c, h1, h2, h3⟩ := hr
      exact ⟨a, c, h1, fun hne => by obtain ⟨b, o, h4, h5⟩ := h3 hne; exact ⟨b, o, _, rfl, h4, h5⟩⟩
  refine ⟨?_, hv⟩
  rcases hc with ⟨h1, _⟩ | ⟨h1, _⟩ | ⟨tk, h1, h2, rfl⟩ | ⟨b, o, l, l2, h1, h2, h3, rfl⟩
  · have hr := hs.1
    rw [h1] at hr
    simp only [Rep] at hr
    exact .inl ⟨none, hr⟩
  · have ht := hs.2
    rw [h1] at ht
    exact .inl ht
  · have ht := hs.2
    rw [h1] at ht
    rw [ht.2 ⟨e, h2⟩]
    exact (h.live tk e h2).2
  · have ht := hs.2
    rw [h1] at ht
    obtain ⟨blk, h4, h5⟩ := ht.2 rfl
    obtain ⟨vs, ty, h6, h7, _, h8⟩ := h.box b _ blk h2 h4
    obtain ⟨u, h9, h10⟩ := h8 o e h3
    rw [cell_of_vals h6, h9] at h5
    cases h5
    exact h10

theorem run_append_none (hT : TOk P T) {t ty e : TypeId} {sz by_ : Nat} {zz : AV} (ht : T t = some ⟨.slice e, sz, by_, zz⟩) {te : TI} (he : T e = some te) {sv : AV} {v vx : Value} (hs : Rep M θ sv v)
    {es : List AV} (hes : elemsOf sv = some es) {z : Nat} (hx : Rep M θ (.sl z []) vx) : (Builtin.append_ #[t, t] ty #[v, vx]).run P w = .ok v w := by
  obtain ⟨ie, z', hie, hies, hieb, hz0, hzs, _⟩ := hT.info e te he
  have hu : P.underlying t = some (.slice e) := hT.desc t _ ht
  simp only [Rep] at hx
  obtain ⟨ax, cx, rfl, hcx, -⟩ := hx
  obtain ⟨a0, n, c, rfl, hnc⟩ : ∃ a0 n c, v = .slice a0 n c ∧ n ≤ c := by
    revert hs
    cases sv <;> intro hs <;> simp only [elemsOf, reduceCtorEq] at hes
    · simp only [Rep] at hs
      exact ⟨_, _, _, hs, Nat.le_refl _⟩
    · simp only [Rep] at hs
      obtain ⟨a, c, h1, h2, _⟩ := hs
      exact ⟨_, _, _, h1, h2⟩
  have hf : ∀ w : World, (Builtin.firstCells ie.size 0 (.slice ax 0 cx)).run P w = .ok #[] w := fun w => by
    cases ax <;> simp [Builtin.firstCells, loadCells, loadCellsFrom]
  cases a0 <;> simp [Builtin.append_, run_underlying hu, sizeOf, typeInfo, hie, Builtin.lenOf, hf, hnc, storeCells]

theorem aw_append (hT : TOk P T) (h : RelM P Γ S M θ ω τ a w) {t ty e : TypeId} {sz by_ : Nat} {zz : AV} (ht : T t = some ⟨.slice e, sz, by_, zz⟩) {te : TI} (he : T e = some te) {ss : SV} {v vx : Value} (hs : SlotOk S.W M θ τ w ss v)
    {es news : List AV} (hes : elemsOf ss.v = some es) (hx : Rep M θ (.sl te.size news) vx) (hpos : 0 < te.size) (hz : ∀ z' es', ss.v = .sl z' es' → z' = te.size)
    (hb1 : (es.length + news.length) * te.bytes ≤ 140737488355328) (hb2 : es.length + news.length ≤ 140737488355328) (hne : news ≠ []) {ow : Owner}
    (hc : (ss.v = .snil ∧ ow = .tok S.W.nt) ∨ (ss.tg = .free ∧ ow = .tok S.W.nt) ∨ (∃ tk, ss.tg = .tok tk ∧ (tk, e) ∈ S.W.live ∧ ow = .tok tk) ∨
      (∃ b o l l2, ss.tg = .cell b o S.W.stamp ∧ S.W.H[b]? = some (.cells l l2) ∧ (o, e) ∈ l2 ∧ ow = .cell b o))
    {H' : List Box} (hHl : H'.length = S.W.H.length)
    (hH : ∀ b bx', H'[b]? = some bx' → S.W.H[b]? = some bx' ∧ (∀ l ow1, bx' = .cells l ow1 → ∀ o e', (o, e') ∈ ow1 → Owner.cell b o ≠ ow) ∨
      ∃ l ow1 ow2, bx' = .cells l ow2 ∧ S.W.H[b]? = some (.cells l ow1) ∧ ∀ o e', (o, e') ∈ ow2 → (o, e') ∈ ow1 ∧ Owner.cell b o ≠ ow)
    {live' : List (Nat × Nat)} (hl : ∀ t e', (t, e') ∈ live' → (t, e') ∈ S.W.live ∧ Owner.tok t ≠ ow)
    {K : WPt → SV → Prop} (hk : K { nt := S.W.nt + 1, live := (S.W.nt, e) :: live', H := H', stamp := S.W.stamp } ⟨True, .sl te.size (es ++ news), .tok S.W.nt⟩) (dst : Option Tmp) :
    ∃ u w', (Builtin.append_ #[t, t] ty #[v, vx]).run P w = .ok u w' ∧ Left P Γ S.W M θ τ w a dst K (a.put dst u) w' := by
  obtain ⟨ie, z, hie, hies, hieb, hz0, hzs, _⟩ := hT.info e te he
  have hu : P.underlying t = some (.slice e) := hT.desc t _ ht
  have hce : P.cellsOf e = te.size := cellsOf_size hT he
  obtain ⟨hown, a0, c0, hv, hrow⟩ := slice_own h.core hs hes hc
  simp only [Rep] at hx
  obtain ⟨ax, cx, rfl, hcx, hxr⟩ := hx
  obtain ⟨bx, ox, rfl, hrx⟩ := hxr hne
  obtain ⟨nv, n1, n2, n3, n4, n5⟩ := Row_vals hrx
  have hnl : 0 < news.length := List.length_pos_iff.2 hne
  obtain ⟨xs, hxl, hxo, g, cap, cur, w', hrun, hgb, hncap, hcm, hcs, htake, hgw, ⟨b, hbx⟩⟩ := app_run (t := t) (ty := ty) (w := w) (M := M) (ω := ω) hu hie hz0 (by rw [hzs, hies]) hown hv (a := ⟨bx, ox, none⟩) (m := news.length) (c := cx) (news := nv)
    (by rw [n2, hies]) (fun j u hj => by rw [add_mk]; exact h.core.ext _ _ _ (n3 j u hj)) n4 hnl (by simp only [maxLen]; omega) (by rw [hieb]; exact hb1)
  rw [hies] at hxl hcs htake hgw hbx
  refine ⟨_, w', hrun, ?_⟩
  obtain ⟨hcore, hle⟩ := h.core.append (ow := ow) (e := e) (n := es.length) (m := news.length) (g := g) (cap := cap) (cur := cur) (w' := w') (xs := xs) (news := nv) (by rw [hce]; exact hxl) (by rw [hce, n2]) hgb hncap hcm (by rw [hce]; exact hcs) (by rw [hce]; exact htake)
    (by
      rw [hce]
      rcases hgw with h1 | ⟨_, h2, h3, h4, h5⟩
      · exact .inl h1
      · exact .inr ⟨h2, h3, h4, h5⟩) hHl hH hl
  refine ⟨_, _, _, _, θ, _, _, hk, rfl, hcore, hle, ⟨by simp, Nat.le_refl _, fun t' e' hlt hm => ?_, tle_refl θ, fun _ b' blk o' u hb hcell => ?_⟩, fun _ => ⟨?_, ?_⟩⟩
  · simp only [List.mem_cons, Prod.mk.injEq] at hm
    rcases hm with ⟨rfl, _⟩ | hm
    · omega
    · refine ⟨⟨e', (hl _ _ hm).1⟩, ?_⟩
      unfold updT; rw [if_neg (by omega)]
  · have hblk := h.core.tlt b' blk hb
    have hgne : blk ≠ g := fun e => by
      subst e
      rcases hgw with ⟨h1, _⟩ | ⟨_, h2, _⟩
      · omega
      · exact (h.core.own _ _ h2).2 b' hb
    have hsame : w'.heap[blk]? = w.heap[blk]? := by
      rcases hgw with ⟨_, h2⟩ | ⟨_, _, h2, _⟩
      · exact h2.block blk hblk (by simp)
      · exact h2.block blk hblk (fun e => hgne (by cases e; rfl))
    have : w'.cell? ⟨blk, o', none⟩ = w.cell? ⟨blk, o', none⟩ := World.cell?_of_block hsame
    rw [this]; exact hcell
  · simp only [Rep, List.length_append]
    refine ⟨_, _, rfl, hncap, fun _ => ⟨g, 0, rfl, ?_⟩⟩
    have hpre : M.le (M.row g (xs ++ nv)) := hle
    obtain ⟨ev, e1, e2, e3⟩ : ∃ ev, Reps M [] (es.map cellsOf).flatten ev ∧ (∀ x ∈ es, (cellsOf x).length = te.size) ∧ xs = ev ∧ (∀ v ∈ ev, v.oneCell' = true) := by
      by_cases hes0 : es = []
      · subst hes0
        have : xs = [] := List.eq_nil_of_length_eq_zero (by simpa using hxl)
        subst this
        exact ⟨[], by simp only [List.map_nil, List.flatten_nil, Reps], fun x hx => by simp at hx, rfl, fun v hv => by simp at hv⟩
      · obtain ⟨b2, o2, z2, h1, h2, h3⟩ := hrow hes0
        have hz2 := hz _ _ h1
        subst hz2
        obtain ⟨h4, h5⟩ := hbx (List.length_pos_iff.2 hes0)
        rw [hv, h2] at h4
        cases h4
        obtain ⟨ev, k1, k2, k3, k4, k5⟩ := Row_vals h3
        refine ⟨ev, k1, k5, ?_, k4⟩
        refine List.ext_getElem? fun j => ?_
        rcases Nat.lt_or_ge j (es.length * te.size) with hj | hj
        · obtain ⟨u, hu⟩ : ∃ u, ev[j]? = some u := ⟨_, List.getElem?_eq_getElem (by rw [k2]; exact hj)⟩
          have h6 := h.core.ext _ _ _ (k3 j u hu)
          rw [Nat.zero_add, h5 j hj] at h6
          rw [h6, hu]
        · rw [List.getElem?_eq_none (by rw [hxl]; exact hj), List.getElem?_eq_none (by rw [k2]; exact hj)]
    obtain ⟨rfl, e4⟩ := e3
    have hall : Reps M [] ((es ++ news).map cellsOf).flatten (xs ++ nv) := by
      rw [List.map_append, List.flatten_append]; exact Reps_append e1 n1
    refine Row_of (θ := []) (vs := xs ++ nv) 0 hall (fun x hx => ?_) ?_ (fun v hv => ?_) (fun j v hj => by simpa using hj) hpre
    · rcases List.mem_append.1 hx with hx | hx
      · exact e2 x hx
      · exact n5 x hx
    · exact Reps.below _ _ hall
    · rcases List.mem_append.1 hv with hv | hv
      · exact e4 v hv
      · exact n4 v hv
  · exact ⟨by simp, fun _ => by simp [updT]⟩
end
end Go.Abs

namespace Go.Abs
open Go

/-! ### Calls -/
section
variable {P : Program} {T : TE} {Γ : Cx} {S : St} {W W' : WPt} {M M' : Snap} {θ θ' : List Nat} {ω ω' : Nat → Option Owner} {τ τ' : Nat → Value} {a : Act} {w w' : World}

/-- The owners as a callee sees them that is handed no box. -/
def ωp (pass : Option (Nat × Nat × Nat)) (ω : Nat → Option Owner) : Nat → Option Owner := fun g =>
  match pass, ω g with
  | some (i, t, _), some (.tok t') => if t' = t then some (.tok i) else none
  | _, _ => none
def τp (pass : Option (Nat × Nat × Nat)) (τ : Nat → Value) : Nat → Value := fun _ =>
  match pass with
  | some (_, t, _) => τ t
  | none => undef

theorem ωp_some {pass : Option (Nat × Nat × Nat)} {g : Nat} {ow : Owner} (h : ωp pass ω g = some ow) : ∃ i t e, pass = some (i, t, e) ∧ ω g = some (.tok t) ∧ ow = .tok i := by
  unfold ωp at h
  split at h
  · rename_i i t e t' h1
    split at h
    · rename_i h2
      subst h2
      cases h
      exact ⟨i, _, e, rfl, h1, rfl⟩
    · cases h
  · cases h

theorem Core.enterP (h : Core P Γ W M θ ω τ w) (n : Nat) (pass : Option (Nat × Nat × Nat)) (hp : ∀ i t e, pass = some (i, t, e) → (t, e) ∈ W.live ∧ i < n) :
    Core P ⟨w, M, [], ωp pass ω⟩ ⟨n, (pass.map (fun x => (x.1, x.2.2))).toList, [], 0⟩ M [] (ωp pass ω) (τp pass τ) w where
  mle := Snap.le_refl M
  tle := tle_refl []
  ext := h.ext
  hlen := rfl
  inj := fun i j x hi _ => by simp at hi
  tnew := fun i x hi _ => by simp at hi
  tlt := fun i x hi => by simp at hi
  box := fun b bx blk hb _ => by simp at hb
  bel := fun b l ow hb => by simp at hb
  live := fun i e hie => by
    cases pass with
    | none => simp at hie
    | some x =>
      obtain ⟨i', t, e'⟩ := x
      simp only [Option.map_some, Option.toList_some, List.mem_singleton, Prod.mk.injEq] at hie
      obtain ⟨rfl, rfl⟩ := hie
      obtain ⟨h1, h2⟩ := hp _ _ _ rfl
      refine ⟨h2, (h.live t e h1).2.step (fun g hg => ⟨rfl, fun _ => rfl, ?_⟩)⟩
      simp [ωp, hg]
  own := fun blk ow hb => by
    obtain ⟨i, t, e, _, h2, _⟩ := ωp_some hb
    exact ⟨h.ownlt h2, fun i hi => by simp at hi⟩
  ow0 := fun blk _ hn => hn
  kp := ⟨rfl, rfl, rfl, Nat.le_refl _, fun k _ _ => rfl⟩
  mkeep := fun _ _ _ _ _ => rfl

/-- The owners behind such a call. -/
def ωq (rj : Option (Nat × Nat)) (nt : Nat) (pass : Option (Nat × Nat × Nat)) (ω ω' : Nat → Option Owner) : Nat → Option Owner := fun g =>
  match ω' g with
  | some (.tok j) => (match rj with
    | some (j', _) => if j = j' then some (.tok nt) else none
    | none => none)
  | some (.cell _ _) => none
  | none => (match pass, ω g with
    | some (_, t, _), some (.tok t') => if t' = t then none else some (.tok t')
    | _, o => o)
def τq (rj : Option (Nat × Nat)) (nt : Nat) (τ τ' : Nat → Value) : Nat → Value := fun t =>
  match rj with
  | some (j, _) => if t = nt then τ' j else τ t
  | none => τ t

theorem mem_base {pass : Option (Nat × Nat × Nat)} {t e : Nat} (h : (t, e) ∈ baseLive W pass) : (t, e) ∈ W.live ∧ ∀ i t' e', pass = some (i, t', e') → t ≠ t' := by
  cases pass with
  | none => exact ⟨h, fun _ _ _ h => by cases h⟩
  | some x =>
    obtain ⟨i, t', e'⟩ := x
    obtain ⟨h1, h2⟩ := List.mem_filter.1 h
    refine ⟨h1, fun _ _ _ he => ?_⟩
    cases he
    simpa using h2

theorem mem_afterW {pass : Option (Nat × Nat × Nat)} {rj : Option (Nat × Nat)} {H : List Box} {st t e : Nat} (h : (t, e) ∈ (afterW W pass rj H st).live) :
    (t, e) ∈ baseLive W pass ∨ ∃ j, rj = some (j, e) ∧ t = W.nt := by
  cases rj with
  | none => exact .inl h
  | some x =>
    obtain ⟨j, e'⟩ := x
    simp only [afterW, List.mem_cons, Prod.mk.injEq] at h
    rcases h with ⟨rfl, rfl⟩ | h
    · exact .inr ⟨j, rfl, rfl⟩
    · exact .inl h
theorem afterW_nt {pass : Option (Nat × Nat × Nat)} {rj : Option (Nat × Nat)} {H : List Box} {st : Nat} : W.nt ≤ (afterW W pass rj H st).nt ∧ (∀ j e, rj = some (j, e) → (afterW W pass rj H st).nt = W.nt + 1) ∧ (afterW W pass rj H st).H = H ∧ (afterW W pass rj H st).stamp = st := by
  cases rj with
  | none => exact ⟨Nat.le_refl _, (fun _ _ h => by cases h), rfl, rfl⟩
  | some x => exact ⟨by simp [afterW], fun _ _ _ => rfl, rfl, rfl⟩

theorem Core.leaveP (h : Core P Γ W M θ ω τ w) {pass : Option (Nat × Nat × Nat)} {Wc : WPt} (hc : Core P ⟨w, M, [], ωp pass ω⟩ Wc M' θ' ω' τ' w') {rj : Option (Nat × Nat)} (hrj : ∀ j e, rj = some (j, e) → (j, e) ∈ Wc.live) :
    Core P Γ (afterW W pass rj W.H W.stamp) M' θ (ωq rj W.nt pass ω ω') (τq rj W.nt τ τ') w' ∧ Adv W θ τ w (afterW W pass rj W.H W.stamp) θ (τq rj W.nt τ τ') w' := by
  obtain ⟨a1, a2, a3, a4⟩ := afterW_nt (W := W) (pass := pass) (rj := rj) (H := W.H) (st := W.stamp)
  have hsz : w.heap.size ≤ w'.heap.size := hc.kp.size
  have hkeep : ∀ g, g < w.heap.size → ωp pass ω g = none → w'.heap[g]? = w.heap[g]? ∧ (∀ o, M' g o = M g o) ∧ ω' g = none := fun g hg hn => by
    refine ⟨hc.kp.block g hg (by simp [hn]), fun o => hc.mkeep g o hg hn (by simp), hc.ow0 g hg hn⟩
  have hcellK : ∀ g b o, ω g = some (.cell b o) → w'.heap[g]? = w.heap[g]? ∧ (∀ o, M' g o = M g o) ∧ ωq rj W.nt pass ω ω' g = some (.cell b o) := fun g b o hg => by
    have hn : ωp pass ω g = none := by simp [ωp, hg]
    obtain ⟨k1, k2, k3⟩ := hkeep g (h.ownlt hg) hn
    refine ⟨k1, k2, ?_⟩
    simp [ωq, k3, hg]
  have htokK : ∀ g t, (∀ i t' e', pass = some (i, t', e') → t ≠ t') → ω g = some (.tok t) → w'.heap[g]? = w.heap[g]? ∧ (∀ o, M' g o = M g o) ∧ ωq rj W.nt pass ω ω' g = some (.tok t) := fun g t ht hg => by
    have hn : ωp pass ω g = none := by
      cases pass with
      | none => simp [ωp]
      | some x => obtain ⟨i, t', e'⟩ := x; simp [ωp, hg, ht i t' e' rfl]
    obtain ⟨k1, k2, k3⟩ := hkeep g (h.ownlt hg) hn
    refine ⟨k1, k2, ?_⟩
    cases pass with
    | none => simp [ωq, k3, hg]
    | some x => obtain ⟨i, t', e'⟩ := x; simp [ωq, k3, hg, ht i t' e' rfl]
  have hboxK : ∀ i blk : Nat, θ[i]? = some blk → w'.heap[blk]? = w.heap[blk]? ∧ (∀ o, M' blk o = M blk o) := fun i blk hi => by
    have hn : ωp pass ω blk = none := by
      cases hh : ωp pass ω blk with
      | none => rfl
      | some ow => obtain ⟨_, t, _, _, h2, _⟩ := ωp_some hh; exact absurd hi ((h.own blk _ h2).2 i)
    obtain ⟨k1, k2, _⟩ := hkeep blk (h.tlt i blk hi) hn
    exact ⟨k1, k2⟩
  have hω : ∀ g ow, ωq rj W.nt pass ω ω' g = some ow → (ω' g ≠ none) ∨ ω g = some ow := fun g ow hg => by
    unfold ωq at hg
    split at hg
    · rename_i j h1; exact .inl (by rw [h1]; simp)
    · cases hg
    · split at hg
      · rename_i h1
        split at hg
        · cases hg
        · cases hg; exact .inr h1
      · exact .inr hg
  have hbox : ∀ b bx blk, W.H[b]? = some bx → θ[b]? = some blk → BoxOk P M' θ (ωq rj W.nt pass ω ω') w' b blk bx := fun b bx blk hb hθ => by
    obtain ⟨k1, k2⟩ := hboxK b blk hθ
    exact (h.box b bx blk hb hθ).step hc.mle (tle_refl θ) k1 (fun o ho => by rw [k2]; exact ho) (fun o g hg => hcellK g b o hg)
  refine ⟨{
    mle := Snap.le_trans h.mle hc.mle
    tle := h.tle
    ext := hc.ext
    hlen := by rw [a3]; exact h.hlen
    inj := h.inj
    tnew := h.tnew
    tlt := fun i x hi => Nat.lt_of_lt_of_le (h.tlt i x hi) hsz
    box := by rw [a3]; exact hbox
    bel := by rw [a3]; exact h.bel
    live := fun t e hte => by
      rcases mem_afterW hte with hb | ⟨j, hj, rfl⟩
      · obtain ⟨h1, h2⟩ := mem_base hb
        obtain ⟨h3, h4⟩ := h.live t e h1
        refine ⟨by omega, ?_⟩
        have : τq rj W.nt τ τ' t = τ t := by
          unfold τq
          split
          · rw [if_neg (by omega)]
          · rfl
        rw [this]
        exact h4.step (fun g hg => htokK g t h2 hg)
      · subst hj
        refine ⟨by rw [a2 j e rfl]; omega, ?_⟩
        have : τq (some (j, e)) W.nt τ τ' W.nt = τ' j := by simp [τq]
        rw [this]
        refine (hc.live j e (hrj j e rfl)).2.step (fun g hg => ⟨rfl, fun _ => rfl, ?_⟩)
        simp [ωq, hg]
    own := fun g ow hg => by
      rcases hω g ow hg with h1 | h1
      · obtain ⟨ow2, h2⟩ := Option.ne_none_iff_exists'.1 h1
        refine ⟨hc.ownlt h2, fun i hi => ?_⟩
        have hlt := h.tlt i g hi
        have hn : ωp pass ω g = none := by
          cases hh : ωp pass ω g with
          | none => rfl
          | some ow => obtain ⟨_, t, _, _, h3, _⟩ := ωp_some hh; exact absurd hi ((h.own g _ h3).2 i)
        rw [(hkeep g hlt hn).2.2] at h2; cases h2
      · exact ⟨Nat.lt_of_lt_of_le (h.ownlt h1) hsz, (h.own g ow h1).2⟩
    ow0 := fun g hlt h0 => by
      cases hh : ωq rj W.nt pass ω ω' g with
      | none => rfl
      | some ow =>
        have h1 := h.ow0 g hlt h0
        rcases hω g ow hh with h2 | h2
        · have := h.wle
          have hn : ωp pass ω g = none := by simp [ωp, h1]
          exact absurd (hkeep g (by omega) hn).2.2 h2
        · rw [h1] at h2; cases h2
    kp := ⟨hc.kp.os.trans h.kp.os, hc.kp.tape.trans h.kp.tape, hc.kp.output.trans h.kp.output, Nat.le_trans h.kp.size hsz, fun k hk hx => by
      have hω0 : Γ.ω0 k = none := by
        cases h0 : Γ.ω0 k with
        | none => rfl
        | some x => exact absurd (.inr (by rw [h0]; simp)) hx
      have h1 := h.ow0 k hk hω0
      have := h.wle
      rw [(hkeep k (by omega) (by simp [ωp, h1])).1]
      exact h.kp.block k hk hx⟩
    mkeep := fun g o hlt h0 h1 => by
      have h2 := h.ow0 g hlt h0
      have := h.wle
      rw [(hkeep g (by omega) (by simp [ωp, h2])).2.1]
      exact h.mkeep g o hlt h0 h1 }, ⟨a1, by rw [a4]; exact Nat.le_refl _, fun t e hlt hte => ?_, tle_refl θ, fun _ b blk o v hb hv => ?_⟩⟩
  · rcases mem_afterW hte with hb | ⟨j, _, rfl⟩
    · refine ⟨⟨e, (mem_base hb).1⟩, ?_⟩
      unfold τq
      split
      · rw [if_neg (by omega)]
      · rfl
    · omega
  · have : w'.cell? ⟨blk, o, none⟩ = w.cell? ⟨blk, o, none⟩ := World.cell?_of_block (hboxK b blk hb).1
    rw [this]; exact hv

/-! #### A callee that is handed all boxes -/
def ωw (pass : Option (Nat × Nat × Nat)) (ω : Nat → Option Owner) : Nat → Option Owner := fun g =>
  match ω g with
  | some (.cell b o) => some (.cell b o)
  | some (.tok t') => (match pass with
    | some (i, t, _) => if t' = t then some (.tok i) else none
    | none => none)
  | none => none

theorem ωw_some {pass : Option (Nat × Nat × Nat)} {g : Nat} {ow : Owner} (h : ωw pass ω g = some ow) : ∃ ow2, ω g = some ow2 := by
  unfold ωw at h
  split at h <;> first | exact ⟨_, by assumption⟩ | cases h

theorem Core.enterW (h : Core P Γ W M θ ω τ w) (n : Nat) (pass : Option (Nat × Nat × Nat)) (hp : ∀ i t e, pass = some (i, t, e) → (t, e) ∈ W.live ∧ i < n) :
    Core P ⟨w, M, θ, ωw pass ω⟩ ⟨n, (pass.map (fun x => (x.1, x.2.2))).toList, W.H, 0⟩ M θ (ωw pass ω) (τp pass τ) w where
  mle := Snap.le_refl M
  tle := tle_refl θ
  ext := h.ext
  hlen := h.hlen
  inj := h.inj
  tnew := fun i x hi hge => by have := (List.getElem?_eq_some_iff.1 hi).1; simp only at hge; omega
  tlt := h.tlt
  box := fun b bx blk hb hθ => (h.box b bx blk hb hθ).step (Snap.le_refl M) (tle_refl θ) rfl (fun _ h => h) (fun o g hg => ⟨rfl, fun _ => rfl, by simp [ωw, hg]⟩)
  bel := h.bel
  live := fun i e hie => by
    cases pass with
    | none => simp at hie
    | some x =>
      obtain ⟨i', t, e'⟩ := x
      simp only [Option.map_some, Option.toList_some, List.mem_singleton, Prod.mk.injEq] at hie
      obtain ⟨rfl, rfl⟩ := hie
      obtain ⟨h1, h2⟩ := hp _ _ _ rfl
      refine ⟨h2, (h.live t e h1).2.step (fun g hg => ⟨rfl, fun _ => rfl, ?_⟩)⟩
      simp [ωw, hg]
  own := fun blk ow hb => by
    obtain ⟨ow2, h2⟩ := ωw_some hb
    exact h.own blk ow2 h2
  ow0 := fun blk _ hn => hn
  kp := ⟨rfl, rfl, rfl, Nat.le_refl _, fun k _ _ => rfl⟩
  mkeep := fun _ _ _ _ _ => rfl

def ωv (rj : Option (Nat × Nat)) (nt : Nat) (pass : Option (Nat × Nat × Nat)) (ω ω' : Nat → Option Owner) : Nat → Option Owner := fun g =>
  match ω' g with
  | some (.tok j) => (match rj with
    | some (j', _) => if j = j' then some (.tok nt) else none
    | none => none)
  | some (.cell b o) => some (.cell b o)
  | none => (match pass, ω g with
    | some (_, t, _), some (.tok t') => if t' = t then none else some (.tok t')
    | none, some (.tok t') => some (.tok t')
    | _, _ => none)

theorem Core.leaveW (h : Core P Γ W M θ ω τ w) {pass : Option (Nat × Nat × Nat)} {Wc : WPt} (hc : Core P ⟨w, M, θ, ωw pass ω⟩ Wc M' θ' ω' τ' w') {rj : Option (Nat × Nat)} (hrj : ∀ j e, rj = some (j, e) → (j, e) ∈ Wc.live) :
    Core P Γ (afterW W pass rj Wc.H (W.stamp + 1)) M' θ' (ωv rj W.nt pass ω ω') (τq rj W.nt τ τ') w' ∧ Adv W θ τ w (afterW W pass rj Wc.H (W.stamp + 1)) θ' (τq rj W.nt τ τ') w' := by
  obtain ⟨a1, a2, a3, a4⟩ := afterW_nt (W := W) (pass := pass) (rj := rj) (H := Wc.H) (st := W.stamp + 1)
  have hsz : w.heap.size ≤ w'.heap.size := hc.kp.size
  have hθl : θ.length ≤ θ'.length := by
    rcases Nat.eq_zero_or_pos θ.length with h0 | h0
    · omega
    · have := (List.getElem?_eq_some_iff.1 (hc.tle (θ.length - 1) (θ[θ.length - 1]) (by simp))).1; omega
  have hold : ∀ i blk : Nat, i < θ.length → θ'[i]? = some blk → θ[i]? = some blk := fun i blk hi hb => by
    have := hc.tle i θ[i] (by simp [hi])
    rw [hb] at this; cases this
    simp [hi]
  have hkeep : ∀ g, g < w.heap.size → ωw pass ω g = none → (∀ i : Nat, θ[i]? ≠ some g) → w'.heap[g]? = w.heap[g]? ∧ (∀ o, M' g o = M g o) ∧ ω' g = none := fun g hg hn hθ => by
    have hmem : g ∉ θ := fun hm => by obtain ⟨i, hi, he⟩ := List.getElem_of_mem hm; exact hθ i (by simp [hi, he])
    refine ⟨hc.kp.block g hg (fun hx => hx.elim hmem (fun h => h hn)), fun o => hc.mkeep g o hg hn hmem, hc.ow0 g hg hn⟩
  have htokN : ∀ g t, (∀ i t' e', pass = some (i, t', e') → t ≠ t') → ω g = some (.tok t) → ωw pass ω g = none := fun g t ht hg => by
    cases pass with
    | none => simp [ωw, hg]
    | some x => obtain ⟨i, t', e'⟩ := x; simp [ωw, hg, ht i t' e' rfl]
  have htokK : ∀ g t, (∀ i t' e', pass = some (i, t', e') → t ≠ t') → ω g = some (.tok t) → w'.heap[g]? = w.heap[g]? ∧ (∀ o, M' g o = M g o) ∧ ωv rj W.nt pass ω ω' g = some (.tok t) := fun g t ht hg => by
    obtain ⟨k1, k2, k3⟩ := hkeep g (h.ownlt hg) (htokN g t ht hg) (h.own g _ hg).2
    refine ⟨k1, k2, ?_⟩
    cases pass with
    | none => simp [ωv, k3, hg]
    | some x => obtain ⟨i, t', e'⟩ := x; simp [ωv, k3, hg, ht i t' e' rfl]
  have hω : ∀ g ow, ωv rj W.nt pass ω ω' g = some ow → (ω' g ≠ none) ∨ ∃ t, ω g = some (.tok t) ∧ (∀ i t' e', pass = some (i, t', e') → t ≠ t') := fun g ow hg => by
    unfold ωv at hg
    split at hg
    · rename_i j h1; exact .inl (by rw [h1]; simp)
    · rename_i h1; exact .inl (by rw [h1]; simp)
    · split at hg
      · rename_i h1
        split at hg
        · cases hg
        · rename_i h2 _ h3
          exact .inr ⟨_, h1, fun _ _ _ he => by cases he; exact h3⟩
      · rename_i h1; exact .inr ⟨_, h1, fun _ _ _ he => by cases he⟩
      · cases hg
  refine ⟨{
    mle := Snap.le_trans h.mle hc.mle
    tle := tle_trans h.tle hc.tle
    ext := hc.ext
    hlen := by rw [a3]; exact hc.hlen
    inj := hc.inj
    tnew := fun i x hi hge => by
      rcases Nat.lt_or_ge i θ.length with hlt | hge2
      · exact h.tnew i x (hold i x hlt hi) hge
      · exact Nat.le_trans h.wle (hc.tnew i x hi hge2)
    tlt := hc.tlt
    box := by
      rw [a3]
      intro b bx blk hb hθ
      exact (hc.box b bx blk hb hθ).step (Snap.le_refl M') (tle_refl θ') rfl (fun _ h => h) (fun o g hg => ⟨rfl, fun _ => rfl, by simp [ωv, hg]⟩)
    bel := by rw [a3]; exact hc.bel
    live := fun t e hte => by
      rcases mem_afterW hte with hb | ⟨j, hj, rfl⟩
      · obtain ⟨h1, h2⟩ := mem_base hb
        obtain ⟨h3, h4⟩ := h.live t e h1
        refine ⟨by omega, ?_⟩
        have : τq rj W.nt τ τ' t = τ t := by
          unfold τq
          split
          · rw [if_neg (by omega)]
          · rfl
        rw [this]
        exact h4.step (fun g hg => htokK g t h2 hg)
      · subst hj
        refine ⟨by rw [a2 j e rfl]; omega, ?_⟩
        have : τq (some (j, e)) W.nt τ τ' W.nt = τ' j := by simp [τq]
        rw [this]
        refine (hc.live j e (hrj j e rfl)).2.step (fun g hg => ⟨rfl, fun _ => rfl, ?_⟩)
        simp [ωv, hg]
    own := fun g ow hg => by
      rcases hω g ow hg with h1 | ⟨t, h1, _⟩
      · obtain ⟨ow2, h2⟩ := Option.ne_none_iff_exists'.1 h1
        exact hc.own g ow2 h2
      · refine ⟨Nat.lt_of_lt_of_le (h.ownlt h1) hsz, fun i hi => ?_⟩
        rcases Nat.lt_or_ge i θ.length with hlt | hge
        · exact (h.own g _ h1).2 i (hold i g hlt hi)
        · have := hc.tnew i g hi hge
          have := h.ownlt h1
          simp only at *
          omega
    ow0 := fun g hlt h0 => by
      cases hh : ωv rj W.nt pass ω ω' g with
      | none => rfl
      | some ow =>
        have h1 := h.ow0 g hlt h0
        rcases hω g ow hh with h2 | ⟨t, h2, _⟩
        · have := h.wle
          have hn : ωw pass ω g = none := by simp [ωw, h1]
          exact absurd (hc.ow0 g (by simp only; omega) hn) h2
        · rw [h1] at h2; cases h2
    kp := ⟨hc.kp.os.trans h.kp.os, hc.kp.tape.trans h.kp.tape, hc.kp.output.trans h.kp.output, Nat.le_trans h.kp.size hsz, fun k hk hx => by
      have hω0 : Γ.ω0 k = none := by
        cases h0 : Γ.ω0 k with
        | none => rfl
        | some x => exact absurd (.inr (by rw [h0]; simp)) hx
      have h1 := h.ow0 k hk hω0
      have := h.wle
      rw [(hkeep k (by omega) (by simp [ωw, h1]) (fun i hi => by
        rcases Nat.lt_or_ge i Γ.θ0.length with hlt | hge
        · have h5 := h.tle i Γ.θ0[i] (by simp [hlt])
          rw [hi] at h5
          cases h5
          exact hx (.inl (List.getElem_mem hlt))
        · have := h.tnew i k hi hge; omega)).1]
      exact h.kp.block k hk hx⟩
    mkeep := fun g o hlt h0 h1 => by
      have h2 := h.ow0 g hlt h0
      have := h.wle
      rw [(hkeep g (by omega) (by simp [ωw, h2]) (fun i hi => by
        rcases Nat.lt_or_ge i Γ.θ0.length with hlt2 | hge
        · have h5 := h.tle i Γ.θ0[i] (by simp [hlt2])
          rw [hi] at h5
          cases h5
          exact h1 (List.getElem_mem hlt2)
        · have := h.tnew i g hi hge; omega)).2.1]
      exact h.mkeep g o hlt h0 h1 }, ⟨a1, by rw [a4]; exact Nat.le_succ _, fun t e hlt hte => ?_, hc.tle, fun hst => by rw [a4] at hst; omega⟩⟩
  rcases mem_afterW hte with hb | ⟨j, _, rfl⟩
  · refine ⟨⟨e, (mem_base hb).1⟩, ?_⟩
    unfold τq
    split
    · rw [if_neg (by omega)]
    · rfl
  · omega
end
end Go.Abs

namespace Go.Abs
open Go

section
variable {P : Program} {T : TE} {Γ : Cx} {S : St} {W W' : WPt} {M M' : Snap} {θ θ' : List Nat} {ω ω' : Nat → Option Owner} {τ τ' : Nat → Value} {a : Act} {w w' : World}

theorem run_callFunc {g : FuncId} (h : Entr P g) (args : Array Value) (w : World) : (callFunc g args).run P w = .ok (.enter g args) w := by
  obtain ⟨fn, c, h1, h2, h3⟩ := h
  have h2' : fn.name ≠ "runtime.NumGoroutine" := by simpa using h2
  simp [callFunc, h1, h2', h3]

theorem resTok_live {r : FRes} {j e : Nat} (h : resTok r = some (j, e)) : (j, e) ∈ r.W.live := by
  have hf : ∀ {k : Nat} {p : Nat × Nat}, (r.W.live.find? fun p => p.1 == k) = some p → p ∈ r.W.live := fun h => List.mem_of_find?_eq_some h
  unfold resTok at h
  split at h
  · exact hf h
  · obtain ⟨tg, _, h2⟩ := List.exists_of_findSome?_eq_some h
    split at h2
    · exact hf h2
    · cases h2
  · cases h

theorem tag_after {pass : Option (Nat × Nat × Nat)} {rj : Option (Nat × Nat)} {H : List Box} {st : Nat} {Wc : WPt} {w1 : World} {u : Value} {tg : Tag} (hrj : ∀ j e, rj = some (j, e) → (j, e) ∈ Wc.live) (θ1 : List Nat)
    (h : Tag1Ok Wc θ' τ' w1 u tg) : Tag1Ok (afterW W pass rj H st) θ1 (τq rj W.nt τ τ') w1 u (renTag rj W.nt tg) := by
  cases tg with
  | none => trivial
  | free => exact h
  | tok j =>
    cases rj with
    | none => trivial
    | some x =>
      obtain ⟨j', e⟩ := x
      simp only [renTag]
      split
      · rename_i hj
        subst hj
        refine ⟨by simp [afterW], fun _ => ?_⟩
        rw [h.2 ⟨e, hrj _ _ rfl⟩]
        simp [τq]
      · trivial
  | cell b o s => trivial
  | und => trivial
  | tup l => trivial

theorem renTag_tup {rj : Option (Nat × Nat)} {nt : Nat} {tg : Tag} {l : List Tag} (h : renTag rj nt tg = .tup l) : False := by
  unfold renTag at h
  split at h
  · cases h
  · split at h
    · split at h <;> cases h
    · cases h
  · cases h

theorem tag_afterR {pass : Option (Nat × Nat × Nat)} {H : List Box} {st : Nat} {r : FRes} {w1 : World} {u : Value} (θ1 : List Nat)
    (h : TagOk r.W θ' τ' w1 u r.tg) : TagOk (afterW W pass (resTok r) H st) θ1 (τq (resTok r) W.nt τ τ') w1 u (afterSV W r).tg := by
  have hrj : ∀ j e, resTok r = some (j, e) → (j, e) ∈ r.W.live := fun j e hj => resTok_live hj
  unfold afterSV
  cases htg : r.tg with
  | tup l =>
    rw [htg] at h
    simp only [TagOk]
    intro j tg vs u' hj hv hu
    rw [List.getElem?_map, Option.map_eq_some_iff] at hj
    obtain ⟨tg0, h1, rfl⟩ := hj
    exact tag_after hrj θ1 (h j tg0 vs u' h1 hv hu)
  | none => trivial
  | und => trivial
  | free => rw [htg] at h; exact h
  | tok t =>
    rw [htg] at h
    have := tag_after (W := W) (pass := pass) (H := H) (st := st) (τ := τ) (θ' := θ') (w1 := w1) (tg := .tok t) hrj θ1 h
    simp only
    revert this
    generalize hg : renTag (resTok r) W.nt (.tok t) = tg
    intro this
    cases tg with
    | tup l => exact (renTag_tup hg).elim
    | _ => exact this
  | cell b o s => trivial

theorem reps_of : ∀ (svs : List SV) (vals : List Value), svs.length = vals.length → (∀ (j : Nat) sv v, svs[j]? = some sv → vals[j]? = some v → Rep M θ sv.v v) → Reps M θ (svs.map (·.v)) vals
  | [], vals, hl, _ => by simp only [List.map_nil, Reps]; exact List.eq_nil_of_length_eq_zero hl.symm
  | sv :: svs, [], hl, _ => by simp at hl
  | sv :: svs, v :: vals, hl, hr => by
    simp only [List.map_cons, Reps]
    exact ⟨v, vals, rfl, hr 0 sv v rfl rfl, reps_of svs vals (by simpa using hl) (fun j sv v h1 h2 => hr (j + 1) sv v (by simpa using h1) (by simpa using h2))⟩

theorem aw_callP (h : RelM P Γ S M θ ω τ a w) {g : FuncId} {svs : List SV} {vals : List Value} (hv : ∀ (j : Nat) sv v, svs[j]? = some sv → vals[j]? = some v → sv.ok → SlotOk S.W M θ τ w sv v) (hl : svs.length = vals.length)
    {pass : Option (Nat × Nat × Nat)} {K : WPt → SV → Prop} (hcall : CallP P g svs S.W pass K) (dst : Option Tmp) :
    Entr P g ∧ Calls P g vals.toArray w fun e w' => ∃ v, e = .returned v ∧ Left P Γ S.W M θ τ w a dst K (a.put dst v) w' := by
  obtain ⟨hok, hbel, hpass, Kr, ⟨hent, hfs⟩, hk⟩ := hcall
  have hr0 : Reps M θ (svs.map (·.v)) vals := reps_of svs vals hl fun j sv v (h1 : svs[j]? = some sv) h2 => (hv j sv v h1 h2 (hok sv (List.mem_of_getElem? h1))).1
  have hr : Reps M [] (svs.map (·.v)) vals := by
    have := Reps.cut (n := 0) _ _ hr0 hbel
    rwa [List.take_zero] at this
  have hpn : ∀ i t e, pass = some (i, t, e) → (t, e) ∈ S.W.live ∧ i < (svs.map (·.v)).length := fun i t e hp => by
    obtain ⟨h1, sv, h2, _⟩ := hpass i t e hp
    exact ⟨h1, by simpa using (List.getElem?_eq_some_iff.1 h2).1⟩
  refine ⟨hent, ?_⟩
  have hcore := h.core.enterP (svs.map (·.v)).length pass hpn
  refine (hfs w M [] (ωp pass ω) (τp pass τ) vals hcore (fun i e v hie hvi => ?_) hr).mono fun e w' hh => ?_
  · cases pass with
    | none => simp at hie
    | some x =>
      obtain ⟨i', t, e'⟩ := x
      simp only [Option.map_some, Option.toList_some, List.mem_singleton, Prod.mk.injEq] at hie
      obtain ⟨rfl, rfl⟩ := hie
      obtain ⟨h1, sv, h2, h3⟩ := hpass _ _ _ rfl
      have := (hv i sv v h2 hvi (hok sv (List.mem_of_getElem? h2))).2
      rw [h3] at this
      exact (this.2 ⟨e, h1⟩).symm
  · obtain ⟨r, v, M', θ', ω', τ', rfl, hKr, hc, hrep, htag⟩ := hh
    obtain ⟨hb, hK⟩ := hk r hKr
    obtain ⟨hcore', hadv⟩ := h.core.leaveP hc (rj := resTok r) (fun j e hj => resTok_live hj)
    refine ⟨v, rfl, _, _, v, M', θ, _, _, hK, rfl, hcore', hc.mle, hadv, fun _ => ⟨?_, tag_afterR θ htag⟩⟩
    have := Rep.cut (n := 0) _ _ hrep hb
    rw [List.take_zero] at this
    exact Rep.mono (Snap.le_refl M') (tle_nil θ) _ _ this

theorem aw_callW (h : RelM P Γ S M θ ω τ a w) {g : FuncId} {svs : List SV} {vals : List Value} (hv : ∀ (j : Nat) sv v, svs[j]? = some sv → vals[j]? = some v → sv.ok → SlotOk S.W M θ τ w sv v) (hl : svs.length = vals.length)
    {pass : Option (Nat × Nat × Nat)} {K : WPt → SV → Prop} (hcall : CallW P g svs S.W pass K) (dst : Option Tmp) :
    Entr P g ∧ Calls P g vals.toArray w fun e w' => ∃ v, e = .returned v ∧ Left P Γ S.W M θ τ w a dst K (a.put dst v) w' := by
  obtain ⟨hok, hpass, Kr, ⟨hent, hfs⟩, hk⟩ := hcall
  have hr : Reps M θ (svs.map (·.v)) vals := reps_of svs vals hl fun j sv v (h1 : svs[j]? = some sv) h2 => (hv j sv v h1 h2 (hok sv (List.mem_of_getElem? h1))).1
  have hpn : ∀ i t e, pass = some (i, t, e) → (t, e) ∈ S.W.live ∧ i < (svs.map (·.v)).length := fun i t e hp => by
    obtain ⟨h1, sv, h2, _⟩ := hpass i t e hp
    exact ⟨h1, by simpa using (List.getElem?_eq_some_iff.1 h2).1⟩
  refine ⟨hent, ?_⟩
  have hcore := h.core.enterW (svs.map (·.v)).length pass hpn
  refine (hfs w M θ (ωw pass ω) (τp pass τ) vals hcore (fun i e v hie hvi => ?_) hr).mono fun e w' hh => ?_
  · cases pass with
    | none => simp at hie
    | some x =>
      obtain ⟨i', t, e'⟩ := x
      simp only [Option.map_some, Option.toList_some, List.mem_singleton, Prod.mk.injEq] at hie
      obtain ⟨rfl, rfl⟩ := hie
      obtain ⟨h1, sv, h2, h3⟩ := hpass _ _ _ rfl
      have := (hv i sv v h2 hvi (hok sv (List.mem_of_getElem? h2))).2
      rw [h3] at this
      exact (this.2 ⟨e, h1⟩).symm
  · obtain ⟨r, v, M', θ', ω', τ', rfl, hKr, hc, hrep, htag⟩ := hh
    obtain ⟨hcore', hadv⟩ := h.core.leaveW hc (rj := resTok r) (fun j e hj => resTok_live hj)
    exact ⟨v, rfl, _, _, v, M', θ', _, _, hk r hKr, rfl, hcore', hc.mle, hadv, fun _ => ⟨hrep, tag_afterR θ' htag⟩⟩
end
end Go.Abs

namespace Go.Abs
open Go

section
variable {P : Program} {T : TE} {Γ : Cx} {S : St} {W W' : WPt} {M M' : Snap} {θ θ' : List Nat} {ω ω' : Nat → Option Owner} {τ τ' : Nat → Value} {a : Act} {w w' : World}

theorem run_newVar (t : TypeId) (v : Value) (w : World) : (newVar t v).run P w = .ok ⟨w.heap.size, 0, none⟩ (w.alloc (.cells v.cells t (0, 0))) := by
  simp [newVar, newRow]

theorem seq_from : ∀ {l : List (Nat × Operand)} {i : Nat}, isSeq i l → l.map (·.1) = List.range' i l.length
  | [], _, _ => rfl
  | (j, x) :: l, i, h => by
    simp only [isSeq] at h
    obtain ⟨rfl, h⟩ := h
    simp only [List.map_cons, List.length_cons, List.range'_succ, seq_from h]
theorem seq_range {l : List (Nat × Operand)} {n : Nat} (h : isSeq 0 l) (hn : l.length = n) : l.map (·.1) = List.range n := by
  rw [seq_from h, hn, List.range_eq_range']
theorem pOk_mem {te : TI} {ρ : Operand → SV} : ∀ {l : List (Nat × Operand)}, pOk te ρ l → ∀ p ∈ l, (ρ p.2).ok ∧ shapeOk te.d (ρ p.2).v ∧ (cellsOf (ρ p.2).v).length = te.size ∧ (cellsOf (ρ p.2).v).all cell1 = true ∧ belowV 0 (ρ p.2).v
  | [], _, p, hp => by simp at hp
  | (i, x) :: l, h, p, hp => by
    simp only [pOk] at h
    rcases List.mem_cons.1 hp with rfl | hp
    · exact h.1
    · exact pOk_mem h.2 p hp

theorem Core.freeze (h : Core P Γ W M θ ω τ w) {b blk : Nat} (hb : θ[b]? = some blk) {l : List AV} {ow : List (Nat × Nat)} (hH : W.H[b]? = some (.cells l ow)) {vs : List Value} {ty : TypeId}
    (hblk : w.heap[blk]? = some (.cells vs.toArray ty (0, 0))) (hmn : ∀ o, M blk o = none) : Core P Γ { W with H := W.H.set b .dead } (M.row blk vs) θ ω τ w ∧ M.le (M.row blk vs) := by
  have hle : M.le (M.row blk vs) := fun c o v hv => by
    unfold Snap.row
    split
    · rename_i hc; subst hc; rw [hmn o] at hv; cases hv
    · exact hv
  have hoth : ∀ g, g ≠ blk → ∀ o, M.row blk vs g o = M g o := fun g hg o => by unfold Snap.row; rw [if_neg hg]
  have hown : ∀ g ow2, ω g = some ow2 → g ≠ blk := fun g ow2 hg e => by subst e; exact (h.own _ _ hg).2 b hb
  refine ⟨{
    mle := Snap.le_trans h.mle hle
    tle := h.tle
    ext := fun c o v hv => by
      unfold Snap.row at hv
      split at hv
      · rename_i hc; subst hc
        rw [cell_of_vals hblk]; exact hv
      · exact h.ext c o v hv
    hlen := by simp [h.hlen]
    inj := h.inj
    tnew := h.tnew
    tlt := h.tlt
    box := fun c bx blk' h1 h2 => by
      by_cases hc : b = c
      · subst hc
        rw [List.getElem?_set_self (List.getElem?_eq_some_iff.1 hH).1] at h1
        cases h1
        trivial
      · rw [List.getElem?_set_ne hc] at h1
        have hne : blk' ≠ blk := fun e => by subst e; exact hc (h.inj b c _ hb h2)
        exact (h.box c bx blk' h1 h2).step hle (tle_refl θ) rfl (fun o ho => by rw [hoth _ hne]; exact ho) (fun o g hg => ⟨rfl, fun o' => hoth g (hown g _ hg) o', hg⟩)
    bel := fun c l' ow' h1 => by
      by_cases hc : b = c
      · subst hc
        rw [List.getElem?_set_self (List.getElem?_eq_some_iff.1 hH).1] at h1
        cases h1
      · rw [List.getElem?_set_ne hc] at h1
        exact h.bel c l' ow' h1
    live := fun t e hte => ⟨(h.live t e hte).1, (h.live t e hte).2.step (fun g hg => ⟨rfl, fun o' => hoth g (hown g _ hg) o', hg⟩)⟩
    own := h.own
    ow0 := h.ow0
    kp := h.kp
    mkeep := fun g o hlt h0 h1 => by
      have hne : g ≠ blk := fun e => by
        subst e
        rcases Nat.lt_or_ge b Γ.θ0.length with hl | hl
        · have h5 := h.tle b Γ.θ0[b] (by simp [hl])
          rw [hb] at h5
          cases h5
          exact h1 (List.getElem_mem hl)
        · have := h.tnew b g hb hl; omega
      rw [hoth g hne]; exact h.mkeep g o hlt h0 h1 }, hle⟩

theorem Row_ones {pre : List Value} {g : Nat} {l : List AV} (hr : Reps M θ l pre) (hb : belowL 0 l) (hc : l.all cell1 = true) (hle : M.le (M.row g pre)) : Row (M.row g pre) l 1 g 0 := by
  have hcells : ∀ x ∈ l, cellsOf x = [x] := fun x hx => by
    have := List.all_eq_true.1 hc x hx
    cases x <;> simp_all [cell1, cellsOf]
  have hfl : (l.map cellsOf).flatten = l := by
    clear hr hb hc
    induction l with
    | nil => rfl
    | cons x l ih =>
      rw [List.map_cons, List.flatten_cons, hcells x (by simp), ih (fun y hy => hcells y (List.mem_cons_of_mem _ hy))]
      rfl
  refine Row_of (vs := pre) 0 (θ := θ) (by rw [hfl]; exact hr) (fun x hx => by rw [hcells x hx]; rfl) (by rw [hfl]; exact hb) (fun v hv => ?_) (fun j v hj => by simpa using hj) hle
  obtain ⟨j, hj, rfl⟩ := List.getElem_of_mem hv
  obtain ⟨u, h3, h4⟩ := Reps_get hr j (by rw [← Reps_length hr]; exact hj)
  rw [List.getElem?_eq_getElem hj] at h3
  cases h3
  exact rep_oneCell h4 (List.all_eq_true.1 hc _ (List.getElem_mem _))

theorem AW_sound (hT : TOk P T) (h : RelM P Γ S M θ ω τ a w) {o : Oper} {K : WPt → SV → Prop} (haw : AW P T (evO S) S.W o.op K) {next : Act → World → Prop} {Q : Exit → Act → World → Prop}
    (hn : ∀ a' w', Left P Γ S.W M θ τ w a o.dst K a' w' → next a' w') : o.wp P a w next Q := by
  obtain ⟨dst, op, ty, pos, after, guard⟩ := o
  unfold Oper.wp
  cases op <;> simp only [AW] at haw <;> try contradiction
  case box t x =>
    split at haw <;> try contradiction
    rename_i ti ht
    obtain ⟨h1, h2, h3⟩ := haw
    have hr := shape_cells (h.rep x h1) h2
    have hrun : (execOp a.eval ⟨dst, .box t x, ty, pos, after, guard⟩).run P w = .ok (.value (.pointer (some ⟨w.heap.size, 0, none⟩))) (w.alloc (.cells (a.eval x).cells t (0, 0))) := by
      simp [execOp, Instr.box, run_newVar]
    rw [hrun, Oper.upon_value]
    have := aw_box h t hr h3 dst
    rw [Array.toArray_toList] at this
    exact hn _ _ this
  case alloc t =>
    split at haw <;> try contradiction
    rename_i ti ht
    obtain ⟨h1, h2⟩ := haw
    obtain ⟨ie, z, hie, hies, _, hz, hzs, hzr⟩ := hT.info t ti ht
    have hr := shape_cells (rep_weak (M := M) (θ := θ) hzr) h1
    have hrun : (execOp a.eval ⟨dst, .alloc t, ty, pos, after, guard⟩).run P w = .ok (.value (.pointer (some ⟨w.heap.size, 0, none⟩))) (w.alloc (.cells z.cells t (0, 0))) := by
      simp [execOp, Instr.alloc, zeroValue, typeInfo, hie, hz, run_newVar]
    rw [hrun, Oper.upon_value]
    have := aw_box h t hr h2 dst
    rw [Array.toArray_toList] at this
    exact hn _ _ this
  case store t x y =>
    split at haw <;> try contradiction
    rename_i ti b o ht hx
    split at haw <;> try contradiction
    rename_i l ow hH
    obtain ⟨h1, h2, h3, h4, h5, h6, h7, h8⟩ := haw
    have hxr := h.rep x h1
    rw [hx] at hxr
    obtain ⟨w', hrun, hl⟩ := aw_store hT h ht hxr hH (h.eval y h2) h3 h4 h5 h6 h7 h8 dst
    have hrun' : (execOp a.eval ⟨dst, .store t x y, ty, pos, after, guard⟩).run P w = .ok .skip w' := by
      simp [execOp, hrun]
    rw [hrun', Oper.upon_skip]
    exact hn _ _ hl
  case buildSlice t len parts =>
    split at haw <;> try contradiction
    rename_i e sz by_ zz ht
    split at haw <;> try contradiction
    rename_i te hte
    obtain ⟨h1, h1', h2, h3, h4, h5⟩ := haw
    obtain ⟨v, w', hrun, hl⟩ := aw_buildSlice hT h ht hte (seq_range h1 h1') h2 h3 (pOk_mem h4) h5 dst
    have hrun' : (execOp a.eval ⟨dst, .buildSlice t len parts, ty, pos, after, guard⟩).run P w = .ok (.value v) w' := by
      simp only [execOp, Sem.run_bind, hrun, Result.andThen_ok, Sem.run_pure]
    rw [hrun', Oper.upon_value]
    exact hn _ _ hl
  case slice t x lo hi mx =>
    cases lo with
    | some _ => cases haw
    | none =>
    cases hi with
    | some _ => cases haw
    | none =>
    cases mx with
    | some _ => cases haw
    | none =>
    dsimp only at haw
    split at haw <;> try contradiction
    rename_i m e sz by_ zz b ht hx
    split at haw <;> try contradiction
    rename_i l ow te hH hte
    obtain ⟨h1, h2, h3, h4, h5, h6, h7⟩ := haw
    have hxr := h.rep x h1
    rw [hx] at hxr
    simp only [Rep] at hxr
    obtain ⟨blk, hb, hxv⟩ := hxr
    obtain ⟨vs, ty', hblk, hrs, hmn, _⟩ := h.core.box b _ blk hH hb
    obtain ⟨hcore, hle⟩ := h.core.freeze hb hH hblk hmn
    have hu : P.underlying t = some (.array m e) := hT.desc t _ ht
    have hrun : (execOp a.eval ⟨dst, .slice t x none none none, ty, pos, after, guard⟩).run P w = .ok (.value (.slice (some ⟨blk, 0, none⟩) m m)) w := by
      by_cases hm0 : m = 0
      · simp [execOp, hxv, Instr.sliceAt, run_underlying hu, Instr.sureAddr, Instr.sliceBounds, run_sizeOf hT hte, hm0]
      · simp [execOp, hxv, Instr.sliceAt, run_underlying hu, Instr.sureAddr, Instr.sliceBounds, run_sizeOf hT hte, hm0, add_mk]
    rw [hrun, Oper.upon_value]
    refine hn _ _ ⟨_, _, _, M.row blk vs, θ, ω, τ, h7, rfl, hcore, hle, ⟨Nat.le_refl _, Nat.le_refl _, fun t' e' _ hte' => ⟨⟨e', hte'⟩, rfl⟩, tle_refl θ, fun _ _ _ _ _ _ hh => hh⟩, fun _ => ⟨?_, trivial⟩⟩
    simp only [SV.of, Rep, h4]
    exact ⟨_, _, rfl, Nat.le_refl _, fun _ => ⟨blk, 0, rfl, Row_ones hrs h6 h5 hle⟩⟩
  case call cl =>
    obtain ⟨callee, args, argTypes⟩ := cl
    cases callee with
    | invoke r m => simp only at haw
    | builtin bi =>
      cases bi <;> (try dsimp only at haw) <;> try contradiction
      split at haw <;> try contradiction
      rename_i s x t t' hargs htys
      have ha : args = #[s, x] := by rw [← Array.toList_inj]; simpa using hargs
      have hb : argTypes = #[t, t'] := by rw [← Array.toList_inj]; simpa using htys
      subst ha; subst hb
      split at haw <;> try contradiction
      rename_i e sz by_ zz es z news ht hes hx
      split at haw <;> try contradiction
      rename_i te hte
      obtain ⟨rfl, h1, h2, rfl, h3, h4, h5, h6, h8⟩ := haw
      have hxr := h.rep x h2
      rw [hx] at hxr
      have hs := h.eval s h1
      have fin : ∀ u w', (Builtin.append_ #[t, t] ty #[a.eval s, a.eval x]).run P w = .ok u w' → (execOp a.eval ⟨dst, .call ⟨.builtin .append, #[s, x], #[t, t]⟩, ty, pos, after, guard⟩).run P w = .ok (.value u) w' := fun u w' hv => by
        simp [execOp, resolve, invoke, builtin, hv]
      have fr : ∀ (t' e' : Nat), (t', e') ∈ S.W.live → (t', e') ∈ S.W.live ∧ Owner.tok t' ≠ Owner.tok S.W.nt := fun t' e' hm => ⟨hm, fun he => by
        cases he; have := (h.core.live _ _ hm).1; omega⟩
      have frH : ∀ (b : Nat) bx', S.W.H[b]? = some bx' → S.W.H[b]? = some bx' ∧ (∀ l ow1, bx' = .cells l ow1 → ∀ o e', (o, e') ∈ ow1 → Owner.cell b o ≠ Owner.tok S.W.nt) ∨ ∃ l ow1 ow2, bx' = .cells l ow2 ∧ S.W.H[b]? = some (.cells l ow1) ∧ ∀ o e', (o, e') ∈ ow2 → (o, e') ∈ ow1 ∧ Owner.cell b o ≠ Owner.tok S.W.nt := fun b bx' hb => .inl ⟨hb, fun _ _ _ _ _ _ he => by cases he⟩
      split at h8
      · rename_i hnil
        subst hnil
        have hrun := run_append_none (P := P) (w := w) (ty := ty) hT ht hte hs.1 hes hxr
        rw [fin _ _ hrun, Oper.upon_value]
        refine hn _ _ ⟨_, _, _, M, θ, ω, τ, h8, rfl, h.core, Snap.le_refl M, ⟨Nat.le_refl _, Nat.le_refl _, fun t e' _ hm => ⟨⟨e', hm⟩, rfl⟩, tle_refl θ, fun _ b' blk o' u hb hcell => hcell⟩, fun _ => ?_⟩
        exact hs
      rename_i h7
      split at h8
      · rename_i hsv
        obtain ⟨u, w', hrun, hl⟩ := aw_append (ty := ty) hT h ht hte hs hes hxr h3 h4 h5 h6 h7 (.inl ⟨hsv, rfl⟩) rfl frH (live' := S.W.live) fr h8 dst
        rw [fin _ _ hrun, Oper.upon_value]
        exact hn _ _ hl
      · rename_i htg _
        obtain ⟨u, w', hrun, hl⟩ := aw_append (ty := ty) hT h ht hte hs hes hxr h3 h4 h5 h6 h7 (.inr (.inl ⟨htg, rfl⟩)) rfl frH (live' := S.W.live) fr h8 dst
        rw [fin _ _ hrun, Oper.upon_value]
        exact hn _ _ hl
      · rename_i tk htg _
        obtain ⟨hlv, h8⟩ := h8
        obtain ⟨u, w', hrun, hl⟩ := aw_append (ty := ty) hT h ht hte hs hes hxr h3 h4 h5 h6 h7 (.inr (.inr (.inl ⟨tk, htg, hlv, rfl⟩))) rfl
          (fun b bx' hb => .inl ⟨hb, fun _ _ _ _ _ _ he => by cases he⟩) (live' := S.W.live.filter fun p => p.1 != tk)
          (fun t' e' hm => ⟨(List.mem_filter.1 hm).1, fun he => by cases he; simpa using (List.mem_filter.1 hm).2⟩) h8 dst
        rw [fin _ _ hrun, Oper.upon_value]
        exact hn _ _ hl
      · rename_i b o st htg _
        obtain ⟨rfl, h8⟩ := h8
        split at h8 <;> try contradiction
        rename_i l ow hH
        obtain ⟨hin, h8⟩ := h8
        have hbl : b < S.W.H.length := (List.getElem?_eq_some_iff.1 hH).1
        obtain ⟨u, w', hrun, hl⟩ := aw_append (ty := ty) hT h ht hte hs hes hxr h3 h4 h5 h6 h7 (.inr (.inr (.inr ⟨b, o, l, ow, htg, hH, hin, rfl⟩))) (H' := S.W.H.set b (.cells l (ow.filter fun p => p.1 != o))) (by simp)
          (fun c bx' hc => by
            by_cases hcb : b = c
            · subst hcb
              rw [List.getElem?_set_self hbl] at hc
              cases hc
              refine .inr ⟨l, ow, _, rfl, hH, fun o' e' hoe => ?_⟩
              obtain ⟨k1, k2⟩ := List.mem_filter.1 hoe
              exact ⟨k1, fun he => by cases he; simp at k2⟩
            · rw [List.getElem?_set_ne hcb] at hc
              exact .inl ⟨hc, fun _ _ _ _ _ _ he => by cases he; exact hcb rfl⟩) (live' := S.W.live)
          (fun t' e' hm => ⟨hm, fun he => by cases he⟩) h8 dst
        rw [fin _ _ hrun, Oper.upon_value]
        exact hn _ _ hl
      · cases h8
    | value f =>
      simp only at haw
      split at haw <;> try contradiction
      rename_i g caps hf
      obtain ⟨hfo, pass, hcall⟩ := haw
      have hfr := h.rep f hfo
      rw [hf] at hfr
      simp only [Rep] at hfr
      obtain ⟨cv, hfv, hcr⟩ := hfr
      let vals := args.toList.map a.eval ++ cv
      have hlen : (args.toList.map (evO S) ++ caps.map SV.of).length = vals.length := by simp [vals, Reps_length hcr]
      have hv : ∀ (j : Nat) sv v, (args.toList.map (evO S) ++ caps.map SV.of)[j]? = some sv → vals[j]? = some v → sv.ok → SlotOk S.W M θ τ w sv v := fun j sv v h1 h2 hok => by
        rcases Nat.lt_or_ge j args.toList.length with hj | hj
        · rw [List.getElem?_append_left (by simpa using hj), List.getElem?_map, Option.map_eq_some_iff] at h1
          rw [List.getElem?_append_left (by simpa using hj), List.getElem?_map, Option.map_eq_some_iff] at h2
          obtain ⟨x, hx, rfl⟩ := h1
          obtain ⟨x', hx', rfl⟩ := h2
          rw [hx] at hx'; cases hx'
          exact h.eval x hok
        · rw [List.getElem?_append_right (by simpa using hj), List.getElem?_map, Option.map_eq_some_iff] at h1
          rw [List.getElem?_append_right (by simpa using hj)] at h2
          obtain ⟨x, hx, rfl⟩ := h1
          simp only [List.length_map] at hx h2
          have hjl := (List.getElem?_eq_some_iff.1 hx).1
          obtain ⟨u, hu, hr⟩ := Reps_get hcr _ hjl
          rw [h2] at hu; cases hu
          rw [(List.getElem?_eq_some_iff.1 hx).2] at hr
          exact ⟨hr, trivial⟩
      have hent : Entr P g ∧ Calls P g vals.toArray w fun e w' => ∃ v, e = .returned v ∧ Left P Γ S.W M θ τ w a dst K (a.put dst v) w' := by
        rcases hcall with hc | hc
        · exact aw_callP h hv hlen hc dst
        · exact aw_callW h hv hlen hc dst
      have hrun : (execOp a.eval ⟨dst, .call ⟨.value f, args, argTypes⟩, ty, pos, after, guard⟩).run P w = .ok (.enter g vals.toArray) w := by
        have : vals.toArray = args.map a.eval ++ cv.toArray := by simp [vals]
        simp only [execOp, resolve, hfv, Deferred.ofValue, invoke, Sem.run_bind, Sem.run_pure, Result.andThen_ok, run_callFunc hent.1, this]
        simp
      rw [hrun, Oper.upon_enter]
      refine hent.2.mono fun e w' hh => ?_
      obtain ⟨v, rfl, hl⟩ := hh
      exact hn _ _ hl
end
end Go.Abs

namespace Go.Abs
open Go

/-! ### One operation, a list of them -/
/-- The guard: what must be known of it, and whether the operation is wanted. -/
def guardG (ops : Array Oper) (S : St) (o : Oper) : Option (Prop × Prop) :=
  match o.guard with
  | none => some (True, True)
  | some (j, want) => match (ops[j]?).bind (·.dst) with
    | some d => match (lk S.fr d).v, (lk S.fr d).tg with
      | .bool b, .und => some (True, (lk S.fr d).ok ∧ (b == want) = true)
      | .bool b, _ => some ((lk S.fr d).ok, (b == want) = true)
      | _, _ => none
    | none => none

/-- A quiet operation with its guard. -/
def evalQ (T : TE) (ops : Array Oper) (S : St) (o : Oper) : Option (Prop × SV) :=
  match o.guard with
  | none => (quiet T S o).map fun (c, sv) => (c, sv.noU)
  | some _ => match guardG ops S o, quiet T S o with
    | some (c0, g), some (c, sv) => some (c0 ∧ (g → c ∧ sv.ok), ⟨g, sv.v, .und⟩)
    | _, _ => none

/-- A call of a function that changes nothing: its value. -/
def pureCall (P : Program) (ρ : Operand → SV) (op : Op) (v : AV) : Prop :=
  match op with
  | .call { callee := .value f, args, .. } => match (ρ f).v with
    | .fn h caps => (ρ f).ok ∧ (∀ sv ∈ args.toList.map ρ ++ caps.map SV.of, sv.ok) ∧ belowL 0 ((args.toList.map ρ ++ caps.map SV.of).map (·.v)) ∧ belowV 0 v ∧
        FS P h ((args.toList.map ρ ++ caps.map SV.of).map (·.v)) [] [] fun r => r.v = v ∧ r.tg = .none
    | _ => False
  | _ => False

def WOp (P : Program) (T : TE) (ops : Array Oper) (S : St) (o : Oper) (K : St → Prop) : Prop :=
  match evalQ T ops S o with
  | some (c, sv) => c ∧ K (S.put o.dst sv)
  | none => match o.guard with
    | none => AW P T (evO S) S.W o.op fun W' sv => K ({ S with W := W' }.put o.dst sv.noU)
    | some _ => match guardG ops S o with
      | some (c, g) => c ∧ (((g → AW P T (evO S) S.W o.op fun W' sv => K ({ S with W := W' }.put o.dst sv.noU)) ∧ (¬ g → K (S.put o.dst SV.un))) ∨
          ∃ v, (g → pureCall P (evO S) o.op v) ∧ K (S.put o.dst ⟨g, v, .und⟩))
      | none => False

def WOps (P : Program) (T : TE) (ops : Array Oper) : List Oper → St → (St → Prop) → Prop
  | [], S, K => K S
  | o :: l, S, K => WOp P T ops S o fun S' => WOps P T ops l S' K

section
variable {P : Program} {T : TE} {Γ : Cx} {S : St} {W W' : WPt} {M M' : Snap} {θ θ' : List Nat} {ω ω' : Nat → Option Owner} {τ τ' : Nat → Value} {a : Act} {w w' : World}

theorem wanted_some {ops : Array Oper} {o : Oper} {j : Nat} {want : Bool} {d : Nat} {b : Bool} (hg : o.guard = some (j, want)) (hd : (ops[j]?).bind (·.dst) = some d) (hv : a.tmps.getD d undef = .bool b) :
    Region.wanted o (yielded ops a.tmps) = (b == want) := by
  have : yielded ops a.tmps j = some b := by
    unfold yielded
    rw [hd]
    simp only [Option.bind_some]
    rw [Array.getD_eq_getD_getElem?] at hv
    cases hq : a.tmps[d]? with
    | none => rw [hq] at hv; simp [undef] at hv
    | some v => rw [hq] at hv; simp only [Option.getD_some] at hv; subst hv; rfl
  simp only [Region.wanted, hg, this]
  cases b <;> cases want <;> rfl

theorem guardG_sound {ops : Array Oper} {o : Oper} (h : RelM P Γ S M θ ω τ a w) {c g : Prop} (hg : guardG ops S o = some (c, g)) (hc : c) : (Region.wanted o (yielded ops a.tmps) = true ↔ g) := by
  unfold guardG at hg
  split at hg
  · rename_i h1
    cases hg
    simp [Region.wanted, h1]
  · rename_i j want h1
    split at hg
    · rename_i d h2
      have yes : ∀ b, (lk S.fr d).v = .bool b → (lk S.fr d).ok → Region.wanted o (yielded ops a.tmps) = (b == want) := fun b h3 hok => by
        have := (h.fr.slot d hok).1
        rw [h3] at this
        simp only [Rep] at this
        exact wanted_some h1 h2 this
      split at hg
      · rename_i b h3 h4
        cases hg
        by_cases hok : (lk S.fr d).ok
        · rw [yes b h3 hok]
          exact ⟨fun he => ⟨hok, he⟩, fun he => he.2⟩
        · have hv := h.fr.und d h4 hok
          have : yielded ops a.tmps j = none := by
            unfold yielded
            rw [h2]
            simp only [Option.bind_some]
            rw [Array.getD_eq_getD_getElem?] at hv
            cases hq : a.tmps[d]? with
            | none => rfl
            | some v => rw [hq] at hv; simp only [Option.getD_some] at hv; subst hv; rfl
          refine ⟨fun he => ?_, fun he => absurd he.1 hok⟩
          rw [Region.wanted, h1] at he
          simp [this] at he
      · rename_i b h3 h4
        cases hg
        rw [yes b h3 hc]
      · cases hg
    · cases hg

theorem evalQ_sound (hT : TOk P T) {ops : Array Oper} {o : Oper} (h : RelM P Γ S M θ ω τ a w) {c : Prop} {sv : SV} (hq : evalQ T ops S o = some (c, sv)) (hc : c) :
    (Region.wanted o (yielded ops a.tmps) = true ∧ (sv.tg = .und → sv.ok) ∧ ∃ v, (execOp a.eval o).run P w = .ok (.value v) w ∧ (sv.ok → SlotOk S.W M θ τ w sv v)) ∨ (Region.wanted o (yielded ops a.tmps) = false ∧ ¬ sv.ok) := by
  unfold evalQ at hq
  split at hq
  · rename_i h1
    rw [Option.map_eq_some_iff] at hq
    obtain ⟨⟨c', sv'⟩, h2, h3⟩ := hq
    cases h3
    obtain ⟨v, hv, hs⟩ := quiet_sound hT h h2 hc
    exact .inl ⟨by simp [Region.wanted, h1], fun he => absurd he (SV.noU_und sv'), v, hv, fun hok => (hs hok).noU⟩
  · split at hq
    · rename_i c0 g c' sv' h3 h4
      cases hq
      have hw := guardG_sound h h3 hc.1
      by_cases hg : g
      · obtain ⟨v, hv, hs⟩ := quiet_sound hT h h4 (hc.2 hg).1
        exact .inl ⟨hw.2 hg, fun _ => hg, v, hv, fun _ => ⟨(hs (hc.2 hg).2).1, trivial⟩⟩
      · refine .inr ⟨?_, hg⟩
        cases hww : Region.wanted o (yielded ops a.tmps) with
        | false => rfl
        | true => exact absurd (hw.1 hww) hg
    · cases hq

theorem pureCall_AW {S : St} {op : Op} {v : AV} (h : pureCall P (evO S) op v) : AW P T (evO S) S.W op fun W' sv => W' = S.W ∧ sv = ⟨True, v, .none⟩ := by
  unfold pureCall at h
  split at h
  · rename_i f args _
    split at h
    · rename_i g caps hf
      obtain ⟨h1, h2, h3, h4, h5⟩ := h
      simp only [AW, hf]
      refine ⟨h1, none, .inl ⟨h2, h3, (fun _ _ _ h => by cases h), _, h5, fun r hr => ?_⟩⟩
      obtain ⟨k1, k2⟩ := hr
      refine ⟨by rw [k1]; exact h4, ?_⟩
      have e1 : resTok r = none := by unfold resTok; rw [k2]
      have e2 : afterSV S.W r = ⟨True, v, .none⟩ := by unfold afterSV; rw [k1, k2]; rfl
      rw [e1, e2]
      exact ⟨rfl, rfl⟩
    · cases h
  · cases h

theorem WOp_sound (hT : TOk P T) {ops : Array Oper} {o : Oper} (h : RelM P Γ S M θ ω τ a w) {K : St → Prop} (hw : WOp P T ops S o K) (hd : ∀ d, o.dst = some d → d < S.n)
    {next : Act → World → Prop} {Q : Exit → Act → World → Prop} (hn : ∀ S' a' w', S'.n = S.n → K S' → Rel P Γ S' a' w' → next a' w') :
    if Region.wanted o (yielded ops a.tmps) then o.wp P a w next Q ∨ (o.asks P a w ∧ LetsOut Q) else next (a.put o.dst undef) w := by
  have hput : ∀ sv, (S.put o.dst sv).n = S.n := fun sv => by cases ho : o.dst <;> rfl
  have armed : Region.wanted o (yielded ops a.tmps) = true → AW P T (evO S) S.W o.op (fun W' sv => K ({ S with W := W' }.put o.dst sv.noU)) → o.wp P a w next Q := fun hwt ha => by
    refine AW_sound hT h ha fun a' w' hl => ?_
    obtain ⟨W', sv, v, M', θ', ω', τ', hK, rfl, hcore, hM, hadv, hs⟩ := hl
    have h2 := (h.world hcore hM hadv).put o.dst sv.noU v hd (fun hok => (hs hok).noU) (fun he => absurd he (SV.noU_und sv))
    refine hn _ _ _ ?_ hK ⟨_, _, _, _, h2⟩
    cases ho : o.dst <;> rfl
  unfold WOp at hw
  split at hw
  · rename_i c sv hq
    obtain ⟨hc, hK⟩ := hw
    rcases evalQ_sound hT h hq hc with ⟨h1, hu, v, h2, h3⟩ | ⟨h1, h2⟩
    · rw [h1, if_pos rfl]
      refine .inl ?_
      unfold Oper.wp
      rw [h2, Oper.upon_value]
      exact hn _ _ _ (hput sv) hK ⟨_, _, _, _, h.put o.dst sv v hd h3 fun he hno => absurd (hu he) hno⟩
    · rw [h1, if_neg (by simp)]
      exact hn _ _ _ (hput sv) hK ⟨_, _, _, _, h.put o.dst sv undef hd (fun ho => (h2 ho).elim) (fun _ _ => rfl)⟩
  · split at hw
    · rename_i hg
      have h1 : Region.wanted o (yielded ops a.tmps) = true := by simp [Region.wanted, hg]
      rw [h1, if_pos rfl]
      exact .inl (armed h1 hw)
    · split at hw
      · rename_i c g hg
        obtain ⟨hc, hw⟩ := hw
        have h1 := guardG_sound h hg hc
        rcases hw with ⟨ht, hf⟩ | ⟨v, hp, hk⟩
        rotate_left
        · cases hww : Region.wanted o (yielded ops a.tmps) with
          | true =>
            rw [if_pos rfl]
            refine .inl (AW_sound hT h (pureCall_AW (hp (h1.1 hww))) fun a' w' hl => ?_)
            obtain ⟨W', sv, u, M', θ', ω', τ', ⟨hW, hsv⟩, rfl, hcore, hM, hadv, hs⟩ := hl
            subst hW hsv
            have h2 := (h.world hcore hM hadv).put o.dst ⟨g, v, .und⟩ u hd (fun _ => ⟨(hs trivial).1, trivial⟩) (fun _ hno => absurd (h1.1 hww) hno)
            refine hn _ _ _ ?_ hk ⟨_, _, _, _, h2⟩
            cases ho : o.dst <;> rfl
          | false =>
            rw [if_neg (by simp)]
            have hng : ¬ g := fun hg => by rw [h1.2 hg] at hww; cases hww
            exact hn _ _ _ (hput _) hk ⟨_, _, _, _, h.put o.dst ⟨g, v, .und⟩ undef hd (fun ho => absurd ho hng) (fun _ _ => rfl)⟩
        cases hww : Region.wanted o (yielded ops a.tmps) with
        | true => rw [if_pos rfl]; exact .inl (armed hww (ht (h1.1 hww)))
        | false =>
          rw [if_neg (by simp)]
          have hng : ¬ g := fun hg => by rw [h1.2 hg] at hww; cases hww
          exact hn _ _ _ (hput _) (hf hng) ⟨_, _, _, _, h.put o.dst SV.un undef hd (fun ho => ho.elim) (fun _ _ => rfl)⟩
      · cases hw

theorem WOps_sound (hT : TOk P T) {ops : Array Oper} {K : St → Prop} {Q : Exit → Act → World → Prop} {n : Nat} : ∀ (l : List Oper) (S : St) (a : Act) (w : World), S.n = n → (∀ o ∈ l, ∀ d, o.dst = some d → d < n) → Rel P Γ S a w → WOps P T ops l S K →
    (∀ S' a' w', S'.n = n → K S' → Rel P Γ S' a' w' → Q .normal a' w') → wpList P ops Q l a w
  | [], S, a, w, hn, _, hr, hw, hQ => hQ S a w hn hw hr
  | o :: l, S, a, w, hn, hd, ⟨M, θ, ω, τ, hr⟩, hw, hQ => by
    simp only [WOps] at hw
    simp only [wpList]
    exact WOp_sound hT hr hw (fun d h => by rw [hn]; exact hd o (by simp) d h) fun S' a' w' hn' hK hr' =>
      WOps_sound hT l S' a' w' (by rw [hn', hn]) (fun o ho => hd o (List.mem_cons_of_mem _ ho)) hr' hK hQ
end

/-! ### Code -/
inductive AX where
  | normal | exit (id : Nat) | ret
def AX.to : AX → Exit
  | .normal => .normal
  | .exit id => .exit id
  | .ret => .ret

/-- A piece of code, in abstract terms. -/
def T3 (P : Program) (c : Code) (S : St) (Q : AX → St → Prop) : Prop :=
  ∀ (Γ : Cx) (a : Act) (w : World), Rel P Γ S a w → c.wp P (fun e a' w' => ∃ x S', e = AX.to x ∧ S'.n = S.n ∧ Q x S' ∧ Rel P Γ S' a' w') a w

def thenQ (K : St → Prop) (Q : AX → St → Prop) : AX → St → Prop
  | .normal, S => K S
  | e, S => Q e S
def blockQ (id : Nat) (Q : AX → St → Prop) : AX → St → Prop
  | .exit id', S => if id' = id then Q .normal S else Q (.exit id') S
  | e, S => Q e S

section
variable {P : Program} {T : TE} {S : St} {Q : AX → St → Prop}

theorem T3.mono {c : Code} {Q' : AX → St → Prop} (h : T3 P c S Q) (hq : ∀ e S', Q e S' → Q' e S') : T3 P c S Q' := fun Γ a w hr =>
  wp_mono (h Γ a w hr) fun e a' w' ⟨x, S', h1, h2, h3, h4⟩ => ⟨x, S', h1, h2, hq _ _ h3, h4⟩

theorem T3_skip (h : Q .normal S) : T3 P .skip S Q := fun Γ a w hr => wp_skip ⟨.normal, S, rfl, rfl, h, hr⟩
theorem T3_exit {id : Nat} (h : Q (.exit id) S) : T3 P (.exit id) S Q := fun Γ a w hr => wp_exit ⟨.exit id, S, rfl, rfl, h, hr⟩
theorem T3_ret (h : Q .ret S) : T3 P .ret S Q := fun Γ a w hr => wp_ret ⟨.ret, S, rfl, rfl, h, hr⟩
theorem T3_seq {x y : Code} (h : T3 P x S (thenQ (fun S' => T3 P y S' Q) Q)) : T3 P (.seq x y) S Q := fun Γ a w hr =>
  wp_seq (wp_mono (h Γ a w hr) fun e a' w' ⟨x, S', h1, h2, h3, h4⟩ => by
    subst h1
    cases x with
    | normal => exact wp_mono (h3 Γ a' w' h4) fun e a2 w2 ⟨x2, S2, k1, k2, k3, k4⟩ => ⟨x2, S2, k1, k2.trans h2, k3, k4⟩
    | exit id => exact ⟨.exit id, S', rfl, h2, h3, h4⟩
    | ret => exact ⟨.ret, S', rfl, h2, h3, h4⟩)
theorem T3_block {id : Nat} {c : Code} (h : T3 P c S (blockQ id Q)) : T3 P (.block id c) S Q := fun Γ a w hr =>
  wp_block (wp_mono (h Γ a w hr) fun e a' w' ⟨x, S', h1, h2, h3, h4⟩ => by
    subst h1
    cases x with
    | normal => exact ⟨.normal, S', rfl, h2, h3, h4⟩
    | exit id' =>
      simp only [AX.to, Exit.inBlock, blockQ] at h3 ⊢
      split at h3
      · rename_i he; rw [if_pos he]; exact ⟨.normal, S', rfl, h2, h3, h4⟩
      · rename_i he; rw [if_neg he]; exact ⟨.exit id', S', rfl, h2, h3, h4⟩
    | ret => exact ⟨.ret, S', rfl, h2, h3, h4⟩)
theorem T3_cond {c : Operand} {x y : Code} {b : Bool} (hv : (evO S c).v = .bool b) (hok : (evO S c).ok) (ht : b = true → T3 P x S Q) (hf : b = false → T3 P y S Q) : T3 P (.cond c x y) S Q := fun Γ a w hr => by
  have hr0 := hr
  obtain ⟨M, θ, ω, τ, hr'⟩ := hr0
  have := hr'.rep c hok
  rw [hv] at this
  simp only [Rep] at this
  exact wp_cond_split this (fun h => ht h Γ a w hr) (fun h => hf h Γ a w hr)
theorem T3_region (hT : TOk P T) {id : Nat} {ops : Array Oper} (hd : ∀ o ∈ ops.toList, ∀ d, o.dst = some d → d < S.n) (h : WOps P T ops ops.toList S (Q .normal)) : T3 P (.region id ops false) S Q := fun Γ a w hr =>
  wp_region_list (WOps_sound hT ops.toList S a w rfl hd hr h fun S' a' w' hn hK hr' => ⟨.normal, S', rfl, hn, hK, hr'⟩)

/-- What S says, S' says too. -/
def Le (S S' : St) : Prop := S'.n = S.n ∧ ∀ (P : Program) (Γ : Cx) (a : Act) (w : World), Rel P Γ S a w → Rel P Γ S' a w
theorem T3.le {c : Code} {S' : St} (hl : Le S S') (h : T3 P c S' Q) : T3 P c S Q := fun Γ a w hr =>
  wp_mono (h Γ a w (hl.2 P Γ a w hr)) fun e a' w' ⟨x, S', h1, h2, h3, h4⟩ => ⟨x, S', h1, h2.trans hl.1, h3, h4⟩

theorem T3_loop {c : Code} {ι : Type} (J : ι → St) (μ : ι → Nat) (i0 : ι) (h0 : Le S (J i0)) (round : ∀ i, T3 P c (J i) (thenQ (fun S' => ∃ i', μ i' < μ i ∧ Le S' (J i')) Q)) : T3 P (.loop c) S Q := fun Γ a w hr => by
  have hr0 := h0.2 P Γ a w hr
  let I : Act → World → Nat → Prop := fun a w k => ∃ i, μ i = k ∧ (J i).n = S.n ∧ Rel P Γ (J i) a w
  have hwp := wp_loop (P := P) (c := c) (Q := fun e a' w' => ∃ x S', e = AX.to x ∧ S'.n = S.n ∧ Q x S' ∧ Rel P Γ S' a' w')
    (fun a' w' => ∃ k, I a' w' k) (fun a' w' => open Classical in if h : ∃ k, I a' w' k then Classical.choose (p := fun k => I a' w' k ∧ ∀ j, I a' w' j → k ≤ j) (by
      obtain ⟨k, hk⟩ := h
      induction k using Nat.strongRecOn with
      | _ k ih =>
        by_cases hm : ∃ j, j < k ∧ I a' w' j
        · obtain ⟨j, hj, hI⟩ := hm; exact ih j hj hI
        · exact ⟨k, hk, fun j hj => Nat.le_of_not_lt fun hlt => hm ⟨j, hlt, hj⟩⟩) else 0)
    (a := a) (w := w) ⟨_, i0, rfl, h0.1, hr0⟩ ?_
  · exact hwp
  intro a' w' hI
  have hch : ∀ (a' : Act) (w' : World) (h : ∃ k, I a' w' k), ∃ k, (I a' w' k ∧ ∀ j, I a' w' j → k ≤ j) := fun a' w' h => by
    obtain ⟨k, hk⟩ := h
    induction k using Nat.strongRecOn with
    | _ k ih =>
      by_cases hm : ∃ j, j < k ∧ I a' w' j
      · obtain ⟨j, hj, hI⟩ := hm; exact ih j hj hI
      · exact ⟨k, hk, fun j hj => Nat.le_of_not_lt fun hlt => hm ⟨j, hlt, hj⟩⟩
  have hsp := Classical.choose_spec (hch a' w' hI)
  obtain ⟨⟨i, hi, hin, hri⟩, hmin⟩ := hsp
  refine wp_mono (round i Γ a' w' hri) fun e a2 w2 ⟨x, S2, h1, h2, h3, h4⟩ => ?_
  subst h1
  cases x with
  | normal =>
    obtain ⟨i', hlt, hle⟩ := h3
    have hr2 := hle.2 P Γ a2 w2 h4
    have hI2 : I a2 w2 (μ i') := ⟨i', rfl, by rw [hle.1, h2, hin], hr2⟩
    refine ⟨⟨_, hI2⟩, ?_⟩
    rw [dif_pos hI, dif_pos ⟨_, hI2⟩]
    have hsp2 := Classical.choose_spec (hch a2 w2 ⟨_, hI2⟩)
    have h5 := hsp2.2 _ hI2
    have h6 := hi
    omega
  | exit id => exact ⟨.exit id, S2, rfl, h2.trans hin, h3, h4⟩
  | ret => exact ⟨.ret, S2, rfl, h2.trans hin, h3, h4⟩
end
end Go.Abs
