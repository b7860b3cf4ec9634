/-
  Part of a proof: contracts of functions in abstract values.
-/
import Derived.Test.YtejdblkohdbhaaaGreatDoorNaaa
import Derived.Laws.BytesString
import Derived.Maps.AppendAt
set_option linter.unusedVariables false
set_option linter.unusedSimpArgs false
namespace Go.Abs
open Go
section
variable {P : Program} {T : TE} {Γ : Cx} {S : St} {M : Snap} {θ : List Nat} {ω : Nat → Option Owner} {τ : Nat → Value} {a : Act} {w : World}

theorem extract_mk (s : List UInt8) (l h : Nat) : (ByteArray.mk s.toArray).extract l h = ByteArray.mk ((s.take h).drop l).toArray := by
  apply ByteArray.ext
  simp [ByteArray.data_extract, List.extract_toArray, List.drop_take]

theorem u8_list : ∀ {es : List AV}, es.all isU8 = true → ∃ ns : List Int, es = ns.map (AV.int .u8)
  | [], _ => ⟨[], rfl⟩
  | e :: es, h => by
    simp only [List.all_cons, Bool.and_eq_true] at h
    obtain ⟨ns, hns⟩ := u8_list h.2
    cases e <;> simp only [isU8, Bool.false_eq_true, false_and] at h
    rename_i k n
    cases k <;> simp only [isU8, Bool.false_eq_true, false_and] at h
    exact ⟨n :: ns, by rw [hns]; rfl⟩
theorem push_list : ∀ (ns : List Int) (l : List UInt8), ns.foldl (fun r n => r.push (UInt8.ofNat n.toNat)) (ByteArray.mk l.toArray) = ByteArray.mk (l ++ ns.map fun n => UInt8.ofNat n.toNat).toArray
  | [], l => by simp
  | n :: ns, l => by
    have e : (ByteArray.mk l.toArray).push (UInt8.ofNat n.toNat) = ByteArray.mk (l ++ [UInt8.ofNat n.toNat]).toArray := by
      apply ByteArray.ext
      simp
    rw [List.foldl_cons, e, push_list ns]
    simp
theorem run_toStr {W : WPt} (h : Core P Γ W M θ ω τ w) {src dt e : TypeId} (hs : P.underlying src = some (.slice e)) (he : P.underlying e = some (.int .u8)) (hd : P.underlying dt = some .string)
    {es : List AV} {v : Value} (hr : Rep M θ (.sl 1 es) v) (hu : es.all isU8 = true) : ∃ u, (convert src dt v).run P w = .ok u w ∧ Rep M θ (.str (es.map byteOf)) u := by
  obtain ⟨ns, rfl⟩ := u8_list hu
  simp only [Rep] at hr
  obtain ⟨a, c, rfl, hc, hrow⟩ := hr
  rw [run_convert_bytes_string w src dt e a _ c hs he hd]
  by_cases hn : ns = []
  · subst hn
    cases a with
    | none => exact ⟨.string ⟨#[]⟩, by simp [Conv.bytesToString]; rfl, by simp [Rep]⟩
    | some a =>
      refine ⟨_, run_bytesToString w a _ c [] ?_, by simp [Rep]; rfl⟩
      simp [loadCells, loadCellsFrom]
  · obtain ⟨b, o, rfl, hrw⟩ := hrow (by simpa using hn)
    refine ⟨_, run_bytesToString w _ _ c ns ?_, ?_⟩
    · have hl : (ns.map (AV.int .u8)).length = (ns.map (Value.int .u8)).length := by simp
      rw [hl]
      refine run_loadCells_list w _ _ fun j u hj => ?_
      rw [List.getElem?_map, Option.map_eq_some_iff] at hj
      obtain ⟨n, hj, rfl⟩ := hj
      have hlt : j < (ns.map (AV.int .u8)).length := by simpa using (List.getElem?_eq_some_iff.1 hj).1
      obtain ⟨_, h2⟩ := Row_get hrw j hlt
      have e1 : (ns.map (AV.int .u8))[j] = .int .u8 n := by
        have := (List.getElem?_eq_some_iff.1 hj).2
        simp [this]
      rw [e1] at h2
      simp only [cellsOf, Cells, Rep] at h2
      obtain ⟨⟨u, h3, _, h4⟩, _⟩ := h2
      rw [h4] at h3
      rw [add_mk]
      have := h.ext _ _ _ h3
      simpa using this
    · have := push_list ns []
      simp only [List.nil_append] at this
      show Rep M θ _ (Value.string (ns.foldl (fun r n => r.push (UInt8.ofNat n.toNat)) (ByteArray.mk ([] : List UInt8).toArray)))
      rw [this]
      simp only [Rep, List.map_map, Value.string.injEq]
      rfl

/-- A bound of a slice expression. -/
theorem run_bounds (isSlice : Bool) (len cap : Nat) (lo hi : Option Value) (l h : Int) (hlo : (lo = none ∧ l = 0) ∨ ∃ k, lo = some (.int k l)) (hhi : (hi = none ∧ h = len) ∨ ∃ k, hi = some (.int k h))
    (h0 : 0 ≤ l) (h1 : l ≤ h) (h2 : h ≤ cap) (w : World) :
    (Instr.sliceBounds isSlice len cap lo hi none).run P w = .ok (l.toNat, h.toNat, cap) w := by
  have h3 : 0 ≤ h := by omega
  have h4 : (h.toNat : Int) = h := by omega
  rcases hlo with ⟨rfl, rfl⟩ | ⟨k, rfl⟩ <;> rcases hhi with ⟨rfl, rfl⟩ | ⟨k', rfl⟩ <;>
    simp [Instr.sliceBounds, Instr.sliceBound, asIntOf, h0, h1, h2, h3, h4]

theorem q_sliceStr (hT : TOk P T) {t : TypeId} {sz by_ : Nat} {zz : AV} (ht : T t = some ⟨.str, sz, by_, zz⟩) {s : List UInt8} {vx : Value} (hx : Rep M θ (.str s) vx)
    {lo hi : Option Value} {l h : Int} (hlo : (lo = none ∧ l = 0) ∨ ∃ k, lo = some (.int k l)) (hhi : (hi = none ∧ h = s.length) ∨ ∃ k, hi = some (.int k h))
    (h0 : 0 ≤ l) (h1 : l ≤ h) (h2 : h ≤ s.length) : ∃ v, (Instr.sliceAt t vx lo hi none).run P w = .ok v w ∧ Rep M θ (.str ((s.take h.toNat).drop l.toNat)) v := by
  have hu : P.underlying t = some .string := hT.desc t _ ht
  simp only [Rep] at hx
  subst hx
  have hb := run_bounds (P := P) false (ByteArray.mk s.toArray).size (ByteArray.mk s.toArray).size lo hi l h hlo (by simpa [ByteArray.size] using hhi) h0 h1 (by simpa [ByteArray.size] using h2) w
  refine ⟨_, by simp [Instr.sliceAt, Instr.slice, run_underlying hu, hb]; rfl, ?_⟩
  simp only [Rep, extract_mk]

theorem q_sliceSl (hT : TOk P T) {t e : TypeId} {sz by_ : Nat} {zz : AV} (ht : T t = some ⟨.slice e, sz, by_, zz⟩) {te : TI} (he : T e = some te) {es : List AV} {vx : Value} (hx : Rep M θ (.sl te.size es) vx)
    {lo hi : Option Value} {l h : Int} (hlo : (lo = none ∧ l = 0) ∨ ∃ k, lo = some (.int k l)) (hhi : (hi = none ∧ h = es.length) ∨ ∃ k, hi = some (.int k h))
    (h0 : 0 ≤ l) (h1 : l ≤ h) (h2 : h ≤ es.length) : ∃ v, (Instr.sliceAt t vx lo hi none).run P w = .ok v w ∧ Rep M θ (.sl te.size ((es.take h.toNat).drop l.toNat)) v := by
  have hu : P.underlying t = some (.slice e) := hT.desc t _ ht
  simp only [Rep] at hx
  obtain ⟨ad, c, rfl, hc, hrow⟩ := hx
  have hb := run_bounds (P := P) true es.length c lo hi l h hlo hhi h0 h1 (by omega) w
  have hlen : ((es.take h.toNat).drop l.toNat).length = h.toNat - l.toNat := by simp; omega
  refine ⟨_, by simp [Instr.sliceAt, Instr.slice, run_underlying hu, hb, run_sizeOf hT he]; rfl, ?_⟩
  simp only [Rep, hlen]
  refine ⟨_, _, rfl, by omega, fun hne => ?_⟩
  have hpos : 0 < h.toNat - l.toNat := by
    rw [← hlen]; exact List.length_pos_iff.2 hne
  obtain ⟨b, o, rfl, hr⟩ := hrow (by intro hh; subst hh; simp at h2; omega)
  have hcl : ¬ c = l.toNat := by omega
  refine ⟨b, o + l.toNat * te.size, by simp [hcl, add_mk], ?_⟩
  rw [List.drop_take]
  exact Row_take _ (Row_drop _ hr)

theorem q_len (hT : TOk P T) {t ty : TypeId} {x : AV} {vx : Value} (hx : Rep M θ x vx) {n : Int}
    (hc : (∃ sz by_ zz s, T t = some ⟨.str, sz, by_, zz⟩ ∧ x = .str s ∧ n = s.length) ∨ (∃ e sz by_ zz z es, T t = some ⟨.slice e, sz, by_, zz⟩ ∧ x = .sl z es ∧ n = es.length) ∨
      (∃ e sz by_ zz, T t = some ⟨.slice e, sz, by_, zz⟩ ∧ x = .snil ∧ n = 0)) :
    (Builtin.len_ #[t] ty #[vx]).run P w = .ok (.int .i64 n) w := by
  rcases hc with ⟨sz, by_, zz, s, ht, rfl, rfl⟩ | ⟨e, sz, by_, zz, z, es, ht, rfl, rfl⟩ | ⟨e, sz, by_, zz, ht, rfl, rfl⟩
  · have hu : P.underlying t = some .string := hT.desc t _ ht
    simp only [Rep] at hx; subst hx
    have e : (ByteArray.mk s.toArray).size = s.length := by simp [ByteArray.size]
    simp [Builtin.len_, run_underlying hu, goInt, e]
  · have hu : P.underlying t = some (.slice e) := hT.desc t _ ht
    simp only [Rep] at hx
    obtain ⟨ad, c, rfl, _⟩ := hx
    simp [Builtin.len_, run_underlying hu, goInt]
  · have hu : P.underlying t = some (.slice e) := hT.desc t _ ht
    simp only [Rep] at hx; subst hx
    simp [Builtin.len_, run_underlying hu, goInt]

theorem bound_of {S : St} {x : Option Operand} {dflt : Int} (h : RelM P Γ S M θ ω τ a w) {c : Prop} {l : Int}
    (hR : (match x.map (evO S) with | none => some (True, dflt) | some ⟨ok, .int _ n, _⟩ => some (ok, n) | _ => (none : Option (Prop × Int))) = some (c, l)) (hc : c) :
    (x.map a.eval = none ∧ l = dflt) ∨ ∃ k, x.map a.eval = some (.int k l) := by
  cases x with
  | none => simp at hR; exact .inl ⟨rfl, hR.2.symm⟩
  | some o =>
    simp only [Option.map_some] at hR ⊢
    split at hR
    · contradiction
    · rename_i ok k n tg he
      simp only [Option.some.injEq] at he
      simp only [Option.some.injEq, Prod.mk.injEq] at hR
      obtain ⟨rfl, rfl⟩ := hR
      have := h.rep o (by rw [he]; exact hc)
      rw [he] at this
      simp only [Rep] at this
      exact .inr ⟨k, by rw [this]⟩
    · contradiction

theorem quiet_sound (hT : TOk P T) (h : RelM P Γ S M θ ω τ a w) {o : Oper} {c : Prop} {sv : SV} (hq : quiet T S o = some (c, sv)) (hc : c) :
    ∃ v, (execOp a.eval o).run P w = .ok (.value v) w ∧ (sv.ok → SlotOk S.W M θ τ w sv v) := by
  obtain ⟨dst, op, ty, pos, after, guard⟩ := o
  cases op <;> simp only [quiet] at hq <;> try contradiction
  case move x | assign x =>
    simp only [Option.some.injEq, Prod.mk.injEq] at hq
    obtain ⟨rfl, rfl⟩ := hq
    exact ⟨a.eval x, by simp [execOp], fun hok => h.eval x hok⟩
  case pick x y z =>
    split at hq
    · rename_i p u v hx hy hz
      simp only [Option.some.injEq, Prod.mk.injEq] at hq
      obtain ⟨rfl, rfl⟩ := hq
      obtain ⟨h1, h2, h3⟩ := hc
      have r1 := h.rep x h1
      rw [hx] at r1
      simp only [Rep] at r1
      refine ⟨if p then a.eval y else a.eval z, by simp [execOp, r1, asBool], fun _ => ⟨?_, trivial⟩⟩
      cases p
      · have r3 := h.rep z (h3 rfl); rw [hz] at r3; simpa [SV.of, pickB] using r3
      · have r2 := h.rep y (h2 rfl); rw [hy] at r2; simpa [SV.of, pickB] using r2
    · contradiction
  case binOp op t x y yt =>
    simp only [Option.map_eq_some_iff, Prod.exists, Prod.mk.injEq] at hq
    obtain ⟨c', v, hb, rfl, rfl⟩ := hq
    obtain ⟨h1, h2, hc⟩ := hc
    obtain ⟨u, hu, hr⟩ := binQ_sound hT hb hc (h.rep x h1) (h.rep y h2) x y w
    exact ⟨u, by simp only [execOp, Sem.run_bind, hu, Result.andThen_ok, Sem.run_pure], fun _ => ⟨hr, trivial⟩⟩
  case unOp op t x =>
    simp only [Option.map_eq_some_iff, Prod.exists, Prod.mk.injEq] at hq
    obtain ⟨c', v, hb, rfl, rfl⟩ := hq
    obtain ⟨h1, hc⟩ := hc
    have r1 := h.rep x h1
    revert hb r1
    generalize (evO S x).v = xv
    intro hb r1
    cases xv <;> simp only [unQ] at hb <;> try contradiction
    · cases op <;> simp only at hb <;> try contradiction
      have := arQ_sound hb hc
      subst this
      simp only [Rep] at r1
      exact ⟨_, by simp [execOp, r1, Op.unary, Op.intArith]; rfl, fun _ => ⟨by simp only [SV.of, Rep], trivial⟩⟩
    · cases op <;> simp only at hb <;> try contradiction
      simp only [Option.some.injEq, Prod.mk.injEq] at hb
      obtain ⟨rfl, rfl⟩ := hb
      simp only [Rep] at r1
      exact ⟨_, by simp [execOp, r1, Op.unary]; rfl, fun _ => ⟨by simp only [SV.of, Rep], trivial⟩⟩
  case convert src dt x =>
    split at hq
    · rename_i k1 _ _ _ k _ _ _ k3 n hs hd hx
      simp only [Option.map_eq_some_iff, Prod.exists, Prod.mk.injEq] at hq
      obtain ⟨c', v, hb, rfl, rfl⟩ := hq
      obtain ⟨h1, hc⟩ := hc
      have r1 := h.rep x h1
      rw [hx] at r1
      simp only [Rep] at r1
      have := arQ_sound hb hc
      subst this
      have hus : P.underlying src = some (.int _) := hT.desc src _ hs
      have hud : P.underlying dt = some (.int _) := hT.desc dt _ hd
      exact ⟨_, by simp [execOp, r1, convert, run_underlying hus, run_underlying hud, Conv.intToInt]; rfl, fun _ => ⟨by simp only [SV.of, Rep], trivial⟩⟩
    · rename_i _ _ _ _ _ _ s hs hd hx
      simp only [Option.some.injEq, Prod.mk.injEq] at hq
      obtain ⟨rfl, rfl⟩ := hq
      have r1 := h.rep x hc
      rw [hx] at r1
      simp only [Rep] at r1
      have hus : P.underlying src = some .string := hT.desc src _ hs
      have hud : P.underlying dt = some .string := hT.desc dt _ hd
      exact ⟨_, by simp [execOp, r1, convert, run_underlying hus, run_underlying hud]; rfl, fun _ => ⟨by simp only [SV.of, Rep], trivial⟩⟩
    · rename_i e _ _ _ _ _ _ z es hs hd hx
      split at hq
      · rename_i he
        simp only [Option.some.injEq, Prod.mk.injEq] at hq
        obtain ⟨rfl, rfl⟩ := hq
        obtain ⟨h1, rfl, h3⟩ := hc
        have r1 := h.rep x h1
        rw [hx] at r1
        have hus : P.underlying src = some (.slice e) := hT.desc src _ hs
        have hud : P.underlying dt = some .string := hT.desc dt _ hd
        have hue : P.underlying e = some (.int .u8) := hT.desc e _ he
        obtain ⟨v, hv, hr⟩ := run_toStr h.core hus hue hud r1 h3
        exact ⟨_, by simp [execOp, hv], fun _ => ⟨hr, trivial⟩⟩
      · contradiction
    · contradiction
  case extract t j =>
    split at hq
    · rename_i l hl
      simp only [Option.some.injEq, Prod.mk.injEq] at hq
      obtain ⟨rfl, rfl⟩ := hq
      obtain ⟨h1, h2⟩ := hc
      obtain ⟨r1, rt⟩ := h.eval t h1
      rw [hl] at r1
      simp only [Rep] at r1
      obtain ⟨vs, hv, hrs⟩ := r1
      obtain ⟨v, hvj, hr⟩ := Reps_get hrs j h2
      refine ⟨v, by simp [execOp, hv, Instr.extract, hvj], fun _ => ⟨by simpa [List.getD, List.getElem?_eq_getElem h2] using hr, ?_⟩⟩
      dsimp only
      split
      · rename_i tgs htg
        rw [htg] at rt
        simp only [TagOk] at rt
        cases hj : tgs[j]? with
        | none => simp [List.getD, hj, TagOk, Tag1Ok]
        | some tg =>
          have h5 := rt j tg _ v hj hv (by simpa using hvj)
          simp only [List.getD, hj, Option.getD_some]
          cases tg <;> first | trivial | exact h5
      · trivial
    · contradiction
  case nilCheck x =>
    split at hq <;> try contradiction
    all_goals
      rename_i hx
      simp only [Option.some.injEq, Prod.mk.injEq] at hq
      obtain ⟨rfl, rfl⟩ := hq
      have r1 := h.rep x hc
      have r2 := r1
      rw [hx] at r2
      simp only [Rep] at r2
    · obtain ⟨blk, _, hv⟩ := r2
      exact ⟨a.eval x, by simp [execOp, hv], fun _ => ⟨r1, trivial⟩⟩
    · obtain ⟨_, _, b, off, hv, _⟩ := r2
      exact ⟨a.eval x, by simp [execOp, hv], fun _ => ⟨r1, trivial⟩⟩
    · obtain ⟨vs, hv, _⟩ := r2
      exact ⟨a.eval x, by simp [execOp, hv], fun _ => ⟨r1, trivial⟩⟩
  case fieldAddr s x f =>
    split at hq <;> try contradiction
    rename_i fs sz by_ zz hs
    split at hq <;> try contradiction
    rename_i ft off hf
    split at hq <;> try contradiction
    · rename_i ti b o hti hx
      simp only [Option.some.injEq, Prod.mk.injEq] at hq
      obtain ⟨rfl, rfl⟩ := hq
      have r1 := h.rep x hc.1
      rw [hx] at r1
      obtain ⟨v, hv, hr⟩ := q_fieldAddr (w := w) hT hs hf hti hc.2 r1 (.inl ⟨b, o, rfl, rfl⟩)
      exact ⟨v, by simp [execOp, hv], fun _ => ⟨hr, trivial⟩⟩
    · rename_i ti z es i o hti hx
      simp only [Option.some.injEq, Prod.mk.injEq] at hq
      obtain ⟨rfl, rfl⟩ := hq
      have r1 := h.rep x hc.1
      rw [hx] at r1
      obtain ⟨v, hv, hr⟩ := q_fieldAddr (w := w) hT hs hf hti hc.2 r1 (.inr ⟨z, es, i, o, rfl, rfl⟩)
      exact ⟨v, by simp [execOp, hv], fun _ => ⟨hr, trivial⟩⟩
  case field s x f =>
    split at hq <;> try contradiction
    rename_i fs sz by_ zz hs
    split at hq <;> try contradiction
    rename_i ft off hf
    split at hq <;> try contradiction
    rename_i ti l hti hx
    split at hq <;> rename_i ha <;> simp only [Option.some.injEq, Prod.mk.injEq] at hq <;> obtain ⟨rfl, rfl⟩ := hq
    · have r1 := h.rep x hc.1
      rw [hx] at r1
      obtain ⟨v, hv, hr⟩ := q_field (w := w) hT hs hf hti r1 (.inl ⟨ha, hc.2, rfl⟩)
      exact ⟨v, by simp [execOp, hv], fun _ => ⟨hr, trivial⟩⟩
    · have r1 := h.rep x hc.1
      rw [hx] at r1
      obtain ⟨v, hv, hr⟩ := q_field (w := w) hT hs hf hti r1 (.inr ⟨by simpa using ha, hc.2, rfl⟩)
      exact ⟨v, by simp [execOp, hv], fun _ => ⟨hr, trivial⟩⟩
  case indexAddr t x i =>
    split at hq <;> try contradiction
    · rename_i e sz by_ zz z es k n ht hx hi
      split at hq <;> try contradiction
      rename_i te hte
      simp only [Option.some.injEq, Prod.mk.injEq] at hq
      obtain ⟨rfl, rfl⟩ := hq
      obtain ⟨h1, h2, h3, h4, rfl⟩ := hc
      have r1 := h.rep x h1; rw [hx] at r1
      have r2 := h.rep i h2; rw [hi] at r2
      obtain ⟨v, hv, hr⟩ := q_indexSlice (w := w) hT ht hte r1 r2 h3 h4
      exact ⟨v, by simp [execOp, hv], fun _ => ⟨hr, trivial⟩⟩
    · rename_i m e sz by_ zz b o k n ht hx hi
      split at hq <;> try contradiction
      rename_i te hte
      simp only [Option.some.injEq, Prod.mk.injEq] at hq
      obtain ⟨rfl, rfl⟩ := hq
      obtain ⟨h1, h2, h3, h4⟩ := hc
      have r1 := h.rep x h1; rw [hx] at r1
      have r2 := h.rep i h2; rw [hi] at r2
      obtain ⟨v, hv, hr⟩ := q_indexArr (w := w) hT ht hte r1 r2 h3 h4
      exact ⟨v, by simp [execOp, hv], fun _ => ⟨hr, trivial⟩⟩
  case index t x i =>
    split at hq <;> try contradiction
    · rename_i sz by_ zz s k n ht hx hi
      simp only [Option.some.injEq, Prod.mk.injEq] at hq
      obtain ⟨rfl, rfl⟩ := hq
      obtain ⟨h1, h2, h3, h4⟩ := hc
      have r1 := h.rep x h1; rw [hx] at r1
      have r2 := h.rep i h2; rw [hi] at r2
      obtain ⟨v, hv, hr⟩ := q_indexStr (w := w) hT ht r1 r2 h3 h4
      exact ⟨v, by simp [execOp, hv], fun _ => ⟨hr, trivial⟩⟩
    · rename_i m e sz by_ zz l k n ht hx hi
      split at hq <;> try contradiction
      rename_i te hte
      split at hq <;> try contradiction
      rename_i ha
      simp only [Option.some.injEq, Prod.mk.injEq] at hq
      obtain ⟨rfl, rfl⟩ := hq
      obtain ⟨h1, h2, h3, h4, h5, h6⟩ := hc
      have r1 := h.rep x h1; rw [hx] at r1
      have r2 := h.rep i h2; rw [hi] at r2
      obtain ⟨v, hv, hr⟩ := q_indexAgg (w := w) hT ht hte (by simpa using ha) h3 r1 r2 h4 h5 h6
      exact ⟨v, by simp [execOp, hv], fun _ => ⟨hr, trivial⟩⟩
  case load t x =>
    split at hq <;> try contradiction
    rename_i ti hti
    simp only [Option.map_eq_some_iff, Prod.exists, Prod.mk.injEq] at hq
    obtain ⟨c', sv', hl, rfl, rfl⟩ := hq
    obtain ⟨v, hv, hr⟩ := q_load hT h hti (h.rep x hc.1) hl hc.2
    exact ⟨v, by simp [execOp, hv], fun _ => hr⟩
  case build t parts =>
    split at hq <;> try contradiction
    · rename_i fs size by_ zl ht
      split at hq <;> try contradiction
      rename_i c' l hl
      simp only [Option.some.injEq, Prod.mk.injEq] at hq
      obtain ⟨rfl, rfl⟩ := hq
      obtain ⟨v, hv, hr⟩ := q_build hT h ht hl hc.1 hc.2.1 hc.2.2
      exact ⟨v, by simp only [execOp, Sem.run_bind, hv, Result.andThen_ok, Sem.run_pure], fun _ => ⟨hr, trivial⟩⟩
    · rename_i n e size by_ zl ht
      split at hq <;> try contradiction
      rename_i te hte
      split at hq <;> try contradiction
      rename_i c' l hl
      simp only [Option.some.injEq, Prod.mk.injEq] at hq
      obtain ⟨rfl, rfl⟩ := hq
      obtain ⟨v, hv, hr⟩ := q_buildArr hT h ht hte hl hc.1 hc.2
      exact ⟨v, by simp only [execOp, Sem.run_bind, hv, Result.andThen_ok, Sem.run_pure], fun _ => ⟨hr, trivial⟩⟩
  case makeFunc fn first caps =>
    cases fn <;> simp only at hq <;> try contradiction
    rename_i g
    split at hq <;> try contradiction
    rename_i hf
    simp only [Option.some.injEq, Prod.mk.injEq] at hq
    obtain ⟨rfl, rfl⟩ := hq
    have hf0 : first = #[] := by simpa using hf
    subst hf0
    refine ⟨.func (.func g) #[] (caps.map a.eval), by simp [execOp, Instr.makeFunc], fun _ => ⟨?_, trivial⟩⟩
    simp only [SV.of, Rep]
    refine ⟨caps.toList.map a.eval, by rw [← Array.toList_map], ?_⟩
    have key : ∀ l : List Operand, (∀ x ∈ l, (evO S x).ok) → Reps M θ (l.map fun x => (evO S x).v) (l.map a.eval) := by
      intro l
      induction l with
      | nil => intro _; simp only [List.map_nil, Reps]
      | cons y l ih => intro hl; simp only [List.map_cons, Reps]; exact ⟨_, _, rfl, h.rep y (hl y (by simp)), ih fun x hx => hl x (by simp [hx])⟩
    exact key _ (capsOk_mem hc)
  case slice t x lo hi mx =>
    simp only [sliceQ] at hq
    split at hq <;> try contradiction
    · rename_i s sz by_ zz hx ht hmx
      split at hq <;> try contradiction
      rename_i c1 l c2 hh h1 h2
      simp only [Option.some.injEq, Prod.mk.injEq] at hq
      obtain ⟨rfl, rfl⟩ := hq
      obtain ⟨k1, k2, k3, k4, k5, k6⟩ := hc
      have r1 := h.rep x k1; rw [hx] at r1
      have hm0 : mx = none := by cases mx <;> simp_all
      subst hm0
      have b1 := bound_of (dflt := 0) h h1 k2
      have b2 := bound_of (dflt := (s.length : Int)) h h2 k3
      obtain ⟨v, hv, hr⟩ := q_sliceStr (w := w) hT ht r1 b1 b2 k4 k5 k6
      exact ⟨v, by simp [execOp, hv], fun _ => ⟨hr, trivial⟩⟩
    · rename_i z es e sz by_ zz hx ht hmx
      split at hq <;> try contradiction
      rename_i c1 l c2 hh te h1 h2 hte
      simp only [Option.some.injEq, Prod.mk.injEq] at hq
      obtain ⟨rfl, rfl⟩ := hq
      obtain ⟨k1, k2, k3, k4, k5, k6, rfl⟩ := hc
      have r1 := h.rep x k1; rw [hx] at r1
      have hm0 : mx = none := by cases mx <;> simp_all
      subst hm0
      have b1 := bound_of (dflt := 0) h h1 k2
      have b2 := bound_of (dflt := (es.length : Int)) h h2 k3
      obtain ⟨v, hv, hr⟩ := q_sliceSl (w := w) hT ht hte r1 b1 b2 k4 k5 k6
      exact ⟨v, by simp [execOp, hv], fun _ => ⟨hr, trivial⟩⟩
  case call cl =>
    obtain ⟨callee, args, argTypes⟩ := cl
    cases callee <;> (try dsimp only at hq) <;> try contradiction
    rename_i bi
    cases bi <;> (try dsimp only at hq) <;> try contradiction
    case len =>
      split at hq <;> try contradiction
      rename_i x t hargs htys
      have ha : args = #[x] := by rw [← Array.toList_inj]; simpa using hargs
      have hb : argTypes = #[t] := by rw [← Array.toList_inj]; simpa using htys
      subst ha; subst hb
      have fin : ∀ v, (Builtin.len_ #[t] ty #[a.eval x]).run P w = .ok v w → (execOp a.eval ⟨dst, .call ⟨.builtin .len, #[x], #[t]⟩, ty, pos, after, guard⟩).run P w = .ok (.value v) w := fun v hv => by
        simp [execOp, resolve, invoke, builtin, hv]
      split at hq <;> try contradiction
      · rename_i sz by_ zz s ht hx
        simp only [Option.some.injEq, Prod.mk.injEq] at hq
        obtain ⟨rfl, rfl⟩ := hq
        have r1 := h.rep x hc; rw [hx] at r1
        exact ⟨_, fin _ (q_len hT r1 (.inl ⟨_, _, _, s, ht, rfl, rfl⟩)), fun _ => ⟨by simp only [SV.of, Rep], trivial⟩⟩
      · rename_i e sz by_ zz z es ht hx
        simp only [Option.some.injEq, Prod.mk.injEq] at hq
        obtain ⟨rfl, rfl⟩ := hq
        have r1 := h.rep x hc; rw [hx] at r1
        exact ⟨_, fin _ (q_len hT r1 (.inr (.inl ⟨e, _, _, _, z, es, ht, rfl, rfl⟩))), fun _ => ⟨by simp only [SV.of, Rep], trivial⟩⟩
      · rename_i e sz by_ zz ht hx
        simp only [Option.some.injEq, Prod.mk.injEq] at hq
        obtain ⟨rfl, rfl⟩ := hq
        have r1 := h.rep x hc; rw [hx] at r1
        exact ⟨_, fin _ (q_len hT r1 (.inr (.inr ⟨e, _, _, _, ht, rfl, rfl⟩))), fun _ => ⟨by simp only [SV.of, Rep], trivial⟩⟩
      · rename_i _ _ n e sz by_ zz ht
        simp only [Option.some.injEq, Prod.mk.injEq] at hq
        obtain ⟨rfl, rfl⟩ := hq
        have hu : P.underlying t = some (.array n e) := hT.desc t _ ht
        exact ⟨_, fin (.int .i64 n) (by simp [Builtin.len_, run_underlying hu, goInt]), fun _ => ⟨by simp only [SV.of, Rep], trivial⟩⟩
    case max =>
      split at hq <;> try contradiction
      · rename_i x y hargs
        have ha : args = #[x, y] := by rw [← Array.toList_inj]; simpa using hargs
        subst ha
        split at hq <;> try contradiction
        rename_i k n k' m hx hy
        simp only [Option.some.injEq, Prod.mk.injEq] at hq
        obtain ⟨rfl, rfl⟩ := hq
        obtain ⟨h1, h2, rfl⟩ := hc
        have r1 := h.rep x h1; rw [hx] at r1
        have r2 := h.rep y h2; rw [hy] at r2
        simp only [Rep] at r1 r2
        exact ⟨_, by simp [execOp, resolve, invoke, builtin, r1, r2, Builtin.max_, Builtin.max2]; rfl, fun _ => ⟨by simp only [SV.of, Rep], trivial⟩⟩
      · rename_i x y z hargs
        have ha : args = #[x, y, z] := by rw [← Array.toList_inj]; simpa using hargs
        subst ha
        split at hq <;> try contradiction
        rename_i k n k' m k'' m' hx hy hz
        simp only [Option.some.injEq, Prod.mk.injEq] at hq
        obtain ⟨rfl, rfl⟩ := hq
        obtain ⟨h1, h2, h3, rfl, rfl⟩ := hc
        have r1 := h.rep x h1; rw [hx] at r1
        have r2 := h.rep y h2; rw [hy] at r2
        have r3 := h.rep z h3; rw [hz] at r3
        simp only [Rep] at r1 r2 r3
        exact ⟨_, by simp [execOp, resolve, invoke, builtin, r1, r2, r3, Builtin.max_, Builtin.max2]; rfl, fun _ => ⟨by simp only [SV.of, Rep], trivial⟩⟩
    case min =>
      split at hq <;> try contradiction
      rename_i x y hargs
      have ha : args = #[x, y] := by rw [← Array.toList_inj]; simpa using hargs
      subst ha
      split at hq <;> try contradiction
      rename_i k n k' m hx hy
      simp only [Option.some.injEq, Prod.mk.injEq] at hq
      obtain ⟨rfl, rfl⟩ := hq
      obtain ⟨h1, h2, rfl⟩ := hc
      have r1 := h.rep x h1; rw [hx] at r1
      have r2 := h.rep y h2; rw [hy] at r2
      simp only [Rep] at r1 r2
      exact ⟨_, by simp [execOp, resolve, invoke, builtin, r1, r2, Builtin.min_, Builtin.min2]; rfl, fun _ => ⟨by simp only [SV.of, Rep], trivial⟩⟩
end
end Go.Abs

namespace Go.Abs
open Go

/-! ### Steps of the world -/
theorem alloc_new (w : World) (o : Obj) : (w.alloc o).heap[w.heap.size]? = some o := by
  show (w.heap.push o)[w.heap.size]? = some o
  simp
theorem alloc_old (w : World) (o : Obj) (i : Nat) (h : i < w.heap.size) : (w.alloc o).heap[i]? = w.heap[i]? := by
  show (w.heap.push o)[i]? = w.heap[i]?
  rw [Array.getElem?_push, if_neg (Nat.ne_of_lt h)]

section
variable {P : Program} {Γ : Cx} {W : WPt} {M : Snap} {θ : List Nat} {ω : Nat → Option Owner} {τ : Nat → Value} {w : World}

theorem OwnV.step {M' : Snap} {ω' : Nat → Option Owner} {w' : World} {ow ow' : Owner} {e : Nat} {v : Value} (h : OwnV P M ω w ow e v)
    (hk : ∀ g, ω g = some ow → w'.heap[g]? = w.heap[g]? ∧ (∀ o, M' g o = M g o) ∧ ω' g = some ow') : OwnV P M' ω' w' ow' e v := by
  rcases h with h | ⟨g, n, cap, cur, hv, hw, hb, h1, h2, h3, h4⟩
  · exact .inl h
  · obtain ⟨k1, k2, k3⟩ := hk g hw
    exact .inr ⟨g, n, cap, cur, hv, k3, by rw [k1]; exact hb, h1, h2, h3, fun o ho => by rw [k2]; exact h4 o ho⟩

theorem BoxOk.step {M' : Snap} {θ' : List Nat} {ω' : Nat → Option Owner} {w' : World} {b blk : Nat} {bx : Box} (h : BoxOk P M θ ω w b blk bx) (hM : M.le M') (hθ : tle θ θ')
    (hb : w'.heap[blk]? = w.heap[blk]?) (hm : ∀ o, M blk o = none → M' blk o = none) (ho : ∀ o g, ω g = some (.cell b o) → w'.heap[g]? = w.heap[g]? ∧ (∀ o, M' g o = M g o) ∧ ω' g = some (.cell b o)) :
    BoxOk P M' θ' ω' w' b blk bx := by
  cases bx with
  | dead => trivial
  | cells l ow =>
    obtain ⟨vs, ty, h1, h2, h3, h4⟩ := h
    refine ⟨vs, ty, by rw [hb]; exact h1, Reps_mono' hM hθ h2, fun o => hm o (h3 o), fun o e hoe => ?_⟩
    obtain ⟨v, hv, hown⟩ := h4 o e hoe
    exact ⟨v, hv, hown.step (ho o)⟩
where
  Reps_mono' {M M' : Snap} {θ θ' : List Nat} {l : List AV} {vs : List Value} (hM : M.le M') (hθ : tle θ θ') (h : Reps M θ l vs) : Reps M' θ' l vs := Reps.mono hM hθ l vs h

/-- A block that holds a cell of the snapshot is there. -/
theorem Core.mlt (h : Core P Γ W M θ ω τ w) {b o : Nat} {v : Value} (hv : M b o = some v) : b < w.heap.size :=
  World.block_lt_of_cell? w ⟨b, o, none⟩ (h.ext b o v hv)

theorem Core.mnew (h : Core P Γ W M θ ω τ w) {b : Nat} (hb : w.heap.size ≤ b) (o : Nat) : M b o = none := by
  cases hm : M b o with
  | none => rfl
  | some v => have := h.mlt hm; omega

theorem Core.ownlt (h : Core P Γ W M θ ω τ w) {b : Nat} {ow : Owner} (hb : ω b = some ow) : b < w.heap.size := (h.own b ow hb).1

theorem Core.wle (h : Core P Γ W M θ ω τ w) : Γ.w0.heap.size ≤ w.heap.size := h.kp.size

theorem Core.drew (h : Core P Γ W M θ ω τ w) : Core P Γ W M θ ω τ w.drew where
  mle := h.mle
  tle := h.tle
  ext := h.ext
  hlen := h.hlen
  inj := h.inj
  tnew := h.tnew
  tlt := h.tlt
  box := fun b bx blk h1 h2 => (h.box b bx blk h1 h2).step (Snap.le_refl M) (tle_refl θ) rfl (fun _ h => h) (fun _ _ hg => ⟨rfl, fun _ => rfl, hg⟩)
  bel := h.bel
  live := fun t e hte => ⟨(h.live t e hte).1, (h.live t e hte).2.step (fun _ hg => ⟨rfl, fun _ => rfl, hg⟩)⟩
  own := h.own
  ow0 := h.ow0
  kp := ⟨h.kp.os, h.kp.tape, h.kp.output, h.kp.size, h.kp.block⟩
  mkeep := h.mkeep

theorem getElem?_snoc {θ : List Nat} {x : Nat} {i y : Nat} (h : (θ ++ [x])[i]? = some y) : (θ[i]? = some y) ∨ (i = θ.length ∧ y = x) := by
  rcases Nat.lt_trichotomy i θ.length with hi | hi | hi
  · rw [List.getElem?_append_left hi] at h; exact .inl h
  · subst hi
    rw [List.getElem?_append_right (Nat.le_refl _)] at h
    simp at h
    exact .inr ⟨rfl, h.symm⟩
  · rw [List.getElem?_append_right (by omega)] at h
    rw [List.getElem?_eq_none (by simp; omega)] at h
    cases h

theorem Core.alloc_box (h : Core P Γ W M θ ω τ w) {l : List AV} {vs : List Value} (ty : TypeId) (hl : Reps M θ l vs) :
    Core P Γ { W with H := W.H ++ [.cells l []] } M (θ ++ [w.heap.size]) ω τ (w.alloc (.cells vs.toArray ty (0, 0))) where
  mle := h.mle
  tle := tle_trans h.tle (tle_append _ _)
  ext := fun b o v hv => by
    rw [World.cell?_alloc_lt _ _ _ (h.mlt hv)]; exact h.ext b o v hv
  hlen := by simp [h.hlen]
  inj := fun i j x hi hj => by
    rcases getElem?_snoc hi with hi | ⟨rfl, rfl⟩ <;> rcases getElem?_snoc hj with hj | ⟨rfl, hx⟩
    · exact h.inj i j x hi hj
    · subst hx; have := h.tlt i _ hi; omega
    · have := h.tlt j _ hj; omega
    · rfl
  tnew := fun i x hi h0 => by
    rcases getElem?_snoc hi with hi | ⟨rfl, rfl⟩
    · exact h.tnew i x hi h0
    · exact h.wle
  tlt := fun i x hi => by
    rw [World.size_alloc]
    rcases getElem?_snoc hi with hi | ⟨rfl, rfl⟩
    · have := h.tlt i x hi; omega
    · omega
  box := fun b bx blk h1 h2 => by
    rcases getElem?_snoc h2 with h2 | ⟨rfl, rfl⟩
    · have hlt : b < W.H.length := by rw [← h.hlen]; exact (List.getElem?_eq_some_iff.1 h2).1
      rw [List.getElem?_append_left hlt] at h1
      refine (h.box b bx blk h1 h2).step (Snap.le_refl M) (tle_append _ _) (alloc_old w _ _ (h.tlt b blk h2)) (fun _ h => h) (fun o g hg => ⟨alloc_old w _ _ (h.ownlt hg), fun _ => rfl, hg⟩)
    · rw [h.hlen, List.getElem?_append_right (Nat.le_refl _)] at h1
      simp at h1
      subst h1
      exact ⟨vs, ty, alloc_new w _, Reps.mono (Snap.le_refl M) (tle_append _ _) l vs hl, fun o => h.mnew (Nat.le_refl _) o, fun o e hoe => by simp at hoe⟩
  bel := fun b l' ow' h1 => by
    rcases Nat.lt_or_ge b W.H.length with hb | hb
    · rw [List.getElem?_append_left hb] at h1; exact h.bel b l' ow' h1
    · rw [List.getElem?_append_right hb] at h1
      have hb2 : b - W.H.length = 0 := by
        rcases Nat.eq_zero_or_pos (b - W.H.length) with h0 | h0
        · exact h0
        · rw [List.getElem?_eq_none (by simp; omega)] at h1; cases h1
      rw [hb2] at h1
      simp at h1
      obtain ⟨rfl, rfl⟩ := h1
      have := Reps.below l vs hl
      exact belowL.mono (by rw [h.hlen]; omega) l this
  live := fun t e hte => ⟨(h.live t e hte).1, (h.live t e hte).2.step (fun g hg => ⟨alloc_old w _ _ (h.ownlt hg), fun _ => rfl, hg⟩)⟩
  own := fun blk ow hb => ⟨by rw [World.size_alloc]; have := h.ownlt hb; omega, fun i hi => by
    rcases getElem?_snoc hi with hi | ⟨rfl, rfl⟩
    · exact (h.own blk ow hb).2 i hi
    · have := h.ownlt hb; omega⟩
  ow0 := h.ow0
  kp := ⟨h.kp.os, h.kp.tape, h.kp.output, by rw [World.size_alloc]; have := h.wle; omega, fun k hk hx => by
    rw [alloc_old w _ _ (by have := h.wle; omega)]; exact h.kp.block k hk hx⟩
  mkeep := h.mkeep

/-- The cells of a new row. -/
def Snap.row (M : Snap) (g : Nat) (vs : List Value) : Snap := fun b o => if b = g then vs[o]? else M b o
/-- A new owner of a block. -/
def upd (ω : Nat → Option Owner) (g : Nat) (ow : Owner) : Nat → Option Owner := fun b => if b = g then some ow else ω b
def updT (τ : Nat → Value) (t : Nat) (v : Value) : Nat → Value := fun x => if x = t then v else τ x

/-- A row that is made: nobody else knows it; it has a token. -/
theorem Core.alloc_row (h : Core P Γ W M θ ω τ w) (vs : List Value) (e len : Nat) (hlen : vs.length = len * P.cellsOf e) (hm : len ≤ maxLen) :
    Core P Γ { W with nt := W.nt + 1, live := (W.nt, e) :: W.live } (M.row w.heap.size vs) θ (upd ω w.heap.size (.tok W.nt)) (updT τ W.nt (.slice (some ⟨w.heap.size, 0, none⟩) len len))
      (w.alloc (.cells vs.toArray e (0, 0))) where
  mle := fun b o v hv => by
    unfold Snap.row
    have := h.mlt (h.mle b o v hv)
    rw [if_neg (by omega)]; exact h.mle b o v hv
  tle := h.tle
  ext := fun b o v hv => by
    unfold Snap.row at hv
    split at hv
    · rename_i hb; subst hb
      simp only [World.cell?_alloc_new]
      simpa using hv
    · rw [World.cell?_alloc_lt _ _ _ (h.mlt hv)]; exact h.ext b o v hv
  hlen := h.hlen
  inj := h.inj
  tnew := h.tnew
  tlt := fun i x hi => by rw [World.size_alloc]; have := h.tlt i x hi; omega
  box := fun b bx blk h1 h2 => (h.box b bx blk h1 h2).step (fun b o v hv => by
      unfold Snap.row; have := h.mlt hv; rw [if_neg (by omega)]; exact hv) (tle_refl θ) (alloc_old w _ _ (h.tlt b blk h2)) (fun o hn => by
      unfold Snap.row; have := h.tlt b blk h2; rw [if_neg (by omega)]; exact hn) (fun o g hg => by
      have := h.ownlt hg
      exact ⟨alloc_old w _ _ this, fun o => by unfold Snap.row; rw [if_neg (by omega)], by unfold upd; rw [if_neg (by omega)]; exact hg⟩)
  bel := h.bel
  live := fun t e' hte => by
    simp only [List.mem_cons, Prod.mk.injEq] at hte
    rcases hte with ⟨rfl, rfl⟩ | hte
    · refine ⟨by simp, .inr ⟨w.heap.size, len, len, vs.toArray, by simp [updT], by simp [upd], alloc_new w _, Nat.le_refl _, hm, by simpa using hlen, fun o ho => ?_⟩⟩
      unfold Snap.row
      rw [if_pos rfl, List.getElem?_eq_none (by omega)]
    · obtain ⟨h1, h2⟩ := h.live t e' hte
      refine ⟨by simp; omega, ?_⟩
      have ht : updT τ W.nt (.slice (some ⟨w.heap.size, 0, none⟩) len len) t = τ t := by unfold updT; rw [if_neg (by omega)]
      rw [ht]
      exact h2.step (fun g hg => by
        have := h.ownlt hg
        exact ⟨alloc_old w _ _ this, fun o => by unfold Snap.row; rw [if_neg (by omega)], by unfold upd; rw [if_neg (by omega)]; exact hg⟩)
  own := fun blk ow hb => by
    rw [World.size_alloc]
    unfold upd at hb
    split at hb
    · rename_i he; subst he; exact ⟨by omega, fun i hi => by have := h.tlt i _ hi; omega⟩
    · exact ⟨by have := h.ownlt hb; omega, (h.own blk ow hb).2⟩
  ow0 := fun blk hlt h0 => by unfold upd; have := h.wle; rw [if_neg (by omega)]; exact h.ow0 blk hlt h0
  kp := ⟨h.kp.os, h.kp.tape, h.kp.output, by rw [World.size_alloc]; have := h.wle; omega, fun k hk hx => by
    rw [alloc_old w _ _ (by have := h.wle; omega)]; exact h.kp.block k hk hx⟩
  mkeep := fun blk o hlt h0 h1 => by unfold Snap.row; have := h.wle; rw [if_neg (by omega)]; exact h.mkeep blk o hlt h0 h1

/-- A box is written: w' is w but for the box's block. -/
theorem Core.set_box (h : Core P Γ W M θ ω τ w) {b blk : Nat} (hb : θ[b]? = some blk) (hH : b < W.H.length) {w' : World} (hos : w'.os = w.os) (htp : w'.tape = w.tape) (hou : w'.output = w.output)
    (hsz : w'.heap.size = w.heap.size) (hoth : ∀ k, k ≠ blk → w'.heap[k]? = w.heap[k]?) (hmb : ∀ o, M blk o = none)
    {ω' : Nat → Option Owner} {live' : List (Nat × Nat)} {bx : Box} (hbx : BoxOk P M θ ω' w' b blk bx) (hbel : ∀ l ow, bx = .cells l ow → belowL (b + 1) l)
    (hω : ∀ g, (ω' g = none ↔ ω g = none) ∧ (∀ c o, c ≠ b → ω g = some (.cell c o) → ω' g = some (.cell c o)) ∧ (∀ t e, (t, e) ∈ live' → ω g = some (.tok t) → ω' g = some (.tok t)))
    (hlive : ∀ x, x ∈ live' → x ∈ W.live) (st : Nat) :
    Core P Γ { W with live := live', H := W.H.set b bx, stamp := st } M θ ω' τ w' where
  mle := h.mle
  tle := h.tle
  ext := fun c o v hv => by
    have : c ≠ blk := fun e => by subst e; rw [hmb o] at hv; cases hv
    have e : w'.cell? ⟨c, o, none⟩ = w.cell? ⟨c, o, none⟩ := World.cell?_of_block (hoth c this)
    rw [e]; exact h.ext c o v hv
  hlen := by simp [h.hlen]
  inj := h.inj
  tnew := h.tnew
  tlt := fun i x hi => by rw [hsz]; exact h.tlt i x hi
  box := fun c bx' blk' h1 h2 => by
    by_cases hcb : b = c
    · subst hcb
      rw [hb] at h2; cases h2
      rw [List.getElem?_set_self hH] at h1
      cases h1
      exact hbx
    · rw [List.getElem?_set_ne hcb] at h1
      have hne : blk' ≠ blk := fun e => by subst e; exact hcb (h.inj b c _ hb h2)
      refine (h.box c bx' blk' h1 h2).step (Snap.le_refl M) (tle_refl θ) (hoth _ hne) (fun _ h => h) (fun o g hg => ?_)
      have : g ≠ blk := fun e => by subst e; exact (h.own _ _ hg).2 b hb
      exact ⟨hoth _ this, fun _ => rfl, (hω g).2.1 c o (Ne.symm hcb) hg⟩
  bel := fun c l ow h1 => by
    by_cases hcb : b = c
    · subst hcb
      rw [List.getElem?_set_self hH] at h1
      cases h1
      exact hbel l ow rfl
    · rw [List.getElem?_set_ne hcb] at h1
      exact h.bel c l ow h1
  live := fun t e hte => by
    obtain ⟨h1, h2⟩ := h.live t e (hlive _ hte)
    refine ⟨h1, h2.step (fun g hg => ?_)⟩
    have : g ≠ blk := fun e => by subst e; exact (h.own _ _ hg).2 b hb
    exact ⟨hoth _ this, fun _ => rfl, (hω g).2.2 t e hte hg⟩
  own := fun g ow hg => by
    have : ω g ≠ none := fun e => by rw [(hω g).1.2 e] at hg; cases hg
    obtain ⟨ow2, h2⟩ := Option.ne_none_iff_exists'.1 this
    rw [hsz]
    exact h.own g ow2 h2
  ow0 := fun g hlt h0 => (hω g).1.2 (h.ow0 g hlt h0)
  kp := by
    refine ⟨hos.trans h.kp.os, htp.trans h.kp.tape, hou.trans h.kp.output, by rw [hsz]; exact h.kp.size, fun k hk hx => ?_⟩
    have hne : k ≠ blk := fun e => by
      subst e
      rcases Nat.lt_or_ge b Γ.θ0.length with hlt | hge
      · have h5 := h.tle b Γ.θ0[b] (by simp [hlt])
        rw [hb] at h5
        cases h5
        exact hx (.inl (List.getElem_mem hlt))
      · have := h.tnew b _ hb hge; omega
    rw [hoth k hne]; exact h.kp.block k hk hx
  mkeep := h.mkeep

/-- append onto what is owned: the run, and where the new row lies. -/
theorem app_run {ow : Owner} {t ty e : TypeId} {i : TypeInfo} {z : Value} (ht : P.underlying t = some (.slice e)) (hi : P.info? e = some i) (hz : i.zero = some z)
    (hzs : z.cells.size = i.size) {v : Value} {a0 : Option Addr} {n c0 : Nat} (hown : OwnV P M ω w ow e v) (hv : v = .slice a0 n c0)
    {a : Addr} {m c : Nat} {news : List Value} (hl : news.length = m * i.size) (hnews : ∀ (j : Nat) u, news[j]? = some u → w.cell? (a.add j) = some u) (h1 : ∀ u ∈ news, u.oneCell' = true)
    (hm0 : 0 < m) (h63 : n + m ≤ maxLen) (hbytes : (n + m) * i.bytes ≤ 140737488355328) :
    ∃ xs, xs.length = n * i.size ∧ (∀ g, v.ownBlock = some g → 0 < n → ω g = some ow) ∧
    ∃ g cap cur w', (Builtin.append_ #[t, t] ty #[v, .slice (some a) m c]).run P w = .ok (.slice (some ⟨g, 0, none⟩) (n + m) cap) w' ∧
      w'.heap[g]? = some (.cells cur e (0, 0)) ∧ n + m ≤ cap ∧ cap ≤ maxLen ∧ cur.size = cap * i.size ∧ cur.toList.take ((n + m) * i.size) = xs ++ news ∧
      ((g = w.heap.size ∧ w.grownBy w' none) ∨ (v.ownBlock = some g ∧ ω g = some ow ∧ w.grownBy w' (some g) ∧ (∀ o, n * i.size ≤ o → M g o = none) ∧ ∀ o, o < n * i.size → w.cell? ⟨g, o, none⟩ = xs[o]?)) ∧
      (∃ b, (0 < n → v = .slice (some ⟨b, 0, none⟩) n c0 ∧ ∀ o, o < n * i.size → w.cell? ⟨b, o, none⟩ = xs[o]?)) := by
  subst hv
  have hsz : P.cellsOf e = i.size := by simp [Program.cellsOf, hi]
  have hsmall : n + m ≤ 9223372036854775807 := by simp only [maxLen] at h63; omega
  have made : ∀ (xs : List Value) (old : Nat), xs.length = n * i.size → old < n + m →
      n + m ≤ grownCap w (n + m) old e ∧ grownCap w (n + m) old e ≤ maxLen ∧
      (xs.toArray ++ news.toArray ++ Builtin.zeroCells z.cells (grownCap w (n + m) old e - (n + m))).size = grownCap w (n + m) old e * i.size ∧
      (xs.toArray ++ news.toArray ++ Builtin.zeroCells z.cells (grownCap w (n + m) old e - (n + m))).toList.take ((n + m) * i.size) = xs ++ news := by
    intro xs old hx ho
    have hge := grownCap_ge w (n + m) old e
    have hcm := grownCap_le_maxLen w (n + m) old e h63
    have hlen : (xs ++ news).length = (n + m) * i.size := by rw [List.length_append, hx, hl, Nat.add_mul]
    refine ⟨hge, hcm, ?_, ?_⟩
    · simp only [Array.size_append, List.size_toArray, size_zeroCells, hzs, hx, hl, ← Nat.add_mul]
      congr 1
      omega
    · simp only [Array.toList_append, List.append_assoc]
      rw [← List.append_assoc, ← hlen]
      exact List.take_left
  rcases hown with ⟨a1, hv⟩ | ⟨g, n', cap, cur, hv, hw, hb, h2, h3, h4, h5⟩
  · cases hv
    refine ⟨[], by simp, fun g _ h0 => by omega, ?_⟩
    obtain ⟨k1, k2, k3, k4⟩ := made [] 0 (by simp) (by omega)
    simp only [Nat.zero_add, List.nil_append] at k1 k2 k3 k4 hbytes hsmall ⊢
    have hgb : w.grownBy (w.drew.alloc (.cells (#[] ++ news.toArray ++ Builtin.zeroCells z.cells (grownCap w m 0 e - m)) e)) none :=
      ⟨rfl, rfl, rfl, by simp, fun k hk _ => alloc_old w.drew _ k hk⟩
    cases a0 with
    | none =>
      have hr := run_append_nil (P := P) w t ty e i z ht hi hz a m c news hl hnews hm0 (by omega) (by omega)
      simp only [Array.empty_append] at hgb k3 k4
      exact ⟨w.heap.size, _, _, _, hr, alloc_new w.drew _, k1, k2, k3, k4, .inl ⟨rfl, hgb⟩, ⟨0, fun h0 => by omega⟩⟩
    | some b0 =>
      have hr := run_append_grow (P := P) w t ty e i z ht hi hz b0 0 0 [] (by simp) (fun j v hj => by simp at hj) a m c news hl hnews (by omega) (by omega) (growslice_fits (by omega) (by simpa using hbytes))
      simp only [Nat.zero_add] at hr
      exact ⟨w.heap.size, _, _, _, hr, alloc_new w.drew _, k1, k2, k3, k4, .inl ⟨rfl, hgb⟩, ⟨0, fun h0 => by omega⟩⟩
  · cases hv
    rw [hsz] at h4 h5
    have hxl : (cur.toList.take (n * i.size)).length = n * i.size := by
      simp only [List.length_take, Array.length_toList, h4]
      exact Nat.min_eq_left (Nat.mul_le_mul_right _ h2)
    have hcell : ∀ o, o < n * i.size → w.cell? ⟨g, o, none⟩ = (cur.toList.take (n * i.size))[o]? := fun o ho => by
      rw [List.getElem?_take, if_pos ho]
      simp [World.cell?, hb]
    refine ⟨cur.toList.take (n * i.size), hxl, fun g' hg' _ => by simp only [Value.ownBlock, Option.some.injEq] at hg'; subst hg'; exact hw, ?_⟩
    by_cases hroom : n + m ≤ c0
    · have hfit : n * i.size + news.length ≤ cur.size := by rw [hl, h4, ← Nat.add_mul]; exact Nat.mul_le_mul_right _ hroom
      have hr := run_append_room (P := P) w t ty e i ht hi g n c0 cur hb a m c news hl hnews h1 hroom hfit
      refine ⟨g, c0, _, _, hr, setRow_heap w g cur _ e _ hb, hroom, h3, ?_, ?_, .inr ⟨rfl, hw, ⟨rfl, rfl, rfl, by simp, fun k _ hk => setRow_other w g k _ (fun e => hk (by rw [e]))⟩, h5, hcell⟩, ⟨g, fun _ => ⟨rfl, hcell⟩⟩⟩
      · simp only [List.size_toArray, List.length_append, List.length_take, List.length_drop, Array.length_toList]
        omega
      · have hlen : (cur.toList.take (n * i.size) ++ news).length = (n + m) * i.size := by rw [List.length_append, hxl, hl, Nat.add_mul]
        rw [← hlen]
        exact List.take_left
    · have holds : ∀ (j : Nat) u, (cur.toList.take (n * i.size))[j]? = some u → w.cell? ((⟨g, 0, none⟩ : Addr).add j) = some u := fun j u hu => by
        have hj : j < n * i.size := by
          rcases Nat.lt_or_ge j (n * i.size) with h | h
          · exact h
          · rw [List.getElem?_eq_none (by omega)] at hu; cases hu
        rw [add_mk, Nat.zero_add, hcell j hj]; exact hu
      have hr := run_append_grow (P := P) w t ty e i z ht hi hz ⟨g, 0, none⟩ n c0 (cur.toList.take (n * i.size)) hxl holds a m c news hl hnews (by omega) (by omega) (growslice_fits (by omega) hbytes)
      obtain ⟨k1, k2, k3, k4⟩ := made _ c0 hxl (by omega)
      exact ⟨w.heap.size, _, _, _, hr, alloc_new w.drew _, k1, k2, k3, k4, .inl ⟨rfl, ⟨rfl, rfl, rfl, by simp, fun k hk _ => alloc_old w.drew _ k hk⟩⟩, ⟨g, fun _ => ⟨rfl, hcell⟩⟩⟩

theorem Core.append (h : Core P Γ W M θ ω τ w) {ow : Owner} {e n m : Nat} {g cap : Nat} {cur : Array Value} {w' : World} {xs news : List Value}
    (hxlen : xs.length = n * P.cellsOf e) (hnlen : news.length = m * P.cellsOf e)
    (hgb : w'.heap[g]? = some (.cells cur e (0, 0))) (hncap : n + m ≤ cap) (hcm : cap ≤ maxLen) (hcs : cur.size = cap * P.cellsOf e) (htake : cur.toList.take ((n + m) * P.cellsOf e) = xs ++ news)
    (hgw : (g = w.heap.size ∧ w.grownBy w' none) ∨ (ω g = some ow ∧ w.grownBy w' (some g) ∧ (∀ o, n * P.cellsOf e ≤ o → M g o = none) ∧ ∀ o, o < n * P.cellsOf e → w.cell? ⟨g, o, none⟩ = xs[o]?))
    {H' : List Box} (hHl : H'.length = W.H.length)
    (hH : ∀ b bx', H'[b]? = some bx' → W.H[b]? = some bx' ∧ (∀ l ow1, bx' = .cells l ow1 → ∀ o e', (o, e') ∈ ow1 → Owner.cell b o ≠ ow) ∨
      ∃ l ow1 ow2, bx' = .cells l ow2 ∧ W.H[b]? = some (.cells l ow1) ∧ ∀ o e', (o, e') ∈ ow2 → (o, e') ∈ ow1 ∧ Owner.cell b o ≠ ow)
    {live' : List (Nat × Nat)} (hl : ∀ t e', (t, e') ∈ live' → (t, e') ∈ W.live ∧ Owner.tok t ≠ ow) :
      Core P Γ { nt := W.nt + 1, live := (W.nt, e) :: live', H := H', stamp := W.stamp } (M.row g (xs ++ news)) θ (upd ω g (.tok W.nt)) (updT τ W.nt (.slice (some ⟨g, 0, none⟩) (n + m) cap)) w' ∧
      M.le (M.row g (xs ++ news)) := by
  have hlen : (xs ++ news).length = (n + m) * P.cellsOf e := by rw [List.length_append, hxlen, hnlen, Nat.add_mul]
  have hg : w.grownBy w' (some g) := by
    rcases hgw with ⟨_, h2⟩ | ⟨_, h2, _⟩
    · exact ⟨h2.os, h2.tape, h2.output, h2.size, fun k hk _ => h2.block k hk (by simp)⟩
    · exact h2
  have hgθ : ∀ i : Nat, θ[i]? ≠ some g := fun i hi => by
    rcases hgw with ⟨h1, _⟩ | ⟨h1, _⟩
    · have := h.tlt i g hi; omega
    · exact (h.own g ow h1).2 i hi
  have hωg : ∀ ow2, ω g = some ow2 → ow2 = ow := fun ow2 h2 => by
    rcases hgw with ⟨h1, _⟩ | ⟨h1, _⟩
    · have := h.ownlt h2; omega
    · rw [h2] at h1; cases h1; rfl
  have hMg : ∀ o u, M g o = some u → (xs ++ news)[o]? = some u := fun o u hu => by
    have hcell := h.ext g o u hu
    rcases hgw with ⟨h1, _⟩ | ⟨_, _, h2, h3⟩
    · have := h.mlt hu; omega
    · have ho : o < n * P.cellsOf e := by
        rcases Nat.lt_or_ge o (n * P.cellsOf e) with h5 | h5
        · exact h5
        · rw [h2 o h5] at hu; cases hu
      rw [h3 o ho] at hcell
      rw [List.getElem?_append_left (by omega)]
      exact hcell
  have hMle : M.le (M.row g (xs ++ news)) := fun b o u hu => by
    unfold Snap.row
    split
    · rename_i hb; subst hb; exact hMg o u hu
    · exact hu
  have hoth : ∀ k, k < w.heap.size → k ≠ g → w'.heap[k]? = w.heap[k]? := fun k hk hne => hg.block k hk (fun e => hne (by cases e; rfl))
  have hsame : ∀ k ow2, ω k = some ow2 → ow2 ≠ ow → w'.heap[k]? = w.heap[k]? ∧ k ≠ g := fun k ow2 hk hne => by
    have hkg : k ≠ g := fun e => by subst e; exact hne (hωg ow2 hk)
    exact ⟨hoth k (h.ownlt hk) hkg, hkg⟩
  have hbox : ∀ i blk : Nat, θ[i]? = some blk → w'.heap[blk]? = w.heap[blk]? ∧ blk ≠ g := fun i blk hi => by
    have hne : blk ≠ g := fun e => hgθ i (e ▸ hi)
    exact ⟨hoth blk (h.tlt i blk hi) hne, hne⟩
  have hrow : ∀ k, k ≠ g → ∀ o, M.row g (xs ++ news) k o = M k o := fun k hk o => by unfold Snap.row; rw [if_neg hk]
  have hkeep : ∀ k ow2, ω k = some ow2 → ow2 ≠ ow → w'.heap[k]? = w.heap[k]? ∧ (∀ o, M.row g (xs ++ news) k o = M k o) ∧ upd ω g (.tok W.nt) k = some ow2 := fun k ow2 hk hne => by
    obtain ⟨h1, h2⟩ := hsame k ow2 hk hne
    exact ⟨h1, hrow k h2, by unfold upd; rw [if_neg h2]; exact hk⟩
  refine ⟨?_, hMle⟩
  exact {
    mle := Snap.le_trans h.mle hMle
    tle := h.tle
    ext := fun b o u hu => by
      unfold Snap.row at hu
      split at hu
      · rename_i hb; subst hb
        have ho : o < (xs ++ news).length := by
          rcases Nat.lt_or_ge o (xs ++ news).length with h5 | h5
          · exact h5
          · rw [List.getElem?_eq_none h5] at hu; cases hu
        rw [← htake, List.getElem?_take, if_pos (by omega)] at hu
        simpa [World.cell?, hgb] using hu
      · rename_i hb
        have hcell := h.ext b o u hu
        have hlt := h.mlt hu
        have : w'.cell? ⟨b, o, none⟩ = w.cell? ⟨b, o, none⟩ := World.cell?_of_block (hoth b hlt hb)
        rw [this]; exact hcell
    hlen := by rw [hHl]; exact h.hlen
    inj := h.inj
    tnew := h.tnew
    tlt := fun i x hi => Nat.lt_of_lt_of_le (h.tlt i x hi) hg.size
    box := fun b bx' blk h1 h2 => by
      obtain ⟨hbb, hbg⟩ := hbox b blk h2
      rcases hH b bx' h1 with ⟨h3, h4⟩ | ⟨l, ow1, ow2, rfl, h3, h4⟩
      · have hold := h.box b bx' blk h3 h2
        cases bx' with
        | dead => trivial
        | cells l ow1 =>
          obtain ⟨vs, ty, k1, k2, k3, k4⟩ := hold
          refine ⟨vs, ty, by rw [hbb]; exact k1, Reps.mono hMle (tle_refl θ) l vs k2, fun o => by rw [hrow blk hbg]; exact k3 o, fun o e' hoe => ?_⟩
          obtain ⟨u, hu, hu2⟩ := k4 o e' hoe
          exact ⟨u, hu, hu2.step (fun k hk => hkeep k _ hk (h4 l ow1 rfl o e' hoe))⟩
      · obtain ⟨vs, ty, k1, k2, k3, k4⟩ := h.box b _ blk h3 h2
        refine ⟨vs, ty, by rw [hbb]; exact k1, Reps.mono hMle (tle_refl θ) l vs k2, fun o => by rw [hrow blk hbg]; exact k3 o, fun o e' hoe => ?_⟩
        obtain ⟨h5, h6⟩ := h4 o e' hoe
        obtain ⟨u, hu, hu2⟩ := k4 o e' h5
        exact ⟨u, hu, hu2.step (fun k hk => hkeep k _ hk h6)⟩
    bel := fun b l ow' h1 => by
      rcases hH b _ h1 with ⟨h3, _⟩ | ⟨l', ow1, ow2, h2, h3, _⟩
      · exact h.bel b l ow' h3
      · cases h2; exact h.bel b _ ow1 h3
    live := fun t e' hte => by
      simp only [List.mem_cons, Prod.mk.injEq] at hte
      rcases hte with ⟨rfl, rfl⟩ | hte
      · refine ⟨by simp, ?_⟩
        have : updT τ W.nt (.slice (some ⟨g, 0, none⟩) (n + m) cap) W.nt = .slice (some ⟨g, 0, none⟩) (n + m) cap := by simp [updT]
        rw [this]
        refine .inr ⟨g, n + m, cap, cur, rfl, by simp [upd], hgb, hncap, hcm, hcs, fun o ho => ?_⟩
        unfold Snap.row
        rw [if_pos rfl, List.getElem?_eq_none (by omega)]
      · obtain ⟨h1, h2⟩ := hl t e' hte
        obtain ⟨h3, h4⟩ := h.live t e' h1
        refine ⟨by simp; omega, ?_⟩
        have ht : updT τ W.nt (.slice (some ⟨g, 0, none⟩) (n + m) cap) t = τ t := by unfold updT; rw [if_neg (by omega)]
        rw [ht]
        exact h4.step (fun k hk => hkeep k _ hk h2)
    own := fun blk ow2 hb => by
      unfold upd at hb
      split at hb
      · rename_i he; subst he
        exact ⟨(Array.getElem?_eq_some_iff.1 hgb).1, hgθ⟩
      · exact ⟨Nat.lt_of_lt_of_le (h.ownlt hb) hg.size, (h.own blk ow2 hb).2⟩
    ow0 := fun blk hlt h0 => by
      unfold upd
      have h1 := h.ow0 blk hlt h0
      split
      · rename_i he; subst he
        rcases hgw with ⟨h2, _⟩ | ⟨h2, _⟩
        · have := h.wle; omega
        · rw [h2] at h1; cases h1
      · exact h1
    kp := ⟨hg.os.trans h.kp.os, hg.tape.trans h.kp.tape, hg.output.trans h.kp.output, Nat.le_trans h.kp.size hg.size, fun k hk hx => by
      have hω0 : Γ.ω0 k = none := by
        cases h0 : Γ.ω0 k with
        | none => rfl
        | some x => exact absurd (.inr (by rw [h0]; simp)) hx
      have hωk := h.ow0 k hk hω0
      have hkg : k ≠ g := fun e => by
        subst e
        rcases hgw with ⟨h2, _⟩ | ⟨h2, _⟩
        · have := h.wle; omega
        · rw [h2] at hωk; cases hωk
      rw [hoth k (Nat.lt_of_lt_of_le hk h.wle) hkg]
      exact h.kp.block k hk hx⟩
    mkeep := fun blk o hlt h0 h1 => by
      have hωk := h.ow0 blk hlt h0
      have : blk ≠ g := fun e => by
        subst e
        rcases hgw with ⟨h2, _⟩ | ⟨h2, _⟩
        · have := h.wle; omega
        · rw [h2] at hωk; cases hωk
      rw [hrow blk this]; exact h.mkeep blk o hlt h0 h1 }
end
end Go.Abs

namespace Go.Abs
open Go

/-! ### Functions, as their callers see them -/
structure FRes where
  v : AV
  tg : Tag
  W : WPt

/-- A function with a body. -/
def Entr (P : Program) (g : FuncId) : Prop := ∃ fn c, P.funcs[g]? = some fn ∧ (fn.name == "runtime.NumGoroutine") = false ∧ fn.body = some c

/-- Called with these arguments (those listed in own are owned: index, element type) and these boxes, the function returns, and K tells what. -/
def FS (P : Program) (g : FuncId) (args : List AV) (own : List (Nat × Nat)) (H : List Box) (K : FRes → Prop) : Prop :=
  Entr P g ∧ ∀ (w : World) (M : Snap) (θ : List Nat) (ω : Nat → Option Owner) (τ : Nat → Value) (vals : List Value),
    Core P ⟨w, M, θ, ω⟩ ⟨args.length, own, H, 0⟩ M θ ω τ w → (∀ i e v, (i, e) ∈ own → vals[i]? = some v → τ i = v) → Reps M θ args vals →
    Calls P g vals.toArray w fun e w' => ∃ (r : FRes) (v : Value) (M' : Snap) (θ' : List Nat) (ω' : Nat → Option Owner) (τ' : Nat → Value),
      e = .returned v ∧ K r ∧ Core P ⟨w, M, θ, ω⟩ r.W M' θ' ω' τ' w' ∧ Rep M' θ' r.v v ∧ TagOk r.W θ' τ' w' v r.tg

/-- Without a call by which it is owned, a slice that is a result is none's. -/
def resTok (r : FRes) : Option (Nat × Nat) :=
  match r.tg with
  | .tok j => (r.W.live.find? fun p => p.1 == j)
  | .tup l => l.findSome? fun tg => match tg with
    | .tok j => r.W.live.find? fun p => p.1 == j
    | _ => none
  | _ => none

/-- The name of a callee's token with the caller: a new one. -/
def renTag (rj : Option (Nat × Nat)) (nt : Nat) : Tag → Tag
  | .free => .free
  | .tok j => match rj with
    | some (j', _) => if j = j' then .tok nt else .none
    | none => .none
  | _ => .none

def baseLive (W : WPt) : Option (Nat × Nat × Nat) → List (Nat × Nat)
  | some (_, t, _) => W.live.filter fun p => p.1 != t
  | none => W.live

/-- The world's part behind a call. pass: the argument's index, the caller's token, the element type. -/
def afterW (W : WPt) (pass : Option (Nat × Nat × Nat)) (rj : Option (Nat × Nat)) (H : List Box) (st : Nat) : WPt :=
  match rj with
  | some (_, e) => { nt := W.nt + 1, live := (W.nt, e) :: baseLive W pass, H := H, stamp := st }
  | none => { nt := W.nt, live := baseLive W pass, H := H, stamp := st }

def afterSV (W : WPt) (r : FRes) : SV :=
  ⟨True, r.v, match r.tg with
    | .tup l => .tup (l.map (renTag (resTok r) W.nt))
    | tg => renTag (resTok r) W.nt tg⟩

/-- A call of a function that is handed no box: it changes none. -/
def CallP (P : Program) (g : FuncId) (svs : List SV) (W : WPt) (pass : Option (Nat × Nat × Nat)) (K : WPt → SV → Prop) : Prop :=
  (∀ sv ∈ svs, sv.ok) ∧ belowL 0 (svs.map (·.v)) ∧ (∀ i t e, pass = some (i, t, e) → (t, e) ∈ W.live ∧ ∃ sv, svs[i]? = some sv ∧ sv.tg = .tok t) ∧
    ∃ Kr, FS P g (svs.map (·.v)) (pass.map (fun x => (x.1, x.2.2))).toList [] Kr ∧ ∀ r, Kr r → belowV 0 r.v ∧ K (afterW W pass (resTok r) W.H W.stamp) (afterSV W r)

def CallW (P : Program) (g : FuncId) (svs : List SV) (W : WPt) (pass : Option (Nat × Nat × Nat)) (K : WPt → SV → Prop) : Prop :=
  (∀ sv ∈ svs, sv.ok) ∧ (∀ i t e, pass = some (i, t, e) → (t, e) ∈ W.live ∧ ∃ sv, svs[i]? = some sv ∧ sv.tg = .tok t) ∧
    ∃ Kr, FS P g (svs.map (·.v)) (pass.map (fun x => (x.1, x.2.2))).toList W.H Kr ∧ ∀ r, Kr r → K (afterW W pass (resTok r) r.W.H (W.stamp + 1)) (afterSV W r)

/-- With an argument whose type names K, the simplifier leaves K alone. -/
structure Fx {α : Type} (K : α) : Type where
  mk ::

def callG (P : Program) (g : FuncId) (svs : List SV) (W : WPt) (K : WPt → SV → Prop) (_ : Fx K) : Prop := ∃ pass, (CallP P g svs W pass K ∨ CallW P g svs W pass K)

/-! ### Operations that make or write memory, or call -/
/-- Does the slot's slice belong to us, for elements of type e? Its token. -/
def ownTok (W : WPt) (e : Nat) : Tag → Option Nat
  | .tok t => if W.live.any (fun p => p.1 == t && p.2 == e) then some t else none
  | _ => none

def elemsOf : AV → Option (List AV)
  | .sl _ es => some es
  | .snil => some []
  | _ => none

def isSeq : Nat → List (Nat × Operand) → Prop
  | _, [] => True
  | i, (j, _) :: l => i = j ∧ isSeq (i + 1) l
def pOk (te : TI) (ρ : Operand → SV) : List (Nat × Operand) → Prop
  | [] => True
  | (_, x) :: l => ((ρ x).ok ∧ shapeOk te.d (ρ x).v ∧ (cellsOf (ρ x).v).length = te.size ∧ (cellsOf (ρ x).v).all cell1 = true ∧ belowV 0 (ρ x).v) ∧ pOk te ρ l

def AW (P : Program) (T : TE) (ρ : Operand → SV) (W : WPt) (op : Op) (K : WPt → SV → Prop) : Prop :=
  match op with
  | .box t x => match T t with
    | some ti => (ρ x).ok ∧ shapeOk ti.d (ρ x).v ∧ K { W with H := W.H ++ [.cells (cellsOf (ρ x).v) []] } (SV.of (.ptr W.H.length 0))
    | none => False
  | .alloc t => match T t with
    | some ti => shapeOk ti.d ti.zero ∧ K { W with H := W.H ++ [.cells (cellsOf ti.zero) []] } (SV.of (.ptr W.H.length 0))
    | none => False
  | .store t x y => match T t, (ρ x).v with
    | some ti, .ptr b o => match W.H[b]? with
      | some (.cells l ow) =>
        (ρ x).ok ∧ (ρ y).ok ∧ shapeOk ti.d (ρ y).v ∧ (cellsOf (ρ y).v).length = ti.size ∧ (cellsOf (ρ y).v).all cell1 = true ∧ o + ti.size ≤ l.length ∧ belowL (b + 1) (cellsOf (ρ y).v) ∧
          (let l' := l.take o ++ cellsOf (ρ y).v ++ l.drop (o + ti.size)
           let ow' := ow.filter fun p => decide (p.1 < o) || decide (o + ti.size ≤ p.1)
           match (ρ y).tg with
           | .tok tk => match W.live.find? (fun p => p.1 == tk) with
             | some (_, e) => K { W with live := W.live.filter (fun p => p.1 != tk), H := W.H.set b (.cells l' ((o, e) :: ow')), stamp := W.stamp + 1 } SV.no
             | none => K { W with H := W.H.set b (.cells l' ow'), stamp := W.stamp + 1 } SV.no
           | _ => K { W with H := W.H.set b (.cells l' ow'), stamp := W.stamp + 1 } SV.no)
      | _ => False
    | _, _ => False
  | .buildSlice t len parts => match T t with
    | some ⟨.slice e, _, _, _⟩ => match T e with
      | some te => isSeq 0 parts.toList ∧ parts.toList.length = len ∧ len * te.size ≤ 16777216 ∧ 0 < te.size ∧ pOk te ρ parts.toList ∧
        K { W with nt := W.nt + 1, live := (W.nt, e) :: W.live } ⟨True, .sl te.size (parts.toList.map fun p => (ρ p.2).v), .tok W.nt⟩
      | none => False
    | _ => False
  | .slice t x none none none => match T t, (ρ x).v with
    | some ⟨.array m e, _, _, _⟩, .ptr b 0 => match W.H[b]?, T e with
      | some (.cells l _), some te => (ρ x).ok ∧ isAggD te.d = false ∧ te.size = 1 ∧ l.length = m ∧ l.all cell1 = true ∧ belowL 0 l ∧ K { W with H := W.H.set b .dead } (SV.of (.sl 1 l))
      | _, _ => False
    | _, _ => False
  | .call { callee := .builtin .append, args, argTypes } => match args.toList, argTypes.toList with
    | [s, x], [t, t'] => match T t, elemsOf (ρ s).v, (ρ x).v with
      | some ⟨.slice e, _, _, _⟩, some es, .sl z news => match T e with
        | some te => t = t' ∧ (ρ s).ok ∧ (ρ x).ok ∧ z = te.size ∧ 0 < te.size ∧ (∀ z' es', (ρ s).v = .sl z' es' → z' = te.size) ∧ (es.length + news.length) * te.bytes ≤ 140737488355328 ∧ es.length + news.length ≤ 140737488355328 ∧
            if news = [] then K W ⟨True, (ρ s).v, (ρ s).tg⟩ else
            match (ρ s).v, (ρ s).tg with
            | .snil, _ | _, .free => K { W with nt := W.nt + 1, live := (W.nt, e) :: W.live } ⟨True, .sl te.size (es ++ news), .tok W.nt⟩
            | _, .tok tk => (tk, e) ∈ W.live ∧ K { W with nt := W.nt + 1, live := (W.nt, e) :: W.live.filter (fun p => p.1 != tk) } ⟨True, .sl te.size (es ++ news), .tok W.nt⟩
            | _, .cell b o st => st = W.stamp ∧ (match W.H[b]? with
              | some (.cells l ow) => (o, e) ∈ ow ∧ K { W with nt := W.nt + 1, live := (W.nt, e) :: W.live, H := W.H.set b (.cells l (ow.filter fun p => p.1 != o)) } ⟨True, .sl te.size (es ++ news), .tok W.nt⟩
              | _ => False)
            | _, _ => False
        | none => False
      | _, _, _ => False
    | _, _ => False
  | .call { callee := .value f, args, .. } => match (ρ f).v with
    | .fn g caps => (ρ f).ok ∧ callG P g (args.toList.map ρ ++ caps.map SV.of) W K .mk
    | _ => False
  | _ => False
end Go.Abs

namespace Go.Abs
open Go

structure Adv (W : WPt) (θ : List Nat) (τ : Nat → Value) (w : World) (W' : WPt) (θ' : List Nat) (τ' : Nat → Value) (w' : World) : Prop where
  nt : W.nt ≤ W'.nt
  st : W.stamp ≤ W'.stamp
  liv : ∀ t e, t < W.nt → (t, e) ∈ W'.live → (∃ e', (t, e') ∈ W.live) ∧ τ' t = τ t
  th : tle θ θ'
  cel : W'.stamp = W.stamp → ∀ (b blk o : Nat) v, θ[b]? = some blk → w.cell? ⟨blk, o, none⟩ = some v → w'.cell? ⟨blk, o, none⟩ = some v

section
variable {P : Program} {T : TE} {Γ : Cx} {S : St} {W W' : WPt} {M M' : Snap} {θ θ' : List Nat} {ω ω' : Nat → Option Owner} {τ τ' : Nat → Value} {a : Act} {w w' : World}

theorem Tag1Ok.adv (h : Adv W θ τ w W' θ' τ' w') {v : Value} {tg : Tag} (ht : Tag1Ok W θ τ w v tg) : Tag1Ok W' θ' τ' w' v tg := by
  cases tg with
  | none => trivial
  | free => exact ht
  | tok t =>
    obtain ⟨h1, h2⟩ := ht
    refine ⟨Nat.lt_of_lt_of_le h1 h.nt, fun ⟨e, he⟩ => ?_⟩
    obtain ⟨h3, h4⟩ := h.liv t e h1 he
    rw [h4]; exact h2 h3
  | cell b o st =>
    obtain ⟨h1, h2⟩ := ht
    refine ⟨Nat.le_trans h1 h.st, fun he => ?_⟩
    have h3 := h.st
    have h5 : W'.stamp = W.stamp := by omega
    obtain ⟨blk, h6, h7⟩ := h2 (by omega)
    exact ⟨blk, h.th _ _ h6, h.cel h5 b blk o v h6 h7⟩
  | tup l => trivial
  | und => trivial

theorem TagOk.adv (h : Adv W θ τ w W' θ' τ' w') {v : Value} {tg : Tag} (ht : TagOk W θ τ w v tg) : TagOk W' θ' τ' w' v tg := by
  cases tg with
  | tup l => exact fun j tg vs u h1 h2 h3 => Tag1Ok.adv h (ht j tg vs u h1 h2 h3)
  | none => trivial
  | und => trivial
  | free => exact Tag1Ok.adv (tg := .free) h ht
  | tok t => exact Tag1Ok.adv (tg := .tok t) h ht
  | cell b o st => exact Tag1Ok.adv (tg := .cell b o st) h ht

theorem SlotOk.adv (h : Adv W θ τ w W' θ' τ' w') (hM : M.le M') {sv : SV} {v : Value} (hs : SlotOk W M θ τ w sv v) : SlotOk W' M' θ' τ' w' sv v :=
  ⟨Rep.mono hM h.th _ _ hs.1, TagOk.adv h hs.2⟩

theorem RelM.world (h : RelM P Γ S M θ ω τ a w) (hc : Core P Γ W' M' θ' ω' τ' w') (hM : M.le M') (ha : Adv S.W θ τ w W' θ' τ' w') :
    RelM P Γ { S with W := W' } M' θ' ω' τ' a w' :=
  ⟨hc, ⟨h.fr.size, h.fr.defers, fun k hk => SlotOk.adv ha hM (h.fr.slot k hk), h.fr.und⟩, h.bas⟩

/-- What an operation that makes, writes or calls leaves. -/
def Left (P : Program) (Γ : Cx) (W : WPt) (M : Snap) (θ : List Nat) (τ : Nat → Value) (w : World) (a : Act) (dst : Option Tmp) (K : WPt → SV → Prop) (a' : Act) (w' : World) : Prop :=
  ∃ (W' : WPt) (sv : SV) (v : Value) (M' : Snap) (θ' : List Nat) (ω' : Nat → Option Owner) (τ' : Nat → Value),
    K W' sv ∧ a' = a.put dst v ∧ Core P Γ W' M' θ' ω' τ' w' ∧ M.le M' ∧ Adv W θ τ w W' θ' τ' w' ∧ (sv.ok → SlotOk W' M' θ' τ' w' sv v)

theorem all_oneCell {x : AV} {v : Value} {d : TD} (hx : Rep M θ x v) (hs : shapeOk d x) (hc : (cellsOf x).all cell1 = true) : ∀ u ∈ v.cells.toList, u.oneCell' = true := by
  intro u hu
  have hr := shape_cells hx hs
  obtain ⟨j, hj, rfl⟩ := List.getElem_of_mem hu
  have hlen := Reps_length hr
  obtain ⟨u', h1, h2⟩ := Reps_get hr j (by rw [← hlen]; exact hj)
  rw [List.getElem?_eq_getElem hj] at h1
  cases h1
  exact rep_oneCell h2 (List.all_eq_true.1 hc _ (List.getElem_mem _))

theorem aw_box (h : RelM P Γ S M θ ω τ a w) {l : List AV} {vs : List Value} (ty : TypeId) (hr : Reps M θ l vs) {K : WPt → SV → Prop}
    (hk : K { S.W with H := S.W.H ++ [.cells l []] } (SV.of (.ptr S.W.H.length 0))) (dst : Option Tmp) :
    Left P Γ S.W M θ τ w a dst K (a.put dst (.pointer (some ⟨w.heap.size, 0, none⟩))) (w.alloc (.cells vs.toArray ty (0, 0))) := by
  refine ⟨_, _, _, M, θ ++ [w.heap.size], ω, τ, hk, rfl, h.core.alloc_box ty hr, Snap.le_refl M, ⟨Nat.le_refl _, Nat.le_refl _, fun t e _ hte => ⟨⟨e, hte⟩, rfl⟩, tle_append _ _, fun _ b blk o v hb hv => ?_⟩, fun _ => ⟨?_, trivial⟩⟩
  · rw [World.cell?_alloc_lt _ _ _ (h.core.tlt b blk hb)]; exact hv
  · simp only [SV.of, Rep]
    refine ⟨w.heap.size, ?_, rfl⟩
    rw [← h.core.hlen, List.getElem?_append_right (Nat.le_refl _)]
    simp

theorem run_storeVar (hT : TOk P T) {t : TypeId} {ti : TI} (ht : T t = some ti) {v : Value} (hsz : v.cells.size = ti.size) {g o : Nat} {ty : TypeId} {cur : Array Value} (hg : w.heap[g]? = some (.cells cur ty (0, 0)))
    (hfit : o + v.cells.size ≤ cur.size) (h1 : ∀ u ∈ v.cells.toList, u.oneCell' = true) :
    (Instr.storeAt t (.pointer (some ⟨g, o, none⟩)) v).run P w = .ok () (w.setRow g (cur.toList.take o ++ v.cells.toList ++ cur.toList.drop (o + v.cells.size)).toArray) := by
  have := run_storeCells_at P g o ty v.cells.toList 0 cur w hg (by simpa using hfit) h1
  simp only [Nat.add_zero, Array.length_toList] at this
  simp [Instr.storeAt, Instr.sureAddr, storeVar, run_sizeOf hT ht, hsz, this]
end
end Go.Abs

namespace Go.Abs
open Go
theorem belowL_append {n : Nat} : ∀ {l l' : List AV}, belowL n l → belowL n l' → belowL n (l ++ l')
  | [], _, _, h => by simpa using h
  | a :: l, l', h, h' => by simp only [List.cons_append, belowL] at h ⊢; exact ⟨h.1, belowL_append h.2 h'⟩
theorem belowL_take {n : Nat} : ∀ {l : List AV} (k : Nat), belowL n l → belowL n (l.take k)
  | _, 0, _ => by simp only [List.take_zero, belowL]
  | [], k + 1, _ => by simp only [List.take_nil, belowL]
  | a :: l, k + 1, h => by simp only [List.take_succ_cons, belowL] at h ⊢; exact ⟨h.1, belowL_take k h.2⟩
theorem belowL_drop {n : Nat} : ∀ {l : List AV} (k : Nat), belowL n l → belowL n (l.drop k)
  | _, 0, h => by simpa using h
  | [], k + 1, _ => by simp only [List.drop_nil, belowL]
  | a :: l, k + 1, h => by simp only [List.drop_succ_cons, belowL] at h ⊢; exact belowL_drop k h.2

/-- What a token owned, a cell owns. -/
def moveOw (ω : Nat → Option Owner) (tk b o : Nat) : Nat → Option Owner := fun g => match ω g with
  | some (.tok t) => if t = tk then some (.cell b o) else some (.tok t)
  | x => x

section
variable {P : Program} {T : TE} {Γ : Cx} {S : St} {W W' : WPt} {M M' : Snap} {θ θ' : List Nat} {ω ω' : Nat → Option Owner} {τ τ' : Nat → Value} {a : Act} {w w' : World}

theorem aw_store (hT : TOk P T) (h : RelM P Γ S M θ ω τ a w) {t : TypeId} {ti : TI} (ht : T t = some ti) {b o : Nat} {vx : Value} (hx : Rep M θ (.ptr b o) vx) {l : List AV} {ow : List (Nat × Nat)}
    (hH : S.W.H[b]? = some (.cells l ow)) {sy : SV} {vy : Value} (hy : SlotOk S.W M θ τ w sy vy) (hsh : shapeOk ti.d sy.v) (hsz : (cellsOf sy.v).length = ti.size) (hall : (cellsOf sy.v).all cell1 = true)
    (hle : o + ti.size ≤ l.length) (hbel : belowL (b + 1) (cellsOf sy.v)) {K : WPt → SV → Prop}
    (hk : match sy.tg with
           | .tok tk => match S.W.live.find? (fun p => p.1 == tk) with
             | some (_, e) => K { S.W with live := S.W.live.filter (fun p => p.1 != tk), H := S.W.H.set b (.cells (l.take o ++ cellsOf sy.v ++ l.drop (o + ti.size)) ((o, e) :: ow.filter fun p => decide (p.1 < o) || decide (o + ti.size ≤ p.1))), stamp := S.W.stamp + 1 } SV.no
             | none => K { S.W with H := S.W.H.set b (.cells (l.take o ++ cellsOf sy.v ++ l.drop (o + ti.size)) (ow.filter fun p => decide (p.1 < o) || decide (o + ti.size ≤ p.1))), stamp := S.W.stamp + 1 } SV.no
           | _ => K { S.W with H := S.W.H.set b (.cells (l.take o ++ cellsOf sy.v ++ l.drop (o + ti.size)) (ow.filter fun p => decide (p.1 < o) || decide (o + ti.size ≤ p.1))), stamp := S.W.stamp + 1 } SV.no) (dst : Option Tmp) :
    ∃ w', (Instr.storeAt t vx vy).run P w = .ok () w' ∧ Left P Γ S.W M θ τ w a dst K (a.put dst undef) w' := by
  simp only [Rep] at hx
  obtain ⟨blk, hb, rfl⟩ := hx
  obtain ⟨vs, ty, hblk, hrs, hmn, hown⟩ := h.core.box b _ blk hH hb
  have hlen := Reps_length hrs
  have hyc := shape_cells hy.1 hsh
  have hycl := Reps_length hyc
  have hvsz : vy.cells.size = ti.size := by simpa [hsz] using hycl
  have h1 := all_oneCell hy.1 hsh hall
  have hrun := run_storeVar (w := w) hT ht hvsz hblk (o := o) (by simp only [List.size_toArray, hvsz, hlen]; exact hle) h1
  simp only [hvsz] at hrun
  refine ⟨_, hrun, ?_⟩
  have hHl : b < S.W.H.length := (List.getElem?_eq_some_iff.1 hH).1
  have hset := setRow_heap w blk vs.toArray (vs.take o ++ vy.cells.toList ++ vs.drop (o + ti.size)).toArray ty (0, 0) hblk
  have hrs' : Reps M θ (l.take o ++ cellsOf sy.v ++ l.drop (o + ti.size)) (vs.take o ++ vy.cells.toList ++ vs.drop (o + ti.size)) := Reps_append (Reps_append (Reps_take _ hrs) hyc) (Reps_drop _ hrs)
  have hbel' : belowL (b + 1) (l.take o ++ cellsOf sy.v ++ l.drop (o + ti.size)) := by
    have h0 := h.core.bel b l ow hH
    exact belowL_append (belowL_append (belowL_take _ h0) hbel) (belowL_drop _ h0)
  have hsame : ∀ o', (o' < o ∨ o + ti.size ≤ o') → (vs.take o ++ vy.cells.toList ++ vs.drop (o + ti.size))[o']? = vs[o']? := by
    intro o' ho'
    have e1 : (vs.take o).length = o := by simp; omega
    have e2 : vy.cells.toList.length = ti.size := by simpa using hvsz
    rcases ho' with ho' | ho'
    · rw [List.append_assoc, List.getElem?_append_left (by omega), List.getElem?_take, if_pos ho']
    · rw [List.getElem?_append_right (by simp only [List.length_append, e1, e2]; exact ho')]
      simp only [List.length_append, e1, e2, List.getElem?_drop]
      congr 1
      omega
  have hnew : 0 < ti.size → ∀ (x : Value), vy.cells.toList[0]? = some x → (vs.take o ++ vy.cells.toList ++ vs.drop (o + ti.size))[o]? = some x := by
    intro hpos x hx
    have e1 : (vs.take o).length = o := by simp; omega
    have e2 : vy.cells.toList.length = ti.size := by simpa using hvsz
    rw [List.getElem?_append_left (by simp only [List.length_append, e1, e2]; omega), List.getElem?_append_right (by omega), e1, Nat.sub_self]
    exact hx
  have hoth : ∀ k, k ≠ blk → (w.setRow blk (vs.take o ++ vy.cells.toList ++ vs.drop (o + ti.size)).toArray).heap[k]? = w.heap[k]? := fun k hk => setRow_other w blk k _ hk
  have adv : ∀ live' H', (∀ x, x ∈ live' → x ∈ S.W.live) → Adv S.W θ τ w { S.W with live := live', H := H', stamp := S.W.stamp + 1 } θ τ (w.setRow blk (vs.take o ++ vy.cells.toList ++ vs.drop (o + ti.size)).toArray) := fun live' H' hl =>
    ⟨Nat.le_refl _, Nat.le_succ _, fun t e _ hte => ⟨⟨e, hl _ hte⟩, rfl⟩, tle_refl θ, fun hst => by simp at hst⟩
  have plain : K { S.W with H := S.W.H.set b (.cells (l.take o ++ cellsOf sy.v ++ l.drop (o + ti.size)) (ow.filter fun p => decide (p.1 < o) || decide (o + ti.size ≤ p.1))), stamp := S.W.stamp + 1 } SV.no →
      Left P Γ S.W M θ τ w a dst K (a.put dst undef) (w.setRow blk (vs.take o ++ vy.cells.toList ++ vs.drop (o + ti.size)).toArray) := by
    intro hk
    have hcore := h.core.set_box hb hHl (w' := w.setRow blk (vs.take o ++ vy.cells.toList ++ vs.drop (o + ti.size)).toArray) rfl rfl rfl (setRow_size w blk _) hoth hmn (ω' := ω) (live' := S.W.live)
      (bx := .cells (l.take o ++ cellsOf sy.v ++ l.drop (o + ti.size)) (ow.filter fun p => decide (p.1 < o) || decide (o + ti.size ≤ p.1)))
      ⟨_, ty, hset, hrs', hmn, fun o' e' hoe => by
        obtain ⟨h2, h3⟩ := List.mem_filter.1 hoe
        simp only [Bool.or_eq_true, decide_eq_true_eq] at h3
        obtain ⟨u, hu, hu2⟩ := hown o' e' h2
        refine ⟨u, by rw [hsame o' h3]; exact hu, hu2.step (fun g hg => ?_)⟩
        exact ⟨hoth g (fun e => by subst e; exact (h.core.own _ _ hg).2 b hb), fun _ => rfl, hg⟩⟩
      (fun l' ow' he => by cases he; exact hbel') (fun g => ⟨Iff.rfl, fun _ _ _ hg => hg, fun _ _ _ hg => hg⟩) (fun x hx => hx) (S.W.stamp + 1)
    exact ⟨_, _, _, M, θ, ω, τ, hk, rfl, hcore, Snap.le_refl M, adv _ _ (fun x hx => hx), fun hno => hno.elim⟩
  split at hk
  · rename_i tk htg
    split at hk
    · rename_i tk' e hf
      have hmem := List.mem_of_find?_eq_some hf
      have htk := List.find?_some hf
      simp only [beq_iff_eq] at htk
      subst htk
      have hlv := h.core.live _ _ hmem
      have htag := hy.2
      rw [htg] at htag
      have hvy : vy = τ tk' := htag.2 ⟨e, hmem⟩
      let ω2 := moveOw ω tk' b o
      have hcore := h.core.set_box hb hHl (w' := w.setRow blk (vs.take o ++ vy.cells.toList ++ vs.drop (o + ti.size)).toArray) rfl rfl rfl (setRow_size w blk _) hoth hmn (ω' := ω2)
        (live' := S.W.live.filter (fun p => p.1 != tk'))
        (bx := .cells (l.take o ++ cellsOf sy.v ++ l.drop (o + ti.size)) ((o, e) :: ow.filter fun p => decide (p.1 < o) || decide (o + ti.size ≤ p.1)))
        ⟨_, ty, hset, hrs', hmn, fun o' e' hoe => by
          rcases List.mem_cons.1 hoe with he | hoe
          · cases he
            have hov : OwnV P M ω w (.tok tk') e vy := by rw [hvy]; exact hlv.2
            have hvc : vy.cells.toList = [vy] := by
              rcases hov with ⟨a0, rfl⟩ | ⟨_, _, _, _, rfl, _⟩ <;> rfl
            have hpos : 0 < ti.size := by
              have : vy.cells.toList.length = ti.size := by simpa using hvsz
              rw [hvc] at this; simp at this; omega
            refine ⟨vy, hnew hpos vy (by rw [hvc]; rfl), hov.step (fun g hg => ?_)⟩
            refine ⟨hoth g (fun e => by subst e; exact (h.core.own _ _ hg).2 b hb), fun _ => rfl, ?_⟩
            show moveOw ω tk' b o g = _
            unfold moveOw
            rw [hg]; simp
          · obtain ⟨h2, h3⟩ := List.mem_filter.1 hoe
            simp only [Bool.or_eq_true, decide_eq_true_eq] at h3
            obtain ⟨u, hu, hu2⟩ := hown o' e' h2
            refine ⟨u, by rw [hsame o' h3]; exact hu, hu2.step (fun g hg => ?_)⟩
            refine ⟨hoth g (fun e => by subst e; exact (h.core.own _ _ hg).2 b hb), fun _ => rfl, ?_⟩
            show moveOw ω tk' b o g = _
            unfold moveOw
            rw [hg]⟩
        (fun l' ow' he => by cases he; exact hbel') (fun g => by
          refine ⟨?_, fun c o' _ hg => ?_, fun t e' hte hg => ?_⟩
          · show moveOw ω tk' b o g = none ↔ ω g = none
            unfold moveOw
            split
            · rename_i t hg
              rw [hg]
              split <;> simp
            · rfl
          · show moveOw ω tk' b o g = _
            unfold moveOw
            rw [hg]
          · show moveOw ω tk' b o g = _
            unfold moveOw
            rw [hg]
            have hne := (List.mem_filter.1 hte).2
            simp only [bne_iff_ne, ne_eq] at hne
            simp only [if_neg hne]) (fun x hx => (List.mem_filter.1 hx).1) (S.W.stamp + 1)
      exact ⟨_, _, _, M, θ, ω2, τ, hk, rfl, hcore, Snap.le_refl M, adv _ _ (fun x hx => (List.mem_filter.1 hx).1), fun hno => hno.elim⟩
    · exact plain hk
  · exact plain hk
end
end Go.Abs
