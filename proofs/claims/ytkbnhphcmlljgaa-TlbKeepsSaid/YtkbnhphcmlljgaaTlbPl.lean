/- The cache, plain: what is true of entries, checks and look-ups without the reference. -/
import Derived.Test.YtkbnhphcmlljgaaHandRemove
import Derived.Test.YtkbnhphcmlljgaaPx6
set_option linter.unusedVariables false
set_option linter.unusedSimpArgs false
namespace Go.Proofs.Ytkbnhphcmlljgaa.TlbRef
open Go.RowKit Go.Proofs.Ytkbnhphcmlljgaa.P Go.Proofs.Ytkbnhphcmlljgaa.Pte Go.Proofs.Ytkbnhphcmlljgaa.TlbP Go.Proofs.Ytkbnhphcmlljgaa.Hand Go.Proofs.YtkbnhphcmlljgaaW.PrintWords

theorem inU_of {w : Int} (h : inU w = true) : 0 ≤ w ∧ w < 18446744073709551616 := by
  unfold inU at h; simpa using h
theorem huge_ok {w : Int} (h : trHuge w = true) : trOk w = true := by
  unfold trHuge at h
  unfold trOk
  rcases dec_cases w with ⟨kd, n, wr, a, d, hh, g, hx, e⟩ | e
  · rw [e] at h ⊢
    simp at h
    subst h
    have hs := g.2.2.2
    have h0 := g.1
    have h4 := g.2.1
    unfold suits at hs
    have : kd = 0 ∨ kd = 1 ∨ kd = 2 ∨ kd = 3 ∨ kd = 4 := by omega
    rcases this with rfl | rfl | rfl | rfl | rfl <;> simp at hs ⊢
  · rw [e] at h; simp at h
theorem place_zero {s p : Int} : placeP s p = 0 ↔ 0 ≤ s ∧ s < 8 ∧ 0 ≤ p ∧ p < 512 := by
  unfold placeP; split <;> simp <;> omega
/-- The error of an entry alone. -/
def oneP (x : E) : Int := if placeP x.f0 x.f1 ≠ 0 then 2 else if trOk x.f2 = false ∨ (trHuge x.f2 = true ∧ Int.tmod x.f1 8 ≠ 0) then 3 else 0
theorem entry_one (pre : List E) (x : E) : entryErr pre x = if oneP x ≠ 0 then oneP x else if pre.any (fun y => overlapP x y) = true then 7 else 0 := by
  unfold entryErr oneP
  by_cases a : placeP x.f0 x.f1 ≠ 0 <;> by_cases b : trOk x.f2 = false ∨ (trHuge x.f2 = true ∧ Int.tmod x.f1 8 ≠ 0) <;> simp [a, b]
theorem one_zero {x : E} (h : oneP x = 0) : placeP x.f0 x.f1 = 0 ∧ trOk x.f2 = true ∧ (trHuge x.f2 = true → Int.tmod x.f1 8 = 0) := by
  unfold oneP at h
  split at h
  · cases h
  · rename_i a
    split at h
    · cases h
    · rename_i b
      refine ⟨Classical.byContradiction a, ?_, ?_⟩
      · cases c : trOk x.f2 with
        | true => rfl
        | false => exact absurd (.inl c) b
      · intro hh
        exact Classical.byContradiction fun e => b (.inr ⟨hh, e⟩)
theorem w64 {x : Int} (h0 : -9223372036854775808 ≤ x) (h1 : x ≤ 9223372036854775807) : wrap64 x = x := by unfold wrap64; omega
theorem tm8 {x : Int} (h : 0 ≤ x) : Int.tmod x 8 = x % 8 := Int.tmod_eq_emod_of_nonneg h
theorem bd (a b : Int) : (a == b) = decide (a = b) := by by_cases h : a = b <;> simp [h]
theorem span_valid {x : E} (h : oneP x = 0) : 0 ≤ x.f1 ∧ x.f1 < 512 ∧ ((spanP x.f2 = 1 ∧ trHuge x.f2 = false) ∨ (spanP x.f2 = 8 ∧ trHuge x.f2 = true ∧ x.f1 % 8 = 0)) := by
  obtain ⟨h1, h2, h3⟩ := one_zero h
  obtain ⟨_, _, h4, h5⟩ := place_zero.1 h1
  refine ⟨h4, h5, ?_⟩
  unfold spanP
  cases hh : trHuge x.f2 with
  | false => exact .inl ⟨by simp, rfl⟩
  | true => exact .inr ⟨by simp, rfl, by rw [← tm8 h4]; exact h3 hh⟩
theorem overlap_iff {a b : E} (ha : oneP a = 0) (hb : oneP b = 0) : (overlapP a b = true ↔ a.f0 = b.f0 ∧ a.f1 < b.f1 + spanP b.f2 ∧ b.f1 < a.f1 + spanP a.f2) := by
  obtain ⟨a0, a1, a2⟩ := span_valid ha
  obtain ⟨b0, b1, b2⟩ := span_valid hb
  unfold overlapP
  rw [w64 (x := b.f1 + spanP b.f2) (by omega) (by omega), w64 (x := a.f1 + spanP a.f2) (by omega) (by omega)]
  simp
theorem overlap_symm {a b : E} (ha : oneP a = 0) (hb : oneP b = 0) : overlapP a b = overlapP b a := by
  rw [Bool.eq_iff_iff, overlap_iff ha hb, overlap_iff hb ha]
  constructor <;> (rintro ⟨h1, h2, h3⟩; exact ⟨h1.symm, h3, h2⟩)
theorem scan_valid : ∀ (l pre : List E), scan pre l = 0 → ∀ x ∈ l, oneP x = 0
  | [], _, _, x, hx => by cases hx
  | y :: r, pre, h, x, hx => by
    simp only [scan] at h
    have h1 : entryErr pre y = 0 := by
      by_cases e : entryErr pre y = 0
      · exact e
      · rw [if_pos e] at h; exact h
    rw [if_neg (by simp [h1])] at h
    rcases List.mem_cons.1 hx with rfl | hx
    · rw [entry_one] at h1
      by_cases e : oneP x = 0
      · exact e
      · rw [if_pos e] at h1; exact h1
    · exact scan_valid r _ h x hx
theorem check_valid {n : Int} {l : List E} (h : checkP n l = 0) : ∀ x ∈ l, oneP x = 0 := by
  unfold checkP at h
  split at h
  · cases h
  · split at h
    · cases h
    · exact scan_valid l [] h
theorem check_fits {n : Int} {l : List E} (h : checkP n l = 0) : (l.length : Int) ≤ n := by
  unfold checkP at h
  split at h
  · cases h
  · split at h
    · cases h
    · omega
theorem pcheck_eq (n : Int) (l : List E) (hl : ∀ x ∈ l, okw x = true) : tlb_Check.f n l = some (checkP n l) := by
  unfold tlb_Check.f; rw [if_pos (List.all_eq_true.2 hl)]
theorem kept_at (q : E → Bool) (l : List E) (i : Nat) (hi : i < l.length) : kept q (l.take (i + 1)) = if q l[i] = true then kept q (l.take i) else kept q (l.take i) ++ [l[i]] := by
  unfold kept
  rw [List.take_succ_eq_append_getElem hi, List.filter_append]
  by_cases h : q l[i] = true <;> simp [h]
theorem kept_len (q : E → Bool) (l : List E) : (kept q l).length ≤ l.length := List.length_filter_le _ _
theorem page_valid {s p w : Int} (hp : placeP s p = 0) (ht : trOk w = true) : oneP ⟨s, pageOf p w, w⟩ = 0 := by
  obtain ⟨s0, s1, p0, p1⟩ := place_zero.1 hp
  unfold oneP pageOf
  cases hh : trHuge w with
  | false =>
    have e : placeP s p = 0 := hp
    simp [e, ht]
  | true =>
    have e1 : wrap64 (p - Int.tmod p 8) = p - p % 8 := by rw [tm8 p0, w64 (by omega) (by omega)]
    have e2 : placeP s (p - p % 8) = 0 := place_zero.2 (by omega)
    have e3 : Int.tmod (p - p % 8) 8 = 0 := by rw [tm8 (by omega)]; omega
    simp [e1, e2, e3, ht]
theorem pfill_eq (n : Int) (l : List E) (s p w : Int) (hw : inU w = true) (hl : ∀ y ∈ l, okw y = true) : tlb_Fill.f n l s p w = some (fillP n l s p w) := by
  unfold tlb_Fill.f; rw [if_pos ⟨List.all_eq_true.2 hl, hw⟩]
theorem pinval_eq (n : Int) (l : List E) (s p : Int) (hl : ∀ y ∈ l, okw y = true) : tlb_Invalidate.f n l s p = some (invalP n l s p) := by
  unfold tlb_Invalidate.f; rw [if_pos (List.all_eq_true.2 hl)]
theorem pflush_eq (n : Int) (l : List E) (s : Int) (hl : ∀ y ∈ l, okw y = true) : tlb_Flush.f n l s = some (flushP n l s) := by
  unfold tlb_Flush.f; rw [if_pos (List.all_eq_true.2 hl)]
/-- What a look-up answers. -/
def lookP (l : List E) (s p : Int) : Int × Bool := match l with
  | [] => (0, false)
  | x :: r => if coversP x s p = true then (x.f2, true) else lookP r s p
theorem look_at (l : List E) (s p : Int) (i : Nat) (hi : i < l.length) : lookP (l.drop i) s p = if coversP l[i] s p = true then (l[i].f2, true) else lookP (l.drop (i + 1)) s p := by
  rw [List.drop_eq_getElem_cons hi]; rfl
theorem plook_l0 (l : List E) (s p : Int) (hl : ∀ x ∈ l, okw x = true) (hm : l.length ≤ 1000) : ∀ (m i k : Nat), i + m = l.length → m + 4 ≤ k → tlb_Lookup.l0 k s p l (l.length : Int) (i : Int) = some (lookP (l.drop i) s p)
  | 0, i, k, hi, hk => by
    obtain ⟨k, rfl⟩ : ∃ q, k = q + 1 := ⟨k - 1, by omega⟩
    rw [tlb_Lookup.l0, if_neg (by omega), List.drop_eq_nil_of_le (by omega)]; rfl
  | m + 1, i, k, hi, hk => by
    obtain ⟨k, rfl⟩ : ∃ q, k = q + 1 := ⟨k - 1, by omega⟩
    have hil : i < l.length := by omega
    have ih := plook_l0 l s p hl hm m (i + 1) k (by omega) (by omega)
    obtain ⟨q, rfl⟩ : ∃ q, k = q + 3 := ⟨k - 3, by omega⟩
    rw [tlb_Lookup.l0, if_pos (by omega), if_pos (by omega), if_pos (by omega), rd_get l i hil, covers_eq q l[i] s p (hl _ (List.getElem_mem hil)), Option.bind_some, w64 (by omega) (by omega), show (i : Int) + 1 = ((i + 1 : Nat) : Int) by omega, ih, look_at l s p i hil]
    cases coversP l[i] s p <;> simp
theorem plook_eq (n : Int) (l : List E) (s p : Int) (hl : ∀ x ∈ l, okw x = true) (hm : l.length ≤ 1000) (k : Nat) (hk : l.length + 4 ≤ k) : tlb_Lookup.f k n l s p = some (if checkP n l = 0 then lookP l s p else (0, false)) := by
  unfold tlb_Lookup.f
  rw [pcheck_eq n l hl, Option.bind_some]
  by_cases h : checkP n l = 0
  · rw [if_pos h, if_pos h]
    have := plook_l0 l s p hl hm l.length 0 k (by omega) hk
    simpa using this
  · rw [if_neg h, if_neg h]
theorem pcovers_eq (n : Int) (l : List E) (s p : Int) (hl : ∀ x ∈ l, okw x = true) (hm : l.length ≤ 1000) (k : Nat) (hk : l.length + 4 ≤ k) : tlb_Covers.f k n l s p = some (if checkP n l = 0 then lookP l s p else (0, false)).2 := by
  unfold tlb_Covers.f
  rw [plook_eq n l s p hl hm k hk, Option.bind_some]
end Go.Proofs.Ytkbnhphcmlljgaa.TlbRef
