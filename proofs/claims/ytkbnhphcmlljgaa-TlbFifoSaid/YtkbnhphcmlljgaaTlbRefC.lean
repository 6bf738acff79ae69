/- What a valid cache is, for the laws. -/
import Derived.Test.YtkbnhphcmlljgaaTlbRef
import Derived.Test.YtkbnhphcmlljgaaHandFill
set_option linter.unusedVariables false
set_option linter.unusedSimpArgs false
namespace Go.Proofs.Ytkbnhphcmlljgaa.TlbRef
open Go.RowKit Go.Proofs.Ytkbnhphcmlljgaa.P Go.Proofs.Ytkbnhphcmlljgaa.Pte Go.Proofs.Ytkbnhphcmlljgaa.TlbP Go.Proofs.Ytkbnhphcmlljgaa.Hand Go.Proofs.YtkbnhphcmlljgaaW.PrintWords

theorem scan_valid : ∀ (l pre : List E), scan pre l = 0 → ∀ x ∈ l, oneP x = 0
  | [], _, _, x, hx => by cases hx
  | y :: r, pre, h, x, hx => by
    simp only [scan] at h
    have h1 : entryErr pre y = 0 := by
      by_cases e : entryErr pre y = 0
      · exact e
      · rw [if_pos e] at h; exact h
    rw [if_neg (by simp [h1])] at h
    rcases List.mem_cons.1 hx with rfl | hx
    · rw [entry_one] at h1
      by_cases e : oneP x = 0
      · exact e
      · rw [if_pos e] at h1; exact h1
    · exact scan_valid r _ h x hx
theorem check_valid {n : Int} {l : List E} (h : checkP n l = 0) : ∀ x ∈ l, oneP x = 0 := by
  unfold checkP at h
  split at h
  · cases h
  · split at h
    · cases h
    · exact scan_valid l [] h
theorem check_fits {n : Int} {l : List E} (h : checkP n l = 0) : (l.length : Int) ≤ n := by
  unfold checkP at h
  split at h
  · cases h
  · split at h
    · cases h
    · omega

theorem pcheck_eq (n : Int) (l : List E) (hl : ∀ x ∈ l, okw x = true) : tlb_Check.f n l = some (checkP n l) := by
  unfold tlb_Check.f; rw [if_pos (List.all_eq_true.2 hl)]
theorem rsame_l0 (n : Int) (l : List E) (hm : l.length ≤ 100000) : ∀ (m i k : Nat), i + m = l.length → m + 1 ≤ k → estoversref07_Same.l0 k (i : Int) n l n l = some true
  | 0, i, k, hi, hk => by
    obtain ⟨k, rfl⟩ : ∃ q, k = q + 1 := ⟨k - 1, by omega⟩
    rw [estoversref07_Same.l0, if_neg (by omega)]
  | m + 1, i, k, hi, hk => by
    obtain ⟨k, rfl⟩ : ∃ q, k = q + 1 := ⟨k - 1, by omega⟩
    rw [estoversref07_Same.l0, if_pos (by omega), if_pos (by omega), if_pos (by omega), w64 (by omega) (by omega), show (i : Int) + 1 = ((i + 1 : Nat) : Int) by omega, rsame_l0 n l hm m (i + 1) k (by omega) (by omega)]
    simp
theorem rsame_refl (n : Int) (l : List E) (hm : l.length ≤ 100000) (k : Nat) (hk : l.length + 2 ≤ k) : estoversref07_Same.f k n l n l = some true := by
  obtain ⟨k, rfl⟩ : ∃ q, k = q + 1 := ⟨k - 1, by omega⟩
  unfold estoversref07_Same.f
  rw [if_pos rfl]
  have h := rsame_l0 n l hm l.length 0 k (by omega) (by omega)
  simp [estoversref07_Same.j0]
  simpa using h
theorem kept_at (q : E → Bool) (l : List E) (i : Nat) (hi : i < l.length) : kept q (l.take (i + 1)) = if q l[i] = true then kept q (l.take i) else kept q (l.take i) ++ [l[i]] := by
  unfold kept
  rw [List.take_succ_eq_append_getElem hi, List.filter_append]
  by_cases h : q l[i] = true <;> simp [h]
theorem kept_len (q : E → Bool) (l : List E) : (kept q l).length ≤ l.length := List.length_filter_le _ _
end Go.Proofs.Ytkbnhphcmlljgaa.TlbRef
