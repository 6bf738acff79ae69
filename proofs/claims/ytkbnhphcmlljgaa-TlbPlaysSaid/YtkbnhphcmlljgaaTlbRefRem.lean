/- Invalidate and Flush, the program's and the reference's. -/
import Derived.Test.YtkbnhphcmlljgaaTlbRefC
import Derived.Test.YtkbnhphcmlljgaaHandRemove
import Derived.Test.YtkbnhphcmlljgaaPx17
import Derived.Test.YtkbnhphcmlljgaaPx18
set_option linter.unusedVariables false
set_option linter.unusedSimpArgs false
namespace Go.Proofs.Ytkbnhphcmlljgaa.TlbRef
open Go.RowKit Go.Proofs.Ytkbnhphcmlljgaa.P Go.Proofs.Ytkbnhphcmlljgaa.Pte Go.Proofs.Ytkbnhphcmlljgaa.TlbP Go.Proofs.Ytkbnhphcmlljgaa.Hand Go.Proofs.YtkbnhphcmlljgaaW.PrintWords

/-! ### Invalidate and Flush -/
theorem rinval_l0 (n : Int) (l : List E) (s p : Int) (hp : p ≤ 9223372036854775807) (hl : ∀ y ∈ l, okw y = true) (hv : ∀ y ∈ l, oneP y = 0) (hm : l.length ≤ 1000) :
    ∀ (m i k : Nat), i + m = l.length → m + 13 ≤ k → estoversref07_Invalidate.l0 k s p (i : Int) n l n (kept (fun y => coversP y s p) (l.take i)) = some (n, kept (fun y => coversP y s p) l, 0)
  | 0, i, k, hi, hk => by
    obtain ⟨k, rfl⟩ : ∃ q, k = q + 1 := ⟨k - 1, by omega⟩
    rw [estoversref07_Invalidate.l0, if_neg (by omega), List.take_of_length_le (by omega)]
  | m + 1, i, k, hi, hk => by
    obtain ⟨k, rfl⟩ : ∃ q, k = q + 1 := ⟨k - 1, by omega⟩
    have hil : i < l.length := by omega
    have hkl : (kept (fun y => coversP y s p) (l.take i)).length ≤ 1000 := Nat.le_trans (kept_len _ _) (by rw [List.length_take]; omega)
    have ih := rinval_l0 n l s p hp hl hv hm m (i + 1) k (by omega) (by omega)
    rw [kept_at _ l i hil] at ih
    obtain ⟨q, rfl⟩ : ∃ q, k = q + 2 := ⟨k - 2, by omega⟩
    rw [estoversref07_Invalidate.l0, if_pos (by omega), if_pos (by omega), rd_get l i hil, rhits_eq q l[i] s p (hl _ (List.getElem_mem hil)), Option.bind_some, w64 (by omega) (by omega), show (i : Int) + 1 = ((i + 1 : Nat) : Int) by omega, ← covers_hits (hv _ (List.getElem_mem hil)) s p hp]
    by_cases ho : coversP l[i] s p = true
    · rw [if_pos ho]; rw [if_pos ho] at ih; exact ih
    · rw [if_neg ho, if_pos (by omega)]; rw [if_neg ho] at ih; exact ih
theorem rinval_eq (n : Int) (l : List E) (s p : Int) (hp2 : p ≤ 9223372036854775807) (hl : ∀ y ∈ l, okw y = true) (hm : l.length ≤ 1000) (k : Nat) (hk : 20 + l.length * (l.length + 3) ≤ k) : estoversref07_Invalidate.f k n l s p = some (invalP n l s p) := by
  have hk2 : l.length * 1 ≤ l.length * (l.length + 3) := Nat.mul_le_mul_left _ (by omega)
  unfold estoversref07_Invalidate.f invalP
  rw [rcheck_eq l n hl hm k (by omega), Option.bind_some]
  by_cases hc : checkP n l = 0
  · rw [if_pos hc, if_neg (by simp [hc]), rspace_eq, Option.bind_some, rpage_eq]
    have bad : ∀ b, b = true → estoversref07_Invalidate.j0 k s p b n l = some (0, [], 2) := by
      rintro b rfl
      obtain ⟨q, rfl⟩ : ∃ q, k = q + 1 := ⟨k - 1, by omega⟩
      rw [estoversref07_Invalidate.j0, if_pos rfl]
    by_cases hp : placeP s p = 0
    · obtain ⟨s0, s1, p0, p1⟩ := place_zero.1 hp
      rw [if_pos (by simp; omega), Option.bind_some, if_neg (by simp [hp]), show (!(decide (0 ≤ p) && decide (p < 512))) = false by simp; omega]
      obtain ⟨q, rfl⟩ : ∃ q, k = q + 1 := ⟨k - 1, by omega⟩
      have h := rinval_l0 n l s p hp2 hl (check_valid hc) hm l.length 0 q (by omega) (by omega)
      rw [List.take_zero] at h
      rw [estoversref07_Invalidate.j0, if_neg (by simp)]
      exact h
    · rw [if_pos hp, place_two hp]
      have hz : ¬ (0 ≤ s ∧ s < 8 ∧ 0 ≤ p ∧ p < 512) := fun h => hp (place_zero.2 h)
      split
      · rename_i hs
        simp at hs
        rw [Option.bind_some]
        exact bad _ (by simp; omega)
      · exact bad _ rfl
  · rw [if_neg hc, if_pos hc]
theorem rflush_l0 (n : Int) (l : List E) (s : Int) (hm : l.length ≤ 1000) :
    ∀ (m i k : Nat), i + m = l.length → m + 1 ≤ k → estoversref07_Flush.l0 k s (i : Int) n l n (kept (fun y => y.f0 == s) (l.take i)) = some (n, kept (fun y => y.f0 == s) l, 0)
  | 0, i, k, hi, hk => by
    obtain ⟨k, rfl⟩ : ∃ q, k = q + 1 := ⟨k - 1, by omega⟩
    rw [estoversref07_Flush.l0, if_neg (by omega), List.take_of_length_le (by omega)]
  | m + 1, i, k, hi, hk => by
    obtain ⟨k, rfl⟩ : ∃ q, k = q + 1 := ⟨k - 1, by omega⟩
    have hil : i < l.length := by omega
    have hkl : (kept (fun y => y.f0 == s) (l.take i)).length ≤ 1000 := Nat.le_trans (kept_len _ _) (by rw [List.length_take]; omega)
    have ih := rflush_l0 n l s hm m (i + 1) k (by omega) (by omega)
    rw [kept_at _ l i hil] at ih
    rw [estoversref07_Flush.l0, if_pos (by omega), if_pos (by omega), rd_get l i hil, w64 (by omega) (by omega), show (i : Int) + 1 = ((i + 1 : Nat) : Int) by omega]
    by_cases ho : l[i].f0 = s
    · rw [if_pos ho]; rw [if_pos (by simp [ho])] at ih; exact ih
    · rw [if_neg ho, if_pos (by omega)]; rw [if_neg (by simp [ho])] at ih; exact ih
theorem rflush_eq (n : Int) (l : List E) (s : Int) (hl : ∀ y ∈ l, okw y = true) (hm : l.length ≤ 1000) (k : Nat) (hk : 20 + l.length * (l.length + 3) ≤ k) : estoversref07_Flush.f k n l s = some (flushP n l s) := by
  have hk2 : l.length * 1 ≤ l.length * (l.length + 3) := Nat.mul_le_mul_left _ (by omega)
  unfold estoversref07_Flush.f flushP
  rw [rcheck_eq l n hl hm k (by omega), Option.bind_some]
  by_cases hc : checkP n l = 0
  · rw [if_pos hc, if_neg (by simp [hc]), rspace_eq, Option.bind_some]
    have h := rflush_l0 n l s hm l.length 0 k (by omega) (by omega)
    rw [List.take_zero] at h
    by_cases hp : placeP s 0 = 0
    · obtain ⟨s0, s1, p0, p1⟩ := place_zero.1 hp
      rw [if_pos (by simp; omega), if_neg (by simp [hp])]
      exact h
    · rw [if_pos hp, place_two hp]
      have hz : ¬ (0 ≤ s ∧ s < 8 ∧ (0 : Int) ≤ 0 ∧ (0 : Int) < 512) := fun h => hp (place_zero.2 h)
      rw [if_neg (by simp; omega)]
  · rw [if_neg hc, if_pos hc]
end Go.Proofs.Ytkbnhphcmlljgaa.TlbRef
