/- Fill, the program's and the reference's. -/
import Derived.Test.YtkbnhphcmlljgaaTlbRefC
import Derived.Test.YtkbnhphcmlljgaaPx14
set_option linter.unusedVariables false
set_option linter.unusedSimpArgs false
namespace Go.Proofs.Ytkbnhphcmlljgaa.TlbRef
open Go.RowKit Go.Proofs.Ytkbnhphcmlljgaa.P Go.Proofs.Ytkbnhphcmlljgaa.Pte Go.Proofs.Ytkbnhphcmlljgaa.TlbP Go.Proofs.Ytkbnhphcmlljgaa.Hand Go.Proofs.YtkbnhphcmlljgaaW.PrintWords

/-! ### Fill -/
theorem rfill_l0 (n : Int) (l : List E) (x : E) (hx : okw x = true) (vx : oneP x = 0) (hl : ∀ y ∈ l, okw y = true) (hv : ∀ y ∈ l, oneP y = 0) (hm : l.length ≤ 1000) (hn : (l.length : Int) ≤ n) (h1 : 1 ≤ n) :
    ∀ (m i k : Nat), i + m = l.length → m + 13 ≤ k → estoversref07_Fill.l0 k (kept (fun y => overlapP x y) (l.take i)) (i : Int) n l x.f0 x.f1 x.f2 = some (n, shifted n (kept (fun y => overlapP x y) l) ++ [x], 0)
  | 0, i, k, hi, hk => by
    obtain ⟨k, rfl⟩ : ∃ q, k = q + 1 := ⟨k - 1, by omega⟩
    have hkl := kept_len (fun y => overlapP x y) l
    rw [estoversref07_Fill.l0, if_neg (by omega), List.take_of_length_le (by omega)]
    unfold shifted
    by_cases h : ((kept (fun y => overlapP x y) l).length : Int) = n
    · rw [if_pos (by omega), if_pos (by omega), if_pos h]
      simp only [Option.bind_some]
      rw [if_pos (by rw [List.length_drop]; omega)]
      rfl
    · rw [if_neg (by omega), if_neg h, if_pos (by omega)]
  | m + 1, i, k, hi, hk => by
    obtain ⟨k, rfl⟩ : ∃ q, k = q + 1 := ⟨k - 1, by omega⟩
    have hil : i < l.length := by omega
    have hkl : (kept (fun y => overlapP x y) (l.take i)).length ≤ 1000 := Nat.le_trans (kept_len _ _) (by rw [List.length_take]; omega)
    have ih := rfill_l0 n l x hx vx hl hv hm hn h1 m (i + 1) k (by omega) (by omega)
    rw [kept_at _ l i hil] at ih
    obtain ⟨q, rfl⟩ : ∃ q, k = q + 11 := ⟨k - 11, by omega⟩
    rw [estoversref07_Fill.l0, if_pos (by omega), if_pos (by omega), rd_get l i hil, rover_eq q l[i] x (hl _ (List.getElem_mem hil)) hx (hv _ (List.getElem_mem hil)) vx, Option.bind_some, w64 (by omega) (by omega), show (i : Int) + 1 = ((i + 1 : Nat) : Int) by omega, overlap_symm (hv _ (List.getElem_mem hil)) vx]
    by_cases ho : overlapP x l[i] = true
    · rw [if_pos ho]; rw [if_pos ho] at ih; exact ih
    · rw [if_neg ho, if_pos (by omega)]; rw [if_neg ho] at ih; exact ih
theorem rfill_tail (n : Int) (l : List E) (s p w : Int) (hw : inU w = true) (hl : ∀ y ∈ l, okw y = true) (hm : l.length ≤ 1000) (hc : checkP n l = 0) (hp : placeP s p = 0) (k : Nat) (hk : l.length + 20 ≤ k) :
    estoversref07_Fill.j0 k s p w false n l = some (if trOk w = false then (0, [], 3) else (n, shifted n (kept (fun y => overlapP ⟨s, pageOf p w, w⟩ y) l) ++ [⟨s, pageOf p w, w⟩], 0)) := by
  obtain ⟨k, rfl⟩ : ∃ q, k = q + 3 := ⟨k - 3, by omega⟩
  rw [estoversref07_Fill.j0, if_neg (by simp), rtransl_eq k w hw, Option.bind_some]
  cases ht : trOk w with
  | false => simp
  | true =>
    have h := rfill_l0 n l ⟨s, pageOf p w, w⟩ hw (page_valid hp ht) hl (check_valid hc) hm (check_fits hc) (check_one hc) l.length 0 (k + 1) (by omega) (by omega)
    rw [List.take_zero] at h
    have e : ∀ pg, pg = pageOf p w → estoversref07_Fill.j1 (k + 2) n l s pg w = some (n, shifted n (kept (fun y => overlapP ⟨s, pageOf p w, w⟩ y) l) ++ [⟨s, pageOf p w, w⟩], 0) := by
      rintro pg rfl
      rw [estoversref07_Fill.j1]
      exact h
    simp only [if_true, Bool.true_eq_false, if_false]
    by_cases hh : trHuge w = true
    · rw [if_pos hh]
      unfold estoversref07_group.f
      rw [Option.bind_some]
      exact e _ (by unfold pageOf; rw [if_pos hh])
    · rw [if_neg hh]
      exact e _ (by unfold pageOf; rw [if_neg hh])
theorem rfill_eq (n : Int) (l : List E) (s p w : Int) (hw : inU w = true) (hl : ∀ y ∈ l, okw y = true) (hm : l.length ≤ 1000) (k : Nat) (hk : 20 + l.length * (l.length + 3) ≤ k) : estoversref07_Fill.f k n l s p w = some (fillP n l s p w) := by
  have hk2 : l.length * 1 ≤ l.length * (l.length + 3) := Nat.mul_le_mul_left _ (by omega)
  unfold estoversref07_Fill.f fillP
  rw [rcheck_eq l n hl hm k (by omega), Option.bind_some]
  by_cases hc : checkP n l = 0
  · rw [if_pos hc, if_neg (by simp [hc]), rspace_eq, Option.bind_some, rpage_eq]
    have bad : ∀ b, b = true → estoversref07_Fill.j0 k s p w b n l = some (0, [], 2) := by
      rintro b rfl
      obtain ⟨q, rfl⟩ : ∃ q, k = q + 1 := ⟨k - 1, by omega⟩
      rw [estoversref07_Fill.j0, if_pos rfl]
    by_cases hp : placeP s p = 0
    · obtain ⟨s0, s1, p0, p1⟩ := place_zero.1 hp
      rw [if_pos (by simp; omega), Option.bind_some, if_neg (by simp [hp]), show (!(decide (0 ≤ p) && decide (p < 512))) = false by simp; omega]
      exact rfill_tail n l s p w hw hl hm hc hp k (by omega)
    · rw [if_pos hp, place_two hp]
      have hz : ¬ (0 ≤ s ∧ s < 8 ∧ 0 ≤ p ∧ p < 512) := fun h => hp (place_zero.2 h)
      split
      · rename_i hs
        simp at hs
        rw [Option.bind_some]
        exact bad _ (by simp; omega)
      · exact bad _ rfl
  · rw [if_neg hc, if_pos hc]
end Go.Proofs.Ytkbnhphcmlljgaa.TlbRef
