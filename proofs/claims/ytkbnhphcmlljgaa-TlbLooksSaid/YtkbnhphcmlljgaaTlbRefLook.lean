/- Lookup and Covers, the program's and the reference's. -/
import Derived.Test.YtkbnhphcmlljgaaTlbRefC
import Derived.Test.YtkbnhphcmlljgaaHandOver
import Derived.Test.YtkbnhphcmlljgaaPx6
import Derived.Test.YtkbnhphcmlljgaaPx13
set_option linter.unusedVariables false
set_option linter.unusedSimpArgs false
namespace Go.Proofs.Ytkbnhphcmlljgaa.TlbRef
open Go.RowKit Go.Proofs.Ytkbnhphcmlljgaa.P Go.Proofs.Ytkbnhphcmlljgaa.Pte Go.Proofs.Ytkbnhphcmlljgaa.TlbP Go.Proofs.Ytkbnhphcmlljgaa.Hand Go.Proofs.YtkbnhphcmlljgaaW.PrintWords

/-- What a look-up answers. -/
def lookP (l : List E) (s p : Int) : Int × Bool := match l with
  | [] => (0, false)
  | x :: r => if coversP x s p = true then (x.f2, true) else lookP r s p
theorem look_at (l : List E) (s p : Int) (i : Nat) (hi : i < l.length) : lookP (l.drop i) s p = if coversP l[i] s p = true then (l[i].f2, true) else lookP (l.drop (i + 1)) s p := by
  rw [List.drop_eq_getElem_cons hi]; rfl
theorem plook_l0 (l : List E) (s p : Int) (hl : ∀ x ∈ l, okw x = true) (hm : l.length ≤ 1000) : ∀ (m i k : Nat), i + m = l.length → m + 4 ≤ k → tlb_Lookup.l0 k s p l (l.length : Int) (i : Int) = some (lookP (l.drop i) s p)
  | 0, i, k, hi, hk => by
    obtain ⟨k, rfl⟩ : ∃ q, k = q + 1 := ⟨k - 1, by omega⟩
    rw [tlb_Lookup.l0, if_neg (by omega), List.drop_eq_nil_of_le (by omega)]; rfl
  | m + 1, i, k, hi, hk => by
    obtain ⟨k, rfl⟩ : ∃ q, k = q + 1 := ⟨k - 1, by omega⟩
    have hil : i < l.length := by omega
    have ih := plook_l0 l s p hl hm m (i + 1) k (by omega) (by omega)
    obtain ⟨q, rfl⟩ : ∃ q, k = q + 3 := ⟨k - 3, by omega⟩
    rw [tlb_Lookup.l0, if_pos (by omega), if_pos (by omega), if_pos (by omega), rd_get l i hil, covers_eq q l[i] s p (hl _ (List.getElem_mem hil)), Option.bind_some, w64 (by omega) (by omega), show (i : Int) + 1 = ((i + 1 : Nat) : Int) by omega, ih, look_at l s p i hil]
    cases coversP l[i] s p <;> simp
theorem plook_eq (n : Int) (l : List E) (s p : Int) (hl : ∀ x ∈ l, okw x = true) (hm : l.length ≤ 1000) (k : Nat) (hk : l.length + 4 ≤ k) : tlb_Lookup.f k n l s p = some (if checkP n l = 0 then lookP l s p else (0, false)) := by
  unfold tlb_Lookup.f
  rw [pcheck_eq n l hl, Option.bind_some]
  by_cases h : checkP n l = 0
  · rw [if_pos h, if_pos h]
    have := plook_l0 l s p hl hm l.length 0 k (by omega) hk
    simpa using this
  · rw [if_neg h, if_neg h]
theorem pcovers_eq (n : Int) (l : List E) (s p : Int) (hl : ∀ x ∈ l, okw x = true) (hm : l.length ≤ 1000) (k : Nat) (hk : l.length + 4 ≤ k) : tlb_Covers.f k n l s p = some (if checkP n l = 0 then lookP l s p else (0, false)).2 := by
  unfold tlb_Covers.f
  rw [plook_eq n l s p hl hm k hk, Option.bind_some]
theorem rlook_l0 (n : Int) (l : List E) (s p : Int) (hp : p ≤ 9223372036854775807) (hl : ∀ x ∈ l, okw x = true) (hv : ∀ x ∈ l, oneP x = 0) (hm : l.length ≤ 1000) : ∀ (m i k : Nat), i + m = l.length → m + 4 ≤ k → estoversref07_Lookup.l0 k s p (i : Int) n l = some (lookP (l.drop i) s p)
  | 0, i, k, hi, hk => by
    obtain ⟨k, rfl⟩ : ∃ q, k = q + 1 := ⟨k - 1, by omega⟩
    rw [estoversref07_Lookup.l0, if_neg (by omega), List.drop_eq_nil_of_le (by omega)]; rfl
  | m + 1, i, k, hi, hk => by
    obtain ⟨k, rfl⟩ : ∃ q, k = q + 1 := ⟨k - 1, by omega⟩
    have hil : i < l.length := by omega
    have ih := rlook_l0 n l s p hp hl hv hm m (i + 1) k (by omega) (by omega)
    obtain ⟨q, rfl⟩ : ∃ q, k = q + 2 := ⟨k - 2, by omega⟩
    rw [estoversref07_Lookup.l0, if_pos (by omega), if_pos (by omega), rd_get l i hil, rhits_eq q l[i] s p (hl _ (List.getElem_mem hil)), Option.bind_some, w64 (by omega) (by omega), show (i : Int) + 1 = ((i + 1 : Nat) : Int) by omega, ih, look_at l s p i hil, covers_hits (hv _ (List.getElem_mem hil)) s p hp]
    cases hitsP l[i] s p <;> simp
theorem rlook_eq (n : Int) (l : List E) (s p : Int) (hp : p ≤ 9223372036854775807) (hl : ∀ x ∈ l, okw x = true) (hm : l.length ≤ 1000) (k : Nat) (hk : 14 + l.length * (l.length + 3) ≤ k) : estoversref07_Lookup.f k n l s p = some (if checkP n l = 0 then lookP l s p else (0, false)) := by
  unfold estoversref07_Lookup.f
  rw [rcheck_eq l n hl hm k hk, Option.bind_some]
  by_cases h : checkP n l = 0
  · rw [if_pos h, if_pos h]
    have := rlook_l0 n l s p hp hl (check_valid h) hm l.length 0 k (by omega) (by have : l.length * 1 ≤ l.length * (l.length + 3) := Nat.mul_le_mul_left _ (by omega); omega)
    simpa using this
  · rw [if_neg h, if_neg h]
end Go.Proofs.Ytkbnhphcmlljgaa.TlbRef
