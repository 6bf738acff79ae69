/- What a valid cache is, for the laws. -/
import Derived.Test.YtkbnhphcmlljgaaTlbRef
import Derived.Test.YtkbnhphcmlljgaaHandFill
set_option linter.unusedVariables false
set_option linter.unusedSimpArgs false
namespace Go.Proofs.Ytkbnhphcmlljgaa.TlbRef
open Go.RowKit Go.Proofs.Ytkbnhphcmlljgaa.P Go.Proofs.Ytkbnhphcmlljgaa.Pte Go.Proofs.Ytkbnhphcmlljgaa.TlbP Go.Proofs.Ytkbnhphcmlljgaa.Hand Go.Proofs.YtkbnhphcmlljgaaW.PrintWords

theorem rsame_l0 (n : Int) (l : List E) (hm : l.length ≤ 100000) : ∀ (m i k : Nat), i + m = l.length → m + 1 ≤ k → estoversref07_Same.l0 k (i : Int) n l n l = some true
  | 0, i, k, hi, hk => by
    obtain ⟨k, rfl⟩ : ∃ q, k = q + 1 := ⟨k - 1, by omega⟩
    rw [estoversref07_Same.l0, if_neg (by omega)]
  | m + 1, i, k, hi, hk => by
    obtain ⟨k, rfl⟩ : ∃ q, k = q + 1 := ⟨k - 1, by omega⟩
    rw [estoversref07_Same.l0, if_pos (by omega), if_pos (by omega), if_pos (by omega), w64 (by omega) (by omega), show (i : Int) + 1 = ((i + 1 : Nat) : Int) by omega, rsame_l0 n l hm m (i + 1) k (by omega) (by omega)]
    simp
theorem rsame_refl (n : Int) (l : List E) (hm : l.length ≤ 100000) (k : Nat) (hk : l.length + 2 ≤ k) : estoversref07_Same.f k n l n l = some true := by
  obtain ⟨k, rfl⟩ : ∃ q, k = q + 1 := ⟨k - 1, by omega⟩
  unfold estoversref07_Same.f
  rw [if_pos rfl]
  have h := rsame_l0 n l hm l.length 0 k (by omega) (by omega)
  simp [estoversref07_Same.j0]
  simpa using h
end Go.Proofs.Ytkbnhphcmlljgaa.TlbRef
