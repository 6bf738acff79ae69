/- The law TlbFills, in plain Lean. -/
import Derived.Test.YtkbnhphcmlljgaaTlbRefFill
import Derived.Test.YtkbnhphcmlljgaaPx15
set_option linter.unusedVariables false
set_option linter.unusedSimpArgs false
namespace Go.Proofs.Ytkbnhphcmlljgaa.PureTlbFills
open Go.RowKit Go.Proofs.Ytkbnhphcmlljgaa.P Go.Proofs.Ytkbnhphcmlljgaa.TlbP Go.Proofs.Ytkbnhphcmlljgaa.TlbRef Go.Proofs.YtkbnhphcmlljgaaW.PrintWords
theorem few_mul {l : List E} (h : l.length ≤ 20) : l.length * (l.length + 3) ≤ 460 := Nat.le_trans (Nat.mul_le_mul h (Nat.add_le_add_right h 3)) (by decide)
theorem fill_len (n : Int) (l : List E) (s p w : Int) : (fillP n l s p w).2.1.length ≤ l.length + 1 := by
  unfold fillP
  split
  · simp
  · split
    · simp
    · split
      · simp
      · have := kept_len (fun y => overlapP ⟨s, pageOf p w, w⟩ y) l
        simp only [List.length_append, List.length_singleton]
        unfold shifted
        split
        · rw [List.length_drop]; omega
        · omega
theorem main (n : Int) (l : List E) (s p w : Int) (hw : inU w = true) (hl : ∀ y ∈ l, okw y = true) : estoverslaw07_TlbFills.f 600 n l s p w = some true := by
  unfold estoverslaw07_TlbFills.f
  unfold estoversref07_Few.f
  rw [Option.bind_some]
  by_cases hf : (l.length : Int) ≤ 20
  · rw [if_pos (by simpa using hf)]
    have h20 : l.length ≤ 20 := by omega
    have hmul := few_mul h20
    rw [pfill_eq n l s p w hw hl, rfill_eq n l s p w hw hl (by omega) 600 (by omega)]
    have h1 := fill_len n l s p w
    simp only [Option.bind_some, if_true]
    rw [rsame_refl _ _ (by omega) 600 (by omega)]
    simp [estoverslaw07_awake.f]
  · rw [if_neg (by simpa using hf)]; rfl
end Go.Proofs.Ytkbnhphcmlljgaa.PureTlbFills
