/- The law TlbRemoves, in plain Lean. -/
import Derived.Test.YtkbnhphcmlljgaaTlbRefRem
import Derived.Test.YtkbnhphcmlljgaaPx19
set_option linter.unusedVariables false
set_option linter.unusedSimpArgs false
namespace Go.Proofs.Ytkbnhphcmlljgaa.PureTlbRemoves
open Go.RowKit Go.Proofs.Ytkbnhphcmlljgaa.P Go.Proofs.Ytkbnhphcmlljgaa.TlbP Go.Proofs.Ytkbnhphcmlljgaa.TlbRef Go.Proofs.YtkbnhphcmlljgaaW.PrintWords
theorem few_mul {l : List E} (h : l.length ≤ 20) : l.length * (l.length + 3) ≤ 460 := Nat.le_trans (Nat.mul_le_mul h (Nat.add_le_add_right h 3)) (by decide)
theorem inval_len (n : Int) (l : List E) (s p : Int) : (invalP n l s p).2.1.length ≤ l.length := by
  unfold invalP
  split
  · simp
  · split
    · simp
    · exact kept_len _ l
theorem flush_len (n : Int) (l : List E) (s : Int) : (flushP n l s).2.1.length ≤ l.length := by
  unfold flushP
  split
  · simp
  · split
    · simp
    · exact kept_len _ l
theorem main (n : Int) (l : List E) (s p : Int) (hp : p ≤ 9223372036854775807) (hl : ∀ y ∈ l, okw y = true) : estoverslaw07_TlbRemoves.f 600 n l s p = some true := by
  unfold estoverslaw07_TlbRemoves.f
  unfold estoversref07_Few.f
  rw [Option.bind_some]
  by_cases hf : (l.length : Int) ≤ 20
  · rw [if_pos (by simpa using hf)]
    have h20 : l.length ≤ 20 := by omega
    have hmul := few_mul h20
    rw [pinval_eq n l s p hl, rinval_eq n l s p hp hl (by omega) 600 (by omega), pflush_eq n l s hl, rflush_eq n l s hl (by omega) 600 (by omega)]
    have h1 := inval_len n l s p
    have h2 := flush_len n l s
    simp only [Option.bind_some, if_true]
    rw [rsame_refl _ _ (by omega) 600 (by omega), rsame_refl _ _ (by omega) 600 (by omega)]
    simp [estoverslaw07_awake.f]
  · rw [if_neg (by simpa using hf)]; rfl
end Go.Proofs.Ytkbnhphcmlljgaa.PureTlbRemoves
