/- The law TlbLooks, in plain Lean. -/
import Derived.Test.YtkbnhphcmlljgaaTlbRefLook
import Derived.Test.YtkbnhphcmlljgaaPx13
set_option linter.unusedVariables false
set_option linter.unusedSimpArgs false
namespace Go.Proofs.Ytkbnhphcmlljgaa.PureTlbLooks
open Go.RowKit Go.Proofs.Ytkbnhphcmlljgaa.P Go.Proofs.Ytkbnhphcmlljgaa.TlbP Go.Proofs.Ytkbnhphcmlljgaa.TlbRef Go.Proofs.YtkbnhphcmlljgaaW.PrintWords
theorem few_mul {l : List E} (h : l.length ≤ 20) : l.length * (l.length + 3) ≤ 460 := Nat.le_trans (Nat.mul_le_mul h (Nat.add_le_add_right h 3)) (by decide)
theorem main (n : Int) (l : List E) (s p : Int) (hp : p ≤ 9223372036854775807) (hl : ∀ y ∈ l, okw y = true) : estoverslaw07_TlbLooks.f 600 n l s p = some true := by
  unfold estoverslaw07_TlbLooks.f
  unfold estoversref07_Few.f
  rw [Option.bind_some]
  by_cases hf : (l.length : Int) ≤ 20
  · rw [if_pos (by simpa using hf)]
    have h20 : l.length ≤ 20 := by omega
    have hmul := few_mul h20
    rw [plook_eq n l s p hl (by omega) 600 (by omega), rlook_eq n l s p hp hl (by omega) 600 (by omega), pcovers_eq n l s p hl (by omega) 600 (by omega)]
    simp [estoverslaw07_awake.f]
  · rw [if_neg (by simpa using hf)]; rfl
end Go.Proofs.Ytkbnhphcmlljgaa.PureTlbLooks
