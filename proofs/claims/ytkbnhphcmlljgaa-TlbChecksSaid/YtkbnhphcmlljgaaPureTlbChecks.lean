/- The law TlbChecks, in plain Lean. -/
import Derived.Test.YtkbnhphcmlljgaaTlbRefC
import Derived.Test.YtkbnhphcmlljgaaPx12
set_option linter.unusedVariables false
set_option linter.unusedSimpArgs false
namespace Go.Proofs.Ytkbnhphcmlljgaa.PureTlbChecks
open Go.RowKit Go.Proofs.Ytkbnhphcmlljgaa.P Go.Proofs.Ytkbnhphcmlljgaa.TlbP Go.Proofs.Ytkbnhphcmlljgaa.TlbRef Go.Proofs.YtkbnhphcmlljgaaW.PrintWords
theorem few_mul {l : List E} (h : l.length ≤ 20) : l.length * (l.length + 3) ≤ 460 := Nat.le_trans (Nat.mul_le_mul h (Nat.add_le_add_right h 3)) (by decide)
theorem main (n : Int) (l : List E) (a : Int) (hl : ∀ y ∈ l, okw y = true) : estoverslaw07_TlbChecks.f 600 n l a = some true := by
  unfold estoverslaw07_TlbChecks.f
  unfold estoversref07_Few.f
  rw [Option.bind_some]
  by_cases hf : (l.length : Int) ≤ 20
  · rw [if_pos (by simpa using hf)]
    have h20 : l.length ≤ 20 := by omega
    have hmul := few_mul h20
    rw [pcheck_eq n l hl, rcheck_eq l n hl (by omega) 600 (by omega)]
    have hn : tlb_New.f a = estoversref07_New.f a := rfl
    have hsm : ∀ x, estoversref07_New.f a = some x → x.2.1 = [] := by
      intro x hx
      unfold estoversref07_New.f at hx
      split at hx
      · cases hx; rfl
      · split at hx <;> (cases hx; rfl)
    rw [hn]
    cases hx : estoversref07_New.f a with
    | none =>
      unfold estoversref07_New.f at hx
      split at hx
      · cases hx
      · split at hx <;> cases hx
    | some x =>
      have e := hsm x hx
      simp only [Option.bind_some, if_true]
      rw [rsame_refl x.1 x.2.1 (by rw [e]; simp) 600 (by rw [e]; simp)]
      simp [estoverslaw07_awake.f]
  · rw [if_neg (by simpa using hf)]; rfl
end Go.Proofs.Ytkbnhphcmlljgaa.PureTlbChecks
