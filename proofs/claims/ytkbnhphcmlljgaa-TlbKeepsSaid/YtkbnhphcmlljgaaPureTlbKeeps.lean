/- The law TlbKeeps: the walk's two cases together. -/
import Derived.Test.YtkbnhphcmlljgaaHandKeeps
set_option linter.unusedVariables false
set_option linter.unusedSimpArgs false
namespace Go.Proofs.Ytkbnhphcmlljgaa.PureTlbKeeps
open Go.RowKit Go.Proofs.Ytkbnhphcmlljgaa.P Go.Proofs.Ytkbnhphcmlljgaa.TlbP Go.Proofs.Ytkbnhphcmlljgaa.OwnQ Go.Proofs.YtkbnhphcmlljgaaW.PrintWords
theorem main (n : Int) (A : Option Addr) (c : Nat) (l : List E) (s p x : Int) (W : World) (hl : ∀ y ∈ l, okw y = true) (hx : inU x = true) (hC : Kd.C k42 W A l.length l) (hc : l.length ≤ c) :
    Calls Try.prog 11 #[.agg #[.int .i64 n, .slice A l.length c], .agg #[.int .i64 s, .int .i64 p], .int .u64 x] W fun e w' => e = .returned (.bool true) ∧ Below W.heap.size W w' := by
  by_cases hf : (l.length : Int) ≤ 20
  · exact keeps_main n A c l s p x W hC hc hl hx (by omega) (by unfold estoversref07_Few.f; simpa using hf)
  · exact keeps_few n A c l s p x W hC hc (by unfold estoversref07_Few.f; simpa using hf)
end Go.Proofs.Ytkbnhphcmlljgaa.PureTlbKeeps
