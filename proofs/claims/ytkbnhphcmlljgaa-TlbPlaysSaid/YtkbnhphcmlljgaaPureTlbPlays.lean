/- The law TlbPlays: the walk and the arithmetic together. -/
import Derived.Test.YtkbnhphcmlljgaaHandPlays
set_option linter.unusedVariables false
set_option linter.unusedSimpArgs false
namespace Go.Proofs.Ytkbnhphcmlljgaa.PureTlbPlays
open Go.RowKit Go.Proofs.Ytkbnhphcmlljgaa.P Go.Proofs.Ytkbnhphcmlljgaa.TlbP Go.Proofs.Ytkbnhphcmlljgaa.TlbRef Go.Proofs.Ytkbnhphcmlljgaa.Hand Go.Proofs.Ytkbnhphcmlljgaa.Opens Go.Proofs.YtkbnhphcmlljgaaW.PrintWords
theorem main (x : Int) (A : Option Addr) (c : Nat) (l : List S49) (h0 : 0 ≤ x ∧ x ≤ 255) (hw : ∀ y ∈ l, wfO (y.f0, y.f1, y.f2, y.f3)) (hx : ∀ o ∈ l, inU o.f3 = true) (W : World) (hC : Kd.C k49 W A l.length l) (hc : l.length ≤ c) :
    Calls Try.prog 8 #[.int .u8 x, .slice A l.length c] W fun e w' => e = .returned (.bool true) ∧ Below W.heap.size W w' := by
  by_cases hm : (30 : Int) < (l.length : Int)
  · exact plays_long x A c l.length hm W
  · have e : wrap64 (1 + Int.tmod (wrap64 x) 16) = 1 + x % 16 := by
      rw [w64 (x := x) (by omega) (by omega), Int.tmod_eq_emod_of_nonneg h0.1, w64 (by omega) (by omega)]
    have h1 : tlb_New.f (wrap64 (1 + Int.tmod (wrap64 x) 16)) = some (1 + x % 16, [], 0) := by
      rw [e]; unfold tlb_New.f
      rw [if_neg (by omega), if_neg (by omega)]
    have h2 : estoversref07_New.f (wrap64 (1 + Int.tmod (wrap64 x) 16)) = some (1 + x % 16, [], 0) := by
      rw [e]; unfold estoversref07_New.f
      first
        | rw [if_neg (by omega), if_neg (by omega)]
        | simp; omega
    refine plays_walk x (1 + x % 16) A c l h1 h2 (by omega) (by omega) (by omega) (fun o ho => ⟨hx o ho, ?_⟩) W hC hc
    exact (wf_bounds (hw o ho).2.2.1).2
end Go.Proofs.Ytkbnhphcmlljgaa.PureTlbPlays
