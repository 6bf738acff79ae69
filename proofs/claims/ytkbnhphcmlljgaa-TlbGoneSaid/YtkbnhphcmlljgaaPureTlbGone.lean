/- The law TlbGone: the walk and the arithmetic together. -/
import Derived.Test.YtkbnhphcmlljgaaHandGone
import Derived.Test.YtkbnhphcmlljgaaTlbRef
set_option linter.unusedVariables false
set_option linter.unusedSimpArgs false
namespace Go.Proofs.Ytkbnhphcmlljgaa.PureTlbGone
open Go.RowKit Go.Proofs.Ytkbnhphcmlljgaa.P Go.Proofs.Ytkbnhphcmlljgaa.TlbP Go.Proofs.Ytkbnhphcmlljgaa.TlbRef Go.Proofs.Ytkbnhphcmlljgaa.Hand Go.Proofs.YtkbnhphcmlljgaaW.PrintWords
theorem mul20 {n : Nat} (h : n ≤ 20) : n * (n + 3) ≤ 460 := Nat.le_trans (Nat.mul_le_mul h (Nat.add_le_add_right h 3)) (by decide)
theorem main (n : Int) (A : Option Addr) (c : Nat) (l : List E) (s p x : Int) (W : World) (hl : ∀ y ∈ l, okw y = true) (hx : inU x = true) (hC : Kd.C k42 W A l.length l) (hc : l.length ≤ c) :
    Calls Try.prog 10 #[.agg #[.int .i64 n, .slice A l.length c], .agg #[.int .i64 s, .int .i64 p], .int .u64 x] W fun e w' => e = .returned (.bool true) ∧ Below W.heap.size W w' := by
  by_cases hf : (l.length : Int) ≤ 20
  · have hfew : estoversref07_Few.f n l 20 = some true := by unfold estoversref07_Few.f; simpa using hf
    have h20 : l.length ≤ 20 := by omega
    have hmul := mul20 h20
    have hchk := rcheck_eq l n hl (by omega) 600 (by omega)
    by_cases hk : checkP n l = 0
    · rw [hk] at hchk
      have hg : GoodC n l := ⟨hk, hl⟩
      have pf := pfill_eq n l s p x hx hl
      have pz := pflush_eq n l s hl
      have tail : (∃ t1 t2 t3, t3 ≠ 0 ∧ tlb_Flush.f n l s = some (t1, t2, t3)) ∨ (tlb_Flush.f n l s = some (n, others s l, 0) ∧ tlb_Covers.f 600 n (others s l) s p = some false) := by
        by_cases hz : (flushP n l s).2.2 = 0
        · obtain ⟨e1, g1⟩ := flush_done hg hz
          refine .inr ⟨by rw [pz, e1], ?_⟩
          have hlen := others_len s l
          rw [pcovers_eq n (others s l) s p g1.2 (by omega) 600 (by omega), if_pos g1.1, others_not]
        · exact .inl ⟨_, _, _, hz, pz⟩
      by_cases he : (fillP n l s p x).2.2 = 0
      · obtain ⟨F, e1, gF, hL, Y, e2, gY, hY, hlen⟩ := fill_found hx hg he
        have hF16 := check_len gF.1
        have hlook : tlb_Lookup.f 600 n F s p = some (x, true) := by
          rw [plook_eq n F s p gF.2 (by omega) 600 (by omega), if_pos gF.1, hL]
        have hinv : tlb_Invalidate.f n F s p = some (n, Y, 0) := by rw [pinval_eq n F s p gF.2, e2]
        have hcov : tlb_Covers.f 600 n Y s p = some false := by
          rw [pcovers_eq n Y s p gY.2 (by omega) 600 (by omega), if_pos gY.1, hY]
        have hw : wrap64 ((Y.length : Int) + 1) = (F.length : Int) := by rw [w64 (by omega) (by omega)]; omega
        rw [e1] at pf
        rcases tail with ⟨t1, t2, t3, h3, h4⟩ | ⟨h3, h4⟩
        · exact gone_ok_err n A c l s p x W hC hc hfew hchk F Y pf hlook hinv hcov hw t1 t2 t3 h3 h4
        · exact gone_ok_ok n A c l s p x W hC hc hfew hchk F Y pf hlook hinv hcov hw (by omega) h3 h4
      · rcases tail with ⟨t1, t2, t3, h3, h4⟩ | ⟨h3, h4⟩
        · exact gone_err_err n A c l s p x W hC hc hfew hchk _ _ _ he pf t1 t2 t3 h3 h4
        · exact gone_err_ok n A c l s p x W hC hc hfew hchk _ _ _ he pf (by omega) h3 h4
    · exact gone_check n A c l s p x W hC hc hfew _ hk hchk
  · exact gone_few n A c l s p x W hC hc (by unfold estoversref07_Few.f; simpa using hf)
end Go.Proofs.Ytkbnhphcmlljgaa.PureTlbGone
