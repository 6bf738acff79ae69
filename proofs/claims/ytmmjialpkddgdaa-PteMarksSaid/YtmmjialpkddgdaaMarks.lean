/- Mark, Old and Protect answer as the reference's do: the law's own walk, over the contracts. -/
import Derived.Test.YtmmjialpkddgdaaPteCalls
namespace Go.Proofs.Ytmmjialpkddgdaa.PteMarksW
open Go.RowKit Go.Proofs.YtmmjialpkddgdaaW.PrintWords Go.Proofs.YtmmjialpkddgdaaW.PrintLast Go.Proofs.Ytmmjialpkddgdaa.Pte Go.Proofs.Ytmmjialpkddgdaa.PteCalls

/-- Two results of a call, one behind the other. -/
theorem below2 {B : Nat} {W w1 w2 : World} (h1 : Below B W w1) (hB : B ≤ w1.heap.size) (h2 : Below w1.heap.size w1 w2) : Below B W w2 ∧ B ≤ w2.heap.size := ⟨below_then h1 hB h2, Nat.le_trans hB h2.size⟩

set_option maxHeartbeats 2000000 in
theorem walk (x : Int) (wr : Bool) (h0 : 0 ≤ x) (h1 : x < 18446744073709551616) (W : World) : Calls Try.prog 8 #[.int .u64 x, .bool wr] W fun e W' => e = .returned (.bool true) ∧ Below W.heap.size W W' := by
  have ha := mark_calls x wr h0 h1
  have hb := rmark_calls x wr h0 h1
  have hc := old_calls x h0 h1
  have hd := rold_calls x h0 h1
  have he := protect_calls x h0 h1
  have hf := rprotect_calls x h0 h1
  generalize markP x wr = p at ha hb
  generalize oldP x = q at hc hd
  generalize protectP x = r at he hf
  obtain ⟨p1, p2⟩ := p
  obtain ⟨q1, q2⟩ := q
  obtain ⟨r1, r2⟩ := r
  go_enter Try.func8, Try.ntmps8
  go_wp2_with (first
    | (go_at_call 19; refine (ha _).mono ?_; rintro e w1 ⟨rfl, b1⟩)
    | (go_at_call 20; refine (hb _).mono ?_; rintro e w2 ⟨rfl, b2⟩)
    | (go_at_call 21; refine (hc _).mono ?_; rintro e w3 ⟨rfl, b3⟩)
    | (go_at_call 22; refine (hd _).mono ?_; rintro e w4 ⟨rfl, b4⟩)
    | (go_at_call 23; refine (he _).mono ?_; rintro e w5 ⟨rfl, b5⟩)
    | (go_at_call 24; refine (hf _).mono ?_; rintro e w6 ⟨rfl, b6⟩)
    | (go_at_call 14; refine (awake_calls _).mono ?_; rintro e w7 ⟨rfl, b7⟩))
  go_ret
  obtain ⟨c2, s2⟩ := below2 b1 b1.size b2
  obtain ⟨c3, s3⟩ := below2 c2 s2 b3
  obtain ⟨c4, s4⟩ := below2 c3 s3 b4
  obtain ⟨c5, s5⟩ := below2 c4 s4 b5
  obtain ⟨c6, s6⟩ := below2 c5 s5 b6
  exact ⟨rfl, (below2 c6 s6 b7).1⟩
end Go.Proofs.Ytmmjialpkddgdaa.PteMarksW
