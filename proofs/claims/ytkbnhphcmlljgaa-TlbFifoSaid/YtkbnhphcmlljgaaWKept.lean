-- Pruned (wip/prune) from a text that the kit's print wrote for this seat.
import Derived.Test.YtkbnhphcmlljgaaWFoot
namespace Go.Proofs.YtkbnhphcmlljgaaW.PrintWords
open Go.RowKit
def Kept (w W : World) (S : Nat → Prop) : Prop := w.heap.size ≤ W.heap.size ∧ ∀ i, i < w.heap.size → ¬ S i → W.heap[i]? = w.heap[i]?
section
variable {w W W2 : World} {S S2 S' : Nat → Prop}
theorem Kept.drewN (h : Kept w W S) (m : Nat) : Kept w (W.drewN m) S := h
end
namespace Kd
end Kd
end Go.Proofs.YtkbnhphcmlljgaaW.PrintWords
