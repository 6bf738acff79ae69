-- Pruned (wip/prune) from a text that the kit's print wrote for this seat.
import Derived.Test.YtkbnhphcmlljgaaWFootNe
namespace Go.Proofs.YtkbnhphcmlljgaaW.PrintWords
open Go.RowKit
section
variable {w w' u : World} {m B g : Nat} {o : Obj} {row : Option Nat} {S : Nat → Prop} {a : Addr} {v : Value}
theorem kept_at (hq : w.drewN m = w') (h : Kept u w S) : Kept u w' S := by subst hq; exact Kept.drewN h m
end
namespace Kd
end Kd
end Go.Proofs.YtkbnhphcmlljgaaW.PrintWords
