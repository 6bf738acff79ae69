-- Pruned (wip/prune) from a text that the kit's print wrote for this seat.
import Derived.Test.YtkbnhphcmlljgaaWTab
namespace Go.Proofs.YtkbnhphcmlljgaaW.PrintLast
end Go.Proofs.YtkbnhphcmlljgaaW.PrintLast
