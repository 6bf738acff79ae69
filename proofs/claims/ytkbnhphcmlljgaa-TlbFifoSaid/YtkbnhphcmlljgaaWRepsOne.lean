-- Pruned (wip/prune) from a text that the kit's print wrote for this seat.
import Derived.Test.YtkbnhphcmlljgaaWWords
namespace Go.Proofs.YtkbnhphcmlljgaaW.PrintWords
end Go.Proofs.YtkbnhphcmlljgaaW.PrintWords
