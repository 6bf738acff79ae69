-- Pruned (wip/prune) from a text that the kit's print wrote for this seat.
import Derived.Test.YtkbnhphcmlljgaaWInv
import Derived.Test.YtkbnhphcmlljgaaWFootNe
namespace Go.Proofs.YtkbnhphcmlljgaaW.PrintWords
open Go.RowKit
end Go.Proofs.YtkbnhphcmlljgaaW.PrintWords
namespace Go.Proofs.YtkbnhphcmlljgaaW.PrintLast
end Go.Proofs.YtkbnhphcmlljgaaW.PrintLast
