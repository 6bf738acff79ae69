-- Pruned (wip/prune) from a text that the kit's print wrote for this seat.
import Derived.Test.YtkbnhphcmlljgaaWN
namespace Go.Proofs.YtkbnhphcmlljgaaW.PrintWords
open Go.RowKit
namespace Kd
end Kd
end Go.Proofs.YtkbnhphcmlljgaaW.PrintWords
