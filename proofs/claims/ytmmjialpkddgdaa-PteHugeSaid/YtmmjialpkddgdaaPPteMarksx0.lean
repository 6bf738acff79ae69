-- PRINTED BY print.sh 35421559b90ae4d0a3588c463048766b98c2df88dd9212a6774a882060cdf62d: not written by this session
import Derived.Test.YtmmjialpkddgdaaProg
import Derived.Below
import Derived.Deep.Draws
import Derived.Deep.AppendLies
import Derived.Maps.AppendAt
import Derived.OwnWalk
import Derived.Laws.BytesArg
import Derived.Laws.MakeOwn
import Derived.Laws.OwnMore
import Derived.Deep.OwnRows
import Derived.Tactics
import Derived.Lib.ConvBytes
import Derived.Laws.Slices
import Derived.WalkKit
import Derived.KernelRfl
import Derived.RowKit3
import Derived.Deep.LoopGhost
import Derived.Deep.QuietTactic
import Derived.BigQuiet
import Derived.WideLaws
import Derived.Deep.DeepCutAuto
import Derived.Deep.CutBlock
import Derived.Deep.RegionHeld3
import Derived.Laws.Rows
import Derived.Lib.AppendStr
import Derived.ArgAppend
import Derived.Laws.IdiomCopy
import Derived.OrdersHeld
import Derived.Laws.BitsLemmas
import Derived.RowKit
import Derived.Test.YtmmjialpkddgdaaWWords
import Derived.Test.YtmmjialpkddgdaaWLast
import Derived.Test.YtmmjialpkddgdaaWTab
import Derived.Test.YtmmjialpkddgdaaWFour
import Derived.Test.YtmmjialpkddgdaaWQPut
import Derived.Test.YtmmjialpkddgdaaWApart
import Derived.Test.YtmmjialpkddgdaaWArr
import Derived.Test.YtmmjialpkddgdaaWZeros
import Derived.Test.YtmmjialpkddgdaaWFoot
import Derived.Test.YtmmjialpkddgdaaWKept
import Derived.Test.YtmmjialpkddgdaaWShare
import Derived.Test.YtmmjialpkddgdaaWN
import Derived.Test.YtmmjialpkddgdaaWFootNe
import Derived.Test.YtmmjialpkddgdaaWAt
import Derived.Test.YtmmjialpkddgdaaWEqStruct
import Derived.Test.YtmmjialpkddgdaaWRepsOne
import Derived.Test.YtmmjialpkddgdaaWInv
import Derived.Test.YtmmjialpkddgdaaWInvWords
import Derived.Test.YtmmjialpkddgdaaWGuard
import Derived.Test.YtmmjialpkddgdaaWNEv
import Derived.Test.YtmmjialpkddgdaaWMore
namespace Go.Proofs.Ytmmjialpkddgdaa.PPteMarks
open Go.RowKit Go.Proofs.YtmmjialpkddgdaaW.PrintWords Go.Proofs.YtmmjialpkddgdaaW.PrintLast Go.Proofs.YtmmjialpkddgdaaW.PrintMore
attribute [local go_sem] max2_int min2_int max_two min_two max_three min_three max_four min_four   -- for this text's walks alone
set_option linter.unusedVariables false
set_option linter.unusedSimpArgs false



def errW : Option Int → Value
  | none => .nilIface
  | some c => .iface 0 (.int .i64 c)
theorem errW_none : errW none = .nilIface := rfl
theorem errW_some (c : Int) : errW (some c) = .iface 0 (.int .i64 c) := rfl

-- the values' own types

end Go.Proofs.Ytmmjialpkddgdaa.PPteMarks
