/- Each Go function here comes to what the plain function of its name says, where that says something. Made by a program of this session, over the print. -/
import Derived.Test.YtnjgocbcbjmlcaaProg
import Derived.Below
import Derived.Deep.Draws
import Derived.Deep.AppendLies
import Derived.Maps.AppendAt
import Derived.OwnWalk
import Derived.Laws.BytesArg
import Derived.Laws.MakeOwn
import Derived.Laws.OwnMore
import Derived.Deep.OwnRows
import Derived.Tactics
import Derived.Lib.ConvBytes
import Derived.Laws.Slices
import Derived.WalkKit
import Derived.KernelRfl
import Derived.RowKit3
import Derived.Deep.LoopGhost
import Derived.Deep.QuietTactic
import Derived.BigQuiet
import Derived.WideLaws
import Derived.Deep.DeepCutAuto
import Derived.Deep.CutBlock
import Derived.Deep.RegionHeld3
import Derived.Laws.Rows
import Derived.Lib.AppendStr
import Derived.ArgAppend
import Derived.Laws.IdiomCopy
import Derived.OrdersHeld
import Derived.Laws.BitsLemmas
import Derived.RowKit
import Derived.Test.YtnjgocbcbjmlcaaWWords
import Derived.Test.YtnjgocbcbjmlcaaWLast
import Derived.Test.YtnjgocbcbjmlcaaWTab
import Derived.Test.YtnjgocbcbjmlcaaWFour
import Derived.Test.YtnjgocbcbjmlcaaWQPut
import Derived.Test.YtnjgocbcbjmlcaaWApart
import Derived.Test.YtnjgocbcbjmlcaaWArr
import Derived.Test.YtnjgocbcbjmlcaaWZeros
import Derived.Test.YtnjgocbcbjmlcaaWFoot
import Derived.Test.YtnjgocbcbjmlcaaWKept
import Derived.Test.YtnjgocbcbjmlcaaWShare
import Derived.Test.YtnjgocbcbjmlcaaWN
import Derived.Test.YtnjgocbcbjmlcaaWFootNe
import Derived.Test.YtnjgocbcbjmlcaaWAt
import Derived.Test.YtnjgocbcbjmlcaaWEqStruct
import Derived.Test.YtnjgocbcbjmlcaaWRepsOne
import Derived.Test.YtnjgocbcbjmlcaaWInv
import Derived.Test.YtnjgocbcbjmlcaaWInvWords
import Derived.Test.YtnjgocbcbjmlcaaWGuard
import Derived.Test.YtnjgocbcbjmlcaaWNEv
import Derived.Test.YtnjgocbcbjmlcaaWMore
namespace Go.Proofs.Ytnjgocbcbjmlcaa.PFnExactConstants
open Go.RowKit Go.Proofs.YtnjgocbcbjmlcaaW.PrintWords Go.Proofs.YtnjgocbcbjmlcaaW.PrintLast Go.Proofs.YtnjgocbcbjmlcaaW.PrintMore
attribute [local go_sem] max2_int min2_int max_two min_two max_three min_three max_four min_four   -- for this text's walks alone
set_option linter.unusedVariables false
set_option linter.unusedSimpArgs false



def errW : Option Int → Value
  | none => .nilIface
  | some c => .iface 0 (.int .i64 c)
theorem errW_none : errW none = .nilIface := rfl
theorem errW_some (c : Int) : errW (some c) = .iface 0 (.int .i64 c) := rfl

-- the values' own types

end Go.Proofs.Ytnjgocbcbjmlcaa.PFnExactConstants
