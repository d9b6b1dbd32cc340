/- Each Go function here comes to what the plain function of its name says, where that says something. Made by a program of this session, over the print. -/
import Derived.Test.YtehldidejgpifaaProg
import Derived.Shelf.Strings.Repeat
import Derived.Below
import Derived.Deep.Draws
import Derived.Deep.AppendLies
import Derived.Maps.AppendAt
import Derived.OwnWalk
import Derived.Laws.BytesArg
import Derived.Laws.MakeOwn
import Derived.Laws.OwnMore
import Derived.Deep.OwnRows
import Derived.Tactics
import Derived.Lib.ConvBytes
import Derived.Laws.Slices
import Derived.WalkKit
import Derived.KernelRfl
import Derived.RowKit3
import Derived.Deep.LoopGhost
import Derived.Deep.QuietTactic
import Derived.BigQuiet
import Derived.WideLaws
import Derived.Deep.DeepCutAuto
import Derived.Deep.CutBlock
import Derived.Deep.RegionHeld3
import Derived.Laws.Rows
import Derived.Lib.AppendStr
import Derived.ArgAppend
import Derived.Laws.IdiomCopy
import Derived.OrdersHeld
import Derived.Laws.BitsLemmas
import Derived.RowKit
import Derived.Test.YtehldidejgpifaaWWords
import Derived.Test.YtehldidejgpifaaWLast
import Derived.Test.YtehldidejgpifaaWTab
import Derived.Test.YtehldidejgpifaaWFour
import Derived.Test.YtehldidejgpifaaWQPut
import Derived.Test.YtehldidejgpifaaWApart
import Derived.Test.YtehldidejgpifaaWArr
import Derived.Test.YtehldidejgpifaaWZeros
import Derived.Test.YtehldidejgpifaaWFoot
import Derived.Test.YtehldidejgpifaaWKept
import Derived.Test.YtehldidejgpifaaWShare
import Derived.Test.YtehldidejgpifaaWN
import Derived.Test.YtehldidejgpifaaWFootNe
import Derived.Test.YtehldidejgpifaaWAt
import Derived.Test.YtehldidejgpifaaWEqStruct
import Derived.Test.YtehldidejgpifaaWRepsOne
import Derived.Test.YtehldidejgpifaaWInv
import Derived.Test.YtehldidejgpifaaWInvWords
import Derived.Test.YtehldidejgpifaaWGuard
import Derived.Test.YtehldidejgpifaaWNEv
import Derived.Test.YtehldidejgpifaaWMore
namespace Go.Proofs.Ytehldidejgpifaa.PFnExactPadBytes
open Go.RowKit Go.Proofs.YtehldidejgpifaaW.PrintWords Go.Proofs.YtehldidejgpifaaW.PrintLast Go.Proofs.YtehldidejgpifaaW.PrintMore
attribute [local go_sem] max2_int min2_int max_two min_two max_three min_three max_four min_four   -- for this text's walks alone
set_option linter.unusedVariables false
set_option linter.unusedSimpArgs false



def errW : Option Int → Value
  | none => .nilIface
  | some c => .iface 0 (.int .i64 c)
theorem errW_none : errW none = .nilIface := rfl
theorem errW_some (c : Int) : errW (some c) = .iface 0 (.int .i64 c) := rfl

theorem info5 : (Try.prog.info? 5).map (fun i => (i.zero, i.size, i.bytes)) = some (some (.int .u8 0), 1, 1) := by kernel_rfl
-- the values' own types

end Go.Proofs.Ytehldidejgpifaa.PFnExactPadBytes
