/- Each Go function here comes to what the plain function of its name says, where that says something. Made by a program of this session, over the print. -/
import Derived.Test.YtngjbdijimapnabProg
import Derived.Lib.Bytealg
import Derived.Below
import Derived.Deep.Draws
import Derived.Deep.AppendLies
import Derived.Maps.AppendAt
import Derived.OwnWalk
import Derived.Laws.BytesArg
import Derived.Laws.MakeOwn
import Derived.Laws.OwnMore
import Derived.Deep.OwnRows
import Derived.Tactics
import Derived.Lib.ConvBytes
import Derived.Laws.Slices
import Derived.WalkKit
import Derived.KernelRfl
import Derived.RowKit3
import Derived.Deep.LoopGhost
import Derived.Deep.QuietTactic
import Derived.BigQuiet
import Derived.WideLaws
import Derived.Deep.DeepCutAuto
import Derived.Deep.CutBlock
import Derived.Deep.RegionHeld3
import Derived.Laws.Rows
import Derived.Lib.AppendStr
import Derived.ArgAppend
import Derived.Laws.IdiomCopy
import Derived.OrdersHeld
import Derived.Laws.BitsLemmas
import Derived.RowKit
import Derived.Test.YtngjbdijimapnabWWords
import Derived.Test.YtngjbdijimapnabWLast
import Derived.Test.YtngjbdijimapnabWTab
import Derived.Test.YtngjbdijimapnabWFour
import Derived.Test.YtngjbdijimapnabWQPut
import Derived.Test.YtngjbdijimapnabWApart
import Derived.Test.YtngjbdijimapnabWArr
import Derived.Test.YtngjbdijimapnabWZeros
import Derived.Test.YtngjbdijimapnabWFoot
import Derived.Test.YtngjbdijimapnabWKept
import Derived.Test.YtngjbdijimapnabWShare
import Derived.Test.YtngjbdijimapnabWN
import Derived.Test.YtngjbdijimapnabWFootNe
import Derived.Test.YtngjbdijimapnabWAt
import Derived.Test.YtngjbdijimapnabWEqStruct
import Derived.Test.YtngjbdijimapnabWRepsOne
import Derived.Test.YtngjbdijimapnabWInv
import Derived.Test.YtngjbdijimapnabWInvWords
import Derived.Test.YtngjbdijimapnabWGuard
import Derived.Test.YtngjbdijimapnabWNEv
import Derived.Test.YtngjbdijimapnabWMore
namespace Go.Proofs.Ytngjbdijimapnab.PFnExactReadHex
open Go.RowKit Go.Proofs.YtngjbdijimapnabW.PrintWords Go.Proofs.YtngjbdijimapnabW.PrintLast Go.Proofs.YtngjbdijimapnabW.PrintMore
attribute [local go_sem] max2_int min2_int max_two min_two max_three min_three max_four min_four   -- for this text's walks alone
set_option linter.unusedVariables false
set_option linter.unusedSimpArgs false



def errW : Option Int → Value
  | none => .nilIface
  | some c => .iface 0 (.int .i64 c)
theorem errW_none : errW none = .nilIface := rfl
theorem errW_some (c : Int) : errW (some c) = .iface 0 (.int .i64 c) := rfl

theorem info5 : (Try.prog.info? 5).map (fun i => (i.zero, i.size, i.bytes)) = some (some (.int .u8 0), 1, 1) := by kernel_rfl
-- the values' own types

end Go.Proofs.Ytngjbdijimapnab.PFnExactReadHex
