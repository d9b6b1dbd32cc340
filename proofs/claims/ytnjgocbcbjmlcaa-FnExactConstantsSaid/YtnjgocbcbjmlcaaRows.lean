/-
  No cell of these rows narrows 'for every input' (looked for: loops, veiled, ifaces, maps, wideKeys, modest, calm, conditions, laid).
  DERIVED. THE GIVEN ROWS OF THIS SEAT. 12 by the template 'for every input the law returns true; each argument reads behind the call as it read before'; 0 by the template 'total and deterministic' (their statements: YtnjgocbcbjmlcaaTotals.lean).
  GIVEN WITH THE SEED: the statements are not yours to turn. If you find one false, say at which input.
  Laid BY PROGRAM, IN A SANDBOX (cutbox-rows.mjs): the forced cells as the released guide's own fill.sh prints them over the translation 39892a70f10798a8… (all of the seat's roots in one cut). By AI agents, Wed Nov 11 2026. No macro, syntax, notation, axiom, sorry.
-/
import Derived.Test.YtnjgocbcbjmlcaaChecked
import GoSem.Claim
import GoSem.ClaimJoined
import GoSem.ClaimMapViews
import Derived.JoinedTies
import Derived.KernelRfl
namespace Go.Proofs.Ytnjgocbcbjmlcaa
/- THE CELL 'sum', in the pinned program and in every row, IS THE sha256 OF THE DUMP (.gsa) THAT YtnjgocbcbjmlcaaProg.lean LOADS. Nothing in Lean hashes anything: it is a label: what it is worth is what the hold of that sum in a sandbox is worth. -/
noncomputable def Try.pinned : Pinned := { name := "ytnjgocbcbjmlcaa", sum := "39892a70f10798a8da43e66a5de918d439b38a393b8476841d8ed6d8a4f3b1f3", checked := Try.checked }
namespace Rows
def none {H : Type} : Left H := { results := [], args := [] }

/-- 'laws.FnExactConstants': WHATEVER THE INPUT: true; the input reads as it did. -/
def fnExactConstantsSpec : ChangeSpec := { name := "fnExactConstants", fn := fun _ => fun
  | [] => { results := [.lit (.bool true)], args := [] }
  | _ => none }
def fnExactConstantsRow : OpenClaim := { program := "ytnjgocbcbjmlcaa", sum := "39892a70f10798a8da43e66a5de918d439b38a393b8476841d8ed6d8a4f3b1f3", func := "loop.example/g00904/laws.FnExactConstants", spec := "fnExactConstants", apart := false }
def FnExactConstantsSaid : Prop := fnExactConstantsRow.holds Try.pinned (OpenSpec.ofChange fnExactConstantsSpec)

/-- ITS FALSE NEIGHBOUR: 'it returns false'. Refute it at one input. -/
def fnExactConstantsWrong : ChangeSpec := { name := "fnExactConstants", fn := fun _ => fun
  | [] => { results := [.lit (.bool false)], args := [] }
  | _ => none }
def FnExactConstantsWrongFalsely : Prop := fnExactConstantsRow.holds Try.pinned (OpenSpec.ofChange fnExactConstantsWrong)

/-- 'laws.FnExactHexText': WHATEVER THE INPUT: true; the input reads as it did. -/
def fnExactHexTextSpec : ChangeSpec := { name := "fnExactHexText", fn := fun _ => fun
  | [d] => { results := [.lit (.bool true)], args := [d] }
  | _ => none }
def fnExactHexTextRow : OpenClaim := { program := "ytnjgocbcbjmlcaa", sum := "39892a70f10798a8da43e66a5de918d439b38a393b8476841d8ed6d8a4f3b1f3", func := "loop.example/g00904/laws.FnExactHexText", spec := "fnExactHexText", apart := false }
def FnExactHexTextSaid : Prop := fnExactHexTextRow.holds Try.pinned (OpenSpec.ofChange fnExactHexTextSpec)

/-- ITS FALSE NEIGHBOUR: 'it returns false'. Refute it at one input. -/
def fnExactHexTextWrong : ChangeSpec := { name := "fnExactHexText", fn := fun _ => fun
  | [d] => { results := [.lit (.bool false)], args := [d] }
  | _ => none }
def FnExactHexTextWrongFalsely : Prop := fnExactHexTextRow.holds Try.pinned (OpenSpec.ofChange fnExactHexTextWrong)

/-- 'laws.FnExactReverseBytes': WHATEVER THE INPUT: true; the input reads as it did. -/
def fnExactReverseBytesSpec : ChangeSpec := { name := "fnExactReverseBytes", fn := fun _ => fun
  | [d] => { results := [.lit (.bool true)], args := [d] }
  | _ => none }
def fnExactReverseBytesRow : OpenClaim := { program := "ytnjgocbcbjmlcaa", sum := "39892a70f10798a8da43e66a5de918d439b38a393b8476841d8ed6d8a4f3b1f3", func := "loop.example/g00904/laws.FnExactReverseBytes", spec := "fnExactReverseBytes", apart := false }
def FnExactReverseBytesSaid : Prop := fnExactReverseBytesRow.holds Try.pinned (OpenSpec.ofChange fnExactReverseBytesSpec)

/-- ITS FALSE NEIGHBOUR: 'it returns false'. Refute it at one input. -/
def fnExactReverseBytesWrong : ChangeSpec := { name := "fnExactReverseBytes", fn := fun _ => fun
  | [d] => { results := [.lit (.bool false)], args := [d] }
  | _ => none }
def FnExactReverseBytesWrongFalsely : Prop := fnExactReverseBytesRow.holds Try.pinned (OpenSpec.ofChange fnExactReverseBytesWrong)

/-- 'laws.FnExactValidSuper': WHATEVER THE INPUT: true; the input reads as it did. -/
def fnExactValidSuperSpec : ChangeSpec := { name := "fnExactValidSuper", fn := fun _ => fun
  | [d] => { results := [.lit (.bool true)], args := [d] }
  | _ => none }
def fnExactValidSuperRow : OpenClaim := { program := "ytnjgocbcbjmlcaa", sum := "39892a70f10798a8da43e66a5de918d439b38a393b8476841d8ed6d8a4f3b1f3", func := "loop.example/g00904/laws.FnExactValidSuper", spec := "fnExactValidSuper", apart := false }
def FnExactValidSuperSaid : Prop := fnExactValidSuperRow.holds Try.pinned (OpenSpec.ofChange fnExactValidSuperSpec)

/-- ITS FALSE NEIGHBOUR: 'it returns false'. Refute it at one input. -/
def fnExactValidSuperWrong : ChangeSpec := { name := "fnExactValidSuper", fn := fun _ => fun
  | [d] => { results := [.lit (.bool false)], args := [d] }
  | _ => none }
def FnExactValidSuperWrongFalsely : Prop := fnExactValidSuperRow.holds Try.pinned (OpenSpec.ofChange fnExactValidSuperWrong)

/-- 'laws.FnExactCodeName': WHATEVER THE INPUT: true; the input reads as it did. -/
def fnExactCodeNameSpec : ChangeSpec := { name := "fnExactCodeName", fn := fun _ => fun
  | [d] => { results := [.lit (.bool true)], args := [d] }
  | _ => none }
def fnExactCodeNameRow : OpenClaim := { program := "ytnjgocbcbjmlcaa", sum := "39892a70f10798a8da43e66a5de918d439b38a393b8476841d8ed6d8a4f3b1f3", func := "loop.example/g00904/laws.FnExactCodeName", spec := "fnExactCodeName", apart := false }
def FnExactCodeNameSaid : Prop := fnExactCodeNameRow.holds Try.pinned (OpenSpec.ofChange fnExactCodeNameSpec)

/-- ITS FALSE NEIGHBOUR: 'it returns false'. Refute it at one input. -/
def fnExactCodeNameWrong : ChangeSpec := { name := "fnExactCodeName", fn := fun _ => fun
  | [d] => { results := [.lit (.bool false)], args := [d] }
  | _ => none }
def FnExactCodeNameWrongFalsely : Prop := fnExactCodeNameRow.holds Try.pinned (OpenSpec.ofChange fnExactCodeNameWrong)

/-- 'laws.FnExactRecordBlocks': WHATEVER THE INPUT: true; the input reads as it did. -/
def fnExactRecordBlocksSpec : ChangeSpec := { name := "fnExactRecordBlocks", fn := fun _ => fun
  | [d] => { results := [.lit (.bool true)], args := [d] }
  | _ => none }
def fnExactRecordBlocksRow : OpenClaim := { program := "ytnjgocbcbjmlcaa", sum := "39892a70f10798a8da43e66a5de918d439b38a393b8476841d8ed6d8a4f3b1f3", func := "loop.example/g00904/laws.FnExactRecordBlocks", spec := "fnExactRecordBlocks", apart := false }
def FnExactRecordBlocksSaid : Prop := fnExactRecordBlocksRow.holds Try.pinned (OpenSpec.ofChange fnExactRecordBlocksSpec)

/-- ITS FALSE NEIGHBOUR: 'it returns false'. Refute it at one input. -/
def fnExactRecordBlocksWrong : ChangeSpec := { name := "fnExactRecordBlocks", fn := fun _ => fun
  | [d] => { results := [.lit (.bool false)], args := [d] }
  | _ => none }
def FnExactRecordBlocksWrongFalsely : Prop := fnExactRecordBlocksRow.holds Try.pinned (OpenSpec.ofChange fnExactRecordBlocksWrong)

/-- 'laws.FnExactIsName': WHATEVER THE INPUT: true; the input reads as it did. -/
def fnExactIsNameSpec : ChangeSpec := { name := "fnExactIsName", fn := fun _ => fun
  | [d] => { results := [.lit (.bool true)], args := [d] }
  | _ => none }
def fnExactIsNameRow : OpenClaim := { program := "ytnjgocbcbjmlcaa", sum := "39892a70f10798a8da43e66a5de918d439b38a393b8476841d8ed6d8a4f3b1f3", func := "loop.example/g00904/laws.FnExactIsName", spec := "fnExactIsName", apart := false }
def FnExactIsNameSaid : Prop := fnExactIsNameRow.holds Try.pinned (OpenSpec.ofChange fnExactIsNameSpec)

/-- ITS FALSE NEIGHBOUR: 'it returns false'. Refute it at one input. -/
def fnExactIsNameWrong : ChangeSpec := { name := "fnExactIsName", fn := fun _ => fun
  | [d] => { results := [.lit (.bool false)], args := [d] }
  | _ => none }
def FnExactIsNameWrongFalsely : Prop := fnExactIsNameRow.holds Try.pinned (OpenSpec.ofChange fnExactIsNameWrong)

/-- 'laws.FnSlabAlgebra': WHATEVER THE INPUT: true; the input reads as it did. -/
def fnSlabAlgebraSpec : ChangeSpec := { name := "fnSlabAlgebra", fn := fun _ => fun
  | [d] => { results := [.lit (.bool true)], args := [d] }
  | _ => none }
def fnSlabAlgebraRow : OpenClaim := { program := "ytnjgocbcbjmlcaa", sum := "39892a70f10798a8da43e66a5de918d439b38a393b8476841d8ed6d8a4f3b1f3", func := "loop.example/g00904/laws.FnSlabAlgebra", spec := "fnSlabAlgebra", unfollowed := true, recurses := true, apart := false }
def FnSlabAlgebraSaid : Prop := fnSlabAlgebraRow.holds Try.pinned (OpenSpec.ofChange fnSlabAlgebraSpec)

/-- ITS FALSE NEIGHBOUR: 'it returns false'. Refute it at one input. -/
def fnSlabAlgebraWrong : ChangeSpec := { name := "fnSlabAlgebra", fn := fun _ => fun
  | [d] => { results := [.lit (.bool false)], args := [d] }
  | _ => none }
def FnSlabAlgebraWrongFalsely : Prop := fnSlabAlgebraRow.holds Try.pinned (OpenSpec.ofChange fnSlabAlgebraWrong)

/-- 'laws.FnExactBlocksFor': WHATEVER THE INPUT: true; the input reads as it did. -/
def fnExactBlocksForSpec : ChangeSpec := { name := "fnExactBlocksFor", fn := fun _ => fun
  | [d] => { results := [.lit (.bool true)], args := [d] }
  | _ => none }
def fnExactBlocksForRow : OpenClaim := { program := "ytnjgocbcbjmlcaa", sum := "39892a70f10798a8da43e66a5de918d439b38a393b8476841d8ed6d8a4f3b1f3", func := "loop.example/g00904/laws.FnExactBlocksFor", spec := "fnExactBlocksFor", apart := false }
def FnExactBlocksForSaid : Prop := fnExactBlocksForRow.holds Try.pinned (OpenSpec.ofChange fnExactBlocksForSpec)

/-- ITS FALSE NEIGHBOUR: 'it returns false'. Refute it at one input. -/
def fnExactBlocksForWrong : ChangeSpec := { name := "fnExactBlocksFor", fn := fun _ => fun
  | [d] => { results := [.lit (.bool false)], args := [d] }
  | _ => none }
def FnExactBlocksForWrongFalsely : Prop := fnExactBlocksForRow.holds Try.pinned (OpenSpec.ofChange fnExactBlocksForWrong)

/-- 'laws.FnExactAreaBlock': WHATEVER THE INPUT: true; the input reads as it did. -/
def fnExactAreaBlockSpec : ChangeSpec := { name := "fnExactAreaBlock", fn := fun _ => fun
  | [d] => { results := [.lit (.bool true)], args := [d] }
  | _ => none }
def fnExactAreaBlockRow : OpenClaim := { program := "ytnjgocbcbjmlcaa", sum := "39892a70f10798a8da43e66a5de918d439b38a393b8476841d8ed6d8a4f3b1f3", func := "loop.example/g00904/laws.FnExactAreaBlock", spec := "fnExactAreaBlock", apart := false }
def FnExactAreaBlockSaid : Prop := fnExactAreaBlockRow.holds Try.pinned (OpenSpec.ofChange fnExactAreaBlockSpec)

/-- ITS FALSE NEIGHBOUR: 'it returns false'. Refute it at one input. -/
def fnExactAreaBlockWrong : ChangeSpec := { name := "fnExactAreaBlock", fn := fun _ => fun
  | [d] => { results := [.lit (.bool false)], args := [d] }
  | _ => none }
def FnExactAreaBlockWrongFalsely : Prop := fnExactAreaBlockRow.holds Try.pinned (OpenSpec.ofChange fnExactAreaBlockWrong)

/-- 'laws.FnExactDataFirst': WHATEVER THE INPUT: true; the input reads as it did. -/
def fnExactDataFirstSpec : ChangeSpec := { name := "fnExactDataFirst", fn := fun _ => fun
  | [d] => { results := [.lit (.bool true)], args := [d] }
  | _ => none }
def fnExactDataFirstRow : OpenClaim := { program := "ytnjgocbcbjmlcaa", sum := "39892a70f10798a8da43e66a5de918d439b38a393b8476841d8ed6d8a4f3b1f3", func := "loop.example/g00904/laws.FnExactDataFirst", spec := "fnExactDataFirst", apart := false }
def FnExactDataFirstSaid : Prop := fnExactDataFirstRow.holds Try.pinned (OpenSpec.ofChange fnExactDataFirstSpec)

/-- ITS FALSE NEIGHBOUR: 'it returns false'. Refute it at one input. -/
def fnExactDataFirstWrong : ChangeSpec := { name := "fnExactDataFirst", fn := fun _ => fun
  | [d] => { results := [.lit (.bool false)], args := [d] }
  | _ => none }
def FnExactDataFirstWrongFalsely : Prop := fnExactDataFirstRow.holds Try.pinned (OpenSpec.ofChange fnExactDataFirstWrong)

/-- 'laws.FnExactPutUint': WHATEVER THE INPUT: true; the input reads as it did. -/
def fnExactPutUintSpec : ChangeSpec := { name := "fnExactPutUint", fn := fun _ => fun
  | [d1, d2] => { results := [.lit (.bool true)], args := [d1, d2] }
  | _ => none }
def fnExactPutUintRow : OpenClaim := { program := "ytnjgocbcbjmlcaa", sum := "39892a70f10798a8da43e66a5de918d439b38a393b8476841d8ed6d8a4f3b1f3", func := "loop.example/g00904/laws.FnExactPutUint", spec := "fnExactPutUint", apart := false }
def FnExactPutUintSaid : Prop := fnExactPutUintRow.holds Try.pinned (OpenSpec.ofChange fnExactPutUintSpec)

/-- ITS FALSE NEIGHBOUR: 'it returns false'. Refute it at one input. -/
def fnExactPutUintWrong : ChangeSpec := { name := "fnExactPutUint", fn := fun _ => fun
  | [d1, d2] => { results := [.lit (.bool false)], args := [d1, d2] }
  | _ => none }
def FnExactPutUintWrongFalsely : Prop := fnExactPutUintRow.holds Try.pinned (OpenSpec.ofChange fnExactPutUintWrong)

/- THE SECOND FORM. 'bulk': how many values and letters a reading holds, each counted each time it is reached (what is shared counts as often as it is met; a slice's spare places count too). A statement '..UptoSaid' is the law's where the arguments, and the package variables that the reading takes, are together of bulk at most 1048576: NARROWER than '..Said'. Prove '..Said' where nothing that the law and all that it calls make is longer than what came in: it says more and counts as full. Else prove '..UptoSaid'. A law counts once. -/
mutual
def uptoBulk {H : Type} : DataW H → Nat
  | .lit (.string bytes) => bytes.length + 1
  | .lit _ => 1
  | .nil => 1
  | .ptr d => uptoBulk d + 1
  | .slice elems spare => uptoBulkAll elems + uptoBulkAll spare + 1
  | .agg parts => uptoBulkAll parts + 1
  | .iface _ d => uptoBulk d + 1
  | .map entries => uptoBulkEntries entries + 1
  | .held _ => 1
def uptoBulkAll {H : Type} : List (DataW H) → Nat
  | [] => 0
  | d :: r => uptoBulk d + uptoBulkAll r
def uptoBulkEntries {H : Type} : List (Lit × DataW H) → Nat
  | [] => 0
  | x :: r => uptoBulkEntry x + uptoBulkEntries r
def uptoBulkEntry {H : Type} : Lit × DataW H → Nat
  | (.string bytes, d) => bytes.length + uptoBulk d + 1
  | (_, d) => uptoBulk d + 1
 end
def uptoSmall : (H : Type) → List (DataW H) → Bool := fun _ ds => decide (uptoBulkAll ds ≤ 1048576)
def OpenSpec.upto (s : _root_.Go.ChangeSpec) : _root_.Go.OpenSpec := { _root_.Go.OpenSpec.ofChange s with cond := some uptoSmall }

/-- 'laws.FnExactConstants', WHERE WHAT IT READS IS OF BULK AT MOST 1048576: true; the input reads as it did. -/
def fnExactConstantsUptoRow : OpenClaim := { program := "ytnjgocbcbjmlcaa", sum := "39892a70f10798a8da43e66a5de918d439b38a393b8476841d8ed6d8a4f3b1f3", func := "loop.example/g00904/laws.FnExactConstants", spec := "fnExactConstants", apart := false, narrowed := true }
def FnExactConstantsUptoSaid : Prop := fnExactConstantsUptoRow.holds Try.pinned (OpenSpec.upto fnExactConstantsSpec)

/-- 'laws.FnExactHexText', WHERE WHAT IT READS IS OF BULK AT MOST 1048576: true; the input reads as it did. -/
def fnExactHexTextUptoRow : OpenClaim := { program := "ytnjgocbcbjmlcaa", sum := "39892a70f10798a8da43e66a5de918d439b38a393b8476841d8ed6d8a4f3b1f3", func := "loop.example/g00904/laws.FnExactHexText", spec := "fnExactHexText", apart := false, narrowed := true }
def FnExactHexTextUptoSaid : Prop := fnExactHexTextUptoRow.holds Try.pinned (OpenSpec.upto fnExactHexTextSpec)

/-- 'laws.FnExactReverseBytes', WHERE WHAT IT READS IS OF BULK AT MOST 1048576: true; the input reads as it did. -/
def fnExactReverseBytesUptoRow : OpenClaim := { program := "ytnjgocbcbjmlcaa", sum := "39892a70f10798a8da43e66a5de918d439b38a393b8476841d8ed6d8a4f3b1f3", func := "loop.example/g00904/laws.FnExactReverseBytes", spec := "fnExactReverseBytes", apart := false, narrowed := true }
def FnExactReverseBytesUptoSaid : Prop := fnExactReverseBytesUptoRow.holds Try.pinned (OpenSpec.upto fnExactReverseBytesSpec)

/-- 'laws.FnExactValidSuper', WHERE WHAT IT READS IS OF BULK AT MOST 1048576: true; the input reads as it did. -/
def fnExactValidSuperUptoRow : OpenClaim := { program := "ytnjgocbcbjmlcaa", sum := "39892a70f10798a8da43e66a5de918d439b38a393b8476841d8ed6d8a4f3b1f3", func := "loop.example/g00904/laws.FnExactValidSuper", spec := "fnExactValidSuper", apart := false, narrowed := true }
def FnExactValidSuperUptoSaid : Prop := fnExactValidSuperUptoRow.holds Try.pinned (OpenSpec.upto fnExactValidSuperSpec)

/-- 'laws.FnExactCodeName', WHERE WHAT IT READS IS OF BULK AT MOST 1048576: true; the input reads as it did. -/
def fnExactCodeNameUptoRow : OpenClaim := { program := "ytnjgocbcbjmlcaa", sum := "39892a70f10798a8da43e66a5de918d439b38a393b8476841d8ed6d8a4f3b1f3", func := "loop.example/g00904/laws.FnExactCodeName", spec := "fnExactCodeName", apart := false, narrowed := true }
def FnExactCodeNameUptoSaid : Prop := fnExactCodeNameUptoRow.holds Try.pinned (OpenSpec.upto fnExactCodeNameSpec)

/-- 'laws.FnExactRecordBlocks', WHERE WHAT IT READS IS OF BULK AT MOST 1048576: true; the input reads as it did. -/
def fnExactRecordBlocksUptoRow : OpenClaim := { program := "ytnjgocbcbjmlcaa", sum := "39892a70f10798a8da43e66a5de918d439b38a393b8476841d8ed6d8a4f3b1f3", func := "loop.example/g00904/laws.FnExactRecordBlocks", spec := "fnExactRecordBlocks", apart := false, narrowed := true }
def FnExactRecordBlocksUptoSaid : Prop := fnExactRecordBlocksUptoRow.holds Try.pinned (OpenSpec.upto fnExactRecordBlocksSpec)

/-- 'laws.FnExactIsName', WHERE WHAT IT READS IS OF BULK AT MOST 1048576: true; the input reads as it did. -/
def fnExactIsNameUptoRow : OpenClaim := { program := "ytnjgocbcbjmlcaa", sum := "39892a70f10798a8da43e66a5de918d439b38a393b8476841d8ed6d8a4f3b1f3", func := "loop.example/g00904/laws.FnExactIsName", spec := "fnExactIsName", apart := false, narrowed := true }
def FnExactIsNameUptoSaid : Prop := fnExactIsNameUptoRow.holds Try.pinned (OpenSpec.upto fnExactIsNameSpec)

/-- 'laws.FnSlabAlgebra', WHERE WHAT IT READS IS OF BULK AT MOST 1048576: true; the input reads as it did. -/
def fnSlabAlgebraUptoRow : OpenClaim := { program := "ytnjgocbcbjmlcaa", sum := "39892a70f10798a8da43e66a5de918d439b38a393b8476841d8ed6d8a4f3b1f3", func := "loop.example/g00904/laws.FnSlabAlgebra", spec := "fnSlabAlgebra", unfollowed := true, recurses := true, apart := false, narrowed := true }
def FnSlabAlgebraUptoSaid : Prop := fnSlabAlgebraUptoRow.holds Try.pinned (OpenSpec.upto fnSlabAlgebraSpec)

/-- 'laws.FnExactBlocksFor', WHERE WHAT IT READS IS OF BULK AT MOST 1048576: true; the input reads as it did. -/
def fnExactBlocksForUptoRow : OpenClaim := { program := "ytnjgocbcbjmlcaa", sum := "39892a70f10798a8da43e66a5de918d439b38a393b8476841d8ed6d8a4f3b1f3", func := "loop.example/g00904/laws.FnExactBlocksFor", spec := "fnExactBlocksFor", apart := false, narrowed := true }
def FnExactBlocksForUptoSaid : Prop := fnExactBlocksForUptoRow.holds Try.pinned (OpenSpec.upto fnExactBlocksForSpec)

/-- 'laws.FnExactAreaBlock', WHERE WHAT IT READS IS OF BULK AT MOST 1048576: true; the input reads as it did. -/
def fnExactAreaBlockUptoRow : OpenClaim := { program := "ytnjgocbcbjmlcaa", sum := "39892a70f10798a8da43e66a5de918d439b38a393b8476841d8ed6d8a4f3b1f3", func := "loop.example/g00904/laws.FnExactAreaBlock", spec := "fnExactAreaBlock", apart := false, narrowed := true }
def FnExactAreaBlockUptoSaid : Prop := fnExactAreaBlockUptoRow.holds Try.pinned (OpenSpec.upto fnExactAreaBlockSpec)

/-- 'laws.FnExactDataFirst', WHERE WHAT IT READS IS OF BULK AT MOST 1048576: true; the input reads as it did. -/
def fnExactDataFirstUptoRow : OpenClaim := { program := "ytnjgocbcbjmlcaa", sum := "39892a70f10798a8da43e66a5de918d439b38a393b8476841d8ed6d8a4f3b1f3", func := "loop.example/g00904/laws.FnExactDataFirst", spec := "fnExactDataFirst", apart := false, narrowed := true }
def FnExactDataFirstUptoSaid : Prop := fnExactDataFirstUptoRow.holds Try.pinned (OpenSpec.upto fnExactDataFirstSpec)

/-- 'laws.FnExactPutUint', WHERE WHAT IT READS IS OF BULK AT MOST 1048576: true; the input reads as it did. -/
def fnExactPutUintUptoRow : OpenClaim := { program := "ytnjgocbcbjmlcaa", sum := "39892a70f10798a8da43e66a5de918d439b38a393b8476841d8ed6d8a4f3b1f3", func := "loop.example/g00904/laws.FnExactPutUint", spec := "fnExactPutUint", apart := false, narrowed := true }
def FnExactPutUintUptoSaid : Prop := fnExactPutUintUptoRow.holds Try.pinned (OpenSpec.upto fnExactPutUintSpec)

end Rows
end Go.Proofs.Ytnjgocbcbjmlcaa
