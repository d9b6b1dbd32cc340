/-
  NARROWER THAN 'FOR EVERY INPUT', by the rows' own cells (each row's printed sentence says how): FnExactSameType: loops.
  DERIVED. THE GIVEN ROWS OF THIS SEAT. 12 by the template 'for every input the law returns true; each argument reads behind the call as it read before'; 0 by the template 'total and deterministic' (their statements: YtngjbdijimapnabTotals.lean).
  GIVEN WITH THE SEED: the statements are not yours to turn. If you find one false, say at which input.
  Laid BY PROGRAM, IN A SANDBOX (cutbox-rows.mjs): the forced cells as the released guide's own fill.sh prints them over the translation 4299aac7c92308f6… (all of the seat's roots in one cut). By AI agents, Wed Nov 11 2026. No macro, syntax, notation, axiom, sorry.
-/
import Derived.Test.YtngjbdijimapnabChecked
import GoSem.Claim
import GoSem.ClaimJoined
import GoSem.ClaimMapViews
import Derived.JoinedTies
import Derived.KernelRfl
namespace Go.Proofs.Ytngjbdijimapnab
/- THE CELL 'sum', in the pinned program and in every row, IS THE sha256 OF THE DUMP (.gsa) THAT YtngjbdijimapnabProg.lean LOADS. Nothing in Lean hashes anything: it is a label: what it is worth is what the hold of that sum in a sandbox is worth. -/
noncomputable def Try.pinned : Pinned := { name := "ytngjbdijimapnab", sum := "4299aac7c92308f6d7e3ff4abf15a93a57e2c40bf3048d2afbdc0e7887846747", checked := Try.checked }
namespace Rows
def none {H : Type} : Left H := { results := [], args := [] }

/-- 'laws.FnExactPutInt': WHATEVER THE INPUT: true; the input reads as it did. -/
def fnExactPutIntSpec : ChangeSpec := { name := "fnExactPutInt", fn := fun _ => fun
  | [d1, d2] => { results := [.lit (.bool true)], args := [d1, d2] }
  | _ => none }
def fnExactPutIntRow : OpenClaim := { program := "ytngjbdijimapnab", sum := "4299aac7c92308f6d7e3ff4abf15a93a57e2c40bf3048d2afbdc0e7887846747", func := "loop.example/g00904/laws.FnExactPutInt", spec := "fnExactPutInt", apart := false }
def FnExactPutIntSaid : Prop := fnExactPutIntRow.holds Try.pinned (OpenSpec.ofChange fnExactPutIntSpec)

/-- ITS FALSE NEIGHBOUR: 'it returns false'. Refute it at one input. -/
def fnExactPutIntWrong : ChangeSpec := { name := "fnExactPutInt", fn := fun _ => fun
  | [d1, d2] => { results := [.lit (.bool false)], args := [d1, d2] }
  | _ => none }
def FnExactPutIntWrongFalsely : Prop := fnExactPutIntRow.holds Try.pinned (OpenSpec.ofChange fnExactPutIntWrong)

/-- 'laws.FnExactReadHex': WHATEVER THE INPUT: true; the input reads as it did. -/
def fnExactReadHexSpec : ChangeSpec := { name := "fnExactReadHex", fn := fun _ => fun
  | [d] => { results := [.lit (.bool true)], args := [d] }
  | _ => none }
def fnExactReadHexRow : OpenClaim := { program := "ytngjbdijimapnab", sum := "4299aac7c92308f6d7e3ff4abf15a93a57e2c40bf3048d2afbdc0e7887846747", func := "loop.example/g00904/laws.FnExactReadHex", spec := "fnExactReadHex", inPlace := ["internal/bytealg.IndexByteString"], apart := false }
def FnExactReadHexSaid : Prop := fnExactReadHexRow.holds Try.pinned (OpenSpec.ofChange fnExactReadHexSpec)

/-- ITS FALSE NEIGHBOUR: 'it returns false'. Refute it at one input. -/
def fnExactReadHexWrong : ChangeSpec := { name := "fnExactReadHex", fn := fun _ => fun
  | [d] => { results := [.lit (.bool false)], args := [d] }
  | _ => none }
def FnExactReadHexWrongFalsely : Prop := fnExactReadHexRow.holds Try.pinned (OpenSpec.ofChange fnExactReadHexWrong)

/-- 'laws.FnExactValidBox': WHATEVER THE INPUT: true; the input reads as it did. -/
def fnExactValidBoxSpec : ChangeSpec := { name := "fnExactValidBox", fn := fun _ => fun
  | [d] => { results := [.lit (.bool true)], args := [d] }
  | _ => none }
def fnExactValidBoxRow : OpenClaim := { program := "ytngjbdijimapnab", sum := "4299aac7c92308f6d7e3ff4abf15a93a57e2c40bf3048d2afbdc0e7887846747", func := "loop.example/g00904/laws.FnExactValidBox", spec := "fnExactValidBox", apart := false }
def FnExactValidBoxSaid : Prop := fnExactValidBoxRow.holds Try.pinned (OpenSpec.ofChange fnExactValidBoxSpec)

/-- ITS FALSE NEIGHBOUR: 'it returns false'. Refute it at one input. -/
def fnExactValidBoxWrong : ChangeSpec := { name := "fnExactValidBox", fn := fun _ => fun
  | [d] => { results := [.lit (.bool false)], args := [d] }
  | _ => none }
def FnExactValidBoxWrongFalsely : Prop := fnExactValidBoxRow.holds Try.pinned (OpenSpec.ofChange fnExactValidBoxWrong)

/-- 'laws.FnExactBoxSize': WHATEVER THE INPUT: true; the input reads as it did. -/
def fnExactBoxSizeSpec : ChangeSpec := { name := "fnExactBoxSize", fn := fun _ => fun
  | [d] => { results := [.lit (.bool true)], args := [d] }
  | _ => none }
def fnExactBoxSizeRow : OpenClaim := { program := "ytngjbdijimapnab", sum := "4299aac7c92308f6d7e3ff4abf15a93a57e2c40bf3048d2afbdc0e7887846747", func := "loop.example/g00904/laws.FnExactBoxSize", spec := "fnExactBoxSize", apart := false }
def FnExactBoxSizeSaid : Prop := fnExactBoxSizeRow.holds Try.pinned (OpenSpec.ofChange fnExactBoxSizeSpec)

/-- ITS FALSE NEIGHBOUR: 'it returns false'. Refute it at one input. -/
def fnExactBoxSizeWrong : ChangeSpec := { name := "fnExactBoxSize", fn := fun _ => fun
  | [d] => { results := [.lit (.bool false)], args := [d] }
  | _ => none }
def FnExactBoxSizeWrongFalsely : Prop := fnExactBoxSizeRow.holds Try.pinned (OpenSpec.ofChange fnExactBoxSizeWrong)

/-- 'laws.FnExactSameHeap': WHATEVER THE INPUT: true; the input reads as it did. -/
def fnExactSameHeapSpec : ChangeSpec := { name := "fnExactSameHeap", fn := fun _ => fun
  | [d1, d2] => { results := [.lit (.bool true)], args := [d1, d2] }
  | _ => none }
def fnExactSameHeapRow : OpenClaim := { program := "ytngjbdijimapnab", sum := "4299aac7c92308f6d7e3ff4abf15a93a57e2c40bf3048d2afbdc0e7887846747", func := "loop.example/g00904/laws.FnExactSameHeap", spec := "fnExactSameHeap", apart := false }
def FnExactSameHeapSaid : Prop := fnExactSameHeapRow.holds Try.pinned (OpenSpec.ofChange fnExactSameHeapSpec)

/-- ITS FALSE NEIGHBOUR: 'it returns false'. Refute it at one input. -/
def fnExactSameHeapWrong : ChangeSpec := { name := "fnExactSameHeap", fn := fun _ => fun
  | [d1, d2] => { results := [.lit (.bool false)], args := [d1, d2] }
  | _ => none }
def FnExactSameHeapWrongFalsely : Prop := fnExactSameHeapRow.holds Try.pinned (OpenSpec.ofChange fnExactSameHeapWrong)

/-- 'laws.FnExactValidHeap': WHATEVER THE INPUT: true; the input reads as it did. -/
def fnExactValidHeapSpec : ChangeSpec := { name := "fnExactValidHeap", fn := fun _ => fun
  | [d] => { results := [.lit (.bool true)], args := [d] }
  | _ => none }
def fnExactValidHeapRow : OpenClaim := { program := "ytngjbdijimapnab", sum := "4299aac7c92308f6d7e3ff4abf15a93a57e2c40bf3048d2afbdc0e7887846747", func := "loop.example/g00904/laws.FnExactValidHeap", spec := "fnExactValidHeap", unfollowed := true, recurses := true, apart := false }
def FnExactValidHeapSaid : Prop := fnExactValidHeapRow.holds Try.pinned (OpenSpec.ofChange fnExactValidHeapSpec)

/-- ITS FALSE NEIGHBOUR: 'it returns false'. Refute it at one input. -/
def fnExactValidHeapWrong : ChangeSpec := { name := "fnExactValidHeap", fn := fun _ => fun
  | [d] => { results := [.lit (.bool false)], args := [d] }
  | _ => none }
def FnExactValidHeapWrongFalsely : Prop := fnExactValidHeapRow.holds Try.pinned (OpenSpec.ofChange fnExactValidHeapWrong)

/-- 'laws.FnExactSameHeader': WHATEVER THE INPUT: true; the input reads as it did. -/
def fnExactSameHeaderSpec : ChangeSpec := { name := "fnExactSameHeader", fn := fun _ => fun
  | [d1, d2] => { results := [.lit (.bool true)], args := [d1, d2] }
  | _ => none }
def fnExactSameHeaderRow : OpenClaim := { program := "ytngjbdijimapnab", sum := "4299aac7c92308f6d7e3ff4abf15a93a57e2c40bf3048d2afbdc0e7887846747", func := "loop.example/g00904/laws.FnExactSameHeader", spec := "fnExactSameHeader", apart := false }
def FnExactSameHeaderSaid : Prop := fnExactSameHeaderRow.holds Try.pinned (OpenSpec.ofChange fnExactSameHeaderSpec)

/-- ITS FALSE NEIGHBOUR: 'it returns false'. Refute it at one input. -/
def fnExactSameHeaderWrong : ChangeSpec := { name := "fnExactSameHeader", fn := fun _ => fun
  | [d1, d2] => { results := [.lit (.bool false)], args := [d1, d2] }
  | _ => none }
def FnExactSameHeaderWrongFalsely : Prop := fnExactSameHeaderRow.holds Try.pinned (OpenSpec.ofChange fnExactSameHeaderWrong)

/-- 'laws.FnExactValidHeader': WHATEVER THE INPUT: true; the input reads as it did. -/
def fnExactValidHeaderSpec : ChangeSpec := { name := "fnExactValidHeader", fn := fun _ => fun
  | [d] => { results := [.lit (.bool true)], args := [d] }
  | _ => none }
def fnExactValidHeaderRow : OpenClaim := { program := "ytngjbdijimapnab", sum := "4299aac7c92308f6d7e3ff4abf15a93a57e2c40bf3048d2afbdc0e7887846747", func := "loop.example/g00904/laws.FnExactValidHeader", spec := "fnExactValidHeader", unfollowed := true, recurses := true, apart := false }
def FnExactValidHeaderSaid : Prop := fnExactValidHeaderRow.holds Try.pinned (OpenSpec.ofChange fnExactValidHeaderSpec)

/-- ITS FALSE NEIGHBOUR: 'it returns false'. Refute it at one input. -/
def fnExactValidHeaderWrong : ChangeSpec := { name := "fnExactValidHeader", fn := fun _ => fun
  | [d] => { results := [.lit (.bool false)], args := [d] }
  | _ => none }
def FnExactValidHeaderWrongFalsely : Prop := fnExactValidHeaderRow.holds Try.pinned (OpenSpec.ofChange fnExactValidHeaderWrong)

/-- 'laws.FnExactMessageOf': WHATEVER THE INPUT: true; the input reads as it did. -/
def fnExactMessageOfSpec : ChangeSpec := { name := "fnExactMessageOf", fn := fun _ => fun
  | [d1, d2] => { results := [.lit (.bool true)], args := [d1, d2] }
  | _ => none }
def fnExactMessageOfRow : OpenClaim := { program := "ytngjbdijimapnab", sum := "4299aac7c92308f6d7e3ff4abf15a93a57e2c40bf3048d2afbdc0e7887846747", func := "loop.example/g00904/laws.FnExactMessageOf", spec := "fnExactMessageOf", unfollowed := true, recurses := true, apart := false }
def FnExactMessageOfSaid : Prop := fnExactMessageOfRow.holds Try.pinned (OpenSpec.ofChange fnExactMessageOfSpec)

/-- ITS FALSE NEIGHBOUR: 'it returns false'. Refute it at one input. -/
def fnExactMessageOfWrong : ChangeSpec := { name := "fnExactMessageOf", fn := fun _ => fun
  | [d1, d2] => { results := [.lit (.bool false)], args := [d1, d2] }
  | _ => none }
def FnExactMessageOfWrongFalsely : Prop := fnExactMessageOfRow.holds Try.pinned (OpenSpec.ofChange fnExactMessageOfWrong)

/-- 'laws.FnExactPadBytes': WHATEVER THE INPUT: true; the input reads as it did. -/
def fnExactPadBytesSpec : ChangeSpec := { name := "fnExactPadBytes", fn := fun _ => fun
  | [d1, d2] => { results := [.lit (.bool true)], args := [d1, d2] }
  | _ => none }
def fnExactPadBytesRow : OpenClaim := { program := "ytngjbdijimapnab", sum := "4299aac7c92308f6d7e3ff4abf15a93a57e2c40bf3048d2afbdc0e7887846747", func := "loop.example/g00904/laws.FnExactPadBytes", spec := "fnExactPadBytes", inPlace := ["internal/abi.NoEscape", "internal/bytealg.MakeNoZero"], apart := false }
def FnExactPadBytesSaid : Prop := fnExactPadBytesRow.holds Try.pinned (OpenSpec.ofChange fnExactPadBytesSpec)

/-- ITS FALSE NEIGHBOUR: 'it returns false'. Refute it at one input. -/
def fnExactPadBytesWrong : ChangeSpec := { name := "fnExactPadBytes", fn := fun _ => fun
  | [d1, d2] => { results := [.lit (.bool false)], args := [d1, d2] }
  | _ => none }
def FnExactPadBytesWrongFalsely : Prop := fnExactPadBytesRow.holds Try.pinned (OpenSpec.ofChange fnExactPadBytesWrong)

/-- 'laws.FnExactValidNode': WHATEVER THE INPUT: true; the input reads as it did. -/
def fnExactValidNodeSpec : ChangeSpec := { name := "fnExactValidNode", fn := fun _ => fun
  | [d] => { results := [.lit (.bool true)], args := [d] }
  | _ => none }
def fnExactValidNodeRow : OpenClaim := { program := "ytngjbdijimapnab", sum := "4299aac7c92308f6d7e3ff4abf15a93a57e2c40bf3048d2afbdc0e7887846747", func := "loop.example/g00904/laws.FnExactValidNode", spec := "fnExactValidNode", unfollowed := true, recurses := true, apart := false }
def FnExactValidNodeSaid : Prop := fnExactValidNodeRow.holds Try.pinned (OpenSpec.ofChange fnExactValidNodeSpec)

/-- ITS FALSE NEIGHBOUR: 'it returns false'. Refute it at one input. -/
def fnExactValidNodeWrong : ChangeSpec := { name := "fnExactValidNode", fn := fun _ => fun
  | [d] => { results := [.lit (.bool false)], args := [d] }
  | _ => none }
def FnExactValidNodeWrongFalsely : Prop := fnExactValidNodeRow.holds Try.pinned (OpenSpec.ofChange fnExactValidNodeWrong)

/-- 'laws.FnExactSameType': WHATEVER THE INPUT: true; the input reads as it did. -/
def fnExactSameTypeSpec : ChangeSpec := { name := "fnExactSameType", fn := fun _ => fun
  | [d1, d2] => { results := [.lit (.bool true)], args := [d1, d2] }
  | _ => none }
def fnExactSameTypeRow : OpenClaim := { program := "ytngjbdijimapnab", sum := "4299aac7c92308f6d7e3ff4abf15a93a57e2c40bf3048d2afbdc0e7887846747", func := "loop.example/g00904/laws.FnExactSameType", spec := "fnExactSameType", unfollowed := true, recurses := true, loops := true, apart := false }
def FnExactSameTypeSaid : Prop := fnExactSameTypeRow.holds Try.pinned (OpenSpec.ofChange fnExactSameTypeSpec)

/-- ITS FALSE NEIGHBOUR: 'it returns false'. Refute it at one input. -/
def fnExactSameTypeWrong : ChangeSpec := { name := "fnExactSameType", fn := fun _ => fun
  | [d1, d2] => { results := [.lit (.bool false)], args := [d1, d2] }
  | _ => none }
def FnExactSameTypeWrongFalsely : Prop := fnExactSameTypeRow.holds Try.pinned (OpenSpec.ofChange fnExactSameTypeWrong)

/- THE SECOND FORM. 'bulk': how many values and letters a reading holds, each counted each time it is reached (what is shared counts as often as it is met; a slice's spare places count too). A statement '..UptoSaid' is the law's where the arguments, and the package variables that the reading takes, are together of bulk at most 1048576: NARROWER than '..Said'. Prove '..Said' where nothing that the law and all that it calls make is longer than what came in: it says more and counts as full. Else prove '..UptoSaid'. A law counts once. -/
mutual
def uptoBulk {H : Type} : DataW H → Nat
  | .lit (.string bytes) => bytes.length + 1
  | .lit _ => 1
  | .nil => 1
  | .ptr d => uptoBulk d + 1
  | .slice elems spare => uptoBulkAll elems + uptoBulkAll spare + 1
  | .agg parts => uptoBulkAll parts + 1
  | .iface _ d => uptoBulk d + 1
  | .map entries => uptoBulkEntries entries + 1
  | .held _ => 1
def uptoBulkAll {H : Type} : List (DataW H) → Nat
  | [] => 0
  | d :: r => uptoBulk d + uptoBulkAll r
def uptoBulkEntries {H : Type} : List (Lit × DataW H) → Nat
  | [] => 0
  | x :: r => uptoBulkEntry x + uptoBulkEntries r
def uptoBulkEntry {H : Type} : Lit × DataW H → Nat
  | (.string bytes, d) => bytes.length + uptoBulk d + 1
  | (_, d) => uptoBulk d + 1
 end
def uptoSmall : (H : Type) → List (DataW H) → Bool := fun _ ds => decide (uptoBulkAll ds ≤ 1048576)
def OpenSpec.upto (s : _root_.Go.ChangeSpec) : _root_.Go.OpenSpec := { _root_.Go.OpenSpec.ofChange s with cond := some uptoSmall }

/-- 'laws.FnExactPutInt', WHERE WHAT IT READS IS OF BULK AT MOST 1048576: true; the input reads as it did. -/
def fnExactPutIntUptoRow : OpenClaim := { program := "ytngjbdijimapnab", sum := "4299aac7c92308f6d7e3ff4abf15a93a57e2c40bf3048d2afbdc0e7887846747", func := "loop.example/g00904/laws.FnExactPutInt", spec := "fnExactPutInt", apart := false, narrowed := true }
def FnExactPutIntUptoSaid : Prop := fnExactPutIntUptoRow.holds Try.pinned (OpenSpec.upto fnExactPutIntSpec)

/-- 'laws.FnExactReadHex', WHERE WHAT IT READS IS OF BULK AT MOST 1048576: true; the input reads as it did. -/
def fnExactReadHexUptoRow : OpenClaim := { program := "ytngjbdijimapnab", sum := "4299aac7c92308f6d7e3ff4abf15a93a57e2c40bf3048d2afbdc0e7887846747", func := "loop.example/g00904/laws.FnExactReadHex", spec := "fnExactReadHex", inPlace := ["internal/bytealg.IndexByteString"], apart := false, narrowed := true }
def FnExactReadHexUptoSaid : Prop := fnExactReadHexUptoRow.holds Try.pinned (OpenSpec.upto fnExactReadHexSpec)

/-- 'laws.FnExactValidBox', WHERE WHAT IT READS IS OF BULK AT MOST 1048576: true; the input reads as it did. -/
def fnExactValidBoxUptoRow : OpenClaim := { program := "ytngjbdijimapnab", sum := "4299aac7c92308f6d7e3ff4abf15a93a57e2c40bf3048d2afbdc0e7887846747", func := "loop.example/g00904/laws.FnExactValidBox", spec := "fnExactValidBox", apart := false, narrowed := true }
def FnExactValidBoxUptoSaid : Prop := fnExactValidBoxUptoRow.holds Try.pinned (OpenSpec.upto fnExactValidBoxSpec)

/-- 'laws.FnExactBoxSize', WHERE WHAT IT READS IS OF BULK AT MOST 1048576: true; the input reads as it did. -/
def fnExactBoxSizeUptoRow : OpenClaim := { program := "ytngjbdijimapnab", sum := "4299aac7c92308f6d7e3ff4abf15a93a57e2c40bf3048d2afbdc0e7887846747", func := "loop.example/g00904/laws.FnExactBoxSize", spec := "fnExactBoxSize", apart := false, narrowed := true }
def FnExactBoxSizeUptoSaid : Prop := fnExactBoxSizeUptoRow.holds Try.pinned (OpenSpec.upto fnExactBoxSizeSpec)

/-- 'laws.FnExactSameHeap', WHERE WHAT IT READS IS OF BULK AT MOST 1048576: true; the input reads as it did. -/
def fnExactSameHeapUptoRow : OpenClaim := { program := "ytngjbdijimapnab", sum := "4299aac7c92308f6d7e3ff4abf15a93a57e2c40bf3048d2afbdc0e7887846747", func := "loop.example/g00904/laws.FnExactSameHeap", spec := "fnExactSameHeap", apart := false, narrowed := true }
def FnExactSameHeapUptoSaid : Prop := fnExactSameHeapUptoRow.holds Try.pinned (OpenSpec.upto fnExactSameHeapSpec)

/-- 'laws.FnExactValidHeap', WHERE WHAT IT READS IS OF BULK AT MOST 1048576: true; the input reads as it did. -/
def fnExactValidHeapUptoRow : OpenClaim := { program := "ytngjbdijimapnab", sum := "4299aac7c92308f6d7e3ff4abf15a93a57e2c40bf3048d2afbdc0e7887846747", func := "loop.example/g00904/laws.FnExactValidHeap", spec := "fnExactValidHeap", unfollowed := true, recurses := true, apart := false, narrowed := true }
def FnExactValidHeapUptoSaid : Prop := fnExactValidHeapUptoRow.holds Try.pinned (OpenSpec.upto fnExactValidHeapSpec)

/-- 'laws.FnExactSameHeader', WHERE WHAT IT READS IS OF BULK AT MOST 1048576: true; the input reads as it did. -/
def fnExactSameHeaderUptoRow : OpenClaim := { program := "ytngjbdijimapnab", sum := "4299aac7c92308f6d7e3ff4abf15a93a57e2c40bf3048d2afbdc0e7887846747", func := "loop.example/g00904/laws.FnExactSameHeader", spec := "fnExactSameHeader", apart := false, narrowed := true }
def FnExactSameHeaderUptoSaid : Prop := fnExactSameHeaderUptoRow.holds Try.pinned (OpenSpec.upto fnExactSameHeaderSpec)

/-- 'laws.FnExactValidHeader', WHERE WHAT IT READS IS OF BULK AT MOST 1048576: true; the input reads as it did. -/
def fnExactValidHeaderUptoRow : OpenClaim := { program := "ytngjbdijimapnab", sum := "4299aac7c92308f6d7e3ff4abf15a93a57e2c40bf3048d2afbdc0e7887846747", func := "loop.example/g00904/laws.FnExactValidHeader", spec := "fnExactValidHeader", unfollowed := true, recurses := true, apart := false, narrowed := true }
def FnExactValidHeaderUptoSaid : Prop := fnExactValidHeaderUptoRow.holds Try.pinned (OpenSpec.upto fnExactValidHeaderSpec)

/-- 'laws.FnExactMessageOf', WHERE WHAT IT READS IS OF BULK AT MOST 1048576: true; the input reads as it did. -/
def fnExactMessageOfUptoRow : OpenClaim := { program := "ytngjbdijimapnab", sum := "4299aac7c92308f6d7e3ff4abf15a93a57e2c40bf3048d2afbdc0e7887846747", func := "loop.example/g00904/laws.FnExactMessageOf", spec := "fnExactMessageOf", unfollowed := true, recurses := true, apart := false, narrowed := true }
def FnExactMessageOfUptoSaid : Prop := fnExactMessageOfUptoRow.holds Try.pinned (OpenSpec.upto fnExactMessageOfSpec)

/-- 'laws.FnExactPadBytes', WHERE WHAT IT READS IS OF BULK AT MOST 1048576: true; the input reads as it did. -/
def fnExactPadBytesUptoRow : OpenClaim := { program := "ytngjbdijimapnab", sum := "4299aac7c92308f6d7e3ff4abf15a93a57e2c40bf3048d2afbdc0e7887846747", func := "loop.example/g00904/laws.FnExactPadBytes", spec := "fnExactPadBytes", inPlace := ["internal/abi.NoEscape", "internal/bytealg.MakeNoZero"], apart := false, narrowed := true }
def FnExactPadBytesUptoSaid : Prop := fnExactPadBytesUptoRow.holds Try.pinned (OpenSpec.upto fnExactPadBytesSpec)

/-- 'laws.FnExactValidNode', WHERE WHAT IT READS IS OF BULK AT MOST 1048576: true; the input reads as it did. -/
def fnExactValidNodeUptoRow : OpenClaim := { program := "ytngjbdijimapnab", sum := "4299aac7c92308f6d7e3ff4abf15a93a57e2c40bf3048d2afbdc0e7887846747", func := "loop.example/g00904/laws.FnExactValidNode", spec := "fnExactValidNode", unfollowed := true, recurses := true, apart := false, narrowed := true }
def FnExactValidNodeUptoSaid : Prop := fnExactValidNodeUptoRow.holds Try.pinned (OpenSpec.upto fnExactValidNodeSpec)

/-- 'laws.FnExactSameType', WHERE WHAT IT READS IS OF BULK AT MOST 1048576: true; the input reads as it did. -/
def fnExactSameTypeUptoRow : OpenClaim := { program := "ytngjbdijimapnab", sum := "4299aac7c92308f6d7e3ff4abf15a93a57e2c40bf3048d2afbdc0e7887846747", func := "loop.example/g00904/laws.FnExactSameType", spec := "fnExactSameType", unfollowed := true, recurses := true, loops := true, apart := false, narrowed := true }
def FnExactSameTypeUptoSaid : Prop := fnExactSameTypeUptoRow.holds Try.pinned (OpenSpec.upto fnExactSameTypeSpec)

end Rows
end Go.Proofs.Ytngjbdijimapnab
