/-
  No cell of these rows narrows 'for every input' (looked for: loops, veiled, ifaces, maps, wideKeys, modest, calm, conditions, laid).
  DERIVED. THE GIVEN ROWS OF THIS SEAT. 10 by the template 'for every input the law returns true; each argument reads behind the call as it read before'; 0 by the template 'total and deterministic' (their statements: YtdiaebjbiddefaaTotals.lean).
  GIVEN WITH THE SEED: the statements are not yours to turn. If you find one false, say at which input.
  Laid BY PROGRAM, IN A SANDBOX (cutbox-rows.mjs): the forced cells as the released guide's own fill.sh prints them over the translation c8446eb612485165… (all of the seat's roots in one cut). By AI agents, Wed Nov 11 2026. No macro, syntax, notation, axiom, sorry.
-/
import Derived.Test.YtdiaebjbiddefaaChecked
import GoSem.Claim
import GoSem.ClaimJoined
import GoSem.ClaimMapViews
import Derived.JoinedTies
import Derived.KernelRfl
namespace Go.Proofs.Ytdiaebjbiddefaa
/- THE CELL 'sum', in the pinned program and in every row, IS THE sha256 OF THE DUMP (.gsa) THAT YtdiaebjbiddefaaProg.lean LOADS. Nothing in Lean hashes anything: it is a label: what it is worth is what the hold of that sum in a sandbox is worth. -/
noncomputable def Try.pinned : Pinned := { name := "ytdiaebjbiddefaa", sum := "c8446eb61248516523d94e84649ef095164e10885950939ec763f585fdf01f73", checked := Try.checked }
namespace Rows
def none {H : Type} : Left H := { results := [], args := [] }

/-- 'laws.FnExactNormalBoxes': WHATEVER THE INPUT: true; the input reads as it did. -/
def fnExactNormalBoxesSpec : ChangeSpec := { name := "fnExactNormalBoxes", fn := fun _ => fun
  | [d] => { results := [.lit (.bool true)], args := [d] }
  | _ => none }
def fnExactNormalBoxesRow : OpenClaim := { program := "ytdiaebjbiddefaa", sum := "c8446eb61248516523d94e84649ef095164e10885950939ec763f585fdf01f73", func := "loop.example/g00904/laws.FnExactNormalBoxes", spec := "fnExactNormalBoxes", unfollowed := true, recurses := true, apart := false }
def FnExactNormalBoxesSaid : Prop := fnExactNormalBoxesRow.holds Try.pinned (OpenSpec.ofChange fnExactNormalBoxesSpec)

/-- ITS FALSE NEIGHBOUR: 'it returns false'. Refute it at one input. -/
def fnExactNormalBoxesWrong : ChangeSpec := { name := "fnExactNormalBoxes", fn := fun _ => fun
  | [d] => { results := [.lit (.bool false)], args := [d] }
  | _ => none }
def FnExactNormalBoxesWrongFalsely : Prop := fnExactNormalBoxesRow.holds Try.pinned (OpenSpec.ofChange fnExactNormalBoxesWrong)

/-- 'laws.FnExactUnionBoxes': WHATEVER THE INPUT: true; the input reads as it did. -/
def fnExactUnionBoxesSpec : ChangeSpec := { name := "fnExactUnionBoxes", fn := fun _ => fun
  | [d1, d2] => { results := [.lit (.bool true)], args := [d1, d2] }
  | _ => none }
def fnExactUnionBoxesRow : OpenClaim := { program := "ytdiaebjbiddefaa", sum := "c8446eb61248516523d94e84649ef095164e10885950939ec763f585fdf01f73", func := "loop.example/g00904/laws.FnExactUnionBoxes", spec := "fnExactUnionBoxes", unfollowed := true, recurses := true, apart := false }
def FnExactUnionBoxesSaid : Prop := fnExactUnionBoxesRow.holds Try.pinned (OpenSpec.ofChange fnExactUnionBoxesSpec)

/-- ITS FALSE NEIGHBOUR: 'it returns false'. Refute it at one input. -/
def fnExactUnionBoxesWrong : ChangeSpec := { name := "fnExactUnionBoxes", fn := fun _ => fun
  | [d1, d2] => { results := [.lit (.bool false)], args := [d1, d2] }
  | _ => none }
def FnExactUnionBoxesWrongFalsely : Prop := fnExactUnionBoxesRow.holds Try.pinned (OpenSpec.ofChange fnExactUnionBoxesWrong)

/-- 'laws.FnExactIntersectBoxes': WHATEVER THE INPUT: true; the input reads as it did. -/
def fnExactIntersectBoxesSpec : ChangeSpec := { name := "fnExactIntersectBoxes", fn := fun _ => fun
  | [d1, d2] => { results := [.lit (.bool true)], args := [d1, d2] }
  | _ => none }
def fnExactIntersectBoxesRow : OpenClaim := { program := "ytdiaebjbiddefaa", sum := "c8446eb61248516523d94e84649ef095164e10885950939ec763f585fdf01f73", func := "loop.example/g00904/laws.FnExactIntersectBoxes", spec := "fnExactIntersectBoxes", unfollowed := true, recurses := true, apart := false }
def FnExactIntersectBoxesSaid : Prop := fnExactIntersectBoxesRow.holds Try.pinned (OpenSpec.ofChange fnExactIntersectBoxesSpec)

/-- ITS FALSE NEIGHBOUR: 'it returns false'. Refute it at one input. -/
def fnExactIntersectBoxesWrong : ChangeSpec := { name := "fnExactIntersectBoxes", fn := fun _ => fun
  | [d1, d2] => { results := [.lit (.bool false)], args := [d1, d2] }
  | _ => none }
def FnExactIntersectBoxesWrongFalsely : Prop := fnExactIntersectBoxesRow.holds Try.pinned (OpenSpec.ofChange fnExactIntersectBoxesWrong)

/-- 'laws.FnExactSubtractBoxes': WHATEVER THE INPUT: true; the input reads as it did. -/
def fnExactSubtractBoxesSpec : ChangeSpec := { name := "fnExactSubtractBoxes", fn := fun _ => fun
  | [d1, d2] => { results := [.lit (.bool true)], args := [d1, d2] }
  | _ => none }
def fnExactSubtractBoxesRow : OpenClaim := { program := "ytdiaebjbiddefaa", sum := "c8446eb61248516523d94e84649ef095164e10885950939ec763f585fdf01f73", func := "loop.example/g00904/laws.FnExactSubtractBoxes", spec := "fnExactSubtractBoxes", unfollowed := true, recurses := true, apart := false }
def FnExactSubtractBoxesSaid : Prop := fnExactSubtractBoxesRow.holds Try.pinned (OpenSpec.ofChange fnExactSubtractBoxesSpec)

/-- ITS FALSE NEIGHBOUR: 'it returns false'. Refute it at one input. -/
def fnExactSubtractBoxesWrong : ChangeSpec := { name := "fnExactSubtractBoxes", fn := fun _ => fun
  | [d1, d2] => { results := [.lit (.bool false)], args := [d1, d2] }
  | _ => none }
def FnExactSubtractBoxesWrongFalsely : Prop := fnExactSubtractBoxesRow.holds Try.pinned (OpenSpec.ofChange fnExactSubtractBoxesWrong)

/-- 'laws.FnSlabAlgebra': WHATEVER THE INPUT: true; the input reads as it did. -/
def fnSlabAlgebraSpec : ChangeSpec := { name := "fnSlabAlgebra", fn := fun _ => fun
  | [d] => { results := [.lit (.bool true)], args := [d] }
  | _ => none }
def fnSlabAlgebraRow : OpenClaim := { program := "ytdiaebjbiddefaa", sum := "c8446eb61248516523d94e84649ef095164e10885950939ec763f585fdf01f73", func := "loop.example/g00904/laws.FnSlabAlgebra", spec := "fnSlabAlgebra", unfollowed := true, recurses := true, apart := false }
def FnSlabAlgebraSaid : Prop := fnSlabAlgebraRow.holds Try.pinned (OpenSpec.ofChange fnSlabAlgebraSpec)

/-- ITS FALSE NEIGHBOUR: 'it returns false'. Refute it at one input. -/
def fnSlabAlgebraWrong : ChangeSpec := { name := "fnSlabAlgebra", fn := fun _ => fun
  | [d] => { results := [.lit (.bool false)], args := [d] }
  | _ => none }
def FnSlabAlgebraWrongFalsely : Prop := fnSlabAlgebraRow.holds Try.pinned (OpenSpec.ofChange fnSlabAlgebraWrong)

/-- 'laws.FnNormalForm': WHATEVER THE INPUT: true; the input reads as it did. -/
def fnNormalFormSpec : ChangeSpec := { name := "fnNormalForm", fn := fun _ => fun
  | [d] => { results := [.lit (.bool true)], args := [d] }
  | _ => none }
def fnNormalFormRow : OpenClaim := { program := "ytdiaebjbiddefaa", sum := "c8446eb61248516523d94e84649ef095164e10885950939ec763f585fdf01f73", func := "loop.example/g00904/laws.FnNormalForm", spec := "fnNormalForm", unfollowed := true, recurses := true, apart := false }
def FnNormalFormSaid : Prop := fnNormalFormRow.holds Try.pinned (OpenSpec.ofChange fnNormalFormSpec)

/-- ITS FALSE NEIGHBOUR: 'it returns false'. Refute it at one input. -/
def fnNormalFormWrong : ChangeSpec := { name := "fnNormalForm", fn := fun _ => fun
  | [d] => { results := [.lit (.bool false)], args := [d] }
  | _ => none }
def FnNormalFormWrongFalsely : Prop := fnNormalFormRow.holds Try.pinned (OpenSpec.ofChange fnNormalFormWrong)

/-- 'laws.FnExactBoundsOf': WHATEVER THE INPUT: true; the input reads as it did. -/
def fnExactBoundsOfSpec : ChangeSpec := { name := "fnExactBoundsOf", fn := fun _ => fun
  | [d] => { results := [.lit (.bool true)], args := [d] }
  | _ => none }
def fnExactBoundsOfRow : OpenClaim := { program := "ytdiaebjbiddefaa", sum := "c8446eb61248516523d94e84649ef095164e10885950939ec763f585fdf01f73", func := "loop.example/g00904/laws.FnExactBoundsOf", spec := "fnExactBoundsOf", unfollowed := true, recurses := true, apart := false }
def FnExactBoundsOfSaid : Prop := fnExactBoundsOfRow.holds Try.pinned (OpenSpec.ofChange fnExactBoundsOfSpec)

/-- ITS FALSE NEIGHBOUR: 'it returns false'. Refute it at one input. -/
def fnExactBoundsOfWrong : ChangeSpec := { name := "fnExactBoundsOf", fn := fun _ => fun
  | [d] => { results := [.lit (.bool false)], args := [d] }
  | _ => none }
def FnExactBoundsOfWrongFalsely : Prop := fnExactBoundsOfRow.holds Try.pinned (OpenSpec.ofChange fnExactBoundsOfWrong)

/-- 'laws.FnExactSelectedIndices': WHATEVER THE INPUT: true; the input reads as it did. -/
def fnExactSelectedIndicesSpec : ChangeSpec := { name := "fnExactSelectedIndices", fn := fun _ => fun
  | [d1, d2] => { results := [.lit (.bool true)], args := [d1, d2] }
  | _ => none }
def fnExactSelectedIndicesRow : OpenClaim := { program := "ytdiaebjbiddefaa", sum := "c8446eb61248516523d94e84649ef095164e10885950939ec763f585fdf01f73", func := "loop.example/g00904/laws.FnExactSelectedIndices", spec := "fnExactSelectedIndices", unfollowed := true, recurses := true, apart := false }
def FnExactSelectedIndicesSaid : Prop := fnExactSelectedIndicesRow.holds Try.pinned (OpenSpec.ofChange fnExactSelectedIndicesSpec)

/-- ITS FALSE NEIGHBOUR: 'it returns false'. Refute it at one input. -/
def fnExactSelectedIndicesWrong : ChangeSpec := { name := "fnExactSelectedIndices", fn := fun _ => fun
  | [d1, d2] => { results := [.lit (.bool false)], args := [d1, d2] }
  | _ => none }
def FnExactSelectedIndicesWrongFalsely : Prop := fnExactSelectedIndicesRow.holds Try.pinned (OpenSpec.ofChange fnExactSelectedIndicesWrong)

/-- 'laws.FnExactBoxesOf': WHATEVER THE INPUT: true; the input reads as it did. -/
def fnExactBoxesOfSpec : ChangeSpec := { name := "fnExactBoxesOf", fn := fun _ => fun
  | [d1, d2] => { results := [.lit (.bool true)], args := [d1, d2] }
  | _ => none }
def fnExactBoxesOfRow : OpenClaim := { program := "ytdiaebjbiddefaa", sum := "c8446eb61248516523d94e84649ef095164e10885950939ec763f585fdf01f73", func := "loop.example/g00904/laws.FnExactBoxesOf", spec := "fnExactBoxesOf", unfollowed := true, recurses := true, apart := false }
def FnExactBoxesOfSaid : Prop := fnExactBoxesOfRow.holds Try.pinned (OpenSpec.ofChange fnExactBoxesOfSpec)

/-- ITS FALSE NEIGHBOUR: 'it returns false'. Refute it at one input. -/
def fnExactBoxesOfWrong : ChangeSpec := { name := "fnExactBoxesOf", fn := fun _ => fun
  | [d1, d2] => { results := [.lit (.bool false)], args := [d1, d2] }
  | _ => none }
def FnExactBoxesOfWrongFalsely : Prop := fnExactBoxesOfRow.holds Try.pinned (OpenSpec.ofChange fnExactBoxesOfWrong)

/-- 'laws.FnSelectedBoxes': WHATEVER THE INPUT: true; the input reads as it did. -/
def fnSelectedBoxesSpec : ChangeSpec := { name := "fnSelectedBoxes", fn := fun _ => fun
  | [d] => { results := [.lit (.bool true)], args := [d] }
  | _ => none }
def fnSelectedBoxesRow : OpenClaim := { program := "ytdiaebjbiddefaa", sum := "c8446eb61248516523d94e84649ef095164e10885950939ec763f585fdf01f73", func := "loop.example/g00904/laws.FnSelectedBoxes", spec := "fnSelectedBoxes", unfollowed := true, recurses := true, apart := false }
def FnSelectedBoxesSaid : Prop := fnSelectedBoxesRow.holds Try.pinned (OpenSpec.ofChange fnSelectedBoxesSpec)

/-- ITS FALSE NEIGHBOUR: 'it returns false'. Refute it at one input. -/
def fnSelectedBoxesWrong : ChangeSpec := { name := "fnSelectedBoxes", fn := fun _ => fun
  | [d] => { results := [.lit (.bool false)], args := [d] }
  | _ => none }
def FnSelectedBoxesWrongFalsely : Prop := fnSelectedBoxesRow.holds Try.pinned (OpenSpec.ofChange fnSelectedBoxesWrong)

/- THE SECOND FORM. 'bulk': how many values and letters a reading holds, each counted each time it is reached (what is shared counts as often as it is met; a slice's spare places count too). A statement '..UptoSaid' is the law's where the arguments, and the package variables that the reading takes, are together of bulk at most 1048576: NARROWER than '..Said'. Prove '..Said' where nothing that the law and all that it calls make is longer than what came in: it says more and counts as full. Else prove '..UptoSaid'. A law counts once. -/
mutual
def uptoBulk {H : Type} : DataW H → Nat
  | .lit (.string bytes) => bytes.length + 1
  | .lit _ => 1
  | .nil => 1
  | .ptr d => uptoBulk d + 1
  | .slice elems spare => uptoBulkAll elems + uptoBulkAll spare + 1
  | .agg parts => uptoBulkAll parts + 1
  | .iface _ d => uptoBulk d + 1
  | .map entries => uptoBulkEntries entries + 1
  | .held _ => 1
def uptoBulkAll {H : Type} : List (DataW H) → Nat
  | [] => 0
  | d :: r => uptoBulk d + uptoBulkAll r
def uptoBulkEntries {H : Type} : List (Lit × DataW H) → Nat
  | [] => 0
  | x :: r => uptoBulkEntry x + uptoBulkEntries r
def uptoBulkEntry {H : Type} : Lit × DataW H → Nat
  | (.string bytes, d) => bytes.length + uptoBulk d + 1
  | (_, d) => uptoBulk d + 1
 end
def uptoSmall : (H : Type) → List (DataW H) → Bool := fun _ ds => decide (uptoBulkAll ds ≤ 1048576)
def OpenSpec.upto (s : _root_.Go.ChangeSpec) : _root_.Go.OpenSpec := { _root_.Go.OpenSpec.ofChange s with cond := some uptoSmall }

/-- 'laws.FnExactNormalBoxes', WHERE WHAT IT READS IS OF BULK AT MOST 1048576: true; the input reads as it did. -/
def fnExactNormalBoxesUptoRow : OpenClaim := { program := "ytdiaebjbiddefaa", sum := "c8446eb61248516523d94e84649ef095164e10885950939ec763f585fdf01f73", func := "loop.example/g00904/laws.FnExactNormalBoxes", spec := "fnExactNormalBoxes", unfollowed := true, recurses := true, apart := false, narrowed := true }
def FnExactNormalBoxesUptoSaid : Prop := fnExactNormalBoxesUptoRow.holds Try.pinned (OpenSpec.upto fnExactNormalBoxesSpec)

/-- 'laws.FnExactUnionBoxes', WHERE WHAT IT READS IS OF BULK AT MOST 1048576: true; the input reads as it did. -/
def fnExactUnionBoxesUptoRow : OpenClaim := { program := "ytdiaebjbiddefaa", sum := "c8446eb61248516523d94e84649ef095164e10885950939ec763f585fdf01f73", func := "loop.example/g00904/laws.FnExactUnionBoxes", spec := "fnExactUnionBoxes", unfollowed := true, recurses := true, apart := false, narrowed := true }
def FnExactUnionBoxesUptoSaid : Prop := fnExactUnionBoxesUptoRow.holds Try.pinned (OpenSpec.upto fnExactUnionBoxesSpec)

/-- 'laws.FnExactIntersectBoxes', WHERE WHAT IT READS IS OF BULK AT MOST 1048576: true; the input reads as it did. -/
def fnExactIntersectBoxesUptoRow : OpenClaim := { program := "ytdiaebjbiddefaa", sum := "c8446eb61248516523d94e84649ef095164e10885950939ec763f585fdf01f73", func := "loop.example/g00904/laws.FnExactIntersectBoxes", spec := "fnExactIntersectBoxes", unfollowed := true, recurses := true, apart := false, narrowed := true }
def FnExactIntersectBoxesUptoSaid : Prop := fnExactIntersectBoxesUptoRow.holds Try.pinned (OpenSpec.upto fnExactIntersectBoxesSpec)

/-- 'laws.FnExactSubtractBoxes', WHERE WHAT IT READS IS OF BULK AT MOST 1048576: true; the input reads as it did. -/
def fnExactSubtractBoxesUptoRow : OpenClaim := { program := "ytdiaebjbiddefaa", sum := "c8446eb61248516523d94e84649ef095164e10885950939ec763f585fdf01f73", func := "loop.example/g00904/laws.FnExactSubtractBoxes", spec := "fnExactSubtractBoxes", unfollowed := true, recurses := true, apart := false, narrowed := true }
def FnExactSubtractBoxesUptoSaid : Prop := fnExactSubtractBoxesUptoRow.holds Try.pinned (OpenSpec.upto fnExactSubtractBoxesSpec)

/-- 'laws.FnSlabAlgebra', WHERE WHAT IT READS IS OF BULK AT MOST 1048576: true; the input reads as it did. -/
def fnSlabAlgebraUptoRow : OpenClaim := { program := "ytdiaebjbiddefaa", sum := "c8446eb61248516523d94e84649ef095164e10885950939ec763f585fdf01f73", func := "loop.example/g00904/laws.FnSlabAlgebra", spec := "fnSlabAlgebra", unfollowed := true, recurses := true, apart := false, narrowed := true }
def FnSlabAlgebraUptoSaid : Prop := fnSlabAlgebraUptoRow.holds Try.pinned (OpenSpec.upto fnSlabAlgebraSpec)

/-- 'laws.FnNormalForm', WHERE WHAT IT READS IS OF BULK AT MOST 1048576: true; the input reads as it did. -/
def fnNormalFormUptoRow : OpenClaim := { program := "ytdiaebjbiddefaa", sum := "c8446eb61248516523d94e84649ef095164e10885950939ec763f585fdf01f73", func := "loop.example/g00904/laws.FnNormalForm", spec := "fnNormalForm", unfollowed := true, recurses := true, apart := false, narrowed := true }
def FnNormalFormUptoSaid : Prop := fnNormalFormUptoRow.holds Try.pinned (OpenSpec.upto fnNormalFormSpec)

/-- 'laws.FnExactBoundsOf', WHERE WHAT IT READS IS OF BULK AT MOST 1048576: true; the input reads as it did. -/
def fnExactBoundsOfUptoRow : OpenClaim := { program := "ytdiaebjbiddefaa", sum := "c8446eb61248516523d94e84649ef095164e10885950939ec763f585fdf01f73", func := "loop.example/g00904/laws.FnExactBoundsOf", spec := "fnExactBoundsOf", unfollowed := true, recurses := true, apart := false, narrowed := true }
def FnExactBoundsOfUptoSaid : Prop := fnExactBoundsOfUptoRow.holds Try.pinned (OpenSpec.upto fnExactBoundsOfSpec)

/-- 'laws.FnExactSelectedIndices', WHERE WHAT IT READS IS OF BULK AT MOST 1048576: true; the input reads as it did. -/
def fnExactSelectedIndicesUptoRow : OpenClaim := { program := "ytdiaebjbiddefaa", sum := "c8446eb61248516523d94e84649ef095164e10885950939ec763f585fdf01f73", func := "loop.example/g00904/laws.FnExactSelectedIndices", spec := "fnExactSelectedIndices", unfollowed := true, recurses := true, apart := false, narrowed := true }
def FnExactSelectedIndicesUptoSaid : Prop := fnExactSelectedIndicesUptoRow.holds Try.pinned (OpenSpec.upto fnExactSelectedIndicesSpec)

/-- 'laws.FnExactBoxesOf', WHERE WHAT IT READS IS OF BULK AT MOST 1048576: true; the input reads as it did. -/
def fnExactBoxesOfUptoRow : OpenClaim := { program := "ytdiaebjbiddefaa", sum := "c8446eb61248516523d94e84649ef095164e10885950939ec763f585fdf01f73", func := "loop.example/g00904/laws.FnExactBoxesOf", spec := "fnExactBoxesOf", unfollowed := true, recurses := true, apart := false, narrowed := true }
def FnExactBoxesOfUptoSaid : Prop := fnExactBoxesOfUptoRow.holds Try.pinned (OpenSpec.upto fnExactBoxesOfSpec)

/-- 'laws.FnSelectedBoxes', WHERE WHAT IT READS IS OF BULK AT MOST 1048576: true; the input reads as it did. -/
def fnSelectedBoxesUptoRow : OpenClaim := { program := "ytdiaebjbiddefaa", sum := "c8446eb61248516523d94e84649ef095164e10885950939ec763f585fdf01f73", func := "loop.example/g00904/laws.FnSelectedBoxes", spec := "fnSelectedBoxes", unfollowed := true, recurses := true, apart := false, narrowed := true }
def FnSelectedBoxesUptoSaid : Prop := fnSelectedBoxesUptoRow.holds Try.pinned (OpenSpec.upto fnSelectedBoxesSpec)

end Rows
end Go.Proofs.Ytdiaebjbiddefaa
