/-
  NARROWER THAN 'FOR EVERY INPUT', by the rows' own cells (each row's printed sentence says how): FnExactSameType: loops · FnExactSameArray: loops.
  DERIVED. THE GIVEN ROWS OF THIS SEAT. 4 by the template 'for every input the law returns true; each argument reads behind the call as it read before'; 0 by the template 'total and deterministic' (their statements: YtfblodggimjoaaaTotals.lean).
  GIVEN WITH THE SEED: the statements are not yours to turn. If you find one false, say at which input.
  Laid BY PROGRAM, IN A SANDBOX (cutbox-rows.mjs): the forced cells as the released guide's own fill.sh prints them over the translation 03d0804421e86155… (all of the seat's roots in one cut). By AI agents, Wed Nov 11 2026. No macro, syntax, notation, axiom, sorry.
-/
import Derived.Test.YtfblodggimjoaaaChecked
import GoSem.Claim
import GoSem.ClaimJoined
import GoSem.ClaimMapViews
import Derived.JoinedTies
import Derived.KernelRfl
namespace Go.Proofs.Ytfblodggimjoaaa
/- THE CELL 'sum', in the pinned program and in every row, IS THE sha256 OF THE DUMP (.gsa) THAT YtfblodggimjoaaaProg.lean LOADS. Nothing in Lean hashes anything: it is a label: what it is worth is what the hold of that sum in a sandbox is worth. -/
noncomputable def Try.pinned : Pinned := { name := "ytfblodggimjoaaa", sum := "03d0804421e86155a7ec6286105586902ceeef2117725d111976c78e2a1da312", checked := Try.checked }
namespace Rows
def none {H : Type} : Left H := { results := [], args := [] }

/-- 'laws.FnExactSameType': WHATEVER THE INPUT: true; the input reads as it did. -/
def fnExactSameTypeSpec : ChangeSpec := { name := "fnExactSameType", fn := fun _ => fun
  | [d1, d2] => { results := [.lit (.bool true)], args := [d1, d2] }
  | _ => none }
def fnExactSameTypeRow : OpenClaim := { program := "ytfblodggimjoaaa", sum := "03d0804421e86155a7ec6286105586902ceeef2117725d111976c78e2a1da312", func := "loop.example/g00904/laws.FnExactSameType", spec := "fnExactSameType", unfollowed := true, recurses := true, loops := true, apart := false }
def FnExactSameTypeSaid : Prop := fnExactSameTypeRow.holds Try.pinned (OpenSpec.ofChange fnExactSameTypeSpec)

/-- ITS FALSE NEIGHBOUR: 'it returns false'. Refute it at one input. -/
def fnExactSameTypeWrong : ChangeSpec := { name := "fnExactSameType", fn := fun _ => fun
  | [d1, d2] => { results := [.lit (.bool false)], args := [d1, d2] }
  | _ => none }
def FnExactSameTypeWrongFalsely : Prop := fnExactSameTypeRow.holds Try.pinned (OpenSpec.ofChange fnExactSameTypeWrong)

/-- 'laws.FnExactMergePages': WHATEVER THE INPUT: true; the input reads as it did. -/
def fnExactMergePagesSpec : ChangeSpec := { name := "fnExactMergePages", fn := fun _ => fun
  | [d1, d2] => { results := [.lit (.bool true)], args := [d1, d2] }
  | _ => none }
def fnExactMergePagesRow : OpenClaim := { program := "ytfblodggimjoaaa", sum := "03d0804421e86155a7ec6286105586902ceeef2117725d111976c78e2a1da312", func := "loop.example/g00904/laws.FnExactMergePages", spec := "fnExactMergePages", inPlace := ["slices.overlaps[loop.example/g00904/impl.Page]"], unfollowed := true, recurses := true, apart := false }
def FnExactMergePagesSaid : Prop := fnExactMergePagesRow.holds Try.pinned (OpenSpec.ofChange fnExactMergePagesSpec)

/-- ITS FALSE NEIGHBOUR: 'it returns false'. Refute it at one input. -/
def fnExactMergePagesWrong : ChangeSpec := { name := "fnExactMergePages", fn := fun _ => fun
  | [d1, d2] => { results := [.lit (.bool false)], args := [d1, d2] }
  | _ => none }
def FnExactMergePagesWrongFalsely : Prop := fnExactMergePagesRow.holds Try.pinned (OpenSpec.ofChange fnExactMergePagesWrong)

/-- 'laws.FnMerged': WHATEVER THE INPUT: true; the input reads as it did. -/
def fnMergedSpec : ChangeSpec := { name := "fnMerged", fn := fun _ => fun
  | [d] => { results := [.lit (.bool true)], args := [d] }
  | _ => none }
def fnMergedRow : OpenClaim := { program := "ytfblodggimjoaaa", sum := "03d0804421e86155a7ec6286105586902ceeef2117725d111976c78e2a1da312", func := "loop.example/g00904/laws.FnMerged", spec := "fnMerged", inPlace := ["slices.overlaps[loop.example/g00904/impl.Page]"], unfollowed := true, recurses := true, apart := false }
def FnMergedSaid : Prop := fnMergedRow.holds Try.pinned (OpenSpec.ofChange fnMergedSpec)

/-- ITS FALSE NEIGHBOUR: 'it returns false'. Refute it at one input. -/
def fnMergedWrong : ChangeSpec := { name := "fnMerged", fn := fun _ => fun
  | [d] => { results := [.lit (.bool false)], args := [d] }
  | _ => none }
def FnMergedWrongFalsely : Prop := fnMergedRow.holds Try.pinned (OpenSpec.ofChange fnMergedWrong)

/-- 'laws.FnExactSameArray': WHATEVER THE INPUT: true; the input reads as it did. -/
def fnExactSameArraySpec : ChangeSpec := { name := "fnExactSameArray", fn := fun _ => fun
  | [d1, d2] => { results := [.lit (.bool true)], args := [d1, d2] }
  | _ => none }
def fnExactSameArrayRow : OpenClaim := { program := "ytfblodggimjoaaa", sum := "03d0804421e86155a7ec6286105586902ceeef2117725d111976c78e2a1da312", func := "loop.example/g00904/laws.FnExactSameArray", spec := "fnExactSameArray", unfollowed := true, recurses := true, loops := true, apart := false }
def FnExactSameArraySaid : Prop := fnExactSameArrayRow.holds Try.pinned (OpenSpec.ofChange fnExactSameArraySpec)

/-- ITS FALSE NEIGHBOUR: 'it returns false'. Refute it at one input. -/
def fnExactSameArrayWrong : ChangeSpec := { name := "fnExactSameArray", fn := fun _ => fun
  | [d1, d2] => { results := [.lit (.bool false)], args := [d1, d2] }
  | _ => none }
def FnExactSameArrayWrongFalsely : Prop := fnExactSameArrayRow.holds Try.pinned (OpenSpec.ofChange fnExactSameArrayWrong)

/- THE SECOND FORM. 'bulk': how many values and letters a reading holds, each counted each time it is reached (what is shared counts as often as it is met; a slice's spare places count too). A statement '..UptoSaid' is the law's where the arguments, and the package variables that the reading takes, are together of bulk at most 1048576: NARROWER than '..Said'. Prove '..Said' where nothing that the law and all that it calls make is longer than what came in: it says more and counts as full. Else prove '..UptoSaid'. A law counts once. -/
mutual
def uptoBulk {H : Type} : DataW H → Nat
  | .lit (.string bytes) => bytes.length + 1
  | .lit _ => 1
  | .nil => 1
  | .ptr d => uptoBulk d + 1
  | .slice elems spare => uptoBulkAll elems + uptoBulkAll spare + 1
  | .agg parts => uptoBulkAll parts + 1
  | .iface _ d => uptoBulk d + 1
  | .map entries => uptoBulkEntries entries + 1
  | .held _ => 1
def uptoBulkAll {H : Type} : List (DataW H) → Nat
  | [] => 0
  | d :: r => uptoBulk d + uptoBulkAll r
def uptoBulkEntries {H : Type} : List (Lit × DataW H) → Nat
  | [] => 0
  | x :: r => uptoBulkEntry x + uptoBulkEntries r
def uptoBulkEntry {H : Type} : Lit × DataW H → Nat
  | (.string bytes, d) => bytes.length + uptoBulk d + 1
  | (_, d) => uptoBulk d + 1
 end
def uptoSmall : (H : Type) → List (DataW H) → Bool := fun _ ds => decide (uptoBulkAll ds ≤ 1048576)
def OpenSpec.upto (s : _root_.Go.ChangeSpec) : _root_.Go.OpenSpec := { _root_.Go.OpenSpec.ofChange s with cond := some uptoSmall }

/-- 'laws.FnExactSameType', WHERE WHAT IT READS IS OF BULK AT MOST 1048576: true; the input reads as it did. -/
def fnExactSameTypeUptoRow : OpenClaim := { program := "ytfblodggimjoaaa", sum := "03d0804421e86155a7ec6286105586902ceeef2117725d111976c78e2a1da312", func := "loop.example/g00904/laws.FnExactSameType", spec := "fnExactSameType", unfollowed := true, recurses := true, loops := true, apart := false, narrowed := true }
def FnExactSameTypeUptoSaid : Prop := fnExactSameTypeUptoRow.holds Try.pinned (OpenSpec.upto fnExactSameTypeSpec)

/-- 'laws.FnExactMergePages', WHERE WHAT IT READS IS OF BULK AT MOST 1048576: true; the input reads as it did. -/
def fnExactMergePagesUptoRow : OpenClaim := { program := "ytfblodggimjoaaa", sum := "03d0804421e86155a7ec6286105586902ceeef2117725d111976c78e2a1da312", func := "loop.example/g00904/laws.FnExactMergePages", spec := "fnExactMergePages", inPlace := ["slices.overlaps[loop.example/g00904/impl.Page]"], unfollowed := true, recurses := true, apart := false, narrowed := true }
def FnExactMergePagesUptoSaid : Prop := fnExactMergePagesUptoRow.holds Try.pinned (OpenSpec.upto fnExactMergePagesSpec)

/-- 'laws.FnMerged', WHERE WHAT IT READS IS OF BULK AT MOST 1048576: true; the input reads as it did. -/
def fnMergedUptoRow : OpenClaim := { program := "ytfblodggimjoaaa", sum := "03d0804421e86155a7ec6286105586902ceeef2117725d111976c78e2a1da312", func := "loop.example/g00904/laws.FnMerged", spec := "fnMerged", inPlace := ["slices.overlaps[loop.example/g00904/impl.Page]"], unfollowed := true, recurses := true, apart := false, narrowed := true }
def FnMergedUptoSaid : Prop := fnMergedUptoRow.holds Try.pinned (OpenSpec.upto fnMergedSpec)

/-- 'laws.FnExactSameArray', WHERE WHAT IT READS IS OF BULK AT MOST 1048576: true; the input reads as it did. -/
def fnExactSameArrayUptoRow : OpenClaim := { program := "ytfblodggimjoaaa", sum := "03d0804421e86155a7ec6286105586902ceeef2117725d111976c78e2a1da312", func := "loop.example/g00904/laws.FnExactSameArray", spec := "fnExactSameArray", unfollowed := true, recurses := true, loops := true, apart := false, narrowed := true }
def FnExactSameArrayUptoSaid : Prop := fnExactSameArrayUptoRow.holds Try.pinned (OpenSpec.upto fnExactSameArraySpec)

end Rows
end Go.Proofs.Ytfblodggimjoaaa
