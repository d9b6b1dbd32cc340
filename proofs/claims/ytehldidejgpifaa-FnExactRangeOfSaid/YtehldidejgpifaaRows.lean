/-
  No cell of these rows narrows 'for every input' (looked for: loops, veiled, ifaces, maps, wideKeys, modest, calm, conditions, laid).
  DERIVED. THE GIVEN ROWS OF THIS SEAT. 8 by the template 'for every input the law returns true; each argument reads behind the call as it read before'; 0 by the template 'total and deterministic' (their statements: YtehldidejgpifaaTotals.lean).
  GIVEN WITH THE SEED: the statements are not yours to turn. If you find one false, say at which input.
  Laid BY PROGRAM, IN A SANDBOX (cutbox-rows.mjs): the forced cells as the released guide's own fill.sh prints them over the translation 0bfaeebeadb1bfab… (all of the seat's roots in one cut). By AI agents, Wed Nov 11 2026. No macro, syntax, notation, axiom, sorry.
-/
import Derived.Test.YtehldidejgpifaaChecked
import GoSem.Claim
import GoSem.ClaimJoined
import GoSem.ClaimMapViews
import Derived.JoinedTies
import Derived.KernelRfl
namespace Go.Proofs.Ytehldidejgpifaa
/- THE CELL 'sum', in the pinned program and in every row, IS THE sha256 OF THE DUMP (.gsa) THAT YtehldidejgpifaaProg.lean LOADS. Nothing in Lean hashes anything: it is a label: what it is worth is what the hold of that sum in a sandbox is worth. -/
noncomputable def Try.pinned : Pinned := { name := "ytehldidejgpifaa", sum := "0bfaeebeadb1bfab5dcf15e4fe3eb9c8843e8fa3aef2f97f56291333d240baac", checked := Try.checked }
namespace Rows
def none {H : Type} : Left H := { results := [], args := [] }

/-- 'laws.FnExactReverseBytes': WHATEVER THE INPUT: true; the input reads as it did. -/
def fnExactReverseBytesSpec : ChangeSpec := { name := "fnExactReverseBytes", fn := fun _ => fun
  | [d] => { results := [.lit (.bool true)], args := [d] }
  | _ => none }
def fnExactReverseBytesRow : OpenClaim := { program := "ytehldidejgpifaa", sum := "0bfaeebeadb1bfab5dcf15e4fe3eb9c8843e8fa3aef2f97f56291333d240baac", func := "loop.example/g00904/laws.FnExactReverseBytes", spec := "fnExactReverseBytes", apart := false }
def FnExactReverseBytesSaid : Prop := fnExactReverseBytesRow.holds Try.pinned (OpenSpec.ofChange fnExactReverseBytesSpec)

/-- ITS FALSE NEIGHBOUR: 'it returns false'. Refute it at one input. -/
def fnExactReverseBytesWrong : ChangeSpec := { name := "fnExactReverseBytes", fn := fun _ => fun
  | [d] => { results := [.lit (.bool false)], args := [d] }
  | _ => none }
def FnExactReverseBytesWrongFalsely : Prop := fnExactReverseBytesRow.holds Try.pinned (OpenSpec.ofChange fnExactReverseBytesWrong)

/-- 'laws.FnExactPadBytes': WHATEVER THE INPUT: true; the input reads as it did. -/
def fnExactPadBytesSpec : ChangeSpec := { name := "fnExactPadBytes", fn := fun _ => fun
  | [d1, d2] => { results := [.lit (.bool true)], args := [d1, d2] }
  | _ => none }
def fnExactPadBytesRow : OpenClaim := { program := "ytehldidejgpifaa", sum := "0bfaeebeadb1bfab5dcf15e4fe3eb9c8843e8fa3aef2f97f56291333d240baac", func := "loop.example/g00904/laws.FnExactPadBytes", spec := "fnExactPadBytes", inPlace := ["internal/abi.NoEscape", "internal/bytealg.MakeNoZero"], apart := false }
def FnExactPadBytesSaid : Prop := fnExactPadBytesRow.holds Try.pinned (OpenSpec.ofChange fnExactPadBytesSpec)

/-- ITS FALSE NEIGHBOUR: 'it returns false'. Refute it at one input. -/
def fnExactPadBytesWrong : ChangeSpec := { name := "fnExactPadBytes", fn := fun _ => fun
  | [d1, d2] => { results := [.lit (.bool false)], args := [d1, d2] }
  | _ => none }
def FnExactPadBytesWrongFalsely : Prop := fnExactPadBytesRow.holds Try.pinned (OpenSpec.ofChange fnExactPadBytesWrong)

/-- 'laws.FnExactCoordsOf': WHATEVER THE INPUT: true; the input reads as it did. -/
def fnExactCoordsOfSpec : ChangeSpec := { name := "fnExactCoordsOf", fn := fun _ => fun
  | [d1, d2] => { results := [.lit (.bool true)], args := [d1, d2] }
  | _ => none }
def fnExactCoordsOfRow : OpenClaim := { program := "ytehldidejgpifaa", sum := "0bfaeebeadb1bfab5dcf15e4fe3eb9c8843e8fa3aef2f97f56291333d240baac", func := "loop.example/g00904/laws.FnExactCoordsOf", spec := "fnExactCoordsOf", unfollowed := true, recurses := true, apart := false }
def FnExactCoordsOfSaid : Prop := fnExactCoordsOfRow.holds Try.pinned (OpenSpec.ofChange fnExactCoordsOfSpec)

/-- ITS FALSE NEIGHBOUR: 'it returns false'. Refute it at one input. -/
def fnExactCoordsOfWrong : ChangeSpec := { name := "fnExactCoordsOf", fn := fun _ => fun
  | [d1, d2] => { results := [.lit (.bool false)], args := [d1, d2] }
  | _ => none }
def FnExactCoordsOfWrongFalsely : Prop := fnExactCoordsOfRow.holds Try.pinned (OpenSpec.ofChange fnExactCoordsOfWrong)

/-- 'laws.FnExactNewDisk': WHATEVER THE INPUT: true; the input reads as it did. -/
def fnExactNewDiskSpec : ChangeSpec := { name := "fnExactNewDisk", fn := fun _ => fun
  | [d] => { results := [.lit (.bool true)], args := [d] }
  | _ => none }
def fnExactNewDiskRow : OpenClaim := { program := "ytehldidejgpifaa", sum := "0bfaeebeadb1bfab5dcf15e4fe3eb9c8843e8fa3aef2f97f56291333d240baac", func := "loop.example/g00904/laws.FnExactNewDisk", spec := "fnExactNewDisk", inPlace := ["internal/abi.NoEscape", "internal/bytealg.MakeNoZero"], apart := false }
def FnExactNewDiskSaid : Prop := fnExactNewDiskRow.holds Try.pinned (OpenSpec.ofChange fnExactNewDiskSpec)

/-- ITS FALSE NEIGHBOUR: 'it returns false'. Refute it at one input. -/
def fnExactNewDiskWrong : ChangeSpec := { name := "fnExactNewDisk", fn := fun _ => fun
  | [d] => { results := [.lit (.bool false)], args := [d] }
  | _ => none }
def FnExactNewDiskWrongFalsely : Prop := fnExactNewDiskRow.holds Try.pinned (OpenSpec.ofChange fnExactNewDiskWrong)

/-- 'laws.FnExactBoundsOf': WHATEVER THE INPUT: true; the input reads as it did. -/
def fnExactBoundsOfSpec : ChangeSpec := { name := "fnExactBoundsOf", fn := fun _ => fun
  | [d] => { results := [.lit (.bool true)], args := [d] }
  | _ => none }
def fnExactBoundsOfRow : OpenClaim := { program := "ytehldidejgpifaa", sum := "0bfaeebeadb1bfab5dcf15e4fe3eb9c8843e8fa3aef2f97f56291333d240baac", func := "loop.example/g00904/laws.FnExactBoundsOf", spec := "fnExactBoundsOf", unfollowed := true, recurses := true, apart := false }
def FnExactBoundsOfSaid : Prop := fnExactBoundsOfRow.holds Try.pinned (OpenSpec.ofChange fnExactBoundsOfSpec)

/-- ITS FALSE NEIGHBOUR: 'it returns false'. Refute it at one input. -/
def fnExactBoundsOfWrong : ChangeSpec := { name := "fnExactBoundsOf", fn := fun _ => fun
  | [d] => { results := [.lit (.bool false)], args := [d] }
  | _ => none }
def FnExactBoundsOfWrongFalsely : Prop := fnExactBoundsOfRow.holds Try.pinned (OpenSpec.ofChange fnExactBoundsOfWrong)

/-- 'laws.FnExactRangeOf': WHATEVER THE INPUT: true; the input reads as it did. -/
def fnExactRangeOfSpec : ChangeSpec := { name := "fnExactRangeOf", fn := fun _ => fun
  | [d1, d2] => { results := [.lit (.bool true)], args := [d1, d2] }
  | _ => none }
def fnExactRangeOfRow : OpenClaim := { program := "ytehldidejgpifaa", sum := "0bfaeebeadb1bfab5dcf15e4fe3eb9c8843e8fa3aef2f97f56291333d240baac", func := "loop.example/g00904/laws.FnExactRangeOf", spec := "fnExactRangeOf", apart := false }
def FnExactRangeOfSaid : Prop := fnExactRangeOfRow.holds Try.pinned (OpenSpec.ofChange fnExactRangeOfSpec)

/-- ITS FALSE NEIGHBOUR: 'it returns false'. Refute it at one input. -/
def fnExactRangeOfWrong : ChangeSpec := { name := "fnExactRangeOf", fn := fun _ => fun
  | [d1, d2] => { results := [.lit (.bool false)], args := [d1, d2] }
  | _ => none }
def FnExactRangeOfWrongFalsely : Prop := fnExactRangeOfRow.holds Try.pinned (OpenSpec.ofChange fnExactRangeOfWrong)

/-- 'laws.FnExactResizeSpace': WHATEVER THE INPUT: true; the input reads as it did. -/
def fnExactResizeSpaceSpec : ChangeSpec := { name := "fnExactResizeSpace", fn := fun _ => fun
  | [d1, d2] => { results := [.lit (.bool true)], args := [d1, d2] }
  | _ => none }
def fnExactResizeSpaceRow : OpenClaim := { program := "ytehldidejgpifaa", sum := "0bfaeebeadb1bfab5dcf15e4fe3eb9c8843e8fa3aef2f97f56291333d240baac", func := "loop.example/g00904/laws.FnExactResizeSpace", spec := "fnExactResizeSpace", unfollowed := true, recurses := true, apart := false }
def FnExactResizeSpaceSaid : Prop := fnExactResizeSpaceRow.holds Try.pinned (OpenSpec.ofChange fnExactResizeSpaceSpec)

/-- ITS FALSE NEIGHBOUR: 'it returns false'. Refute it at one input. -/
def fnExactResizeSpaceWrong : ChangeSpec := { name := "fnExactResizeSpace", fn := fun _ => fun
  | [d1, d2] => { results := [.lit (.bool false)], args := [d1, d2] }
  | _ => none }
def FnExactResizeSpaceWrongFalsely : Prop := fnExactResizeSpaceRow.holds Try.pinned (OpenSpec.ofChange fnExactResizeSpaceWrong)

/-- 'laws.FnExactSamePager': WHATEVER THE INPUT: true; the input reads as it did. -/
def fnExactSamePagerSpec : ChangeSpec := { name := "fnExactSamePager", fn := fun _ => fun
  | [d1, d2] => { results := [.lit (.bool true)], args := [d1, d2] }
  | _ => none }
def fnExactSamePagerRow : OpenClaim := { program := "ytehldidejgpifaa", sum := "0bfaeebeadb1bfab5dcf15e4fe3eb9c8843e8fa3aef2f97f56291333d240baac", func := "loop.example/g00904/laws.FnExactSamePager", spec := "fnExactSamePager", apart := false }
def FnExactSamePagerSaid : Prop := fnExactSamePagerRow.holds Try.pinned (OpenSpec.ofChange fnExactSamePagerSpec)

/-- ITS FALSE NEIGHBOUR: 'it returns false'. Refute it at one input. -/
def fnExactSamePagerWrong : ChangeSpec := { name := "fnExactSamePager", fn := fun _ => fun
  | [d1, d2] => { results := [.lit (.bool false)], args := [d1, d2] }
  | _ => none }
def FnExactSamePagerWrongFalsely : Prop := fnExactSamePagerRow.holds Try.pinned (OpenSpec.ofChange fnExactSamePagerWrong)

/- THE SECOND FORM. 'bulk': how many values and letters a reading holds, each counted each time it is reached (what is shared counts as often as it is met; a slice's spare places count too). A statement '..UptoSaid' is the law's where the arguments, and the package variables that the reading takes, are together of bulk at most 1048576: NARROWER than '..Said'. Prove '..Said' where nothing that the law and all that it calls make is longer than what came in: it says more and counts as full. Else prove '..UptoSaid'. A law counts once. -/
mutual
def uptoBulk {H : Type} : DataW H → Nat
  | .lit (.string bytes) => bytes.length + 1
  | .lit _ => 1
  | .nil => 1
  | .ptr d => uptoBulk d + 1
  | .slice elems spare => uptoBulkAll elems + uptoBulkAll spare + 1
  | .agg parts => uptoBulkAll parts + 1
  | .iface _ d => uptoBulk d + 1
  | .map entries => uptoBulkEntries entries + 1
  | .held _ => 1
def uptoBulkAll {H : Type} : List (DataW H) → Nat
  | [] => 0
  | d :: r => uptoBulk d + uptoBulkAll r
def uptoBulkEntries {H : Type} : List (Lit × DataW H) → Nat
  | [] => 0
  | x :: r => uptoBulkEntry x + uptoBulkEntries r
def uptoBulkEntry {H : Type} : Lit × DataW H → Nat
  | (.string bytes, d) => bytes.length + uptoBulk d + 1
  | (_, d) => uptoBulk d + 1
 end
def uptoSmall : (H : Type) → List (DataW H) → Bool := fun _ ds => decide (uptoBulkAll ds ≤ 1048576)
def OpenSpec.upto (s : _root_.Go.ChangeSpec) : _root_.Go.OpenSpec := { _root_.Go.OpenSpec.ofChange s with cond := some uptoSmall }

/-- 'laws.FnExactReverseBytes', WHERE WHAT IT READS IS OF BULK AT MOST 1048576: true; the input reads as it did. -/
def fnExactReverseBytesUptoRow : OpenClaim := { program := "ytehldidejgpifaa", sum := "0bfaeebeadb1bfab5dcf15e4fe3eb9c8843e8fa3aef2f97f56291333d240baac", func := "loop.example/g00904/laws.FnExactReverseBytes", spec := "fnExactReverseBytes", apart := false, narrowed := true }
def FnExactReverseBytesUptoSaid : Prop := fnExactReverseBytesUptoRow.holds Try.pinned (OpenSpec.upto fnExactReverseBytesSpec)

/-- 'laws.FnExactPadBytes', WHERE WHAT IT READS IS OF BULK AT MOST 1048576: true; the input reads as it did. -/
def fnExactPadBytesUptoRow : OpenClaim := { program := "ytehldidejgpifaa", sum := "0bfaeebeadb1bfab5dcf15e4fe3eb9c8843e8fa3aef2f97f56291333d240baac", func := "loop.example/g00904/laws.FnExactPadBytes", spec := "fnExactPadBytes", inPlace := ["internal/abi.NoEscape", "internal/bytealg.MakeNoZero"], apart := false, narrowed := true }
def FnExactPadBytesUptoSaid : Prop := fnExactPadBytesUptoRow.holds Try.pinned (OpenSpec.upto fnExactPadBytesSpec)

/-- 'laws.FnExactCoordsOf', WHERE WHAT IT READS IS OF BULK AT MOST 1048576: true; the input reads as it did. -/
def fnExactCoordsOfUptoRow : OpenClaim := { program := "ytehldidejgpifaa", sum := "0bfaeebeadb1bfab5dcf15e4fe3eb9c8843e8fa3aef2f97f56291333d240baac", func := "loop.example/g00904/laws.FnExactCoordsOf", spec := "fnExactCoordsOf", unfollowed := true, recurses := true, apart := false, narrowed := true }
def FnExactCoordsOfUptoSaid : Prop := fnExactCoordsOfUptoRow.holds Try.pinned (OpenSpec.upto fnExactCoordsOfSpec)

/-- 'laws.FnExactNewDisk', WHERE WHAT IT READS IS OF BULK AT MOST 1048576: true; the input reads as it did. -/
def fnExactNewDiskUptoRow : OpenClaim := { program := "ytehldidejgpifaa", sum := "0bfaeebeadb1bfab5dcf15e4fe3eb9c8843e8fa3aef2f97f56291333d240baac", func := "loop.example/g00904/laws.FnExactNewDisk", spec := "fnExactNewDisk", inPlace := ["internal/abi.NoEscape", "internal/bytealg.MakeNoZero"], apart := false, narrowed := true }
def FnExactNewDiskUptoSaid : Prop := fnExactNewDiskUptoRow.holds Try.pinned (OpenSpec.upto fnExactNewDiskSpec)

/-- 'laws.FnExactBoundsOf', WHERE WHAT IT READS IS OF BULK AT MOST 1048576: true; the input reads as it did. -/
def fnExactBoundsOfUptoRow : OpenClaim := { program := "ytehldidejgpifaa", sum := "0bfaeebeadb1bfab5dcf15e4fe3eb9c8843e8fa3aef2f97f56291333d240baac", func := "loop.example/g00904/laws.FnExactBoundsOf", spec := "fnExactBoundsOf", unfollowed := true, recurses := true, apart := false, narrowed := true }
def FnExactBoundsOfUptoSaid : Prop := fnExactBoundsOfUptoRow.holds Try.pinned (OpenSpec.upto fnExactBoundsOfSpec)

/-- 'laws.FnExactRangeOf', WHERE WHAT IT READS IS OF BULK AT MOST 1048576: true; the input reads as it did. -/
def fnExactRangeOfUptoRow : OpenClaim := { program := "ytehldidejgpifaa", sum := "0bfaeebeadb1bfab5dcf15e4fe3eb9c8843e8fa3aef2f97f56291333d240baac", func := "loop.example/g00904/laws.FnExactRangeOf", spec := "fnExactRangeOf", apart := false, narrowed := true }
def FnExactRangeOfUptoSaid : Prop := fnExactRangeOfUptoRow.holds Try.pinned (OpenSpec.upto fnExactRangeOfSpec)

/-- 'laws.FnExactResizeSpace', WHERE WHAT IT READS IS OF BULK AT MOST 1048576: true; the input reads as it did. -/
def fnExactResizeSpaceUptoRow : OpenClaim := { program := "ytehldidejgpifaa", sum := "0bfaeebeadb1bfab5dcf15e4fe3eb9c8843e8fa3aef2f97f56291333d240baac", func := "loop.example/g00904/laws.FnExactResizeSpace", spec := "fnExactResizeSpace", unfollowed := true, recurses := true, apart := false, narrowed := true }
def FnExactResizeSpaceUptoSaid : Prop := fnExactResizeSpaceUptoRow.holds Try.pinned (OpenSpec.upto fnExactResizeSpaceSpec)

/-- 'laws.FnExactSamePager', WHERE WHAT IT READS IS OF BULK AT MOST 1048576: true; the input reads as it did. -/
def fnExactSamePagerUptoRow : OpenClaim := { program := "ytehldidejgpifaa", sum := "0bfaeebeadb1bfab5dcf15e4fe3eb9c8843e8fa3aef2f97f56291333d240baac", func := "loop.example/g00904/laws.FnExactSamePager", spec := "fnExactSamePager", apart := false, narrowed := true }
def FnExactSamePagerUptoSaid : Prop := fnExactSamePagerUptoRow.holds Try.pinned (OpenSpec.upto fnExactSamePagerSpec)

end Rows
end Go.Proofs.Ytehldidejgpifaa
