/-
  No cell of these rows narrows 'for every input' (looked for: loops, veiled, ifaces, maps, wideKeys, modest, calm, conditions, laid).
  DERIVED. THE GIVEN ROWS OF THIS SEAT. 2 by the template 'for every input the law returns true; each argument reads behind the call as it read before'; 0 by the template 'total and deterministic' (their statements: YtobdoafjlbifpaaTotals.lean).
  GIVEN WITH THE SEED: the statements are not yours to turn. If you find one false, say at which input.
  Laid BY PROGRAM, IN A SANDBOX (cutbox-rows.mjs): the forced cells as the released guide's own fill.sh prints them over the translation 632bfd507a8557e3… (all of the seat's roots in one cut). By AI agents, Wed Nov 11 2026. No macro, syntax, notation, axiom, sorry.
-/
import Derived.Test.YtobdoafjlbifpaaChecked
import GoSem.Claim
import GoSem.ClaimJoined
import GoSem.ClaimMapViews
import Derived.JoinedTies
import Derived.KernelRfl
namespace Go.Proofs.Ytobdoafjlbifpaa
/- THE CELL 'sum', in the pinned program and in every row, IS THE sha256 OF THE DUMP (.gsa) THAT YtobdoafjlbifpaaProg.lean LOADS. Nothing in Lean hashes anything: it is a label: what it is worth is what the hold of that sum in a sandbox is worth. -/
noncomputable def Try.pinned : Pinned := { name := "ytobdoafjlbifpaa", sum := "632bfd507a8557e3f26b802548618af26c1f34f91d3d45d74f9a4b91d4096812", checked := Try.checked }
namespace Rows
def none {H : Type} : Left H := { results := [], args := [] }

/-- 'laws.FnExactFormedSelection': WHATEVER THE INPUT: true; the input reads as it did. -/
def fnExactFormedSelectionSpec : ChangeSpec := { name := "fnExactFormedSelection", fn := fun _ => fun
  | [d] => { results := [.lit (.bool true)], args := [d] }
  | _ => none }
def fnExactFormedSelectionRow : OpenClaim := { program := "ytobdoafjlbifpaa", sum := "632bfd507a8557e3f26b802548618af26c1f34f91d3d45d74f9a4b91d4096812", func := "loop.example/g00904/laws.FnExactFormedSelection", spec := "fnExactFormedSelection", unfollowed := true, recurses := true, apart := false }
def FnExactFormedSelectionSaid : Prop := fnExactFormedSelectionRow.holds Try.pinned (OpenSpec.ofChange fnExactFormedSelectionSpec)

/-- ITS FALSE NEIGHBOUR: 'it returns false'. Refute it at one input. -/
def fnExactFormedSelectionWrong : ChangeSpec := { name := "fnExactFormedSelection", fn := fun _ => fun
  | [d] => { results := [.lit (.bool false)], args := [d] }
  | _ => none }
def FnExactFormedSelectionWrongFalsely : Prop := fnExactFormedSelectionRow.holds Try.pinned (OpenSpec.ofChange fnExactFormedSelectionWrong)

/-- 'laws.FnExactValidSelection': WHATEVER THE INPUT: true; the input reads as it did. -/
def fnExactValidSelectionSpec : ChangeSpec := { name := "fnExactValidSelection", fn := fun _ => fun
  | [d1, d2] => { results := [.lit (.bool true)], args := [d1, d2] }
  | _ => none }
def fnExactValidSelectionRow : OpenClaim := { program := "ytobdoafjlbifpaa", sum := "632bfd507a8557e3f26b802548618af26c1f34f91d3d45d74f9a4b91d4096812", func := "loop.example/g00904/laws.FnExactValidSelection", spec := "fnExactValidSelection", unfollowed := true, recurses := true, apart := false }
def FnExactValidSelectionSaid : Prop := fnExactValidSelectionRow.holds Try.pinned (OpenSpec.ofChange fnExactValidSelectionSpec)

/-- ITS FALSE NEIGHBOUR: 'it returns false'. Refute it at one input. -/
def fnExactValidSelectionWrong : ChangeSpec := { name := "fnExactValidSelection", fn := fun _ => fun
  | [d1, d2] => { results := [.lit (.bool false)], args := [d1, d2] }
  | _ => none }
def FnExactValidSelectionWrongFalsely : Prop := fnExactValidSelectionRow.holds Try.pinned (OpenSpec.ofChange fnExactValidSelectionWrong)

/- THE SECOND FORM. 'bulk': how many values and letters a reading holds, each counted each time it is reached (what is shared counts as often as it is met; a slice's spare places count too). A statement '..UptoSaid' is the law's where the arguments, and the package variables that the reading takes, are together of bulk at most 1048576: NARROWER than '..Said'. Prove '..Said' where nothing that the law and all that it calls make is longer than what came in: it says more and counts as full. Else prove '..UptoSaid'. A law counts once. -/
mutual
def uptoBulk {H : Type} : DataW H → Nat
  | .lit (.string bytes) => bytes.length + 1
  | .lit _ => 1
  | .nil => 1
  | .ptr d => uptoBulk d + 1
  | .slice elems spare => uptoBulkAll elems + uptoBulkAll spare + 1
  | .agg parts => uptoBulkAll parts + 1
  | .iface _ d => uptoBulk d + 1
  | .map entries => uptoBulkEntries entries + 1
  | .held _ => 1
def uptoBulkAll {H : Type} : List (DataW H) → Nat
  | [] => 0
  | d :: r => uptoBulk d + uptoBulkAll r
def uptoBulkEntries {H : Type} : List (Lit × DataW H) → Nat
  | [] => 0
  | x :: r => uptoBulkEntry x + uptoBulkEntries r
def uptoBulkEntry {H : Type} : Lit × DataW H → Nat
  | (.string bytes, d) => bytes.length + uptoBulk d + 1
  | (_, d) => uptoBulk d + 1
 end
def uptoSmall : (H : Type) → List (DataW H) → Bool := fun _ ds => decide (uptoBulkAll ds ≤ 1048576)
def OpenSpec.upto (s : _root_.Go.ChangeSpec) : _root_.Go.OpenSpec := { _root_.Go.OpenSpec.ofChange s with cond := some uptoSmall }

/-- 'laws.FnExactFormedSelection', WHERE WHAT IT READS IS OF BULK AT MOST 1048576: true; the input reads as it did. -/
def fnExactFormedSelectionUptoRow : OpenClaim := { program := "ytobdoafjlbifpaa", sum := "632bfd507a8557e3f26b802548618af26c1f34f91d3d45d74f9a4b91d4096812", func := "loop.example/g00904/laws.FnExactFormedSelection", spec := "fnExactFormedSelection", unfollowed := true, recurses := true, apart := false, narrowed := true }
def FnExactFormedSelectionUptoSaid : Prop := fnExactFormedSelectionUptoRow.holds Try.pinned (OpenSpec.upto fnExactFormedSelectionSpec)

/-- 'laws.FnExactValidSelection', WHERE WHAT IT READS IS OF BULK AT MOST 1048576: true; the input reads as it did. -/
def fnExactValidSelectionUptoRow : OpenClaim := { program := "ytobdoafjlbifpaa", sum := "632bfd507a8557e3f26b802548618af26c1f34f91d3d45d74f9a4b91d4096812", func := "loop.example/g00904/laws.FnExactValidSelection", spec := "fnExactValidSelection", unfollowed := true, recurses := true, apart := false, narrowed := true }
def FnExactValidSelectionUptoSaid : Prop := fnExactValidSelectionUptoRow.holds Try.pinned (OpenSpec.upto fnExactValidSelectionSpec)

end Rows
end Go.Proofs.Ytobdoafjlbifpaa
