/-
  NARROWER THAN 'FOR EVERY INPUT', by the rows' own cells (each row's printed sentence says how): FnExactSameArray: loops.
  DERIVED. THE GIVEN ROWS OF THIS SEAT. 12 by the template 'for every input the law returns true; each argument reads behind the call as it read before'; 0 by the template 'total and deterministic' (their statements: YtngjbdijimapnadTotals.lean).
  GIVEN WITH THE SEED: the statements are not yours to turn. If you find one false, say at which input.
  Laid BY PROGRAM, IN A SANDBOX (cutbox-rows.mjs): the forced cells as the released guide's own fill.sh prints them over the translation 41e928690fd99afc… (all of the seat's roots in one cut). By AI agents, Wed Nov 11 2026. No macro, syntax, notation, axiom, sorry.
-/
import Derived.Test.YtngjbdijimapnadChecked
import GoSem.Claim
import GoSem.ClaimJoined
import GoSem.ClaimMapViews
import Derived.JoinedTies
import Derived.KernelRfl
namespace Go.Proofs.Ytngjbdijimapnad
/- THE CELL 'sum', in the pinned program and in every row, IS THE sha256 OF THE DUMP (.gsa) THAT YtngjbdijimapnadProg.lean LOADS. Nothing in Lean hashes anything: it is a label: what it is worth is what the hold of that sum in a sandbox is worth. -/
noncomputable def Try.pinned : Pinned := { name := "ytngjbdijimapnad", sum := "41e928690fd99afc13de50571c9082941a05c0992d01f0015062b79116186400", checked := Try.checked }
namespace Rows
def none {H : Type} : Left H := { results := [], args := [] }

/-- 'laws.FnExactValidDims': WHATEVER THE INPUT: true; the input reads as it did. -/
def fnExactValidDimsSpec : ChangeSpec := { name := "fnExactValidDims", fn := fun _ => fun
  | [d] => { results := [.lit (.bool true)], args := [d] }
  | _ => none }
def fnExactValidDimsRow : OpenClaim := { program := "ytngjbdijimapnad", sum := "41e928690fd99afc13de50571c9082941a05c0992d01f0015062b79116186400", func := "loop.example/g00904/laws.FnExactValidDims", spec := "fnExactValidDims", unfollowed := true, recurses := true, apart := false }
def FnExactValidDimsSaid : Prop := fnExactValidDimsRow.holds Try.pinned (OpenSpec.ofChange fnExactValidDimsSpec)

/-- ITS FALSE NEIGHBOUR: 'it returns false'. Refute it at one input. -/
def fnExactValidDimsWrong : ChangeSpec := { name := "fnExactValidDims", fn := fun _ => fun
  | [d] => { results := [.lit (.bool false)], args := [d] }
  | _ => none }
def FnExactValidDimsWrongFalsely : Prop := fnExactValidDimsRow.holds Try.pinned (OpenSpec.ofChange fnExactValidDimsWrong)

/-- 'laws.FnExactElementsOf': WHATEVER THE INPUT: true; the input reads as it did. -/
def fnExactElementsOfSpec : ChangeSpec := { name := "fnExactElementsOf", fn := fun _ => fun
  | [d] => { results := [.lit (.bool true)], args := [d] }
  | _ => none }
def fnExactElementsOfRow : OpenClaim := { program := "ytngjbdijimapnad", sum := "41e928690fd99afc13de50571c9082941a05c0992d01f0015062b79116186400", func := "loop.example/g00904/laws.FnExactElementsOf", spec := "fnExactElementsOf", unfollowed := true, recurses := true, apart := false }
def FnExactElementsOfSaid : Prop := fnExactElementsOfRow.holds Try.pinned (OpenSpec.ofChange fnExactElementsOfSpec)

/-- ITS FALSE NEIGHBOUR: 'it returns false'. Refute it at one input. -/
def fnExactElementsOfWrong : ChangeSpec := { name := "fnExactElementsOf", fn := fun _ => fun
  | [d] => { results := [.lit (.bool false)], args := [d] }
  | _ => none }
def FnExactElementsOfWrongFalsely : Prop := fnExactElementsOfRow.holds Try.pinned (OpenSpec.ofChange fnExactElementsOfWrong)

/-- 'laws.FnExactSameSpace': WHATEVER THE INPUT: true; the input reads as it did. -/
def fnExactSameSpaceSpec : ChangeSpec := { name := "fnExactSameSpace", fn := fun _ => fun
  | [d1, d2] => { results := [.lit (.bool true)], args := [d1, d2] }
  | _ => none }
def fnExactSameSpaceRow : OpenClaim := { program := "ytngjbdijimapnad", sum := "41e928690fd99afc13de50571c9082941a05c0992d01f0015062b79116186400", func := "loop.example/g00904/laws.FnExactSameSpace", spec := "fnExactSameSpace", apart := false }
def FnExactSameSpaceSaid : Prop := fnExactSameSpaceRow.holds Try.pinned (OpenSpec.ofChange fnExactSameSpaceSpec)

/-- ITS FALSE NEIGHBOUR: 'it returns false'. Refute it at one input. -/
def fnExactSameSpaceWrong : ChangeSpec := { name := "fnExactSameSpace", fn := fun _ => fun
  | [d1, d2] => { results := [.lit (.bool false)], args := [d1, d2] }
  | _ => none }
def FnExactSameSpaceWrongFalsely : Prop := fnExactSameSpaceRow.holds Try.pinned (OpenSpec.ofChange fnExactSameSpaceWrong)

/-- 'laws.FnExactIndexOf': WHATEVER THE INPUT: true; the input reads as it did. -/
def fnExactIndexOfSpec : ChangeSpec := { name := "fnExactIndexOf", fn := fun _ => fun
  | [d1, d2] => { results := [.lit (.bool true)], args := [d1, d2] }
  | _ => none }
def fnExactIndexOfRow : OpenClaim := { program := "ytngjbdijimapnad", sum := "41e928690fd99afc13de50571c9082941a05c0992d01f0015062b79116186400", func := "loop.example/g00904/laws.FnExactIndexOf", spec := "fnExactIndexOf", unfollowed := true, recurses := true, apart := false }
def FnExactIndexOfSaid : Prop := fnExactIndexOfRow.holds Try.pinned (OpenSpec.ofChange fnExactIndexOfSpec)

/-- ITS FALSE NEIGHBOUR: 'it returns false'. Refute it at one input. -/
def fnExactIndexOfWrong : ChangeSpec := { name := "fnExactIndexOf", fn := fun _ => fun
  | [d1, d2] => { results := [.lit (.bool false)], args := [d1, d2] }
  | _ => none }
def FnExactIndexOfWrongFalsely : Prop := fnExactIndexOfRow.holds Try.pinned (OpenSpec.ofChange fnExactIndexOfWrong)

/-- 'laws.FnExactValidSpace': WHATEVER THE INPUT: true; the input reads as it did. -/
def fnExactValidSpaceSpec : ChangeSpec := { name := "fnExactValidSpace", fn := fun _ => fun
  | [d] => { results := [.lit (.bool true)], args := [d] }
  | _ => none }
def fnExactValidSpaceRow : OpenClaim := { program := "ytngjbdijimapnad", sum := "41e928690fd99afc13de50571c9082941a05c0992d01f0015062b79116186400", func := "loop.example/g00904/laws.FnExactValidSpace", spec := "fnExactValidSpace", unfollowed := true, recurses := true, apart := false }
def FnExactValidSpaceSaid : Prop := fnExactValidSpaceRow.holds Try.pinned (OpenSpec.ofChange fnExactValidSpaceSpec)

/-- ITS FALSE NEIGHBOUR: 'it returns false'. Refute it at one input. -/
def fnExactValidSpaceWrong : ChangeSpec := { name := "fnExactValidSpace", fn := fun _ => fun
  | [d] => { results := [.lit (.bool false)], args := [d] }
  | _ => none }
def FnExactValidSpaceWrongFalsely : Prop := fnExactValidSpaceRow.holds Try.pinned (OpenSpec.ofChange fnExactValidSpaceWrong)

/-- 'laws.FnExactCoordsOf': WHATEVER THE INPUT: true; the input reads as it did. -/
def fnExactCoordsOfSpec : ChangeSpec := { name := "fnExactCoordsOf", fn := fun _ => fun
  | [d1, d2] => { results := [.lit (.bool true)], args := [d1, d2] }
  | _ => none }
def fnExactCoordsOfRow : OpenClaim := { program := "ytngjbdijimapnad", sum := "41e928690fd99afc13de50571c9082941a05c0992d01f0015062b79116186400", func := "loop.example/g00904/laws.FnExactCoordsOf", spec := "fnExactCoordsOf", unfollowed := true, recurses := true, apart := false }
def FnExactCoordsOfSaid : Prop := fnExactCoordsOfRow.holds Try.pinned (OpenSpec.ofChange fnExactCoordsOfSpec)

/-- ITS FALSE NEIGHBOUR: 'it returns false'. Refute it at one input. -/
def fnExactCoordsOfWrong : ChangeSpec := { name := "fnExactCoordsOf", fn := fun _ => fun
  | [d1, d2] => { results := [.lit (.bool false)], args := [d1, d2] }
  | _ => none }
def FnExactCoordsOfWrongFalsely : Prop := fnExactCoordsOfRow.holds Try.pinned (OpenSpec.ofChange fnExactCoordsOfWrong)

/-- 'laws.FnExactResizeSpace': WHATEVER THE INPUT: true; the input reads as it did. -/
def fnExactResizeSpaceSpec : ChangeSpec := { name := "fnExactResizeSpace", fn := fun _ => fun
  | [d1, d2] => { results := [.lit (.bool true)], args := [d1, d2] }
  | _ => none }
def fnExactResizeSpaceRow : OpenClaim := { program := "ytngjbdijimapnad", sum := "41e928690fd99afc13de50571c9082941a05c0992d01f0015062b79116186400", func := "loop.example/g00904/laws.FnExactResizeSpace", spec := "fnExactResizeSpace", unfollowed := true, recurses := true, apart := false }
def FnExactResizeSpaceSaid : Prop := fnExactResizeSpaceRow.holds Try.pinned (OpenSpec.ofChange fnExactResizeSpaceSpec)

/-- ITS FALSE NEIGHBOUR: 'it returns false'. Refute it at one input. -/
def fnExactResizeSpaceWrong : ChangeSpec := { name := "fnExactResizeSpace", fn := fun _ => fun
  | [d1, d2] => { results := [.lit (.bool false)], args := [d1, d2] }
  | _ => none }
def FnExactResizeSpaceWrongFalsely : Prop := fnExactResizeSpaceRow.holds Try.pinned (OpenSpec.ofChange fnExactResizeSpaceWrong)

/-- 'laws.FnExactRangeOf': WHATEVER THE INPUT: true; the input reads as it did. -/
def fnExactRangeOfSpec : ChangeSpec := { name := "fnExactRangeOf", fn := fun _ => fun
  | [d1, d2] => { results := [.lit (.bool true)], args := [d1, d2] }
  | _ => none }
def fnExactRangeOfRow : OpenClaim := { program := "ytngjbdijimapnad", sum := "41e928690fd99afc13de50571c9082941a05c0992d01f0015062b79116186400", func := "loop.example/g00904/laws.FnExactRangeOf", spec := "fnExactRangeOf", apart := false }
def FnExactRangeOfSaid : Prop := fnExactRangeOfRow.holds Try.pinned (OpenSpec.ofChange fnExactRangeOfSpec)

/-- ITS FALSE NEIGHBOUR: 'it returns false'. Refute it at one input. -/
def fnExactRangeOfWrong : ChangeSpec := { name := "fnExactRangeOf", fn := fun _ => fun
  | [d1, d2] => { results := [.lit (.bool false)], args := [d1, d2] }
  | _ => none }
def FnExactRangeOfWrongFalsely : Prop := fnExactRangeOfRow.holds Try.pinned (OpenSpec.ofChange fnExactRangeOfWrong)

/-- 'laws.FnExactFormedSelection': WHATEVER THE INPUT: true; the input reads as it did. -/
def fnExactFormedSelectionSpec : ChangeSpec := { name := "fnExactFormedSelection", fn := fun _ => fun
  | [d] => { results := [.lit (.bool true)], args := [d] }
  | _ => none }
def fnExactFormedSelectionRow : OpenClaim := { program := "ytngjbdijimapnad", sum := "41e928690fd99afc13de50571c9082941a05c0992d01f0015062b79116186400", func := "loop.example/g00904/laws.FnExactFormedSelection", spec := "fnExactFormedSelection", unfollowed := true, recurses := true, apart := false }
def FnExactFormedSelectionSaid : Prop := fnExactFormedSelectionRow.holds Try.pinned (OpenSpec.ofChange fnExactFormedSelectionSpec)

/-- ITS FALSE NEIGHBOUR: 'it returns false'. Refute it at one input. -/
def fnExactFormedSelectionWrong : ChangeSpec := { name := "fnExactFormedSelection", fn := fun _ => fun
  | [d] => { results := [.lit (.bool false)], args := [d] }
  | _ => none }
def FnExactFormedSelectionWrongFalsely : Prop := fnExactFormedSelectionRow.holds Try.pinned (OpenSpec.ofChange fnExactFormedSelectionWrong)

/-- 'laws.FnExactSameSelection': WHATEVER THE INPUT: true; the input reads as it did. -/
def fnExactSameSelectionSpec : ChangeSpec := { name := "fnExactSameSelection", fn := fun _ => fun
  | [d1, d2] => { results := [.lit (.bool true)], args := [d1, d2] }
  | _ => none }
def fnExactSameSelectionRow : OpenClaim := { program := "ytngjbdijimapnad", sum := "41e928690fd99afc13de50571c9082941a05c0992d01f0015062b79116186400", func := "loop.example/g00904/laws.FnExactSameSelection", spec := "fnExactSameSelection", unfollowed := true, recurses := true, apart := false }
def FnExactSameSelectionSaid : Prop := fnExactSameSelectionRow.holds Try.pinned (OpenSpec.ofChange fnExactSameSelectionSpec)

/-- ITS FALSE NEIGHBOUR: 'it returns false'. Refute it at one input. -/
def fnExactSameSelectionWrong : ChangeSpec := { name := "fnExactSameSelection", fn := fun _ => fun
  | [d1, d2] => { results := [.lit (.bool false)], args := [d1, d2] }
  | _ => none }
def FnExactSameSelectionWrongFalsely : Prop := fnExactSameSelectionRow.holds Try.pinned (OpenSpec.ofChange fnExactSameSelectionWrong)

/-- 'laws.FnExactSameArray': WHATEVER THE INPUT: true; the input reads as it did. -/
def fnExactSameArraySpec : ChangeSpec := { name := "fnExactSameArray", fn := fun _ => fun
  | [d1, d2] => { results := [.lit (.bool true)], args := [d1, d2] }
  | _ => none }
def fnExactSameArrayRow : OpenClaim := { program := "ytngjbdijimapnad", sum := "41e928690fd99afc13de50571c9082941a05c0992d01f0015062b79116186400", func := "loop.example/g00904/laws.FnExactSameArray", spec := "fnExactSameArray", unfollowed := true, recurses := true, loops := true, apart := false }
def FnExactSameArraySaid : Prop := fnExactSameArrayRow.holds Try.pinned (OpenSpec.ofChange fnExactSameArraySpec)

/-- ITS FALSE NEIGHBOUR: 'it returns false'. Refute it at one input. -/
def fnExactSameArrayWrong : ChangeSpec := { name := "fnExactSameArray", fn := fun _ => fun
  | [d1, d2] => { results := [.lit (.bool false)], args := [d1, d2] }
  | _ => none }
def FnExactSameArrayWrongFalsely : Prop := fnExactSameArrayRow.holds Try.pinned (OpenSpec.ofChange fnExactSameArrayWrong)

/-- 'laws.FnExactValidSelection': WHATEVER THE INPUT: true; the input reads as it did. -/
def fnExactValidSelectionSpec : ChangeSpec := { name := "fnExactValidSelection", fn := fun _ => fun
  | [d1, d2] => { results := [.lit (.bool true)], args := [d1, d2] }
  | _ => none }
def fnExactValidSelectionRow : OpenClaim := { program := "ytngjbdijimapnad", sum := "41e928690fd99afc13de50571c9082941a05c0992d01f0015062b79116186400", func := "loop.example/g00904/laws.FnExactValidSelection", spec := "fnExactValidSelection", unfollowed := true, recurses := true, apart := false }
def FnExactValidSelectionSaid : Prop := fnExactValidSelectionRow.holds Try.pinned (OpenSpec.ofChange fnExactValidSelectionSpec)

/-- ITS FALSE NEIGHBOUR: 'it returns false'. Refute it at one input. -/
def fnExactValidSelectionWrong : ChangeSpec := { name := "fnExactValidSelection", fn := fun _ => fun
  | [d1, d2] => { results := [.lit (.bool false)], args := [d1, d2] }
  | _ => none }
def FnExactValidSelectionWrongFalsely : Prop := fnExactValidSelectionRow.holds Try.pinned (OpenSpec.ofChange fnExactValidSelectionWrong)

/- THE SECOND FORM. 'bulk': how many values and letters a reading holds, each counted each time it is reached (what is shared counts as often as it is met; a slice's spare places count too). A statement '..UptoSaid' is the law's where the arguments, and the package variables that the reading takes, are together of bulk at most 1048576: NARROWER than '..Said'. Prove '..Said' where nothing that the law and all that it calls make is longer than what came in: it says more and counts as full. Else prove '..UptoSaid'. A law counts once. -/
mutual
def uptoBulk {H : Type} : DataW H → Nat
  | .lit (.string bytes) => bytes.length + 1
  | .lit _ => 1
  | .nil => 1
  | .ptr d => uptoBulk d + 1
  | .slice elems spare => uptoBulkAll elems + uptoBulkAll spare + 1
  | .agg parts => uptoBulkAll parts + 1
  | .iface _ d => uptoBulk d + 1
  | .map entries => uptoBulkEntries entries + 1
  | .held _ => 1
def uptoBulkAll {H : Type} : List (DataW H) → Nat
  | [] => 0
  | d :: r => uptoBulk d + uptoBulkAll r
def uptoBulkEntries {H : Type} : List (Lit × DataW H) → Nat
  | [] => 0
  | x :: r => uptoBulkEntry x + uptoBulkEntries r
def uptoBulkEntry {H : Type} : Lit × DataW H → Nat
  | (.string bytes, d) => bytes.length + uptoBulk d + 1
  | (_, d) => uptoBulk d + 1
 end
def uptoSmall : (H : Type) → List (DataW H) → Bool := fun _ ds => decide (uptoBulkAll ds ≤ 1048576)
def OpenSpec.upto (s : _root_.Go.ChangeSpec) : _root_.Go.OpenSpec := { _root_.Go.OpenSpec.ofChange s with cond := some uptoSmall }

/-- 'laws.FnExactValidDims', WHERE WHAT IT READS IS OF BULK AT MOST 1048576: true; the input reads as it did. -/
def fnExactValidDimsUptoRow : OpenClaim := { program := "ytngjbdijimapnad", sum := "41e928690fd99afc13de50571c9082941a05c0992d01f0015062b79116186400", func := "loop.example/g00904/laws.FnExactValidDims", spec := "fnExactValidDims", unfollowed := true, recurses := true, apart := false, narrowed := true }
def FnExactValidDimsUptoSaid : Prop := fnExactValidDimsUptoRow.holds Try.pinned (OpenSpec.upto fnExactValidDimsSpec)

/-- 'laws.FnExactElementsOf', WHERE WHAT IT READS IS OF BULK AT MOST 1048576: true; the input reads as it did. -/
def fnExactElementsOfUptoRow : OpenClaim := { program := "ytngjbdijimapnad", sum := "41e928690fd99afc13de50571c9082941a05c0992d01f0015062b79116186400", func := "loop.example/g00904/laws.FnExactElementsOf", spec := "fnExactElementsOf", unfollowed := true, recurses := true, apart := false, narrowed := true }
def FnExactElementsOfUptoSaid : Prop := fnExactElementsOfUptoRow.holds Try.pinned (OpenSpec.upto fnExactElementsOfSpec)

/-- 'laws.FnExactSameSpace', WHERE WHAT IT READS IS OF BULK AT MOST 1048576: true; the input reads as it did. -/
def fnExactSameSpaceUptoRow : OpenClaim := { program := "ytngjbdijimapnad", sum := "41e928690fd99afc13de50571c9082941a05c0992d01f0015062b79116186400", func := "loop.example/g00904/laws.FnExactSameSpace", spec := "fnExactSameSpace", apart := false, narrowed := true }
def FnExactSameSpaceUptoSaid : Prop := fnExactSameSpaceUptoRow.holds Try.pinned (OpenSpec.upto fnExactSameSpaceSpec)

/-- 'laws.FnExactIndexOf', WHERE WHAT IT READS IS OF BULK AT MOST 1048576: true; the input reads as it did. -/
def fnExactIndexOfUptoRow : OpenClaim := { program := "ytngjbdijimapnad", sum := "41e928690fd99afc13de50571c9082941a05c0992d01f0015062b79116186400", func := "loop.example/g00904/laws.FnExactIndexOf", spec := "fnExactIndexOf", unfollowed := true, recurses := true, apart := false, narrowed := true }
def FnExactIndexOfUptoSaid : Prop := fnExactIndexOfUptoRow.holds Try.pinned (OpenSpec.upto fnExactIndexOfSpec)

/-- 'laws.FnExactValidSpace', WHERE WHAT IT READS IS OF BULK AT MOST 1048576: true; the input reads as it did. -/
def fnExactValidSpaceUptoRow : OpenClaim := { program := "ytngjbdijimapnad", sum := "41e928690fd99afc13de50571c9082941a05c0992d01f0015062b79116186400", func := "loop.example/g00904/laws.FnExactValidSpace", spec := "fnExactValidSpace", unfollowed := true, recurses := true, apart := false, narrowed := true }
def FnExactValidSpaceUptoSaid : Prop := fnExactValidSpaceUptoRow.holds Try.pinned (OpenSpec.upto fnExactValidSpaceSpec)

/-- 'laws.FnExactCoordsOf', WHERE WHAT IT READS IS OF BULK AT MOST 1048576: true; the input reads as it did. -/
def fnExactCoordsOfUptoRow : OpenClaim := { program := "ytngjbdijimapnad", sum := "41e928690fd99afc13de50571c9082941a05c0992d01f0015062b79116186400", func := "loop.example/g00904/laws.FnExactCoordsOf", spec := "fnExactCoordsOf", unfollowed := true, recurses := true, apart := false, narrowed := true }
def FnExactCoordsOfUptoSaid : Prop := fnExactCoordsOfUptoRow.holds Try.pinned (OpenSpec.upto fnExactCoordsOfSpec)

/-- 'laws.FnExactResizeSpace', WHERE WHAT IT READS IS OF BULK AT MOST 1048576: true; the input reads as it did. -/
def fnExactResizeSpaceUptoRow : OpenClaim := { program := "ytngjbdijimapnad", sum := "41e928690fd99afc13de50571c9082941a05c0992d01f0015062b79116186400", func := "loop.example/g00904/laws.FnExactResizeSpace", spec := "fnExactResizeSpace", unfollowed := true, recurses := true, apart := false, narrowed := true }
def FnExactResizeSpaceUptoSaid : Prop := fnExactResizeSpaceUptoRow.holds Try.pinned (OpenSpec.upto fnExactResizeSpaceSpec)

/-- 'laws.FnExactRangeOf', WHERE WHAT IT READS IS OF BULK AT MOST 1048576: true; the input reads as it did. -/
def fnExactRangeOfUptoRow : OpenClaim := { program := "ytngjbdijimapnad", sum := "41e928690fd99afc13de50571c9082941a05c0992d01f0015062b79116186400", func := "loop.example/g00904/laws.FnExactRangeOf", spec := "fnExactRangeOf", apart := false, narrowed := true }
def FnExactRangeOfUptoSaid : Prop := fnExactRangeOfUptoRow.holds Try.pinned (OpenSpec.upto fnExactRangeOfSpec)

/-- 'laws.FnExactFormedSelection', WHERE WHAT IT READS IS OF BULK AT MOST 1048576: true; the input reads as it did. -/
def fnExactFormedSelectionUptoRow : OpenClaim := { program := "ytngjbdijimapnad", sum := "41e928690fd99afc13de50571c9082941a05c0992d01f0015062b79116186400", func := "loop.example/g00904/laws.FnExactFormedSelection", spec := "fnExactFormedSelection", unfollowed := true, recurses := true, apart := false, narrowed := true }
def FnExactFormedSelectionUptoSaid : Prop := fnExactFormedSelectionUptoRow.holds Try.pinned (OpenSpec.upto fnExactFormedSelectionSpec)

/-- 'laws.FnExactSameSelection', WHERE WHAT IT READS IS OF BULK AT MOST 1048576: true; the input reads as it did. -/
def fnExactSameSelectionUptoRow : OpenClaim := { program := "ytngjbdijimapnad", sum := "41e928690fd99afc13de50571c9082941a05c0992d01f0015062b79116186400", func := "loop.example/g00904/laws.FnExactSameSelection", spec := "fnExactSameSelection", unfollowed := true, recurses := true, apart := false, narrowed := true }
def FnExactSameSelectionUptoSaid : Prop := fnExactSameSelectionUptoRow.holds Try.pinned (OpenSpec.upto fnExactSameSelectionSpec)

/-- 'laws.FnExactSameArray', WHERE WHAT IT READS IS OF BULK AT MOST 1048576: true; the input reads as it did. -/
def fnExactSameArrayUptoRow : OpenClaim := { program := "ytngjbdijimapnad", sum := "41e928690fd99afc13de50571c9082941a05c0992d01f0015062b79116186400", func := "loop.example/g00904/laws.FnExactSameArray", spec := "fnExactSameArray", unfollowed := true, recurses := true, loops := true, apart := false, narrowed := true }
def FnExactSameArrayUptoSaid : Prop := fnExactSameArrayUptoRow.holds Try.pinned (OpenSpec.upto fnExactSameArraySpec)

/-- 'laws.FnExactValidSelection', WHERE WHAT IT READS IS OF BULK AT MOST 1048576: true; the input reads as it did. -/
def fnExactValidSelectionUptoRow : OpenClaim := { program := "ytngjbdijimapnad", sum := "41e928690fd99afc13de50571c9082941a05c0992d01f0015062b79116186400", func := "loop.example/g00904/laws.FnExactValidSelection", spec := "fnExactValidSelection", unfollowed := true, recurses := true, apart := false, narrowed := true }
def FnExactValidSelectionUptoSaid : Prop := fnExactValidSelectionUptoRow.holds Try.pinned (OpenSpec.upto fnExactValidSelectionSpec)

end Rows
end Go.Proofs.Ytngjbdijimapnad
