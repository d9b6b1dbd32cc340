/-
  No cell of these rows narrows 'for every input' (looked for: loops, veiled, ifaces, maps, wideKeys, modest, calm, conditions, laid).
  DERIVED. THE GIVEN ROWS OF THIS SEAT. 3 by the template 'for every input the law returns true; each argument reads behind the call as it read before'; 0 by the template 'total and deterministic' (their statements: YtlfjepcmlgfogaaTotals.lean).
  GIVEN WITH THE SEED: the statements are not yours to turn. If you find one false, say at which input.
  Laid BY PROGRAM, IN A SANDBOX (cutbox-rows.mjs): the forced cells as the released guide's own fill.sh prints them over the translation 90e65f547fbb4ee2… (all of the seat's roots in one cut). By AI agents, Wed Nov 11 2026. No macro, syntax, notation, axiom, sorry.
-/
import Derived.Test.YtlfjepcmlgfogaaChecked
import GoSem.Claim
import GoSem.ClaimJoined
import GoSem.ClaimMapViews
import Derived.JoinedTies
import Derived.KernelRfl
namespace Go.Proofs.Ytlfjepcmlgfogaa
/- THE CELL 'sum', in the pinned program and in every row, IS THE sha256 OF THE DUMP (.gsa) THAT YtlfjepcmlgfogaaProg.lean LOADS. Nothing in Lean hashes anything: it is a label: what it is worth is what the hold of that sum in a sandbox is worth. -/
noncomputable def Try.pinned : Pinned := { name := "ytlfjepcmlgfogaa", sum := "90e65f547fbb4ee24adb6bf9adae533197299a83a8e1e1eb9faed742d21d5089", checked := Try.checked }
namespace Rows
def none {H : Type} : Left H := { results := [], args := [] }

/-- 'laws.FnExactCutBox': WHATEVER THE INPUT: true; the input reads as it did. -/
def fnExactCutBoxSpec : ChangeSpec := { name := "fnExactCutBox", fn := fun _ => fun
  | [d1, d2] => { results := [.lit (.bool true)], args := [d1, d2] }
  | _ => none }
def fnExactCutBoxRow : OpenClaim := { program := "ytlfjepcmlgfogaa", sum := "90e65f547fbb4ee24adb6bf9adae533197299a83a8e1e1eb9faed742d21d5089", func := "loop.example/g00904/laws.FnExactCutBox", spec := "fnExactCutBox", apart := false }
def FnExactCutBoxSaid : Prop := fnExactCutBoxRow.holds Try.pinned (OpenSpec.ofChange fnExactCutBoxSpec)

/-- ITS FALSE NEIGHBOUR: 'it returns false'. Refute it at one input. -/
def fnExactCutBoxWrong : ChangeSpec := { name := "fnExactCutBox", fn := fun _ => fun
  | [d1, d2] => { results := [.lit (.bool false)], args := [d1, d2] }
  | _ => none }
def FnExactCutBoxWrongFalsely : Prop := fnExactCutBoxRow.holds Try.pinned (OpenSpec.ofChange fnExactCutBoxWrong)

/-- 'laws.FnExactSelectedCount': WHATEVER THE INPUT: true; the input reads as it did. -/
def fnExactSelectedCountSpec : ChangeSpec := { name := "fnExactSelectedCount", fn := fun _ => fun
  | [d1, d2] => { results := [.lit (.bool true)], args := [d1, d2] }
  | _ => none }
def fnExactSelectedCountRow : OpenClaim := { program := "ytlfjepcmlgfogaa", sum := "90e65f547fbb4ee24adb6bf9adae533197299a83a8e1e1eb9faed742d21d5089", func := "loop.example/g00904/laws.FnExactSelectedCount", spec := "fnExactSelectedCount", unfollowed := true, recurses := true, apart := false }
def FnExactSelectedCountSaid : Prop := fnExactSelectedCountRow.holds Try.pinned (OpenSpec.ofChange fnExactSelectedCountSpec)

/-- ITS FALSE NEIGHBOUR: 'it returns false'. Refute it at one input. -/
def fnExactSelectedCountWrong : ChangeSpec := { name := "fnExactSelectedCount", fn := fun _ => fun
  | [d1, d2] => { results := [.lit (.bool false)], args := [d1, d2] }
  | _ => none }
def FnExactSelectedCountWrongFalsely : Prop := fnExactSelectedCountRow.holds Try.pinned (OpenSpec.ofChange fnExactSelectedCountWrong)

/-- 'laws.FnExactIsSelected': WHATEVER THE INPUT: true; the input reads as it did. -/
def fnExactIsSelectedSpec : ChangeSpec := { name := "fnExactIsSelected", fn := fun _ => fun
  | [d1, d2, d3] => { results := [.lit (.bool true)], args := [d1, d2, d3] }
  | _ => none }
def fnExactIsSelectedRow : OpenClaim := { program := "ytlfjepcmlgfogaa", sum := "90e65f547fbb4ee24adb6bf9adae533197299a83a8e1e1eb9faed742d21d5089", func := "loop.example/g00904/laws.FnExactIsSelected", spec := "fnExactIsSelected", unfollowed := true, recurses := true, apart := false }
def FnExactIsSelectedSaid : Prop := fnExactIsSelectedRow.holds Try.pinned (OpenSpec.ofChange fnExactIsSelectedSpec)

/-- ITS FALSE NEIGHBOUR: 'it returns false'. Refute it at one input. -/
def fnExactIsSelectedWrong : ChangeSpec := { name := "fnExactIsSelected", fn := fun _ => fun
  | [d1, d2, d3] => { results := [.lit (.bool false)], args := [d1, d2, d3] }
  | _ => none }
def FnExactIsSelectedWrongFalsely : Prop := fnExactIsSelectedRow.holds Try.pinned (OpenSpec.ofChange fnExactIsSelectedWrong)

/- THE SECOND FORM. 'bulk': how many values and letters a reading holds, each counted each time it is reached (what is shared counts as often as it is met; a slice's spare places count too). A statement '..UptoSaid' is the law's where the arguments, and the package variables that the reading takes, are together of bulk at most 1048576: NARROWER than '..Said'. Prove '..Said' where nothing that the law and all that it calls make is longer than what came in: it says more and counts as full. Else prove '..UptoSaid'. A law counts once. -/
mutual
def uptoBulk {H : Type} : DataW H → Nat
  | .lit (.string bytes) => bytes.length + 1
  | .lit _ => 1
  | .nil => 1
  | .ptr d => uptoBulk d + 1
  | .slice elems spare => uptoBulkAll elems + uptoBulkAll spare + 1
  | .agg parts => uptoBulkAll parts + 1
  | .iface _ d => uptoBulk d + 1
  | .map entries => uptoBulkEntries entries + 1
  | .held _ => 1
def uptoBulkAll {H : Type} : List (DataW H) → Nat
  | [] => 0
  | d :: r => uptoBulk d + uptoBulkAll r
def uptoBulkEntries {H : Type} : List (Lit × DataW H) → Nat
  | [] => 0
  | x :: r => uptoBulkEntry x + uptoBulkEntries r
def uptoBulkEntry {H : Type} : Lit × DataW H → Nat
  | (.string bytes, d) => bytes.length + uptoBulk d + 1
  | (_, d) => uptoBulk d + 1
 end
def uptoSmall : (H : Type) → List (DataW H) → Bool := fun _ ds => decide (uptoBulkAll ds ≤ 1048576)
def OpenSpec.upto (s : _root_.Go.ChangeSpec) : _root_.Go.OpenSpec := { _root_.Go.OpenSpec.ofChange s with cond := some uptoSmall }

/-- 'laws.FnExactCutBox', WHERE WHAT IT READS IS OF BULK AT MOST 1048576: true; the input reads as it did. -/
def fnExactCutBoxUptoRow : OpenClaim := { program := "ytlfjepcmlgfogaa", sum := "90e65f547fbb4ee24adb6bf9adae533197299a83a8e1e1eb9faed742d21d5089", func := "loop.example/g00904/laws.FnExactCutBox", spec := "fnExactCutBox", apart := false, narrowed := true }
def FnExactCutBoxUptoSaid : Prop := fnExactCutBoxUptoRow.holds Try.pinned (OpenSpec.upto fnExactCutBoxSpec)

/-- 'laws.FnExactSelectedCount', WHERE WHAT IT READS IS OF BULK AT MOST 1048576: true; the input reads as it did. -/
def fnExactSelectedCountUptoRow : OpenClaim := { program := "ytlfjepcmlgfogaa", sum := "90e65f547fbb4ee24adb6bf9adae533197299a83a8e1e1eb9faed742d21d5089", func := "loop.example/g00904/laws.FnExactSelectedCount", spec := "fnExactSelectedCount", unfollowed := true, recurses := true, apart := false, narrowed := true }
def FnExactSelectedCountUptoSaid : Prop := fnExactSelectedCountUptoRow.holds Try.pinned (OpenSpec.upto fnExactSelectedCountSpec)

/-- 'laws.FnExactIsSelected', WHERE WHAT IT READS IS OF BULK AT MOST 1048576: true; the input reads as it did. -/
def fnExactIsSelectedUptoRow : OpenClaim := { program := "ytlfjepcmlgfogaa", sum := "90e65f547fbb4ee24adb6bf9adae533197299a83a8e1e1eb9faed742d21d5089", func := "loop.example/g00904/laws.FnExactIsSelected", spec := "fnExactIsSelected", unfollowed := true, recurses := true, apart := false, narrowed := true }
def FnExactIsSelectedUptoSaid : Prop := fnExactIsSelectedUptoRow.holds Try.pinned (OpenSpec.upto fnExactIsSelectedSpec)

end Rows
end Go.Proofs.Ytlfjepcmlgfogaa
