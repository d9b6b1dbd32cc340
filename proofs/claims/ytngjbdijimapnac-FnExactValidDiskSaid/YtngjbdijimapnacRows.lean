/-
  No cell of these rows narrows 'for every input' (looked for: loops, veiled, ifaces, maps, wideKeys, modest, calm, conditions, laid).
  DERIVED. THE GIVEN ROWS OF THIS SEAT. 12 by the template 'for every input the law returns true; each argument reads behind the call as it read before'; 0 by the template 'total and deterministic' (their statements: YtngjbdijimapnacTotals.lean).
  GIVEN WITH THE SEED: the statements are not yours to turn. If you find one false, say at which input.
  Laid BY PROGRAM, IN A SANDBOX (cutbox-rows.mjs): the forced cells as the released guide's own fill.sh prints them over the translation 4fe457248d8c443f… (all of the seat's roots in one cut). By AI agents, Wed Nov 11 2026. No macro, syntax, notation, axiom, sorry.
-/
import Derived.Test.YtngjbdijimapnacChecked
import GoSem.Claim
import GoSem.ClaimJoined
import GoSem.ClaimMapViews
import Derived.JoinedTies
import Derived.KernelRfl
namespace Go.Proofs.Ytngjbdijimapnac
/- THE CELL 'sum', in the pinned program and in every row, IS THE sha256 OF THE DUMP (.gsa) THAT YtngjbdijimapnacProg.lean LOADS. Nothing in Lean hashes anything: it is a label: what it is worth is what the hold of that sum in a sandbox is worth. -/
noncomputable def Try.pinned : Pinned := { name := "ytngjbdijimapnac", sum := "4fe457248d8c443f96a83f172906648415b055d343d32dcf55bd5c44a9def87d", checked := Try.checked }
namespace Rows
def none {H : Type} : Left H := { results := [], args := [] }

/-- 'laws.FnExactValidPages': WHATEVER THE INPUT: true; the input reads as it did. -/
def fnExactValidPagesSpec : ChangeSpec := { name := "fnExactValidPages", fn := fun _ => fun
  | [d] => { results := [.lit (.bool true)], args := [d] }
  | _ => none }
def fnExactValidPagesRow : OpenClaim := { program := "ytngjbdijimapnac", sum := "4fe457248d8c443f96a83f172906648415b055d343d32dcf55bd5c44a9def87d", func := "loop.example/g00904/laws.FnExactValidPages", spec := "fnExactValidPages", apart := false }
def FnExactValidPagesSaid : Prop := fnExactValidPagesRow.holds Try.pinned (OpenSpec.ofChange fnExactValidPagesSpec)

/-- ITS FALSE NEIGHBOUR: 'it returns false'. Refute it at one input. -/
def fnExactValidPagesWrong : ChangeSpec := { name := "fnExactValidPages", fn := fun _ => fun
  | [d] => { results := [.lit (.bool false)], args := [d] }
  | _ => none }
def FnExactValidPagesWrongFalsely : Prop := fnExactValidPagesRow.holds Try.pinned (OpenSpec.ofChange fnExactValidPagesWrong)

/-- 'laws.FnExactPageOf': WHATEVER THE INPUT: true; the input reads as it did. -/
def fnExactPageOfSpec : ChangeSpec := { name := "fnExactPageOf", fn := fun _ => fun
  | [d1, d2] => { results := [.lit (.bool true)], args := [d1, d2] }
  | _ => none }
def fnExactPageOfRow : OpenClaim := { program := "ytngjbdijimapnac", sum := "4fe457248d8c443f96a83f172906648415b055d343d32dcf55bd5c44a9def87d", func := "loop.example/g00904/laws.FnExactPageOf", spec := "fnExactPageOf", unfollowed := true, recurses := true, apart := false }
def FnExactPageOfSaid : Prop := fnExactPageOfRow.holds Try.pinned (OpenSpec.ofChange fnExactPageOfSpec)

/-- ITS FALSE NEIGHBOUR: 'it returns false'. Refute it at one input. -/
def fnExactPageOfWrong : ChangeSpec := { name := "fnExactPageOf", fn := fun _ => fun
  | [d1, d2] => { results := [.lit (.bool false)], args := [d1, d2] }
  | _ => none }
def FnExactPageOfWrongFalsely : Prop := fnExactPageOfRow.holds Try.pinned (OpenSpec.ofChange fnExactPageOfWrong)

/-- 'laws.FnExactValidRecord': WHATEVER THE INPUT: true; the input reads as it did. -/
def fnExactValidRecordSpec : ChangeSpec := { name := "fnExactValidRecord", fn := fun _ => fun
  | [d] => { results := [.lit (.bool true)], args := [d] }
  | _ => none }
def fnExactValidRecordRow : OpenClaim := { program := "ytngjbdijimapnac", sum := "4fe457248d8c443f96a83f172906648415b055d343d32dcf55bd5c44a9def87d", func := "loop.example/g00904/laws.FnExactValidRecord", spec := "fnExactValidRecord", apart := false }
def FnExactValidRecordSaid : Prop := fnExactValidRecordRow.holds Try.pinned (OpenSpec.ofChange fnExactValidRecordSpec)

/-- ITS FALSE NEIGHBOUR: 'it returns false'. Refute it at one input. -/
def fnExactValidRecordWrong : ChangeSpec := { name := "fnExactValidRecord", fn := fun _ => fun
  | [d] => { results := [.lit (.bool false)], args := [d] }
  | _ => none }
def FnExactValidRecordWrongFalsely : Prop := fnExactValidRecordRow.holds Try.pinned (OpenSpec.ofChange fnExactValidRecordWrong)

/-- 'laws.FnExactSameDisk': WHATEVER THE INPUT: true; the input reads as it did. -/
def fnExactSameDiskSpec : ChangeSpec := { name := "fnExactSameDisk", fn := fun _ => fun
  | [d1, d2] => { results := [.lit (.bool true)], args := [d1, d2] }
  | _ => none }
def fnExactSameDiskRow : OpenClaim := { program := "ytngjbdijimapnac", sum := "4fe457248d8c443f96a83f172906648415b055d343d32dcf55bd5c44a9def87d", func := "loop.example/g00904/laws.FnExactSameDisk", spec := "fnExactSameDisk", apart := false }
def FnExactSameDiskSaid : Prop := fnExactSameDiskRow.holds Try.pinned (OpenSpec.ofChange fnExactSameDiskSpec)

/-- ITS FALSE NEIGHBOUR: 'it returns false'. Refute it at one input. -/
def fnExactSameDiskWrong : ChangeSpec := { name := "fnExactSameDisk", fn := fun _ => fun
  | [d1, d2] => { results := [.lit (.bool false)], args := [d1, d2] }
  | _ => none }
def FnExactSameDiskWrongFalsely : Prop := fnExactSameDiskRow.holds Try.pinned (OpenSpec.ofChange fnExactSameDiskWrong)

/-- 'laws.FnExactValidDisk': WHATEVER THE INPUT: true; the input reads as it did. -/
def fnExactValidDiskSpec : ChangeSpec := { name := "fnExactValidDisk", fn := fun _ => fun
  | [d] => { results := [.lit (.bool true)], args := [d] }
  | _ => none }
def fnExactValidDiskRow : OpenClaim := { program := "ytngjbdijimapnac", sum := "4fe457248d8c443f96a83f172906648415b055d343d32dcf55bd5c44a9def87d", func := "loop.example/g00904/laws.FnExactValidDisk", spec := "fnExactValidDisk", unfollowed := true, recurses := true, apart := false }
def FnExactValidDiskSaid : Prop := fnExactValidDiskRow.holds Try.pinned (OpenSpec.ofChange fnExactValidDiskSpec)

/-- ITS FALSE NEIGHBOUR: 'it returns false'. Refute it at one input. -/
def fnExactValidDiskWrong : ChangeSpec := { name := "fnExactValidDisk", fn := fun _ => fun
  | [d] => { results := [.lit (.bool false)], args := [d] }
  | _ => none }
def FnExactValidDiskWrongFalsely : Prop := fnExactValidDiskRow.holds Try.pinned (OpenSpec.ofChange fnExactValidDiskWrong)

/-- 'laws.FnCuts': WHATEVER THE INPUT: true; the input reads as it did. -/
def fnCutsSpec : ChangeSpec := { name := "fnCuts", fn := fun _ => fun
  | [d] => { results := [.lit (.bool true)], args := [d] }
  | _ => none }
def fnCutsRow : OpenClaim := { program := "ytngjbdijimapnac", sum := "4fe457248d8c443f96a83f172906648415b055d343d32dcf55bd5c44a9def87d", func := "loop.example/g00904/laws.FnCuts", spec := "fnCuts", unfollowed := true, recurses := true, apart := false }
def FnCutsSaid : Prop := fnCutsRow.holds Try.pinned (OpenSpec.ofChange fnCutsSpec)

/-- ITS FALSE NEIGHBOUR: 'it returns false'. Refute it at one input. -/
def fnCutsWrong : ChangeSpec := { name := "fnCuts", fn := fun _ => fun
  | [d] => { results := [.lit (.bool false)], args := [d] }
  | _ => none }
def FnCutsWrongFalsely : Prop := fnCutsRow.holds Try.pinned (OpenSpec.ofChange fnCutsWrong)

/-- 'laws.FnExactMergePages': WHATEVER THE INPUT: true; the input reads as it did. -/
def fnExactMergePagesSpec : ChangeSpec := { name := "fnExactMergePages", fn := fun _ => fun
  | [d1, d2] => { results := [.lit (.bool true)], args := [d1, d2] }
  | _ => none }
def fnExactMergePagesRow : OpenClaim := { program := "ytngjbdijimapnac", sum := "4fe457248d8c443f96a83f172906648415b055d343d32dcf55bd5c44a9def87d", func := "loop.example/g00904/laws.FnExactMergePages", spec := "fnExactMergePages", inPlace := ["slices.overlaps[loop.example/g00904/impl.Page]"], unfollowed := true, recurses := true, apart := false }
def FnExactMergePagesSaid : Prop := fnExactMergePagesRow.holds Try.pinned (OpenSpec.ofChange fnExactMergePagesSpec)

/-- ITS FALSE NEIGHBOUR: 'it returns false'. Refute it at one input. -/
def fnExactMergePagesWrong : ChangeSpec := { name := "fnExactMergePages", fn := fun _ => fun
  | [d1, d2] => { results := [.lit (.bool false)], args := [d1, d2] }
  | _ => none }
def FnExactMergePagesWrongFalsely : Prop := fnExactMergePagesRow.holds Try.pinned (OpenSpec.ofChange fnExactMergePagesWrong)

/-- 'laws.FnExactCutPower': WHATEVER THE INPUT: true; the input reads as it did. -/
def fnExactCutPowerSpec : ChangeSpec := { name := "fnExactCutPower", fn := fun _ => fun
  | [d1, d2, d3, d4] => { results := [.lit (.bool true)], args := [d1, d2, d3, d4] }
  | _ => none }
def fnExactCutPowerRow : OpenClaim := { program := "ytngjbdijimapnac", sum := "4fe457248d8c443f96a83f172906648415b055d343d32dcf55bd5c44a9def87d", func := "loop.example/g00904/laws.FnExactCutPower", spec := "fnExactCutPower", unfollowed := true, recurses := true, apart := false }
def FnExactCutPowerSaid : Prop := fnExactCutPowerRow.holds Try.pinned (OpenSpec.ofChange fnExactCutPowerSpec)

/-- ITS FALSE NEIGHBOUR: 'it returns false'. Refute it at one input. -/
def fnExactCutPowerWrong : ChangeSpec := { name := "fnExactCutPower", fn := fun _ => fun
  | [d1, d2, d3, d4] => { results := [.lit (.bool false)], args := [d1, d2, d3, d4] }
  | _ => none }
def FnExactCutPowerWrongFalsely : Prop := fnExactCutPowerRow.holds Try.pinned (OpenSpec.ofChange fnExactCutPowerWrong)

/-- 'laws.FnMerged': WHATEVER THE INPUT: true; the input reads as it did. -/
def fnMergedSpec : ChangeSpec := { name := "fnMerged", fn := fun _ => fun
  | [d] => { results := [.lit (.bool true)], args := [d] }
  | _ => none }
def fnMergedRow : OpenClaim := { program := "ytngjbdijimapnac", sum := "4fe457248d8c443f96a83f172906648415b055d343d32dcf55bd5c44a9def87d", func := "loop.example/g00904/laws.FnMerged", spec := "fnMerged", inPlace := ["slices.overlaps[loop.example/g00904/impl.Page]"], unfollowed := true, recurses := true, apart := false }
def FnMergedSaid : Prop := fnMergedRow.holds Try.pinned (OpenSpec.ofChange fnMergedSpec)

/-- ITS FALSE NEIGHBOUR: 'it returns false'. Refute it at one input. -/
def fnMergedWrong : ChangeSpec := { name := "fnMerged", fn := fun _ => fun
  | [d] => { results := [.lit (.bool false)], args := [d] }
  | _ => none }
def FnMergedWrongFalsely : Prop := fnMergedRow.holds Try.pinned (OpenSpec.ofChange fnMergedWrong)

/-- 'laws.FnExactChangedBlocks': WHATEVER THE INPUT: true; the input reads as it did. -/
def fnExactChangedBlocksSpec : ChangeSpec := { name := "fnExactChangedBlocks", fn := fun _ => fun
  | [d] => { results := [.lit (.bool true)], args := [d] }
  | _ => none }
def fnExactChangedBlocksRow : OpenClaim := { program := "ytngjbdijimapnac", sum := "4fe457248d8c443f96a83f172906648415b055d343d32dcf55bd5c44a9def87d", func := "loop.example/g00904/laws.FnExactChangedBlocks", spec := "fnExactChangedBlocks", unfollowed := true, recurses := true, apart := false }
def FnExactChangedBlocksSaid : Prop := fnExactChangedBlocksRow.holds Try.pinned (OpenSpec.ofChange fnExactChangedBlocksSpec)

/-- ITS FALSE NEIGHBOUR: 'it returns false'. Refute it at one input. -/
def fnExactChangedBlocksWrong : ChangeSpec := { name := "fnExactChangedBlocks", fn := fun _ => fun
  | [d] => { results := [.lit (.bool false)], args := [d] }
  | _ => none }
def FnExactChangedBlocksWrongFalsely : Prop := fnExactChangedBlocksRow.holds Try.pinned (OpenSpec.ofChange fnExactChangedBlocksWrong)

/-- 'laws.FnExactNewDisk': WHATEVER THE INPUT: true; the input reads as it did. -/
def fnExactNewDiskSpec : ChangeSpec := { name := "fnExactNewDisk", fn := fun _ => fun
  | [d] => { results := [.lit (.bool true)], args := [d] }
  | _ => none }
def fnExactNewDiskRow : OpenClaim := { program := "ytngjbdijimapnac", sum := "4fe457248d8c443f96a83f172906648415b055d343d32dcf55bd5c44a9def87d", func := "loop.example/g00904/laws.FnExactNewDisk", spec := "fnExactNewDisk", inPlace := ["internal/abi.NoEscape", "internal/bytealg.MakeNoZero"], apart := false }
def FnExactNewDiskSaid : Prop := fnExactNewDiskRow.holds Try.pinned (OpenSpec.ofChange fnExactNewDiskSpec)

/-- ITS FALSE NEIGHBOUR: 'it returns false'. Refute it at one input. -/
def fnExactNewDiskWrong : ChangeSpec := { name := "fnExactNewDisk", fn := fun _ => fun
  | [d] => { results := [.lit (.bool false)], args := [d] }
  | _ => none }
def FnExactNewDiskWrongFalsely : Prop := fnExactNewDiskRow.holds Try.pinned (OpenSpec.ofChange fnExactNewDiskWrong)

/-- 'laws.FnExactSamePager': WHATEVER THE INPUT: true; the input reads as it did. -/
def fnExactSamePagerSpec : ChangeSpec := { name := "fnExactSamePager", fn := fun _ => fun
  | [d1, d2] => { results := [.lit (.bool true)], args := [d1, d2] }
  | _ => none }
def fnExactSamePagerRow : OpenClaim := { program := "ytngjbdijimapnac", sum := "4fe457248d8c443f96a83f172906648415b055d343d32dcf55bd5c44a9def87d", func := "loop.example/g00904/laws.FnExactSamePager", spec := "fnExactSamePager", apart := false }
def FnExactSamePagerSaid : Prop := fnExactSamePagerRow.holds Try.pinned (OpenSpec.ofChange fnExactSamePagerSpec)

/-- ITS FALSE NEIGHBOUR: 'it returns false'. Refute it at one input. -/
def fnExactSamePagerWrong : ChangeSpec := { name := "fnExactSamePager", fn := fun _ => fun
  | [d1, d2] => { results := [.lit (.bool false)], args := [d1, d2] }
  | _ => none }
def FnExactSamePagerWrongFalsely : Prop := fnExactSamePagerRow.holds Try.pinned (OpenSpec.ofChange fnExactSamePagerWrong)

/- THE SECOND FORM. 'bulk': how many values and letters a reading holds, each counted each time it is reached (what is shared counts as often as it is met; a slice's spare places count too). A statement '..UptoSaid' is the law's where the arguments, and the package variables that the reading takes, are together of bulk at most 1048576: NARROWER than '..Said'. Prove '..Said' where nothing that the law and all that it calls make is longer than what came in: it says more and counts as full. Else prove '..UptoSaid'. A law counts once. -/
mutual
def uptoBulk {H : Type} : DataW H → Nat
  | .lit (.string bytes) => bytes.length + 1
  | .lit _ => 1
  | .nil => 1
  | .ptr d => uptoBulk d + 1
  | .slice elems spare => uptoBulkAll elems + uptoBulkAll spare + 1
  | .agg parts => uptoBulkAll parts + 1
  | .iface _ d => uptoBulk d + 1
  | .map entries => uptoBulkEntries entries + 1
  | .held _ => 1
def uptoBulkAll {H : Type} : List (DataW H) → Nat
  | [] => 0
  | d :: r => uptoBulk d + uptoBulkAll r
def uptoBulkEntries {H : Type} : List (Lit × DataW H) → Nat
  | [] => 0
  | x :: r => uptoBulkEntry x + uptoBulkEntries r
def uptoBulkEntry {H : Type} : Lit × DataW H → Nat
  | (.string bytes, d) => bytes.length + uptoBulk d + 1
  | (_, d) => uptoBulk d + 1
 end
def uptoSmall : (H : Type) → List (DataW H) → Bool := fun _ ds => decide (uptoBulkAll ds ≤ 1048576)
def OpenSpec.upto (s : _root_.Go.ChangeSpec) : _root_.Go.OpenSpec := { _root_.Go.OpenSpec.ofChange s with cond := some uptoSmall }

/-- 'laws.FnExactValidPages', WHERE WHAT IT READS IS OF BULK AT MOST 1048576: true; the input reads as it did. -/
def fnExactValidPagesUptoRow : OpenClaim := { program := "ytngjbdijimapnac", sum := "4fe457248d8c443f96a83f172906648415b055d343d32dcf55bd5c44a9def87d", func := "loop.example/g00904/laws.FnExactValidPages", spec := "fnExactValidPages", apart := false, narrowed := true }
def FnExactValidPagesUptoSaid : Prop := fnExactValidPagesUptoRow.holds Try.pinned (OpenSpec.upto fnExactValidPagesSpec)

/-- 'laws.FnExactPageOf', WHERE WHAT IT READS IS OF BULK AT MOST 1048576: true; the input reads as it did. -/
def fnExactPageOfUptoRow : OpenClaim := { program := "ytngjbdijimapnac", sum := "4fe457248d8c443f96a83f172906648415b055d343d32dcf55bd5c44a9def87d", func := "loop.example/g00904/laws.FnExactPageOf", spec := "fnExactPageOf", unfollowed := true, recurses := true, apart := false, narrowed := true }
def FnExactPageOfUptoSaid : Prop := fnExactPageOfUptoRow.holds Try.pinned (OpenSpec.upto fnExactPageOfSpec)

/-- 'laws.FnExactValidRecord', WHERE WHAT IT READS IS OF BULK AT MOST 1048576: true; the input reads as it did. -/
def fnExactValidRecordUptoRow : OpenClaim := { program := "ytngjbdijimapnac", sum := "4fe457248d8c443f96a83f172906648415b055d343d32dcf55bd5c44a9def87d", func := "loop.example/g00904/laws.FnExactValidRecord", spec := "fnExactValidRecord", apart := false, narrowed := true }
def FnExactValidRecordUptoSaid : Prop := fnExactValidRecordUptoRow.holds Try.pinned (OpenSpec.upto fnExactValidRecordSpec)

/-- 'laws.FnExactSameDisk', WHERE WHAT IT READS IS OF BULK AT MOST 1048576: true; the input reads as it did. -/
def fnExactSameDiskUptoRow : OpenClaim := { program := "ytngjbdijimapnac", sum := "4fe457248d8c443f96a83f172906648415b055d343d32dcf55bd5c44a9def87d", func := "loop.example/g00904/laws.FnExactSameDisk", spec := "fnExactSameDisk", apart := false, narrowed := true }
def FnExactSameDiskUptoSaid : Prop := fnExactSameDiskUptoRow.holds Try.pinned (OpenSpec.upto fnExactSameDiskSpec)

/-- 'laws.FnExactValidDisk', WHERE WHAT IT READS IS OF BULK AT MOST 1048576: true; the input reads as it did. -/
def fnExactValidDiskUptoRow : OpenClaim := { program := "ytngjbdijimapnac", sum := "4fe457248d8c443f96a83f172906648415b055d343d32dcf55bd5c44a9def87d", func := "loop.example/g00904/laws.FnExactValidDisk", spec := "fnExactValidDisk", unfollowed := true, recurses := true, apart := false, narrowed := true }
def FnExactValidDiskUptoSaid : Prop := fnExactValidDiskUptoRow.holds Try.pinned (OpenSpec.upto fnExactValidDiskSpec)

/-- 'laws.FnCuts', WHERE WHAT IT READS IS OF BULK AT MOST 1048576: true; the input reads as it did. -/
def fnCutsUptoRow : OpenClaim := { program := "ytngjbdijimapnac", sum := "4fe457248d8c443f96a83f172906648415b055d343d32dcf55bd5c44a9def87d", func := "loop.example/g00904/laws.FnCuts", spec := "fnCuts", unfollowed := true, recurses := true, apart := false, narrowed := true }
def FnCutsUptoSaid : Prop := fnCutsUptoRow.holds Try.pinned (OpenSpec.upto fnCutsSpec)

/-- 'laws.FnExactMergePages', WHERE WHAT IT READS IS OF BULK AT MOST 1048576: true; the input reads as it did. -/
def fnExactMergePagesUptoRow : OpenClaim := { program := "ytngjbdijimapnac", sum := "4fe457248d8c443f96a83f172906648415b055d343d32dcf55bd5c44a9def87d", func := "loop.example/g00904/laws.FnExactMergePages", spec := "fnExactMergePages", inPlace := ["slices.overlaps[loop.example/g00904/impl.Page]"], unfollowed := true, recurses := true, apart := false, narrowed := true }
def FnExactMergePagesUptoSaid : Prop := fnExactMergePagesUptoRow.holds Try.pinned (OpenSpec.upto fnExactMergePagesSpec)

/-- 'laws.FnExactCutPower', WHERE WHAT IT READS IS OF BULK AT MOST 1048576: true; the input reads as it did. -/
def fnExactCutPowerUptoRow : OpenClaim := { program := "ytngjbdijimapnac", sum := "4fe457248d8c443f96a83f172906648415b055d343d32dcf55bd5c44a9def87d", func := "loop.example/g00904/laws.FnExactCutPower", spec := "fnExactCutPower", unfollowed := true, recurses := true, apart := false, narrowed := true }
def FnExactCutPowerUptoSaid : Prop := fnExactCutPowerUptoRow.holds Try.pinned (OpenSpec.upto fnExactCutPowerSpec)

/-- 'laws.FnMerged', WHERE WHAT IT READS IS OF BULK AT MOST 1048576: true; the input reads as it did. -/
def fnMergedUptoRow : OpenClaim := { program := "ytngjbdijimapnac", sum := "4fe457248d8c443f96a83f172906648415b055d343d32dcf55bd5c44a9def87d", func := "loop.example/g00904/laws.FnMerged", spec := "fnMerged", inPlace := ["slices.overlaps[loop.example/g00904/impl.Page]"], unfollowed := true, recurses := true, apart := false, narrowed := true }
def FnMergedUptoSaid : Prop := fnMergedUptoRow.holds Try.pinned (OpenSpec.upto fnMergedSpec)

/-- 'laws.FnExactChangedBlocks', WHERE WHAT IT READS IS OF BULK AT MOST 1048576: true; the input reads as it did. -/
def fnExactChangedBlocksUptoRow : OpenClaim := { program := "ytngjbdijimapnac", sum := "4fe457248d8c443f96a83f172906648415b055d343d32dcf55bd5c44a9def87d", func := "loop.example/g00904/laws.FnExactChangedBlocks", spec := "fnExactChangedBlocks", unfollowed := true, recurses := true, apart := false, narrowed := true }
def FnExactChangedBlocksUptoSaid : Prop := fnExactChangedBlocksUptoRow.holds Try.pinned (OpenSpec.upto fnExactChangedBlocksSpec)

/-- 'laws.FnExactNewDisk', WHERE WHAT IT READS IS OF BULK AT MOST 1048576: true; the input reads as it did. -/
def fnExactNewDiskUptoRow : OpenClaim := { program := "ytngjbdijimapnac", sum := "4fe457248d8c443f96a83f172906648415b055d343d32dcf55bd5c44a9def87d", func := "loop.example/g00904/laws.FnExactNewDisk", spec := "fnExactNewDisk", inPlace := ["internal/abi.NoEscape", "internal/bytealg.MakeNoZero"], apart := false, narrowed := true }
def FnExactNewDiskUptoSaid : Prop := fnExactNewDiskUptoRow.holds Try.pinned (OpenSpec.upto fnExactNewDiskSpec)

/-- 'laws.FnExactSamePager', WHERE WHAT IT READS IS OF BULK AT MOST 1048576: true; the input reads as it did. -/
def fnExactSamePagerUptoRow : OpenClaim := { program := "ytngjbdijimapnac", sum := "4fe457248d8c443f96a83f172906648415b055d343d32dcf55bd5c44a9def87d", func := "loop.example/g00904/laws.FnExactSamePager", spec := "fnExactSamePager", apart := false, narrowed := true }
def FnExactSamePagerUptoSaid : Prop := fnExactSamePagerUptoRow.holds Try.pinned (OpenSpec.upto fnExactSamePagerSpec)

end Rows
end Go.Proofs.Ytngjbdijimapnac
