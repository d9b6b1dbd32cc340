/- The statement FnSelectedBoxes holds: for every input the law returns true, out of its plain form (Pure) and the walk. -/
import Derived.Test.YtkkdkeogplgkfaaRows
import Derived.Test.YtkkdkeogplgkfaaPFnSelectedBoxesx8
import Derived.Test.YtkkdkeogplgkfaaPureFnSelectedBoxes
import Derived.WalkKit
import Derived.ProofKit
import Derived.OpenShut
import Derived.ShutString
import Derived.ChangeOld
import Derived.Below
import Derived.SizedLaws
import Derived.Carry
import Derived.WideShapes
namespace Go.Proofs.Ytkkdkeogplgkfaa.fnSelectedBoxes
open Go.ChangeShapes Go.WideShapes Go.ChangeAt Go.RowKit Go.Proofs.Ytkkdkeogplgkfaa.Opens Go.Proofs.Ytkkdkeogplgkfaa.PFnSelectedBoxes Go.Proofs.YtkkdkeogplgkfaaW.PrintWords
open Go.ChangeMaps (open_string shut_string)
set_option linter.unusedVariables false
theorem own : ownKnob Try.prog.godebug = none := by kernel_rfl
theorem laidOut : laidOutB Try.prog = true := by kernel_rfl
set_option maxRecDepth 100000 in
theorem lifted (os : Os) (started : os.Started) (H : Type) (enc : TypeId × Value → H) :
 ReturnsInHanded {} Try.checked os 3 .any (Rows.fnSelectedBoxesSpec.pre6 enc Try.prog Try.f3 Rows.fnSelectedBoxesRow.domain false) (Rows.fnSelectedBoxesSpec.post enc Try.prog Try.f3 false true false false) := by
 refine returnsInHanded_of_change_sized (C := Try.checked) own started (by kernel_rfl) Try.func3
  (ChangeSpec.witness6 (enc := enc) (C := Try.checked) false ⟨#[], #[.slice none 0 0], []⟩ 8 (by kernel_rfl) (by kernel_rfl) (by kernel_rfl) (by kernel_rfl)) ?_
 intro W base args ds gs before hval0 hW hcnd hsz0 _
 have hval : ∀ (j : Nat) t v, Try.f3.params[j]? = some t → args[j]? = some v → Value.okWide Try.prog W .any base t v := hval0
 have hW' := hW
 obtain ⟨p, q, hA0, hV, rfl, hfz, hnd⟩ := hW
 have hA : DataW.TrodAll enc Try.prog W 0 (fun _ => true) true Try.f3.params.toList args.toList ds p := hA0
 rw [Try.params3] at hA hval
 obtain ⟨v0, vs0, d0, ds0, p0, q0, hargs, rfl, rfl, h0, r0⟩ := trodAll_cons hA
 obtain ⟨rfl, rfl, rfl⟩ := trodAll_nil r0
 obtain rfl : args = #[v0] := by cases args; simp_all
 obtain ⟨rfl, rfl⟩ := trodVars_none hV
 have k0 := h0
 have lt0 : ∀ x ∈ p0, x.block < W.heap.size := by obtain ⟨m, hm⟩ := k0; exact DataW.trod_lt m _ _ _ hm
 obtain ⟨fuel0, hf0⟩ := h0
 obtain ⟨a0, len0, cap0, rfl⟩ := okWide_slice Try.underlying22 (hval 0 22 v0 rfl rfl)
 obtain ⟨x0, ⟨A0, c0, he0, hc0, hr0⟩, o0⟩ := (opens_slice 5 Try.underlying22 (by kernel_rfl) (opens_int Try.underlying5)) enc W 0 (fun _ => true) true fuel0 _ _ hf0
 simp only [Value.cells, List.cons.injEq, Value.slice.injEq, and_true] at he0
 obtain ⟨rfl, rfl, rfl⟩ := he0
 refine (PFnSelectedBoxes.bD.walk Pure.FnSelectedBoxes _ _ x0 W hr0 hc0 o0).mono fun e W' ⟨he, bel⟩ => ?_
 subst he
 exact ⟨_, rfl, _, _, _, [], _, [], hW', trodAll_mk1 (shut_bool Try.underlying4 _), (trodAll_cons_mk (Below.trod laidOut (by kernel_rfl) (of_decide_eq_true (by kernel_rfl)) k0 bel lt0) trodAll_mk0), rfl, bel.frame _, fun h => by cases h⟩
theorem over : Rows.fnSelectedBoxesRow.holds Try.pinned (OpenSpec.ofChange Rows.fnSelectedBoxesSpec) :=
 OpenClaim.holds_of_wide 3 Try.f3 rfl rfl rfl rfl rfl rfl rfl ⟨rfl, rfl, rfl, rfl, rfl⟩ rfl rfl rfl rfl rfl (by kernel_rfl) Try.func3 (by kernel_rfl)
  (of_decide_eq_true (by kernel_rfl)) (by unfold Func.isWrapper; first | (rw [if_pos (by decide +kernel)]; kernel_rfl) | (rw [if_neg (by decide +kernel)]; exact ⟨rfl, rfl⟩))
  (fun os started H enc _ => lifted os started H enc)
theorem proved : Rows.FnSelectedBoxesSaid := over
#print axioms proved
end Go.Proofs.Ytkkdkeogplgkfaa.fnSelectedBoxes
namespace Go.Proofs.Ytkkdkeogplgkfaa
/-- The row, under a short name, for the claim. -/
theorem fnSelectedBoxes_holds : Rows.FnSelectedBoxesSaid := fnSelectedBoxes.proved
end Go.Proofs.Ytkkdkeogplgkfaa
