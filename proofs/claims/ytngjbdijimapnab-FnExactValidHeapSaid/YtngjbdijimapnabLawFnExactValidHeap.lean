/- The statement FnExactValidHeap holds: for every input the law returns true, out of its plain form (Pure) and the walk. -/
import Derived.Test.YtngjbdijimapnabRows
import Derived.Test.YtngjbdijimapnabPFnExactValidHeapx4
import Derived.Test.YtngjbdijimapnabPureFnExactValidHeap
import Derived.Test.YtngjbdijimapnabOpens
import Derived.WalkKit
import Derived.ProofKit
import Derived.OpenShut
import Derived.ShutString
import Derived.ChangeOld
import Derived.Below
import Derived.SizedLaws
import Derived.Carry
import Derived.WideShapes
namespace Go.Proofs.Ytngjbdijimapnab.fnExactValidHeap
open Go.ChangeShapes Go.WideShapes Go.ChangeAt Go.RowKit Go.Proofs.Ytngjbdijimapnab.Opens Go.Proofs.Ytngjbdijimapnab.PFnExactValidHeap Go.Proofs.YtngjbdijimapnabW.PrintWords
open Go.ChangeMaps (open_string shut_string)
set_option linter.unusedVariables false
theorem own : ownKnob Try.prog.godebug = none := by kernel_rfl
theorem laidOut : laidOutB Try.prog = true := by kernel_rfl
set_option maxRecDepth 100000 in
theorem opensS39 : Opens Try.prog 39 k39 okS39 := by
  intro H enc w base spare held fuel cs x h
  obtain ⟨xs, n, -, -, hl, hn, hf⟩ := DataW.trod_struct Try.underlying39 h
  have hl' : cs.length = 1 := hl.trans (by kernel_rfl)
  have hn' : xs.length = 1 := hn
  have e0 : DataW.trod enc Try.prog w base spare held n 37 ((cs.drop 0).take (Try.prog.cellsOf 37)) = some (xs[0]'(by omega)) := (hf 0 _ rfl).trans (List.getElem?_eq_getElem (by omega))
  rw [show Try.prog.cellsOf 37 = 1 from by kernel_rfl] at e0
  obtain ⟨v0, g0, o0⟩ := (opens_slice 9 Try.underlying37 (by kernel_rfl) (opens_string Try.underlying9)) enc w base spare held n _ _ e0
  have hok : okS39 ⟨v0⟩ := by
    unfold okS39
    exact o0
  refine ⟨⟨v0⟩, ?_, hok⟩
  have q : (cs.drop 0).take 1 = cs := by rw [List.drop_zero]; exact List.take_of_length_le (by omega)
  rw [← q]
  exact g0
set_option maxRecDepth 100000 in
theorem lifted (os : Os) (started : os.Started) (H : Type) (enc : TypeId × Value → H) :
    ReturnsInHanded {} Try.checked os 8 .any (Rows.fnExactValidHeapSpec.pre6 enc Try.prog Try.f8 Rows.fnExactValidHeapRow.domain false) (Rows.fnExactValidHeapSpec.post enc Try.prog Try.f8 false true false false) := by
  refine returnsInHanded_of_change_sized (C := Try.checked) own started (by kernel_rfl) Try.func8
    (ChangeSpec.witness6 (enc := enc) (C := Try.checked) false ⟨#[], #[.agg #[.slice none 0 0]], []⟩ 8 (by kernel_rfl) (by kernel_rfl) (by kernel_rfl) (by kernel_rfl)) ?_
  intro W base args ds gs before hval0 hW hcnd hsz0 _
  have hval : ∀ (j : Nat) t v, Try.f8.params[j]? = some t → args[j]? = some v → Value.okWide Try.prog W .any base t v := hval0
  have hW' := hW
  obtain ⟨p, q, hA0, hV, rfl, hfz, hnd⟩ := hW
  have hA : DataW.TrodAll enc Try.prog W 0 (fun _ => true) true Try.f8.params.toList args.toList ds p := hA0
  rw [Try.params8] at hA hval
  obtain ⟨v0, vs0, d0, ds0, p0, q0, hargs, rfl, rfl, h0, r0⟩ := trodAll_cons hA
  obtain ⟨rfl, rfl, rfl⟩ := trodAll_nil r0
  obtain rfl : args = #[v0] := by cases args; simp_all
  obtain ⟨rfl, rfl⟩ := trodVars_none hV
  have k0 := h0
  have lt0 : ∀ x ∈ p0, x.block < W.heap.size := by obtain ⟨m, hm⟩ := k0; exact DataW.trod_lt m _ _ _ hm
  obtain ⟨fuel0, hf0⟩ := h0
  obtain ⟨xs0, rfl, -⟩ := okWide_struct Try.underlying39 (hval 0 39 v0 rfl rfl)
  obtain ⟨x0, g0, o0⟩ := opensS39 enc W 0 (fun _ => true) true fuel0 _ _ hf0
  obtain ⟨ys0, hys0⟩ : ∃ ys, ys = xs0.toList := ⟨_, rfl⟩
  have g0 : k39.K W x0 ys0 := by rw [hys0]; exact g0
  obtain ⟨A0_0, c0_0, rfl, hc0_0, hr0_0⟩ := g0
  obtain rfl : xs0 = #[.slice A0_0 (x0.f0).length c0_0] := by cases xs0; exact congrArg Array.mk hys0.symm
  refine (PFnExactValidHeap.laws_FnExactValidHeap.walk Pure.FnExactValidHeap _ _ x0.f0 W hr0_0 hc0_0 o0).mono fun e W' ⟨he, bel⟩ => ?_
  subst he
  exact ⟨_, rfl, _, _, _, [], _, [], hW', trodAll_mk1 (shut_bool Try.underlying4 _), (trodAll_cons_mk (Below.trod laidOut (by kernel_rfl) (of_decide_eq_true (by kernel_rfl)) k0 bel lt0) trodAll_mk0), rfl, bel.frame _, fun h => by cases h⟩
theorem over : Rows.fnExactValidHeapRow.holds Try.pinned (OpenSpec.ofChange Rows.fnExactValidHeapSpec) :=
  OpenClaim.holds_of_wide 8 Try.f8 rfl rfl rfl rfl rfl rfl rfl ⟨rfl, rfl, rfl, rfl, rfl⟩ rfl rfl rfl rfl rfl (by kernel_rfl) Try.func8 (by kernel_rfl)
    (of_decide_eq_true (by kernel_rfl)) (by unfold Func.isWrapper; first | (rw [if_pos (by decide +kernel)]; kernel_rfl) | (rw [if_neg (by decide +kernel)]; exact ⟨rfl, rfl⟩))
    (fun os started H enc _ => lifted os started H enc)
theorem proved : Rows.FnExactValidHeapSaid := over
#print axioms proved
end Go.Proofs.Ytngjbdijimapnab.fnExactValidHeap
namespace Go.Proofs.Ytngjbdijimapnab
/-- The row, under a short name, for the claim. -/
theorem fnExactValidHeap_holds : Rows.FnExactValidHeapSaid := fnExactValidHeap.proved
end Go.Proofs.Ytngjbdijimapnab
