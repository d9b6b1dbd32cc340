/- The statement FnExactMessageOf holds: for every input the law returns true, out of its plain form (Pure) and the walk. -/
import Derived.Test.YtngjbdijimapnabRows
import Derived.Test.YtngjbdijimapnabPFnExactMessageOfx4
import Derived.Test.YtngjbdijimapnabPureFnExactMessageOf
import Derived.Test.YtngjbdijimapnabOpens
import Derived.WalkKit
import Derived.ProofKit
import Derived.OpenShut
import Derived.ShutString
import Derived.ChangeOld
import Derived.Below
import Derived.SizedLaws
import Derived.Carry
import Derived.WideShapes
namespace Go.Proofs.Ytngjbdijimapnab.fnExactMessageOf
open Go.ChangeShapes Go.WideShapes Go.ChangeAt Go.RowKit Go.Proofs.Ytngjbdijimapnab.Opens Go.Proofs.Ytngjbdijimapnab.PFnExactMessageOf Go.Proofs.YtngjbdijimapnabW.PrintWords
open Go.ChangeMaps (open_string shut_string)
set_option linter.unusedVariables false
theorem own : ownKnob Try.prog.godebug = none := by kernel_rfl
theorem laidOut : laidOutB Try.prog = true := by kernel_rfl
set_option maxRecDepth 100000 in
theorem opensS135 : Opens Try.prog 135 k135 okS135 := by
  intro H enc w base spare held fuel cs x h
  obtain ⟨xs, n, -, -, hl, hn, hf⟩ := DataW.trod_struct Try.underlying135 h
  have hl' : cs.length = 3 := hl.trans (by kernel_rfl)
  have hn' : xs.length = 3 := hn
  have e0 : DataW.trod enc Try.prog w base spare held n 2 ((cs.drop 0).take (Try.prog.cellsOf 2)) = some (xs[0]'(by omega)) := (hf 0 _ rfl).trans (List.getElem?_eq_getElem (by omega))
  rw [show Try.prog.cellsOf 2 = 1 from by kernel_rfl] at e0
  obtain ⟨v0, g0, o0⟩ := (opens_int Try.underlying2) enc w base spare held n _ _ e0
  have e1 : DataW.trod enc Try.prog w base spare held n 2 ((cs.drop 1).take (Try.prog.cellsOf 2)) = some (xs[1]'(by omega)) := (hf 1 _ rfl).trans (List.getElem?_eq_getElem (by omega))
  rw [show Try.prog.cellsOf 2 = 1 from by kernel_rfl] at e1
  obtain ⟨v1, g1, o1⟩ := (opens_int Try.underlying2) enc w base spare held n _ _ e1
  have e2 : DataW.trod enc Try.prog w base spare held n 9 ((cs.drop 2).take (Try.prog.cellsOf 9)) = some (xs[2]'(by omega)) := (hf 2 _ rfl).trans (List.getElem?_eq_getElem (by omega))
  rw [show Try.prog.cellsOf 9 = 1 from by kernel_rfl] at e2
  obtain ⟨v2, g2, o2⟩ := (opens_string Try.underlying9) enc w base spare held n _ _ e2
  have hok : okS135 ⟨v0, v1, v2⟩ := by
    unfold okS135
    exact ⟨o0, o1, o2⟩
  refine ⟨⟨v0, v1, v2⟩, ?_, hok⟩
  have q2 : (cs.drop 2).take 1 = cs.drop 2 := List.take_of_length_le (by rw [List.length_drop]; omega)
  have g2' := g2
  rw [q2] at g2'
  refine ⟨(cs.drop 0).take 1, cs.drop 1, ?_, g0, ⟨(cs.drop 1).take 1, cs.drop 2, ?_, g1, g2'⟩⟩
  · exact (List.take_append_drop 1 cs).symm
  · have := (List.take_append_drop 1 (cs.drop 1)).symm; rwa [List.drop_drop] at this
set_option maxRecDepth 100000 in
theorem opensS49 : Opens Try.prog 49 k49 okS49 := by
  intro H enc w base spare held fuel cs x h
  obtain ⟨xs, n, -, -, hl, hn, hf⟩ := DataW.trod_struct Try.underlying49 h
  have hl' : cs.length = 3 := hl.trans (by kernel_rfl)
  have hn' : xs.length = 3 := hn
  have e0 : DataW.trod enc Try.prog w base spare held n 2 ((cs.drop 0).take (Try.prog.cellsOf 2)) = some (xs[0]'(by omega)) := (hf 0 _ rfl).trans (List.getElem?_eq_getElem (by omega))
  rw [show Try.prog.cellsOf 2 = 1 from by kernel_rfl] at e0
  obtain ⟨v0, g0, o0⟩ := (opens_int Try.underlying2) enc w base spare held n _ _ e0
  have e1 : DataW.trod enc Try.prog w base spare held n 2 ((cs.drop 1).take (Try.prog.cellsOf 2)) = some (xs[1]'(by omega)) := (hf 1 _ rfl).trans (List.getElem?_eq_getElem (by omega))
  rw [show Try.prog.cellsOf 2 = 1 from by kernel_rfl] at e1
  obtain ⟨v1, g1, o1⟩ := (opens_int Try.underlying2) enc w base spare held n _ _ e1
  have e2 : DataW.trod enc Try.prog w base spare held n 47 ((cs.drop 2).take (Try.prog.cellsOf 47)) = some (xs[2]'(by omega)) := (hf 2 _ rfl).trans (List.getElem?_eq_getElem (by omega))
  rw [show Try.prog.cellsOf 47 = 1 from by kernel_rfl] at e2
  obtain ⟨v2, g2, o2⟩ := (opens_slice 135 Try.underlying47 (by kernel_rfl) opensS135) enc w base spare held n _ _ e2
  have hok : okS49 ⟨v0, v1, v2⟩ := by
    unfold okS49
    exact ⟨o0, o1, o2⟩
  refine ⟨⟨v0, v1, v2⟩, ?_, hok⟩
  have q2 : (cs.drop 2).take 1 = cs.drop 2 := List.take_of_length_le (by rw [List.length_drop]; omega)
  have g2' := g2
  rw [q2] at g2'
  refine ⟨(cs.drop 0).take 1, cs.drop 1, ?_, g0, ⟨(cs.drop 1).take 1, cs.drop 2, ?_, g1, g2'⟩⟩
  · exact (List.take_append_drop 1 cs).symm
  · have := (List.take_append_drop 1 (cs.drop 1)).symm; rwa [List.drop_drop] at this
set_option maxRecDepth 100000 in
theorem lifted (os : Os) (started : os.Started) (H : Type) (enc : TypeId × Value → H) :
    ReturnsInHanded {} Try.checked os 11 .any (Rows.fnExactMessageOfSpec.pre6 enc Try.prog Try.f11 Rows.fnExactMessageOfRow.domain false) (Rows.fnExactMessageOfSpec.post enc Try.prog Try.f11 false true false false) := by
  refine returnsInHanded_of_change_sized (C := Try.checked) own started (by kernel_rfl) Try.func11
    (ChangeSpec.witness6 (enc := enc) (C := Try.checked) false ⟨#[], #[.agg #[.int .i64 0, .int .i64 0, .slice none 0 0], .int .i64 0], []⟩ 8 (by kernel_rfl) (by kernel_rfl) (by kernel_rfl) (by kernel_rfl)) ?_
  intro W base args ds gs before hval0 hW hcnd hsz0 _
  have hval : ∀ (j : Nat) t v, Try.f11.params[j]? = some t → args[j]? = some v → Value.okWide Try.prog W .any base t v := hval0
  have hW' := hW
  obtain ⟨p, q, hA0, hV, rfl, hfz, hnd⟩ := hW
  have hA : DataW.TrodAll enc Try.prog W 0 (fun _ => true) true Try.f11.params.toList args.toList ds p := hA0
  rw [Try.params11] at hA hval
  obtain ⟨v0, vs0, d0, ds0, p0, q0, hargs, rfl, rfl, h0, r0⟩ := trodAll_cons hA
  obtain ⟨v1, vs1, d1, ds1, p1, q1, rfl, rfl, rfl, h1, r1⟩ := trodAll_cons r0
  obtain ⟨rfl, rfl, rfl⟩ := trodAll_nil r1
  obtain rfl : args = #[v0, v1] := by cases args; simp_all
  obtain ⟨rfl, rfl⟩ := trodVars_none hV
  have k0 := h0
  have lt0 : ∀ x ∈ p0, x.block < W.heap.size := by obtain ⟨m, hm⟩ := k0; exact DataW.trod_lt m _ _ _ hm
  obtain ⟨fuel0, hf0⟩ := h0
  obtain ⟨xs0, rfl, -⟩ := okWide_struct Try.underlying49 (hval 0 49 v0 rfl rfl)
  obtain ⟨x0, g0, o0⟩ := opensS49 enc W 0 (fun _ => true) true fuel0 _ _ hf0
  obtain ⟨ys0, hys0⟩ : ∃ ys, ys = xs0.toList := ⟨_, rfl⟩
  have g0 : k49.K W x0 ys0 := by rw [hys0]; exact g0
  obtain ⟨_, _, rfl, rfl, ⟨_, _, rfl, rfl, ⟨A0_2, c0_2, rfl, hc0_2, hr0_2⟩⟩⟩ := g0
  obtain rfl : xs0 = #[.int .i64 x0.f0, .int .i64 x0.f1, .slice A0_2 (x0.f2).length c0_2] := by cases xs0; exact congrArg Array.mk hys0.symm
  have k1 := h1
  have lt1 : ∀ x ∈ p1, x.block < W.heap.size := by obtain ⟨m, hm⟩ := k1; exact DataW.trod_lt m _ _ _ hm
  obtain ⟨fuel1, hf1⟩ := h1
  obtain ⟨a1, rfl, -, -, o1⟩ := open_int Try.underlying2 (hval 1 2 v1 rfl rfl) k1
  refine (PFnExactMessageOf.laws_FnExactMessageOf.walk Pure.FnExactMessageOf x0.f0 x0.f1 _ _ x0.f2 a1 W hr0_2 hc0_2 o0.1 o0.2.1 o0.2.2 o1).mono fun e W' ⟨he, bel⟩ => ?_
  subst he
  exact ⟨_, rfl, _, _, _, [], _, [], hW', trodAll_mk1 (shut_bool Try.underlying4 _), (trodAll_cons_mk (Below.trod laidOut (by kernel_rfl) (of_decide_eq_true (by kernel_rfl)) k0 bel lt0) (trodAll_cons_mk (Below.trod laidOut (by kernel_rfl) (of_decide_eq_true (by kernel_rfl)) k1 bel lt1) trodAll_mk0)), rfl, bel.frame _, fun h => by cases h⟩
theorem over : Rows.fnExactMessageOfRow.holds Try.pinned (OpenSpec.ofChange Rows.fnExactMessageOfSpec) :=
  OpenClaim.holds_of_wide 11 Try.f11 rfl rfl rfl rfl rfl rfl rfl ⟨rfl, rfl, rfl, rfl, rfl⟩ rfl rfl rfl rfl rfl (by kernel_rfl) Try.func11 (by kernel_rfl)
    (of_decide_eq_true (by kernel_rfl)) (by unfold Func.isWrapper; first | (rw [if_pos (by decide +kernel)]; kernel_rfl) | (rw [if_neg (by decide +kernel)]; exact ⟨rfl, rfl⟩))
    (fun os started H enc _ => lifted os started H enc)
theorem proved : Rows.FnExactMessageOfSaid := over
#print axioms proved
end Go.Proofs.Ytngjbdijimapnab.fnExactMessageOf
namespace Go.Proofs.Ytngjbdijimapnab
/-- The row, under a short name, for the claim. -/
theorem fnExactMessageOf_holds : Rows.FnExactMessageOfSaid := fnExactMessageOf.proved
end Go.Proofs.Ytngjbdijimapnab
