/- The statement FnExactFormedSelection holds: for every input the law returns true, out of its plain form (Pure) and the walk. -/
import Derived.Test.YtobdoafjlbifpaaRows
import Derived.Test.YtobdoafjlbifpaaPFnExactFormedSelectionx9
import Derived.Test.YtobdoafjlbifpaaPureFnExactFormedSelection
import Derived.Test.YtobdoafjlbifpaaOpens
import Derived.WalkKit
import Derived.ProofKit
import Derived.OpenShut
import Derived.ShutString
import Derived.ChangeOld
import Derived.Below
import Derived.SizedLaws
import Derived.Carry
import Derived.WideShapes
namespace Go.Proofs.Ytobdoafjlbifpaa.fnExactFormedSelection
open Go.ChangeShapes Go.WideShapes Go.ChangeAt Go.RowKit Go.Proofs.Ytobdoafjlbifpaa.Opens Go.Proofs.Ytobdoafjlbifpaa.PFnExactFormedSelection Go.Proofs.YtobdoafjlbifpaaW.PrintWords
open Go.ChangeMaps (open_string shut_string)
set_option linter.unusedVariables false
theorem own : ownKnob Try.prog.godebug = none := by kernel_rfl
theorem laidOut : laidOutB Try.prog = true := by kernel_rfl
set_option maxRecDepth 100000 in
theorem opensS46 : Opens Try.prog 46 k46 okS46 := by
  intro H enc w base spare held fuel cs x h
  obtain ⟨xs, n, -, -, hl, hn, hf⟩ := DataW.trod_struct Try.underlying46 h
  have hl' : cs.length = 1 := hl.trans (by kernel_rfl)
  have hn' : xs.length = 1 := hn
  have e0 : DataW.trod enc Try.prog w base spare held n 22 ((cs.drop 0).take (Try.prog.cellsOf 22)) = some (xs[0]'(by omega)) := (hf 0 _ rfl).trans (List.getElem?_eq_getElem (by omega))
  rw [show Try.prog.cellsOf 22 = 1 from by kernel_rfl] at e0
  obtain ⟨v0, g0, o0⟩ := (opens_slice 2 Try.underlying22 (by kernel_rfl) (opens_int Try.underlying2)) enc w base spare held n _ _ e0
  have hok : okS46 ⟨v0⟩ := by
    unfold okS46
    exact o0
  refine ⟨⟨v0⟩, ?_, hok⟩
  have q : (cs.drop 0).take 1 = cs := by rw [List.drop_zero]; exact List.take_of_length_le (by omega)
  rw [← q]
  exact g0
set_option maxRecDepth 100000 in
theorem opensS25 : Opens Try.prog 25 k25 okS25 := by
  intro H enc w base spare held fuel cs x h
  obtain ⟨xs, n, -, -, hl, hn, hf⟩ := DataW.trod_struct Try.underlying25 h
  have hl' : cs.length = 6 := hl.trans (by kernel_rfl)
  have hn' : xs.length = 6 := hn
  have e0 : DataW.trod enc Try.prog w base spare held n 2 ((cs.drop 0).take (Try.prog.cellsOf 2)) = some (xs[0]'(by omega)) := (hf 0 _ rfl).trans (List.getElem?_eq_getElem (by omega))
  rw [show Try.prog.cellsOf 2 = 1 from by kernel_rfl] at e0
  obtain ⟨v0, g0, o0⟩ := (opens_int Try.underlying2) enc w base spare held n _ _ e0
  have e1 : DataW.trod enc Try.prog w base spare held n 22 ((cs.drop 1).take (Try.prog.cellsOf 22)) = some (xs[1]'(by omega)) := (hf 1 _ rfl).trans (List.getElem?_eq_getElem (by omega))
  rw [show Try.prog.cellsOf 22 = 1 from by kernel_rfl] at e1
  obtain ⟨v1, g1, o1⟩ := (opens_slice 2 Try.underlying22 (by kernel_rfl) (opens_int Try.underlying2)) enc w base spare held n _ _ e1
  have e2 : DataW.trod enc Try.prog w base spare held n 22 ((cs.drop 2).take (Try.prog.cellsOf 22)) = some (xs[2]'(by omega)) := (hf 2 _ rfl).trans (List.getElem?_eq_getElem (by omega))
  rw [show Try.prog.cellsOf 22 = 1 from by kernel_rfl] at e2
  obtain ⟨v2, g2, o2⟩ := (opens_slice 2 Try.underlying22 (by kernel_rfl) (opens_int Try.underlying2)) enc w base spare held n _ _ e2
  have e3 : DataW.trod enc Try.prog w base spare held n 22 ((cs.drop 3).take (Try.prog.cellsOf 22)) = some (xs[3]'(by omega)) := (hf 3 _ rfl).trans (List.getElem?_eq_getElem (by omega))
  rw [show Try.prog.cellsOf 22 = 1 from by kernel_rfl] at e3
  obtain ⟨v3, g3, o3⟩ := (opens_slice 2 Try.underlying22 (by kernel_rfl) (opens_int Try.underlying2)) enc w base spare held n _ _ e3
  have e4 : DataW.trod enc Try.prog w base spare held n 22 ((cs.drop 4).take (Try.prog.cellsOf 22)) = some (xs[4]'(by omega)) := (hf 4 _ rfl).trans (List.getElem?_eq_getElem (by omega))
  rw [show Try.prog.cellsOf 22 = 1 from by kernel_rfl] at e4
  obtain ⟨v4, g4, o4⟩ := (opens_slice 2 Try.underlying22 (by kernel_rfl) (opens_int Try.underlying2)) enc w base spare held n _ _ e4
  have e5 : DataW.trod enc Try.prog w base spare held n 23 ((cs.drop 5).take (Try.prog.cellsOf 23)) = some (xs[5]'(by omega)) := (hf 5 _ rfl).trans (List.getElem?_eq_getElem (by omega))
  rw [show Try.prog.cellsOf 23 = 1 from by kernel_rfl] at e5
  obtain ⟨v5, g5, o5⟩ := (opens_slice 46 Try.underlying23 (by kernel_rfl) opensS46) enc w base spare held n _ _ e5
  have hok : okS25 ⟨v0, v1, v2, v3, v4, v5⟩ := by
    unfold okS25
    exact ⟨o0, o1, o2, o3, o4, o5⟩
  refine ⟨⟨v0, v1, v2, v3, v4, v5⟩, ?_, hok⟩
  have q5 : (cs.drop 5).take 1 = cs.drop 5 := List.take_of_length_le (by rw [List.length_drop]; omega)
  have g5' := g5
  rw [q5] at g5'
  refine ⟨(cs.drop 0).take 1, cs.drop 1, ?_, g0, ⟨(cs.drop 1).take 1, cs.drop 2, ?_, g1, ⟨(cs.drop 2).take 1, cs.drop 3, ?_, g2, ⟨(cs.drop 3).take 1, cs.drop 4, ?_, g3, ⟨(cs.drop 4).take 1, cs.drop 5, ?_, g4, g5'⟩⟩⟩⟩⟩
  · exact (List.take_append_drop 1 cs).symm
  · have := (List.take_append_drop 1 (cs.drop 1)).symm; rwa [List.drop_drop] at this
  · have := (List.take_append_drop 1 (cs.drop 2)).symm; rwa [List.drop_drop] at this
  · have := (List.take_append_drop 1 (cs.drop 3)).symm; rwa [List.drop_drop] at this
  · have := (List.take_append_drop 1 (cs.drop 4)).symm; rwa [List.drop_drop] at this
set_option maxRecDepth 100000 in
theorem lifted (os : Os) (started : os.Started) (H : Type) (enc : TypeId × Value → H) :
    ReturnsInHanded {} Try.checked os 3 .any (Rows.fnExactFormedSelectionSpec.pre6 enc Try.prog Try.f3 Rows.fnExactFormedSelectionRow.domain false) (Rows.fnExactFormedSelectionSpec.post enc Try.prog Try.f3 false true false false) := by
  refine returnsInHanded_of_change_sized (C := Try.checked) own started (by kernel_rfl) Try.func3
    (ChangeSpec.witness6 (enc := enc) (C := Try.checked) false ⟨#[], #[.agg #[.int .i64 0, .slice none 0 0, .slice none 0 0, .slice none 0 0, .slice none 0 0, .slice none 0 0]], []⟩ 8 (by kernel_rfl) (by kernel_rfl) (by kernel_rfl) (by kernel_rfl)) ?_
  intro W base args ds gs before hval0 hW hcnd hsz0 _
  have hval : ∀ (j : Nat) t v, Try.f3.params[j]? = some t → args[j]? = some v → Value.okWide Try.prog W .any base t v := hval0
  have hW' := hW
  obtain ⟨p, q, hA0, hV, rfl, hfz, hnd⟩ := hW
  have hA : DataW.TrodAll enc Try.prog W 0 (fun _ => true) true Try.f3.params.toList args.toList ds p := hA0
  rw [Try.params3] at hA hval
  obtain ⟨v0, vs0, d0, ds0, p0, q0, hargs, rfl, rfl, h0, r0⟩ := trodAll_cons hA
  obtain ⟨rfl, rfl, rfl⟩ := trodAll_nil r0
  obtain rfl : args = #[v0] := by cases args; simp_all
  obtain ⟨rfl, rfl⟩ := trodVars_none hV
  have k0 := h0
  have lt0 : ∀ x ∈ p0, x.block < W.heap.size := by obtain ⟨m, hm⟩ := k0; exact DataW.trod_lt m _ _ _ hm
  obtain ⟨fuel0, hf0⟩ := h0
  obtain ⟨xs0, rfl, -⟩ := okWide_struct Try.underlying25 (hval 0 25 v0 rfl rfl)
  obtain ⟨x0, g0, o0⟩ := opensS25 enc W 0 (fun _ => true) true fuel0 _ _ hf0
  obtain ⟨ys0, hys0⟩ : ∃ ys, ys = xs0.toList := ⟨_, rfl⟩
  have g0 : k25.K W x0 ys0 := by rw [hys0]; exact g0
  obtain ⟨_, _, rfl, rfl, ⟨_, _, rfl, ⟨A0_1, c0_1, rfl, hc0_1, hr0_1⟩, ⟨_, _, rfl, ⟨A0_2, c0_2, rfl, hc0_2, hr0_2⟩, ⟨_, _, rfl, ⟨A0_3, c0_3, rfl, hc0_3, hr0_3⟩, ⟨_, _, rfl, ⟨A0_4, c0_4, rfl, hc0_4, hr0_4⟩, ⟨A0_5, c0_5, rfl, hc0_5, hr0_5⟩⟩⟩⟩⟩⟩ := g0
  obtain rfl : xs0 = #[.int .i64 x0.f0, .slice A0_1 (x0.f1).length c0_1, .slice A0_2 (x0.f2).length c0_2, .slice A0_3 (x0.f3).length c0_3, .slice A0_4 (x0.f4).length c0_4, .slice A0_5 (x0.f5).length c0_5] := by cases xs0; exact congrArg Array.mk hys0.symm
  refine (PFnExactFormedSelection.laws_FnExactFormedSelection.walk Pure.FnExactFormedSelection x0.f0 _ _ x0.f1 _ _ x0.f2 _ _ x0.f3 _ _ x0.f4 _ _ x0.f5 W hr0_1 hc0_1 hr0_2 hc0_2 hr0_3 hc0_3 hr0_4 hc0_4 hr0_5 hc0_5 o0.1 o0.2.1 o0.2.2.1 o0.2.2.2.1 o0.2.2.2.2.1 o0.2.2.2.2.2).mono fun e W' ⟨he, bel⟩ => ?_
  subst he
  exact ⟨_, rfl, _, _, _, [], _, [], hW', trodAll_mk1 (shut_bool Try.underlying4 _), (trodAll_cons_mk (Below.trod laidOut (by kernel_rfl) (of_decide_eq_true (by kernel_rfl)) k0 bel lt0) trodAll_mk0), rfl, bel.frame _, fun h => by cases h⟩
theorem over : Rows.fnExactFormedSelectionRow.holds Try.pinned (OpenSpec.ofChange Rows.fnExactFormedSelectionSpec) :=
  OpenClaim.holds_of_wide 3 Try.f3 rfl rfl rfl rfl rfl rfl rfl ⟨rfl, rfl, rfl, rfl, rfl⟩ rfl rfl rfl rfl rfl (by kernel_rfl) Try.func3 (by kernel_rfl)
    (of_decide_eq_true (by kernel_rfl)) (by unfold Func.isWrapper; first | (rw [if_pos (by decide +kernel)]; kernel_rfl) | (rw [if_neg (by decide +kernel)]; exact ⟨rfl, rfl⟩))
    (fun os started H enc _ => lifted os started H enc)
theorem proved : Rows.FnExactFormedSelectionSaid := over
#print axioms proved
end Go.Proofs.Ytobdoafjlbifpaa.fnExactFormedSelection
namespace Go.Proofs.Ytobdoafjlbifpaa
/-- The row, under a short name, for the claim. -/
theorem fnExactFormedSelection_holds : Rows.FnExactFormedSelectionSaid := fnExactFormedSelection.proved
end Go.Proofs.Ytobdoafjlbifpaa
