/- The statement FnExactBoxesOf holds: for every input the law returns true, out of its plain form (Pure) and the walk. -/
import Derived.Test.YtdiaebjbiddefaaRows
import Derived.Test.YtdiaebjbiddefaaPFnExactBoxesOfx8
import Derived.Test.YtdiaebjbiddefaaPureFnExactBoxesOf
import Derived.WalkKit
import Derived.ProofKit
import Derived.OpenShut
import Derived.ShutString
import Derived.ChangeOld
import Derived.Below
import Derived.SizedLaws
import Derived.Carry
import Derived.WideShapes
namespace Go.Proofs.Ytdiaebjbiddefaa.fnExactBoxesOf
open Go.ChangeShapes Go.WideShapes Go.ChangeAt Go.RowKit Go.Proofs.Ytdiaebjbiddefaa.Opens Go.Proofs.Ytdiaebjbiddefaa.PFnExactBoxesOf Go.Proofs.YtdiaebjbiddefaaW.PrintWords
open Go.ChangeMaps (open_string shut_string)
set_option linter.unusedVariables false
theorem own : ownKnob Try.prog.godebug = none := by kernel_rfl
theorem laidOut : laidOutB Try.prog = true := by kernel_rfl
set_option maxRecDepth 100000 in
theorem opensS107 : Opens Try.prog 107 k107 okS107 := by
 intro H enc w base spare held fuel cs x h
 obtain ⟨xs, n, -, -, hl, hn, hf⟩ := DataW.trod_struct Try.underlying107 h
 have hl' : cs.length = 1 := hl.trans (by kernel_rfl)
 have hn' : xs.length = 1 := hn
 have e0 : DataW.trod enc Try.prog w base spare held n 36 ((cs.drop 0).take (Try.prog.cellsOf 36)) = some (xs[0]'(by omega)) := (hf 0 _ rfl).trans (List.getElem?_eq_getElem (by omega))
 rw [show Try.prog.cellsOf 36 = 1 from by kernel_rfl] at e0
 obtain ⟨v0, g0, o0⟩ := (opens_slice 2 Try.underlying36 (by kernel_rfl) (opens_int Try.underlying2)) enc w base spare held n _ _ e0
 have hok : okS107 ⟨v0⟩ := by
  unfold okS107
  exact o0
 refine ⟨⟨v0⟩, ?_, hok⟩
 have q : (cs.drop 0).take 1 = cs := by rw [List.drop_zero]; exact List.take_of_length_le (by omega)
 rw [← q]
 exact g0
set_option maxRecDepth 100000 in
theorem opensS49 : Opens Try.prog 49 k49 okS49 := by
 intro H enc w base spare held fuel cs x h
 obtain ⟨xs, n, -, -, hl, hn, hf⟩ := DataW.trod_struct Try.underlying49 h
 have hl' : cs.length = 6 := hl.trans (by kernel_rfl)
 have hn' : xs.length = 6 := hn
 have e0 : DataW.trod enc Try.prog w base spare held n 2 ((cs.drop 0).take (Try.prog.cellsOf 2)) = some (xs[0]'(by omega)) := (hf 0 _ rfl).trans (List.getElem?_eq_getElem (by omega))
 rw [show Try.prog.cellsOf 2 = 1 from by kernel_rfl] at e0
 obtain ⟨v0, g0, o0⟩ := (opens_int Try.underlying2) enc w base spare held n _ _ e0
 have e1 : DataW.trod enc Try.prog w base spare held n 36 ((cs.drop 1).take (Try.prog.cellsOf 36)) = some (xs[1]'(by omega)) := (hf 1 _ rfl).trans (List.getElem?_eq_getElem (by omega))
 rw [show Try.prog.cellsOf 36 = 1 from by kernel_rfl] at e1
 obtain ⟨v1, g1, o1⟩ := (opens_slice 2 Try.underlying36 (by kernel_rfl) (opens_int Try.underlying2)) enc w base spare held n _ _ e1
 have e2 : DataW.trod enc Try.prog w base spare held n 36 ((cs.drop 2).take (Try.prog.cellsOf 36)) = some (xs[2]'(by omega)) := (hf 2 _ rfl).trans (List.getElem?_eq_getElem (by omega))
 rw [show Try.prog.cellsOf 36 = 1 from by kernel_rfl] at e2
 obtain ⟨v2, g2, o2⟩ := (opens_slice 2 Try.underlying36 (by kernel_rfl) (opens_int Try.underlying2)) enc w base spare held n _ _ e2
 have e3 : DataW.trod enc Try.prog w base spare held n 36 ((cs.drop 3).take (Try.prog.cellsOf 36)) = some (xs[3]'(by omega)) := (hf 3 _ rfl).trans (List.getElem?_eq_getElem (by omega))
 rw [show Try.prog.cellsOf 36 = 1 from by kernel_rfl] at e3
 obtain ⟨v3, g3, o3⟩ := (opens_slice 2 Try.underlying36 (by kernel_rfl) (opens_int Try.underlying2)) enc w base spare held n _ _ e3
 have e4 : DataW.trod enc Try.prog w base spare held n 36 ((cs.drop 4).take (Try.prog.cellsOf 36)) = some (xs[4]'(by omega)) := (hf 4 _ rfl).trans (List.getElem?_eq_getElem (by omega))
 rw [show Try.prog.cellsOf 36 = 1 from by kernel_rfl] at e4
 obtain ⟨v4, g4, o4⟩ := (opens_slice 2 Try.underlying36 (by kernel_rfl) (opens_int Try.underlying2)) enc w base spare held n _ _ e4
 have e5 : DataW.trod enc Try.prog w base spare held n 47 ((cs.drop 5).take (Try.prog.cellsOf 47)) = some (xs[5]'(by omega)) := (hf 5 _ rfl).trans (List.getElem?_eq_getElem (by omega))
 rw [show Try.prog.cellsOf 47 = 1 from by kernel_rfl] at e5
 obtain ⟨v5, g5, o5⟩ := (opens_slice 107 Try.underlying47 (by kernel_rfl) opensS107) enc w base spare held n _ _ e5
 have hok : okS49 ⟨v0, v1, v2, v3, v4, v5⟩ := by
  unfold okS49
  exact ⟨o0, o1, o2, o3, o4, o5⟩
 refine ⟨⟨v0, v1, v2, v3, v4, v5⟩, ?_, hok⟩
 have q5 : (cs.drop 5).take 1 = cs.drop 5 := List.take_of_length_le (by rw [List.length_drop]; omega)
 have g5' := g5
 rw [q5] at g5'
 refine ⟨(cs.drop 0).take 1, cs.drop 1, ?_, g0, ⟨(cs.drop 1).take 1, cs.drop 2, ?_, g1, ⟨(cs.drop 2).take 1, cs.drop 3, ?_, g2, ⟨(cs.drop 3).take 1, cs.drop 4, ?_, g3, ⟨(cs.drop 4).take 1, cs.drop 5, ?_, g4, g5'⟩⟩⟩⟩⟩
 · exact (List.take_append_drop 1 cs).symm
 · have := (List.take_append_drop 1 (cs.drop 1)).symm; rwa [List.drop_drop] at this
 · have := (List.take_append_drop 1 (cs.drop 2)).symm; rwa [List.drop_drop] at this
 · have := (List.take_append_drop 1 (cs.drop 3)).symm; rwa [List.drop_drop] at this
 · have := (List.take_append_drop 1 (cs.drop 4)).symm; rwa [List.drop_drop] at this
set_option maxRecDepth 100000 in
theorem lifted (os : Os) (started : os.Started) (H : Type) (enc : TypeId × Value → H) :
 ReturnsInHanded {} Try.checked os 11 .any (Rows.fnExactBoxesOfSpec.pre6 enc Try.prog Try.f11 Rows.fnExactBoxesOfRow.domain false) (Rows.fnExactBoxesOfSpec.post enc Try.prog Try.f11 false true false false) := by
 refine returnsInHanded_of_change_sized (C := Try.checked) own started (by kernel_rfl) Try.func11
  (ChangeSpec.witness6 (enc := enc) (C := Try.checked) false ⟨#[], #[.slice none 0 0, .agg #[.int .i64 0, .slice none 0 0, .slice none 0 0, .slice none 0 0, .slice none 0 0, .slice none 0 0]], []⟩ 8 (by kernel_rfl) (by kernel_rfl) (by kernel_rfl) (by kernel_rfl)) ?_
 intro W base args ds gs before hval0 hW hcnd hsz0 _
 have hval : ∀ (j : Nat) t v, Try.f11.params[j]? = some t → args[j]? = some v → Value.okWide Try.prog W .any base t v := hval0
 have hW' := hW
 obtain ⟨p, q, hA0, hV, rfl, hfz, hnd⟩ := hW
 have hA : DataW.TrodAll enc Try.prog W 0 (fun _ => true) true Try.f11.params.toList args.toList ds p := hA0
 rw [Try.params11] at hA hval
 obtain ⟨v0, vs0, d0, ds0, p0, q0, hargs, rfl, rfl, h0, r0⟩ := trodAll_cons hA
 obtain ⟨v1, vs1, d1, ds1, p1, q1, rfl, rfl, rfl, h1, r1⟩ := trodAll_cons r0
 obtain ⟨rfl, rfl, rfl⟩ := trodAll_nil r1
 obtain rfl : args = #[v0, v1] := by cases args; simp_all
 obtain ⟨rfl, rfl⟩ := trodVars_none hV
 have k0 := h0
 have lt0 : ∀ x ∈ p0, x.block < W.heap.size := by obtain ⟨m, hm⟩ := k0; exact DataW.trod_lt m _ _ _ hm
 obtain ⟨fuel0, hf0⟩ := h0
 obtain ⟨a0, len0, cap0, rfl⟩ := okWide_slice Try.underlying36 (hval 0 36 v0 rfl rfl)
 obtain ⟨x0, ⟨A0, c0, he0, hc0, hr0⟩, o0⟩ := (opens_slice 2 Try.underlying36 (by kernel_rfl) (opens_int Try.underlying2)) enc W 0 (fun _ => true) true fuel0 _ _ hf0
 simp only [Value.cells, List.cons.injEq, Value.slice.injEq, and_true] at he0
 obtain ⟨rfl, rfl, rfl⟩ := he0
 have k1 := h1
 have lt1 : ∀ x ∈ p1, x.block < W.heap.size := by obtain ⟨m, hm⟩ := k1; exact DataW.trod_lt m _ _ _ hm
 obtain ⟨fuel1, hf1⟩ := h1
 obtain ⟨xs1, rfl, -⟩ := okWide_struct Try.underlying49 (hval 1 49 v1 rfl rfl)
 obtain ⟨x1, g1, o1⟩ := opensS49 enc W 0 (fun _ => true) true fuel1 _ _ hf1
 obtain ⟨ys1, hys1⟩ : ∃ ys, ys = xs1.toList := ⟨_, rfl⟩
 have g1 : k49.K W x1 ys1 := by rw [hys1]; exact g1
 obtain ⟨_, _, rfl, rfl, ⟨_, _, rfl, ⟨A1_1, c1_1, rfl, hc1_1, hr1_1⟩, ⟨_, _, rfl, ⟨A1_2, c1_2, rfl, hc1_2, hr1_2⟩, ⟨_, _, rfl, ⟨A1_3, c1_3, rfl, hc1_3, hr1_3⟩, ⟨_, _, rfl, ⟨A1_4, c1_4, rfl, hc1_4, hr1_4⟩, ⟨A1_5, c1_5, rfl, hc1_5, hr1_5⟩⟩⟩⟩⟩⟩ := g1
 obtain rfl : xs1 = #[.int .i64 x1.f0, .slice A1_1 (x1.f1).length c1_1, .slice A1_2 (x1.f2).length c1_2, .slice A1_3 (x1.f3).length c1_3, .slice A1_4 (x1.f4).length c1_4, .slice A1_5 (x1.f5).length c1_5] := by cases xs1; exact congrArg Array.mk hys1.symm
 refine (PFnExactBoxesOf.laws_FnExactBoxesOf.walk Pure.FnExactBoxesOf _ _ x0 x1.f0 _ _ x1.f1 _ _ x1.f2 _ _ x1.f3 _ _ x1.f4 _ _ x1.f5 W hr0 hc0 hr1_1 hc1_1 hr1_2 hc1_2 hr1_3 hc1_3 hr1_4 hc1_4 hr1_5 hc1_5 o0 o1.1 o1.2.1 o1.2.2.1 o1.2.2.2.1 o1.2.2.2.2.1 o1.2.2.2.2.2).mono fun e W' ⟨he, bel⟩ => ?_
 subst he
 exact ⟨_, rfl, _, _, _, [], _, [], hW', trodAll_mk1 (shut_bool Try.underlying4 _), (trodAll_cons_mk (Below.trod laidOut (by kernel_rfl) (of_decide_eq_true (by kernel_rfl)) k0 bel lt0) (trodAll_cons_mk (Below.trod laidOut (by kernel_rfl) (of_decide_eq_true (by kernel_rfl)) k1 bel lt1) trodAll_mk0)), rfl, bel.frame _, fun h => by cases h⟩
theorem over : Rows.fnExactBoxesOfRow.holds Try.pinned (OpenSpec.ofChange Rows.fnExactBoxesOfSpec) :=
 OpenClaim.holds_of_wide 11 Try.f11 rfl rfl rfl rfl rfl rfl rfl ⟨rfl, rfl, rfl, rfl, rfl⟩ rfl rfl rfl rfl rfl (by kernel_rfl) Try.func11 (by kernel_rfl)
  (of_decide_eq_true (by kernel_rfl)) (by unfold Func.isWrapper; first | (rw [if_pos (by decide +kernel)]; kernel_rfl) | (rw [if_neg (by decide +kernel)]; exact ⟨rfl, rfl⟩))
  (fun os started H enc _ => lifted os started H enc)
theorem proved : Rows.FnExactBoxesOfSaid := over
#print axioms proved
end Go.Proofs.Ytdiaebjbiddefaa.fnExactBoxesOf
namespace Go.Proofs.Ytdiaebjbiddefaa
/-- The row, under a short name, for the claim. -/
theorem fnExactBoxesOf_holds : Rows.FnExactBoxesOfSaid := fnExactBoxesOf.proved
end Go.Proofs.Ytdiaebjbiddefaa
