/- The statement FnExactValidPager holds: for every input the law returns true, out of its plain form (Pure) and the walk. -/
import Derived.Test.YtjfahjojihlbgaaRows
import Derived.Test.YtjfahjojihlbgaaPFnExactValidPagerx10
import Derived.Test.YtjfahjojihlbgaaPureFnExactValidPager
import Derived.WalkKit
import Derived.ProofKit
import Derived.OpenShut
import Derived.ShutString
import Derived.ChangeOld
import Derived.Below
import Derived.SizedLaws
import Derived.Carry
import Derived.WideShapes
namespace Go.Proofs.Ytjfahjojihlbgaa.fnExactValidPager
open Go.ChangeShapes Go.WideShapes Go.ChangeAt Go.RowKit Go.Proofs.Ytjfahjojihlbgaa.Opens Go.Proofs.Ytjfahjojihlbgaa.PFnExactValidPager Go.Proofs.YtjfahjojihlbgaaW.PrintWords
open Go.ChangeMaps (open_string shut_string)
set_option linter.unusedVariables false
theorem own : ownKnob Try.prog.godebug = none := by kernel_rfl
theorem laidOut : laidOutB Try.prog = true := by kernel_rfl
set_option maxRecDepth 100000 in
theorem opensS79 : Opens Try.prog 79 k79 okS79 := by
  intro H enc w base spare held fuel cs x h
  obtain ⟨xs, n, -, -, hl, hn, hf⟩ := DataW.trod_struct Try.underlying79 h
  have hl' : cs.length = 2 := hl.trans (by kernel_rfl)
  have hn' : xs.length = 2 := hn
  have e0 : DataW.trod enc Try.prog w base spare held n 2 ((cs.drop 0).take (Try.prog.cellsOf 2)) = some (xs[0]'(by omega)) := (hf 0 _ rfl).trans (List.getElem?_eq_getElem (by omega))
  rw [show Try.prog.cellsOf 2 = 1 from by kernel_rfl] at e0
  obtain ⟨v0, g0, o0⟩ := (opens_int Try.underlying2) enc w base spare held n _ _ e0
  have e1 : DataW.trod enc Try.prog w base spare held n 9 ((cs.drop 1).take (Try.prog.cellsOf 9)) = some (xs[1]'(by omega)) := (hf 1 _ rfl).trans (List.getElem?_eq_getElem (by omega))
  rw [show Try.prog.cellsOf 9 = 1 from by kernel_rfl] at e1
  obtain ⟨v1, g1, o1⟩ := (opens_string Try.underlying9) enc w base spare held n _ _ e1
  have hok : okS79 ⟨v0, v1⟩ := by
    unfold okS79
    exact ⟨o0, o1⟩
  refine ⟨⟨v0, v1⟩, ?_, hok⟩
  have q1 : (cs.drop 1).take 1 = cs.drop 1 := List.take_of_length_le (by rw [List.length_drop]; omega)
  have g1' := g1
  rw [q1] at g1'
  refine ⟨(cs.drop 0).take 1, cs.drop 1, ?_, g0, g1'⟩
  · exact (List.take_append_drop 1 cs).symm
set_option maxRecDepth 100000 in
theorem opensS25 : Opens Try.prog 25 k25 okS25 := by
  intro H enc w base spare held fuel cs x h
  obtain ⟨xs, n, -, -, hl, hn, hf⟩ := DataW.trod_struct Try.underlying25 h
  have hl' : cs.length = 4 := hl.trans (by kernel_rfl)
  have hn' : xs.length = 4 := hn
  have e0 : DataW.trod enc Try.prog w base spare held n 22 ((cs.drop 0).take (Try.prog.cellsOf 22)) = some (xs[0]'(by omega)) := (hf 0 _ rfl).trans (List.getElem?_eq_getElem (by omega))
  rw [show Try.prog.cellsOf 22 = 1 from by kernel_rfl] at e0
  obtain ⟨v0, g0, o0⟩ := (opens_slice 9 Try.underlying22 (by kernel_rfl) (opens_string Try.underlying9)) enc w base spare held n _ _ e0
  have e1 : DataW.trod enc Try.prog w base spare held n 23 ((cs.drop 1).take (Try.prog.cellsOf 23)) = some (xs[1]'(by omega)) := (hf 1 _ rfl).trans (List.getElem?_eq_getElem (by omega))
  rw [show Try.prog.cellsOf 23 = 1 from by kernel_rfl] at e1
  obtain ⟨v1, g1, o1⟩ := (opens_slice 79 Try.underlying23 (by kernel_rfl) opensS79) enc w base spare held n _ _ e1
  have e2 : DataW.trod enc Try.prog w base spare held n 2 ((cs.drop 2).take (Try.prog.cellsOf 2)) = some (xs[2]'(by omega)) := (hf 2 _ rfl).trans (List.getElem?_eq_getElem (by omega))
  rw [show Try.prog.cellsOf 2 = 1 from by kernel_rfl] at e2
  obtain ⟨v2, g2, o2⟩ := (opens_int Try.underlying2) enc w base spare held n _ _ e2
  have e3 : DataW.trod enc Try.prog w base spare held n 4 ((cs.drop 3).take (Try.prog.cellsOf 4)) = some (xs[3]'(by omega)) := (hf 3 _ rfl).trans (List.getElem?_eq_getElem (by omega))
  rw [show Try.prog.cellsOf 4 = 1 from by kernel_rfl] at e3
  obtain ⟨v3, g3, o3⟩ := (opens_bool Try.underlying4) enc w base spare held n _ _ e3
  have hok : okS25 ⟨v0, v1, v2, v3⟩ := by
    unfold okS25
    exact ⟨o0, o1, o2, o3⟩
  refine ⟨⟨v0, v1, v2, v3⟩, ?_, hok⟩
  have q3 : (cs.drop 3).take 1 = cs.drop 3 := List.take_of_length_le (by rw [List.length_drop]; omega)
  have g3' := g3
  rw [q3] at g3'
  refine ⟨(cs.drop 0).take 1, cs.drop 1, ?_, g0, ⟨(cs.drop 1).take 1, cs.drop 2, ?_, g1, ⟨(cs.drop 2).take 1, cs.drop 3, ?_, g2, g3'⟩⟩⟩
  · exact (List.take_append_drop 1 cs).symm
  · have := (List.take_append_drop 1 (cs.drop 1)).symm; rwa [List.drop_drop] at this
  · have := (List.take_append_drop 1 (cs.drop 2)).symm; rwa [List.drop_drop] at this
set_option maxRecDepth 100000 in
theorem opensS39 : Opens Try.prog 39 k39 okS39 := by
  intro H enc w base spare held fuel cs x h
  obtain ⟨xs, n, -, -, hl, hn, hf⟩ := DataW.trod_struct Try.underlying39 h
  have hl' : cs.length = 4 := hl.trans (by kernel_rfl)
  have hn' : xs.length = 4 := hn
  have e0 : DataW.trod enc Try.prog w base spare held n 2 ((cs.drop 0).take (Try.prog.cellsOf 2)) = some (xs[0]'(by omega)) := (hf 0 _ rfl).trans (List.getElem?_eq_getElem (by omega))
  rw [show Try.prog.cellsOf 2 = 1 from by kernel_rfl] at e0
  obtain ⟨v0, g0, o0⟩ := (opens_int Try.underlying2) enc w base spare held n _ _ e0
  have e1 : DataW.trod enc Try.prog w base spare held n 2 ((cs.drop 1).take (Try.prog.cellsOf 2)) = some (xs[1]'(by omega)) := (hf 1 _ rfl).trans (List.getElem?_eq_getElem (by omega))
  rw [show Try.prog.cellsOf 2 = 1 from by kernel_rfl] at e1
  obtain ⟨v1, g1, o1⟩ := (opens_int Try.underlying2) enc w base spare held n _ _ e1
  have e2 : DataW.trod enc Try.prog w base spare held n 2 ((cs.drop 2).take (Try.prog.cellsOf 2)) = some (xs[2]'(by omega)) := (hf 2 _ rfl).trans (List.getElem?_eq_getElem (by omega))
  rw [show Try.prog.cellsOf 2 = 1 from by kernel_rfl] at e2
  obtain ⟨v2, g2, o2⟩ := (opens_int Try.underlying2) enc w base spare held n _ _ e2
  have e3 : DataW.trod enc Try.prog w base spare held n 2 ((cs.drop 3).take (Try.prog.cellsOf 2)) = some (xs[3]'(by omega)) := (hf 3 _ rfl).trans (List.getElem?_eq_getElem (by omega))
  rw [show Try.prog.cellsOf 2 = 1 from by kernel_rfl] at e3
  obtain ⟨v3, g3, o3⟩ := (opens_int Try.underlying2) enc w base spare held n _ _ e3
  have hok : okS39 ⟨v0, v1, v2, v3⟩ := by
    unfold okS39
    exact ⟨o0, o1, o2, o3⟩
  refine ⟨⟨v0, v1, v2, v3⟩, ?_, hok⟩
  have q3 : (cs.drop 3).take 1 = cs.drop 3 := List.take_of_length_le (by rw [List.length_drop]; omega)
  have g3' := g3
  rw [q3] at g3'
  refine ⟨(cs.drop 0).take 1, cs.drop 1, ?_, g0, ⟨(cs.drop 1).take 1, cs.drop 2, ?_, g1, ⟨(cs.drop 2).take 1, cs.drop 3, ?_, g2, g3'⟩⟩⟩
  · exact (List.take_append_drop 1 cs).symm
  · have := (List.take_append_drop 1 (cs.drop 1)).symm; rwa [List.drop_drop] at this
  · have := (List.take_append_drop 1 (cs.drop 2)).symm; rwa [List.drop_drop] at this
set_option maxRecDepth 100000 in
theorem opensS92 : Opens Try.prog 92 k92 okS92 := by
  intro H enc w base spare held fuel cs x h
  obtain ⟨xs, n, -, -, hl, hn, hf⟩ := DataW.trod_struct Try.underlying92 h
  have hl' : cs.length = 2 := hl.trans (by kernel_rfl)
  have hn' : xs.length = 2 := hn
  have e0 : DataW.trod enc Try.prog w base spare held n 2 ((cs.drop 0).take (Try.prog.cellsOf 2)) = some (xs[0]'(by omega)) := (hf 0 _ rfl).trans (List.getElem?_eq_getElem (by omega))
  rw [show Try.prog.cellsOf 2 = 1 from by kernel_rfl] at e0
  obtain ⟨v0, g0, o0⟩ := (opens_int Try.underlying2) enc w base spare held n _ _ e0
  have e1 : DataW.trod enc Try.prog w base spare held n 9 ((cs.drop 1).take (Try.prog.cellsOf 9)) = some (xs[1]'(by omega)) := (hf 1 _ rfl).trans (List.getElem?_eq_getElem (by omega))
  rw [show Try.prog.cellsOf 9 = 1 from by kernel_rfl] at e1
  obtain ⟨v1, g1, o1⟩ := (opens_string Try.underlying9) enc w base spare held n _ _ e1
  have hok : okS92 ⟨v0, v1⟩ := by
    unfold okS92
    exact ⟨o0, o1⟩
  refine ⟨⟨v0, v1⟩, ?_, hok⟩
  have q1 : (cs.drop 1).take 1 = cs.drop 1 := List.take_of_length_le (by rw [List.length_drop]; omega)
  have g1' := g1
  rw [q1] at g1'
  refine ⟨(cs.drop 0).take 1, cs.drop 1, ?_, g0, g1'⟩
  · exact (List.take_append_drop 1 cs).symm
set_option maxRecDepth 100000 in
theorem opensS42 : Opens Try.prog 42 k42 okS42 := by
  intro H enc w base spare held fuel cs x h
  obtain ⟨xs, n, -, -, hl, hn, hf⟩ := DataW.trod_struct Try.underlying42 h
  have hl' : cs.length = 12 := hl.trans (by kernel_rfl)
  have hn' : xs.length = 6 := hn
  have e0 : DataW.trod enc Try.prog w base spare held n 25 ((cs.drop 0).take (Try.prog.cellsOf 25)) = some (xs[0]'(by omega)) := (hf 0 _ rfl).trans (List.getElem?_eq_getElem (by omega))
  rw [show Try.prog.cellsOf 25 = 4 from by kernel_rfl] at e0
  obtain ⟨v0, g0, o0⟩ := opensS25 enc w base spare held n _ _ e0
  have e1 : DataW.trod enc Try.prog w base spare held n 39 ((cs.drop 4).take (Try.prog.cellsOf 39)) = some (xs[1]'(by omega)) := (hf 1 _ rfl).trans (List.getElem?_eq_getElem (by omega))
  rw [show Try.prog.cellsOf 39 = 4 from by kernel_rfl] at e1
  obtain ⟨v1, g1, o1⟩ := opensS39 enc w base spare held n _ _ e1
  have e2 : DataW.trod enc Try.prog w base spare held n 2 ((cs.drop 8).take (Try.prog.cellsOf 2)) = some (xs[2]'(by omega)) := (hf 2 _ rfl).trans (List.getElem?_eq_getElem (by omega))
  rw [show Try.prog.cellsOf 2 = 1 from by kernel_rfl] at e2
  obtain ⟨v2, g2, o2⟩ := (opens_int Try.underlying2) enc w base spare held n _ _ e2
  have e3 : DataW.trod enc Try.prog w base spare held n 2 ((cs.drop 9).take (Try.prog.cellsOf 2)) = some (xs[3]'(by omega)) := (hf 3 _ rfl).trans (List.getElem?_eq_getElem (by omega))
  rw [show Try.prog.cellsOf 2 = 1 from by kernel_rfl] at e3
  obtain ⟨v3, g3, o3⟩ := (opens_int Try.underlying2) enc w base spare held n _ _ e3
  have e4 : DataW.trod enc Try.prog w base spare held n 40 ((cs.drop 10).take (Try.prog.cellsOf 40)) = some (xs[4]'(by omega)) := (hf 4 _ rfl).trans (List.getElem?_eq_getElem (by omega))
  rw [show Try.prog.cellsOf 40 = 1 from by kernel_rfl] at e4
  obtain ⟨v4, g4, o4⟩ := (opens_slice 92 Try.underlying40 (by kernel_rfl) opensS92) enc w base spare held n _ _ e4
  have e5 : DataW.trod enc Try.prog w base spare held n 40 ((cs.drop 11).take (Try.prog.cellsOf 40)) = some (xs[5]'(by omega)) := (hf 5 _ rfl).trans (List.getElem?_eq_getElem (by omega))
  rw [show Try.prog.cellsOf 40 = 1 from by kernel_rfl] at e5
  obtain ⟨v5, g5, o5⟩ := (opens_slice 92 Try.underlying40 (by kernel_rfl) opensS92) enc w base spare held n _ _ e5
  have hok : okS42 ⟨v0, v1, v2, v3, v4, v5⟩ := by
    unfold okS42
    exact ⟨o0, o1, o2, o3, o4, o5⟩
  refine ⟨⟨v0, v1, v2, v3, v4, v5⟩, ?_, hok⟩
  have q5 : (cs.drop 11).take 1 = cs.drop 11 := List.take_of_length_le (by rw [List.length_drop]; omega)
  have g5' := g5
  rw [q5] at g5'
  refine ⟨(cs.drop 0).take 4, cs.drop 4, ?_, g0, ⟨(cs.drop 4).take 4, cs.drop 8, ?_, g1, ⟨(cs.drop 8).take 1, cs.drop 9, ?_, g2, ⟨(cs.drop 9).take 1, cs.drop 10, ?_, g3, ⟨(cs.drop 10).take 1, cs.drop 11, ?_, g4, g5'⟩⟩⟩⟩⟩
  · exact (List.take_append_drop 4 cs).symm
  · have := (List.take_append_drop 4 (cs.drop 4)).symm; rwa [List.drop_drop] at this
  · have := (List.take_append_drop 1 (cs.drop 8)).symm; rwa [List.drop_drop] at this
  · have := (List.take_append_drop 1 (cs.drop 9)).symm; rwa [List.drop_drop] at this
  · have := (List.take_append_drop 1 (cs.drop 10)).symm; rwa [List.drop_drop] at this
set_option maxRecDepth 100000 in
theorem lifted (os : Os) (started : os.Started) (H : Type) (enc : TypeId × Value → H) :
    ReturnsInHanded {} Try.checked os 4 .any (Rows.fnExactValidPagerSpec.pre6 enc Try.prog Try.f4 Rows.fnExactValidPagerRow.domain false) (Rows.fnExactValidPagerSpec.post enc Try.prog Try.f4 false true false false) := by
  refine returnsInHanded_of_change_sized (C := Try.checked) own started (by kernel_rfl) Try.func4
    (ChangeSpec.witness6 (enc := enc) (C := Try.checked) false ⟨#[], #[.agg #[.slice none 0 0, .slice none 0 0, .int .i64 0, .bool false, .int .i64 0, .int .i64 0, .int .i64 0, .int .i64 0, .int .i64 0, .int .i64 0, .slice none 0 0, .slice none 0 0]], []⟩ 8 (by kernel_rfl) (by kernel_rfl) (by kernel_rfl) (by kernel_rfl)) ?_
  intro W base args ds gs before hval0 hW hcnd hsz0 _
  have hval : ∀ (j : Nat) t v, Try.f4.params[j]? = some t → args[j]? = some v → Value.okWide Try.prog W .any base t v := hval0
  have hW' := hW
  obtain ⟨p, q, hA0, hV, rfl, hfz, hnd⟩ := hW
  have hA : DataW.TrodAll enc Try.prog W 0 (fun _ => true) true Try.f4.params.toList args.toList ds p := hA0
  rw [Try.params4] at hA hval
  obtain ⟨v0, vs0, d0, ds0, p0, q0, hargs, rfl, rfl, h0, r0⟩ := trodAll_cons hA
  obtain ⟨rfl, rfl, rfl⟩ := trodAll_nil r0
  obtain rfl : args = #[v0] := by cases args; simp_all
  obtain ⟨rfl, rfl⟩ := trodVars_none hV
  have k0 := h0
  have lt0 : ∀ x ∈ p0, x.block < W.heap.size := by obtain ⟨m, hm⟩ := k0; exact DataW.trod_lt m _ _ _ hm
  obtain ⟨fuel0, hf0⟩ := h0
  obtain ⟨xs0, rfl, -⟩ := okWide_struct Try.underlying42 (hval 0 42 v0 rfl rfl)
  obtain ⟨x0, g0, o0⟩ := opensS42 enc W 0 (fun _ => true) true fuel0 _ _ hf0
  obtain ⟨ys0, hys0⟩ : ∃ ys, ys = xs0.toList := ⟨_, rfl⟩
  have g0 : k42.K W x0 ys0 := by rw [hys0]; exact g0
  obtain ⟨_, _, rfl, ⟨_, _, rfl, ⟨A0_0, c0_0, rfl, hc0_0, hr0_0⟩, ⟨_, _, rfl, ⟨A0_1, c0_1, rfl, hc0_1, hr0_1⟩, ⟨_, _, rfl, rfl, rfl⟩⟩⟩, ⟨_, _, rfl, ⟨_, _, rfl, rfl, ⟨_, _, rfl, rfl, ⟨_, _, rfl, rfl, rfl⟩⟩⟩, ⟨_, _, rfl, rfl, ⟨_, _, rfl, rfl, ⟨_, _, rfl, ⟨A0_10, c0_10, rfl, hc0_10, hr0_10⟩, ⟨A0_11, c0_11, rfl, hc0_11, hr0_11⟩⟩⟩⟩⟩⟩ := g0
  obtain rfl : xs0 = #[.slice A0_0 (x0.f0.f0).length c0_0, .slice A0_1 (x0.f0.f1).length c0_1, .int .i64 x0.f0.f2, .bool x0.f0.f3, .int .i64 x0.f1.f0, .int .i64 x0.f1.f1, .int .i64 x0.f1.f2, .int .i64 x0.f1.f3, .int .i64 x0.f2, .int .i64 x0.f3, .slice A0_10 (x0.f4).length c0_10, .slice A0_11 (x0.f5).length c0_11] := by cases xs0; exact congrArg Array.mk hys0.symm
  refine (PFnExactValidPager.laws_FnExactValidPager.walk Pure.FnExactValidPager _ _ x0.f0.f0 _ _ x0.f0.f1 x0.f0.f2 x0.f0.f3 x0.f1.f0 x0.f1.f1 x0.f1.f2 x0.f1.f3 x0.f2 x0.f3 _ _ x0.f4 _ _ x0.f5 W hr0_0 hc0_0 hr0_1 hc0_1 hr0_10 hc0_10 hr0_11 hc0_11 o0.1.1 o0.1.2.1 o0.1.2.2.1 o0.2.1.1 o0.2.1.2.1 o0.2.1.2.2.1 o0.2.1.2.2.2 o0.2.2.1 o0.2.2.2.1 o0.2.2.2.2.1 o0.2.2.2.2.2).mono fun e W' ⟨he, bel⟩ => ?_
  subst he
  exact ⟨_, rfl, _, _, _, [], _, [], hW', trodAll_mk1 (shut_bool Try.underlying4 _), (trodAll_cons_mk (Below.trod laidOut (by kernel_rfl) (of_decide_eq_true (by kernel_rfl)) k0 bel lt0) trodAll_mk0), rfl, bel.frame _, fun h => by cases h⟩
theorem over : Rows.fnExactValidPagerRow.holds Try.pinned (OpenSpec.ofChange Rows.fnExactValidPagerSpec) :=
  OpenClaim.holds_of_wide 4 Try.f4 rfl rfl rfl rfl rfl rfl rfl ⟨rfl, rfl, rfl, rfl, rfl⟩ rfl rfl rfl rfl rfl (by kernel_rfl) Try.func4 (by kernel_rfl)
    (of_decide_eq_true (by kernel_rfl)) (by unfold Func.isWrapper; first | (rw [if_pos (by decide +kernel)]; kernel_rfl) | (rw [if_neg (by decide +kernel)]; exact ⟨rfl, rfl⟩))
    (fun os started H enc _ => lifted os started H enc)
theorem proved : Rows.FnExactValidPagerSaid := over
#print axioms proved
end Go.Proofs.Ytjfahjojihlbgaa.fnExactValidPager
namespace Go.Proofs.Ytjfahjojihlbgaa
/-- The row, under a short name, for the claim. -/
theorem fnExactValidPager_holds : Rows.FnExactValidPagerSaid := fnExactValidPager.proved
end Go.Proofs.Ytjfahjojihlbgaa
