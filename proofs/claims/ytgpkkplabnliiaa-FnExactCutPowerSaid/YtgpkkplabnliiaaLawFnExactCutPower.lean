/- The statement FnExactCutPower holds: for every input the law returns true, out of its plain form (Pure) and the walk. -/
import Derived.Test.YtgpkkplabnliiaaRows
import Derived.Test.YtgpkkplabnliiaaPFnExactCutPowerx12
import Derived.Test.YtgpkkplabnliiaaPureFnExactCutPower
import Derived.WalkKit
import Derived.ProofKit
import Derived.OpenShut
import Derived.ShutString
import Derived.ChangeOld
import Derived.Below
import Derived.SizedLaws
import Derived.Carry
import Derived.WideShapes
namespace Go.Proofs.Ytgpkkplabnliiaa.fnExactCutPower
open Go.ChangeShapes Go.WideShapes Go.ChangeAt Go.RowKit Go.Proofs.Ytgpkkplabnliiaa.Opens Go.Proofs.Ytgpkkplabnliiaa.PFnExactCutPower Go.Proofs.YtgpkkplabnliiaaW.PrintWords
open Go.ChangeMaps (open_string shut_string)
set_option linter.unusedVariables false
theorem own : ownKnob Try.prog.godebug = none := by kernel_rfl
theorem laidOut : laidOutB Try.prog = true := by kernel_rfl
set_option maxRecDepth 100000 in
theorem opensS99 : Opens Try.prog 99 k99 okS99 := by
  intro H enc w base spare held fuel cs x h
  obtain ⟨xs, n, -, -, hl, hn, hf⟩ := DataW.trod_struct Try.underlying99 h
  have hl' : cs.length = 2 := hl.trans (by kernel_rfl)
  have hn' : xs.length = 2 := hn
  have e0 : DataW.trod enc Try.prog w base spare held n 2 ((cs.drop 0).take (Try.prog.cellsOf 2)) = some (xs[0]'(by omega)) := (hf 0 _ rfl).trans (List.getElem?_eq_getElem (by omega))
  rw [show Try.prog.cellsOf 2 = 1 from by kernel_rfl] at e0
  obtain ⟨v0, g0, o0⟩ := (opens_int Try.underlying2) enc w base spare held n _ _ e0
  have e1 : DataW.trod enc Try.prog w base spare held n 9 ((cs.drop 1).take (Try.prog.cellsOf 9)) = some (xs[1]'(by omega)) := (hf 1 _ rfl).trans (List.getElem?_eq_getElem (by omega))
  rw [show Try.prog.cellsOf 9 = 1 from by kernel_rfl] at e1
  obtain ⟨v1, g1, o1⟩ := (opens_string Try.underlying9) enc w base spare held n _ _ e1
  have hok : okS99 ⟨v0, v1⟩ := by
    unfold okS99
    exact ⟨o0, o1⟩
  refine ⟨⟨v0, v1⟩, ?_, hok⟩
  have q1 : (cs.drop 1).take 1 = cs.drop 1 := List.take_of_length_le (by rw [List.length_drop]; omega)
  have g1' := g1
  rw [q1] at g1'
  refine ⟨(cs.drop 0).take 1, cs.drop 1, ?_, g0, g1'⟩
  · exact (List.take_append_drop 1 cs).symm
set_option maxRecDepth 100000 in
theorem opensS39 : Opens Try.prog 39 k39 okS39 := by
  intro H enc w base spare held fuel cs x h
  obtain ⟨xs, n, -, -, hl, hn, hf⟩ := DataW.trod_struct Try.underlying39 h
  have hl' : cs.length = 4 := hl.trans (by kernel_rfl)
  have hn' : xs.length = 4 := hn
  have e0 : DataW.trod enc Try.prog w base spare held n 36 ((cs.drop 0).take (Try.prog.cellsOf 36)) = some (xs[0]'(by omega)) := (hf 0 _ rfl).trans (List.getElem?_eq_getElem (by omega))
  rw [show Try.prog.cellsOf 36 = 1 from by kernel_rfl] at e0
  obtain ⟨v0, g0, o0⟩ := (opens_slice 9 Try.underlying36 (by kernel_rfl) (opens_string Try.underlying9)) enc w base spare held n _ _ e0
  have e1 : DataW.trod enc Try.prog w base spare held n 37 ((cs.drop 1).take (Try.prog.cellsOf 37)) = some (xs[1]'(by omega)) := (hf 1 _ rfl).trans (List.getElem?_eq_getElem (by omega))
  rw [show Try.prog.cellsOf 37 = 1 from by kernel_rfl] at e1
  obtain ⟨v1, g1, o1⟩ := (opens_slice 99 Try.underlying37 (by kernel_rfl) opensS99) enc w base spare held n _ _ e1
  have e2 : DataW.trod enc Try.prog w base spare held n 2 ((cs.drop 2).take (Try.prog.cellsOf 2)) = some (xs[2]'(by omega)) := (hf 2 _ rfl).trans (List.getElem?_eq_getElem (by omega))
  rw [show Try.prog.cellsOf 2 = 1 from by kernel_rfl] at e2
  obtain ⟨v2, g2, o2⟩ := (opens_int Try.underlying2) enc w base spare held n _ _ e2
  have e3 : DataW.trod enc Try.prog w base spare held n 4 ((cs.drop 3).take (Try.prog.cellsOf 4)) = some (xs[3]'(by omega)) := (hf 3 _ rfl).trans (List.getElem?_eq_getElem (by omega))
  rw [show Try.prog.cellsOf 4 = 1 from by kernel_rfl] at e3
  obtain ⟨v3, g3, o3⟩ := (opens_bool Try.underlying4) enc w base spare held n _ _ e3
  have hok : okS39 ⟨v0, v1, v2, v3⟩ := by
    unfold okS39
    exact ⟨o0, o1, o2, o3⟩
  refine ⟨⟨v0, v1, v2, v3⟩, ?_, hok⟩
  have q3 : (cs.drop 3).take 1 = cs.drop 3 := List.take_of_length_le (by rw [List.length_drop]; omega)
  have g3' := g3
  rw [q3] at g3'
  refine ⟨(cs.drop 0).take 1, cs.drop 1, ?_, g0, ⟨(cs.drop 1).take 1, cs.drop 2, ?_, g1, ⟨(cs.drop 2).take 1, cs.drop 3, ?_, g2, g3'⟩⟩⟩
  · exact (List.take_append_drop 1 cs).symm
  · have := (List.take_append_drop 1 (cs.drop 1)).symm; rwa [List.drop_drop] at this
  · have := (List.take_append_drop 1 (cs.drop 2)).symm; rwa [List.drop_drop] at this
set_option maxRecDepth 100000 in
theorem lifted (os : Os) (started : os.Started) (H : Type) (enc : TypeId × Value → H) :
    ReturnsInHanded {} Try.checked os 4 .any (Rows.fnExactCutPowerSpec.pre6 enc Try.prog Try.f4 Rows.fnExactCutPowerRow.domain false) (Rows.fnExactCutPowerSpec.post enc Try.prog Try.f4 false true false false) := by
  refine returnsInHanded_of_change_sized (C := Try.checked) own started (by kernel_rfl) Try.func4
    (ChangeSpec.witness6 (enc := enc) (C := Try.checked) false ⟨#[], #[.agg #[.slice none 0 0, .slice none 0 0, .int .i64 0, .bool false], .slice none 0 0, .int .i64 0, .int .i64 0], []⟩ 8 (by kernel_rfl) (by kernel_rfl) (by kernel_rfl) (by kernel_rfl)) ?_
  intro W base args ds gs before hval0 hW hcnd hsz0 _
  have hval : ∀ (j : Nat) t v, Try.f4.params[j]? = some t → args[j]? = some v → Value.okWide Try.prog W .any base t v := hval0
  have hW' := hW
  obtain ⟨p, q, hA0, hV, rfl, hfz, hnd⟩ := hW
  have hA : DataW.TrodAll enc Try.prog W 0 (fun _ => true) true Try.f4.params.toList args.toList ds p := hA0
  rw [Try.params4] at hA hval
  obtain ⟨v0, vs0, d0, ds0, p0, q0, hargs, rfl, rfl, h0, r0⟩ := trodAll_cons hA
  obtain ⟨v1, vs1, d1, ds1, p1, q1, rfl, rfl, rfl, h1, r1⟩ := trodAll_cons r0
  obtain ⟨v2, vs2, d2, ds2, p2, q2, rfl, rfl, rfl, h2, r2⟩ := trodAll_cons r1
  obtain ⟨v3, vs3, d3, ds3, p3, q3, rfl, rfl, rfl, h3, r3⟩ := trodAll_cons r2
  obtain ⟨rfl, rfl, rfl⟩ := trodAll_nil r3
  obtain rfl : args = #[v0, v1, v2, v3] := by cases args; simp_all
  obtain ⟨rfl, rfl⟩ := trodVars_none hV
  have k0 := h0
  have lt0 : ∀ x ∈ p0, x.block < W.heap.size := by obtain ⟨m, hm⟩ := k0; exact DataW.trod_lt m _ _ _ hm
  obtain ⟨fuel0, hf0⟩ := h0
  obtain ⟨xs0, rfl, -⟩ := okWide_struct Try.underlying39 (hval 0 39 v0 rfl rfl)
  obtain ⟨x0, g0, o0⟩ := opensS39 enc W 0 (fun _ => true) true fuel0 _ _ hf0
  obtain ⟨ys0, hys0⟩ : ∃ ys, ys = xs0.toList := ⟨_, rfl⟩
  have g0 : k39.K W x0 ys0 := by rw [hys0]; exact g0
  obtain ⟨_, _, rfl, ⟨A0_0, c0_0, rfl, hc0_0, hr0_0⟩, ⟨_, _, rfl, ⟨A0_1, c0_1, rfl, hc0_1, hr0_1⟩, ⟨_, _, rfl, rfl, rfl⟩⟩⟩ := g0
  obtain rfl : xs0 = #[.slice A0_0 (x0.f0).length c0_0, .slice A0_1 (x0.f1).length c0_1, .int .i64 x0.f2, .bool x0.f3] := by cases xs0; exact congrArg Array.mk hys0.symm
  have k1 := h1
  have lt1 : ∀ x ∈ p1, x.block < W.heap.size := by obtain ⟨m, hm⟩ := k1; exact DataW.trod_lt m _ _ _ hm
  obtain ⟨fuel1, hf1⟩ := h1
  obtain ⟨a1, len1, cap1, rfl⟩ := okWide_slice Try.underlying40 (hval 1 40 v1 rfl rfl)
  obtain ⟨x1, ⟨A1, c1, he1, hc1, hr1⟩, o1⟩ := (opens_slice 4 Try.underlying40 (by kernel_rfl) (opens_bool Try.underlying4)) enc W 0 (fun _ => true) true fuel1 _ _ hf1
  simp only [Value.cells, List.cons.injEq, Value.slice.injEq, and_true] at he1
  obtain ⟨rfl, rfl, rfl⟩ := he1
  have k2 := h2
  have lt2 : ∀ x ∈ p2, x.block < W.heap.size := by obtain ⟨m, hm⟩ := k2; exact DataW.trod_lt m _ _ _ hm
  obtain ⟨fuel2, hf2⟩ := h2
  obtain ⟨a2, rfl, -, -, o2⟩ := open_int Try.underlying2 (hval 2 2 v2 rfl rfl) k2
  have k3 := h3
  have lt3 : ∀ x ∈ p3, x.block < W.heap.size := by obtain ⟨m, hm⟩ := k3; exact DataW.trod_lt m _ _ _ hm
  obtain ⟨fuel3, hf3⟩ := h3
  obtain ⟨a3, rfl, -, -, o3⟩ := open_int Try.underlying2 (hval 3 2 v3 rfl rfl) k3
  refine (PFnExactCutPower.laws_FnExactCutPower.walk Pure.FnExactCutPower _ _ x0.f0 _ _ x0.f1 x0.f2 x0.f3 _ _ x1 a2 a3 W hr0_0 hc0_0 hr0_1 hc0_1 hr1 hc1 o0.1 o0.2.1 o0.2.2.1 o1 o2 o3).mono fun e W' ⟨he, bel⟩ => ?_
  subst he
  exact ⟨_, rfl, _, _, _, [], _, [], hW', trodAll_mk1 (shut_bool Try.underlying4 _), (trodAll_cons_mk (Below.trod laidOut (by kernel_rfl) (of_decide_eq_true (by kernel_rfl)) k0 bel lt0) (trodAll_cons_mk (Below.trod laidOut (by kernel_rfl) (of_decide_eq_true (by kernel_rfl)) k1 bel lt1) (trodAll_cons_mk (Below.trod laidOut (by kernel_rfl) (of_decide_eq_true (by kernel_rfl)) k2 bel lt2) (trodAll_cons_mk (Below.trod laidOut (by kernel_rfl) (of_decide_eq_true (by kernel_rfl)) k3 bel lt3) trodAll_mk0)))), rfl, bel.frame _, fun h => by cases h⟩
theorem over : Rows.fnExactCutPowerRow.holds Try.pinned (OpenSpec.ofChange Rows.fnExactCutPowerSpec) :=
  OpenClaim.holds_of_wide 4 Try.f4 rfl rfl rfl rfl rfl rfl rfl ⟨rfl, rfl, rfl, rfl, rfl⟩ rfl rfl rfl rfl rfl (by kernel_rfl) Try.func4 (by kernel_rfl)
    (of_decide_eq_true (by kernel_rfl)) (by unfold Func.isWrapper; first | (rw [if_pos (by decide +kernel)]; kernel_rfl) | (rw [if_neg (by decide +kernel)]; exact ⟨rfl, rfl⟩))
    (fun os started H enc _ => lifted os started H enc)
theorem proved : Rows.FnExactCutPowerSaid := over
#print axioms proved
end Go.Proofs.Ytgpkkplabnliiaa.fnExactCutPower
namespace Go.Proofs.Ytgpkkplabnliiaa
/-- The row, under a short name, for the claim. -/
theorem fnExactCutPower_holds : Rows.FnExactCutPowerSaid := fnExactCutPower.proved
end Go.Proofs.Ytgpkkplabnliiaa
