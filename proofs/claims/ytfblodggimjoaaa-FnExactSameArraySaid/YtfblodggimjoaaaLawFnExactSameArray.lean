/- The statement FnExactSameArray holds: for every input the law returns true, out of its plain form (Pure) and the walk. -/
import Derived.Test.YtfblodggimjoaaaRows
import Derived.Test.YtfblodggimjoaaaPFnExactSameArrayx8
import Derived.Test.YtfblodggimjoaaaPureFnExactSameArray
import Derived.WalkKit
import Derived.ProofKit
import Derived.OpenShut
import Derived.ShutString
import Derived.ChangeOld
import Derived.Below
import Derived.SizedLaws
import Derived.Carry
import Derived.WideShapes
namespace Go.Proofs.Ytfblodggimjoaaa.fnExactSameArray
open Go.ChangeShapes Go.WideShapes Go.ChangeAt Go.RowKit Go.Proofs.Ytfblodggimjoaaa.Opens Go.Proofs.Ytfblodggimjoaaa.PFnExactSameArray Go.Proofs.YtfblodggimjoaaaW.PrintWords
open Go.ChangeMaps (open_string shut_string)
set_option linter.unusedVariables false
theorem own : ownKnob Try.prog.godebug = none := by kernel_rfl
theorem laidOut : laidOutB Try.prog = true := by kernel_rfl
set_option maxRecDepth 100000 in
theorem opensS91_to (N : Nat) (hT : ∀ q, q < N → OpensTo q Try.prog 27 k27 okS27) : OpensTo N Try.prog 91 k91 okS91 := by
 intro H enc w base spare held fuel cs x hN h
 obtain ⟨xs, n, rfl, -, hl, hn, hf⟩ := DataW.trod_struct Try.underlying91 h
 have hl' : cs.length = 11 := hl.trans (by kernel_rfl)
 have hn' : xs.length = 3 := hn
 have e0 : DataW.trod enc Try.prog w base spare held n 9 ((cs.drop 0).take (Try.prog.cellsOf 9)) = some (xs[0]'(by omega)) := (hf 0 _ rfl).trans (List.getElem?_eq_getElem (by omega))
 rw [show Try.prog.cellsOf 9 = 1 from by kernel_rfl] at e0
 obtain ⟨v0, g0, o0⟩ := (opens_string Try.underlying9) enc w base spare held n _ _ e0
 have e1 : DataW.trod enc Try.prog w base spare held n 2 ((cs.drop 1).take (Try.prog.cellsOf 2)) = some (xs[1]'(by omega)) := (hf 1 _ rfl).trans (List.getElem?_eq_getElem (by omega))
 rw [show Try.prog.cellsOf 2 = 1 from by kernel_rfl] at e1
 obtain ⟨v1, g1, o1⟩ := (opens_int Try.underlying2) enc w base spare held n _ _ e1
 have e2 : DataW.trod enc Try.prog w base spare held n 27 ((cs.drop 2).take (Try.prog.cellsOf 27)) = some (xs[2]'(by omega)) := (hf 2 _ rfl).trans (List.getElem?_eq_getElem (by omega))
 rw [show Try.prog.cellsOf 27 = 9 from by kernel_rfl] at e2
 obtain ⟨v2, g2, o2⟩ := (hT n (by omega)) enc w base spare held n _ _ (Nat.le_refl _) e2
 obtain ⟨c0, c1, c2, c3, c4, c5, c6, c7, c8, c9, c10, rfl⟩ : ∃ c0 c1 c2 c3 c4 c5 c6 c7 c8 c9 c10, cs = [c0, c1, c2, c3, c4, c5, c6, c7, c8, c9, c10] := by
  match cs, hl' with
  | [c0, c1, c2, c3, c4, c5, c6, c7, c8, c9, c10], _ => exact ⟨c0, c1, c2, c3, c4, c5, c6, c7, c8, c9, c10, rfl⟩
 obtain rfl : c0 = .string v0 := (List.cons.inj (show [c0] = [_] from g0)).1
 obtain rfl : c1 = .int .i64 v1 := (List.cons.inj (show [c1] = [_] from g1)).1
 exact ⟨⟨v0, v1, v2⟩, ⟨[.string v0], [.int .i64 v1, c2, c3, c4, c5, c6, c7, c8, c9, c10], rfl, rfl, ⟨[.int .i64 v1], [c2, c3, c4, c5, c6, c7, c8, c9, c10], rfl, rfl, g2⟩⟩, ⟨o0, o1, o2⟩⟩
set_option maxRecDepth 100000 in
theorem opensS27_to : ∀ N, OpensTo N Try.prog 27 k27 okS27 := by
 intro N
 induction N using Nat.strongRecOn with
 | _ N ih =>
 intro H enc w base spare held fuel cs x hN h
 obtain ⟨xs, n, rfl, -, hl, hn, hf⟩ := DataW.trod_struct Try.underlying27 h
 have hl' : cs.length = 9 := hl.trans (by kernel_rfl)
 have hn' : xs.length = 9 := hn
 have e0 : DataW.trod enc Try.prog w base spare held n 2 ((cs.drop 0).take (Try.prog.cellsOf 2)) = some (xs[0]'(by omega)) := (hf 0 _ rfl).trans (List.getElem?_eq_getElem (by omega))
 rw [show Try.prog.cellsOf 2 = 1 from by kernel_rfl] at e0
 obtain ⟨v0, g0, o0⟩ := (opens_int Try.underlying2) enc w base spare held n _ _ e0
 have e1 : DataW.trod enc Try.prog w base spare held n 2 ((cs.drop 1).take (Try.prog.cellsOf 2)) = some (xs[1]'(by omega)) := (hf 1 _ rfl).trans (List.getElem?_eq_getElem (by omega))
 rw [show Try.prog.cellsOf 2 = 1 from by kernel_rfl] at e1
 obtain ⟨v1, g1, o1⟩ := (opens_int Try.underlying2) enc w base spare held n _ _ e1
 have e2 : DataW.trod enc Try.prog w base spare held n 4 ((cs.drop 2).take (Try.prog.cellsOf 4)) = some (xs[2]'(by omega)) := (hf 2 _ rfl).trans (List.getElem?_eq_getElem (by omega))
 rw [show Try.prog.cellsOf 4 = 1 from by kernel_rfl] at e2
 obtain ⟨v2, g2, o2⟩ := (opens_bool Try.underlying4) enc w base spare held n _ _ e2
 have e3 : DataW.trod enc Try.prog w base spare held n 4 ((cs.drop 3).take (Try.prog.cellsOf 4)) = some (xs[3]'(by omega)) := (hf 3 _ rfl).trans (List.getElem?_eq_getElem (by omega))
 rw [show Try.prog.cellsOf 4 = 1 from by kernel_rfl] at e3
 obtain ⟨v3, g3, o3⟩ := (opens_bool Try.underlying4) enc w base spare held n _ _ e3
 have e4 : DataW.trod enc Try.prog w base spare held n 22 ((cs.drop 4).take (Try.prog.cellsOf 22)) = some (xs[4]'(by omega)) := (hf 4 _ rfl).trans (List.getElem?_eq_getElem (by omega))
 rw [show Try.prog.cellsOf 22 = 1 from by kernel_rfl] at e4
 obtain ⟨v4, g4, o4⟩ := (opens_slice 9 Try.underlying22 (by kernel_rfl) (opens_string Try.underlying9)) enc w base spare held n _ _ e4
 have e5 : DataW.trod enc Try.prog w base spare held n 23 ((cs.drop 5).take (Try.prog.cellsOf 23)) = some (xs[5]'(by omega)) := (hf 5 _ rfl).trans (List.getElem?_eq_getElem (by omega))
 rw [show Try.prog.cellsOf 23 = 1 from by kernel_rfl] at e5
 obtain ⟨v5, g5, o5⟩ := (opens_slice 2 Try.underlying23 (by kernel_rfl) (opens_int Try.underlying2)) enc w base spare held n _ _ e5
 have e6 : DataW.trod enc Try.prog w base spare held n 24 ((cs.drop 6).take (Try.prog.cellsOf 24)) = some (xs[6]'(by omega)) := (hf 6 _ rfl).trans (List.getElem?_eq_getElem (by omega))
 rw [show Try.prog.cellsOf 24 = 1 from by kernel_rfl] at e6
 obtain ⟨v6, g6, o6⟩ := (opens_slice_to 91 Try.underlying24 (by kernel_rfl) (fun m hm => opensS91_to m (fun q hq => ih q (by omega)))) enc w base spare held n _ _ (Nat.le_refl _) e6
 have e7 : DataW.trod enc Try.prog w base spare held n 25 ((cs.drop 7).take (Try.prog.cellsOf 25)) = some (xs[7]'(by omega)) := (hf 7 _ rfl).trans (List.getElem?_eq_getElem (by omega))
 rw [show Try.prog.cellsOf 25 = 1 from by kernel_rfl] at e7
 obtain ⟨v7, g7, o7⟩ := (opens_slice_to 27 Try.underlying25 (by kernel_rfl) (fun m hm => ih m (by omega))) enc w base spare held n _ _ (Nat.le_refl _) e7
 have e8 : DataW.trod enc Try.prog w base spare held n 2 ((cs.drop 8).take (Try.prog.cellsOf 2)) = some (xs[8]'(by omega)) := (hf 8 _ rfl).trans (List.getElem?_eq_getElem (by omega))
 rw [show Try.prog.cellsOf 2 = 1 from by kernel_rfl] at e8
 obtain ⟨v8, g8, o8⟩ := (opens_int Try.underlying2) enc w base spare held n _ _ e8
 obtain ⟨c0, c1, c2, c3, c4, c5, c6, c7, c8, rfl⟩ : ∃ c0 c1 c2 c3 c4 c5 c6 c7 c8, cs = [c0, c1, c2, c3, c4, c5, c6, c7, c8] := by
  match cs, hl' with
  | [c0, c1, c2, c3, c4, c5, c6, c7, c8], _ => exact ⟨c0, c1, c2, c3, c4, c5, c6, c7, c8, rfl⟩
 obtain rfl : c0 = .int .i64 v0 := (List.cons.inj (show [c0] = [_] from g0)).1
 obtain rfl : c1 = .int .i64 v1 := (List.cons.inj (show [c1] = [_] from g1)).1
 obtain rfl : c2 = .bool v2 := (List.cons.inj (show [c2] = [_] from g2)).1
 obtain rfl : c3 = .bool v3 := (List.cons.inj (show [c3] = [_] from g3)).1
 obtain ⟨A4, k4, h4, l4, q4⟩ := g4
 obtain rfl : c4 = .slice A4 v4.length k4 := (List.cons.inj (show [c4] = [_] from h4)).1
 obtain ⟨A5, k5, h5, l5, q5⟩ := g5
 obtain rfl : c5 = .slice A5 v5.length k5 := (List.cons.inj (show [c5] = [_] from h5)).1
 obtain ⟨A6, k6, h6, l6, q6⟩ := g6
 obtain rfl : c6 = .slice A6 v6.length k6 := (List.cons.inj (show [c6] = [_] from h6)).1
 obtain ⟨A7, k7, h7, l7, q7⟩ := g7
 obtain rfl : c7 = .slice A7 v7.length k7 := (List.cons.inj (show [c7] = [_] from h7)).1
 obtain rfl : c8 = .int .i64 v8 := (List.cons.inj (show [c8] = [_] from g8)).1
 exact ⟨⟨v0, v1, v2, v3, v4, v5, v6, v7, v8⟩, k27_mk w ⟨v0, v1, v2, v3, v4, v5, v6, v7, v8⟩ l4 q4 l5 q5 l6 q6 l7 q7, okS27.of ⟨o0, o1, o2, o3, o4, o5, o6, o7, o8⟩⟩
theorem opensS27 : Opens Try.prog 27 k27 okS27 := opens_of_to opensS27_to
set_option maxRecDepth 100000 in
theorem opensS52 : Opens Try.prog 52 k52 okS52 := by
 intro H enc w base spare held fuel cs x h
 obtain ⟨xs, n, -, -, hl, hn, hf⟩ := DataW.trod_struct Try.underlying52 h
 have hl' : cs.length = 11 := hl.trans (by kernel_rfl)
 have hn' : xs.length = 3 := hn
 have e0 : DataW.trod enc Try.prog w base spare held n 27 ((cs.drop 0).take (Try.prog.cellsOf 27)) = some (xs[0]'(by omega)) := (hf 0 _ rfl).trans (List.getElem?_eq_getElem (by omega))
 rw [show Try.prog.cellsOf 27 = 9 from by kernel_rfl] at e0
 obtain ⟨v0, g0, o0⟩ := opensS27 enc w base spare held n _ _ e0
 have e1 : DataW.trod enc Try.prog w base spare held n 23 ((cs.drop 9).take (Try.prog.cellsOf 23)) = some (xs[1]'(by omega)) := (hf 1 _ rfl).trans (List.getElem?_eq_getElem (by omega))
 rw [show Try.prog.cellsOf 23 = 1 from by kernel_rfl] at e1
 obtain ⟨v1, g1, o1⟩ := (opens_slice 2 Try.underlying23 (by kernel_rfl) (opens_int Try.underlying2)) enc w base spare held n _ _ e1
 have e2 : DataW.trod enc Try.prog w base spare held n 9 ((cs.drop 10).take (Try.prog.cellsOf 9)) = some (xs[2]'(by omega)) := (hf 2 _ rfl).trans (List.getElem?_eq_getElem (by omega))
 rw [show Try.prog.cellsOf 9 = 1 from by kernel_rfl] at e2
 obtain ⟨v2, g2, o2⟩ := (opens_string Try.underlying9) enc w base spare held n _ _ e2
 have hok : okS52 ⟨v0, v1, v2⟩ := by
  unfold okS52
  exact ⟨o0, o1, o2⟩
 refine ⟨⟨v0, v1, v2⟩, ?_, hok⟩
 have q2 : (cs.drop 10).take 1 = cs.drop 10 := List.take_of_length_le (by rw [List.length_drop]; omega)
 have g2' := g2
 rw [q2] at g2'
 refine ⟨(cs.drop 0).take 9, cs.drop 9, ?_, g0, ⟨(cs.drop 9).take 1, cs.drop 10, ?_, g1, g2'⟩⟩
 · exact (List.take_append_drop 9 cs).symm
 · have := (List.take_append_drop 1 (cs.drop 9)).symm; rwa [List.drop_drop] at this
set_option maxRecDepth 100000 in
theorem lifted (os : Os) (started : os.Started) (H : Type) (enc : TypeId × Value → H) :
 ReturnsInHanded {} Try.checked os 6 .any (Rows.fnExactSameArraySpec.pre6 enc Try.prog Try.f6 Rows.fnExactSameArrayRow.domain false) (Rows.fnExactSameArraySpec.post enc Try.prog Try.f6 false true false false) := by
 refine returnsInHanded_of_change_sized (C := Try.checked) own started (by kernel_rfl) Try.func6
  (ChangeSpec.witness6 (enc := enc) (C := Try.checked) false ⟨#[], #[.agg #[.int .i64 0, .int .i64 0, .bool false, .bool false, .slice none 0 0, .slice none 0 0, .slice none 0 0, .slice none 0 0, .int .i64 0, .slice none 0 0, .string ByteArray.empty], .agg #[.int .i64 0, .int .i64 0, .bool false, .bool false, .slice none 0 0, .slice none 0 0, .slice none 0 0, .slice none 0 0, .int .i64 0, .slice none 0 0, .string ByteArray.empty]], []⟩ 8 (by kernel_rfl) (by kernel_rfl) (by kernel_rfl) (by kernel_rfl)) ?_
 intro W base args ds gs before hval0 hW hcnd hsz0 _
 have hval : ∀ (j : Nat) t v, Try.f6.params[j]? = some t → args[j]? = some v → Value.okWide Try.prog W .any base t v := hval0
 have hW' := hW
 obtain ⟨p, q, hA0, hV, rfl, hfz, hnd⟩ := hW
 have hA : DataW.TrodAll enc Try.prog W 0 (fun _ => true) true Try.f6.params.toList args.toList ds p := hA0
 rw [Try.params6] at hA hval
 obtain ⟨v0, vs0, d0, ds0, p0, q0, hargs, rfl, rfl, h0, r0⟩ := trodAll_cons hA
 obtain ⟨v1, vs1, d1, ds1, p1, q1, rfl, rfl, rfl, h1, r1⟩ := trodAll_cons r0
 obtain ⟨rfl, rfl, rfl⟩ := trodAll_nil r1
 obtain rfl : args = #[v0, v1] := by cases args; simp_all
 obtain ⟨rfl, rfl⟩ := trodVars_none hV
 have k0 := h0
 have lt0 : ∀ x ∈ p0, x.block < W.heap.size := by obtain ⟨m, hm⟩ := k0; exact DataW.trod_lt m _ _ _ hm
 obtain ⟨fuel0, hf0⟩ := h0
 obtain ⟨xs0, rfl, -⟩ := okWide_struct Try.underlying52 (hval 0 52 v0 rfl rfl)
 obtain ⟨x0, g0, o0⟩ := opensS52 enc W 0 (fun _ => true) true fuel0 _ _ hf0
 obtain ⟨ys0, hys0⟩ : ∃ ys, ys = xs0.toList := ⟨_, rfl⟩
 have g0 : k52.K W x0 ys0 := by rw [hys0]; exact g0
 obtain ⟨_, _, rfl, gT0_0, ⟨_, _, rfl, ⟨A0_9, c0_9, rfl, hc0_9, hr0_9⟩, rfl⟩⟩ := g0
 obtain ⟨A0_4, c0_4, A0_5, c0_5, A0_6, c0_6, A0_7, c0_7, rfl, hc0_4, hr0_4, hc0_5, hr0_5, hc0_6, hr0_6, hc0_7, hr0_7⟩ := k27_open gT0_0
 obtain rfl : xs0 = #[.int .i64 x0.f0.f0, .int .i64 x0.f0.f1, .bool x0.f0.f2, .bool x0.f0.f3, .slice A0_4 (x0.f0.f4).length c0_4, .slice A0_5 (x0.f0.f5).length c0_5, .slice A0_6 (x0.f0.f6).length c0_6, .slice A0_7 (x0.f0.f7).length c0_7, .int .i64 x0.f0.f8, .slice A0_9 (x0.f1).length c0_9, .string x0.f2] := by cases xs0; exact congrArg Array.mk hys0.symm
 have k1 := h1
 have lt1 : ∀ x ∈ p1, x.block < W.heap.size := by obtain ⟨m, hm⟩ := k1; exact DataW.trod_lt m _ _ _ hm
 obtain ⟨fuel1, hf1⟩ := h1
 obtain ⟨xs1, rfl, -⟩ := okWide_struct Try.underlying52 (hval 1 52 v1 rfl rfl)
 obtain ⟨x1, g1, o1⟩ := opensS52 enc W 0 (fun _ => true) true fuel1 _ _ hf1
 obtain ⟨ys1, hys1⟩ : ∃ ys, ys = xs1.toList := ⟨_, rfl⟩
 have g1 : k52.K W x1 ys1 := by rw [hys1]; exact g1
 obtain ⟨_, _, rfl, gT1_0, ⟨_, _, rfl, ⟨A1_9, c1_9, rfl, hc1_9, hr1_9⟩, rfl⟩⟩ := g1
 obtain ⟨A1_4, c1_4, A1_5, c1_5, A1_6, c1_6, A1_7, c1_7, rfl, hc1_4, hr1_4, hc1_5, hr1_5, hc1_6, hr1_6, hc1_7, hr1_7⟩ := k27_open gT1_0
 obtain rfl : xs1 = #[.int .i64 x1.f0.f0, .int .i64 x1.f0.f1, .bool x1.f0.f2, .bool x1.f0.f3, .slice A1_4 (x1.f0.f4).length c1_4, .slice A1_5 (x1.f0.f5).length c1_5, .slice A1_6 (x1.f0.f6).length c1_6, .slice A1_7 (x1.f0.f7).length c1_7, .int .i64 x1.f0.f8, .slice A1_9 (x1.f1).length c1_9, .string x1.f2] := by cases xs1; exact congrArg Array.mk hys1.symm
 refine (PFnExactSameArray.laws_FnExactSameArray.walk Pure.FnExactSameArray x0.f0.f0 x0.f0.f1 x0.f0.f2 x0.f0.f3 _ _ x0.f0.f4 _ _ x0.f0.f5 _ _ x0.f0.f6 _ _ x0.f0.f7 x0.f0.f8 _ _ x0.f1 x0.f2 x1.f0.f0 x1.f0.f1 x1.f0.f2 x1.f0.f3 _ _ x1.f0.f4 _ _ x1.f0.f5 _ _ x1.f0.f6 _ _ x1.f0.f7 x1.f0.f8 _ _ x1.f1 x1.f2 W hr0_4 hc0_4 hr0_5 hc0_5 hr0_6 hc0_6 hr0_7 hc0_7 hr0_9 hc0_9 hr1_4 hc1_4 hr1_5 hc1_5 hr1_6 hc1_6 hr1_7 hc1_7 hr1_9 hc1_9 (okS27.out o0.1).1 (okS27.out o0.1).2.1 (okS27.out o0.1).2.2.2.2.1 (okS27.out o0.1).2.2.2.2.2.1 (okS27.out o0.1).2.2.2.2.2.2.1 (okS27.out o0.1).2.2.2.2.2.2.2.1 (okS27.out o0.1).2.2.2.2.2.2.2.2 o0.2.1 o0.2.2 (okS27.out o1.1).1 (okS27.out o1.1).2.1 (okS27.out o1.1).2.2.2.2.1 (okS27.out o1.1).2.2.2.2.2.1 (okS27.out o1.1).2.2.2.2.2.2.1 (okS27.out o1.1).2.2.2.2.2.2.2.1 (okS27.out o1.1).2.2.2.2.2.2.2.2 o1.2.1 o1.2.2).mono fun e W' ⟨he, bel⟩ => ?_
 subst he
 exact ⟨_, rfl, _, _, _, [], _, [], hW', trodAll_mk1 (shut_bool Try.underlying4 _), (trodAll_cons_mk (Below.trod laidOut (by kernel_rfl) (of_decide_eq_true (by kernel_rfl)) k0 bel lt0) (trodAll_cons_mk (Below.trod laidOut (by kernel_rfl) (of_decide_eq_true (by kernel_rfl)) k1 bel lt1) trodAll_mk0)), rfl, bel.frame _, fun h => by cases h⟩
theorem over : Rows.fnExactSameArrayRow.holds Try.pinned (OpenSpec.ofChange Rows.fnExactSameArraySpec) :=
 OpenClaim.holds_of_wide 6 Try.f6 rfl rfl rfl rfl rfl rfl rfl ⟨rfl, rfl, rfl, rfl, rfl⟩ rfl rfl rfl rfl rfl (by kernel_rfl) Try.func6 (by kernel_rfl)
  (of_decide_eq_true (by kernel_rfl)) (by unfold Func.isWrapper; first | (rw [if_pos (by decide +kernel)]; kernel_rfl) | (rw [if_neg (by decide +kernel)]; exact ⟨rfl, rfl⟩))
  (fun os started H enc _ => lifted os started H enc)
theorem proved : Rows.FnExactSameArraySaid := over
#print axioms proved
end Go.Proofs.Ytfblodggimjoaaa.fnExactSameArray
namespace Go.Proofs.Ytfblodggimjoaaa
/-- The row, under a short name, for the claim. -/
theorem fnExactSameArray_holds : Rows.FnExactSameArraySaid := fnExactSameArray.proved
end Go.Proofs.Ytfblodggimjoaaa
