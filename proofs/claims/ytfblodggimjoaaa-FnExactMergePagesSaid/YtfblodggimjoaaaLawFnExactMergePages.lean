/- The statement FnExactMergePages holds: for every input the law returns true, out of its plain form (Pure) and the walk. -/
import Derived.Test.YtfblodggimjoaaaRows
import Derived.Test.YtfblodggimjoaaaPFnExactMergePagesx6
import Derived.Test.YtfblodggimjoaaaPureFnExactMergePages
import Derived.WalkKit
import Derived.ProofKit
import Derived.OpenShut
import Derived.ShutString
import Derived.ChangeOld
import Derived.Below
import Derived.SizedLaws
import Derived.Carry
import Derived.WideShapes
namespace Go.Proofs.Ytfblodggimjoaaa.fnExactMergePages
open Go.ChangeShapes Go.WideShapes Go.ChangeAt Go.RowKit Go.Proofs.Ytfblodggimjoaaa.Opens Go.Proofs.Ytfblodggimjoaaa.PFnExactMergePages Go.Proofs.YtfblodggimjoaaaW.PrintWords
open Go.ChangeMaps (open_string shut_string)
set_option linter.unusedVariables false
theorem own : ownKnob Try.prog.godebug = none := by kernel_rfl
theorem laidOut : laidOutB Try.prog = true := by kernel_rfl
set_option maxRecDepth 100000 in
theorem opensS78 : Opens Try.prog 78 k78 okS78 := by
 intro H enc w base spare held fuel cs x h
 obtain ⟨xs, n, -, -, hl, hn, hf⟩ := DataW.trod_struct Try.underlying78 h
 have hl' : cs.length = 2 := hl.trans (by kernel_rfl)
 have hn' : xs.length = 2 := hn
 have e0 : DataW.trod enc Try.prog w base spare held n 2 ((cs.drop 0).take (Try.prog.cellsOf 2)) = some (xs[0]'(by omega)) := (hf 0 _ rfl).trans (List.getElem?_eq_getElem (by omega))
 rw [show Try.prog.cellsOf 2 = 1 from by kernel_rfl] at e0
 obtain ⟨v0, g0, o0⟩ := (opens_int Try.underlying2) enc w base spare held n _ _ e0
 have e1 : DataW.trod enc Try.prog w base spare held n 9 ((cs.drop 1).take (Try.prog.cellsOf 9)) = some (xs[1]'(by omega)) := (hf 1 _ rfl).trans (List.getElem?_eq_getElem (by omega))
 rw [show Try.prog.cellsOf 9 = 1 from by kernel_rfl] at e1
 obtain ⟨v1, g1, o1⟩ := (opens_string Try.underlying9) enc w base spare held n _ _ e1
 have hok : okS78 ⟨v0, v1⟩ := by
  unfold okS78
  exact ⟨o0, o1⟩
 refine ⟨⟨v0, v1⟩, ?_, hok⟩
 have q1 : (cs.drop 1).take 1 = cs.drop 1 := List.take_of_length_le (by rw [List.length_drop]; omega)
 have g1' := g1
 rw [q1] at g1'
 refine ⟨(cs.drop 0).take 1, cs.drop 1, ?_, g0, g1'⟩
 · exact (List.take_append_drop 1 cs).symm
set_option maxRecDepth 100000 in
theorem lifted (os : Os) (started : os.Started) (H : Type) (enc : TypeId × Value → H) :
 ReturnsInHanded {} Try.checked os 4 .any (Rows.fnExactMergePagesSpec.pre6 enc Try.prog Try.f4 Rows.fnExactMergePagesRow.domain false) (Rows.fnExactMergePagesSpec.post enc Try.prog Try.f4 false true false false) := by
 refine returnsInHanded_of_change_sized (C := Try.checked) own started (by kernel_rfl) Try.func4
  (ChangeSpec.witness6 (enc := enc) (C := Try.checked) false ⟨#[], #[.slice none 0 0, .slice none 0 0], []⟩ 8 (by kernel_rfl) (by kernel_rfl) (by kernel_rfl) (by kernel_rfl)) ?_
 intro W base args ds gs before hval0 hW hcnd hsz0 _
 have hval : ∀ (j : Nat) t v, Try.f4.params[j]? = some t → args[j]? = some v → Value.okWide Try.prog W .any base t v := hval0
 have hW' := hW
 obtain ⟨p, q, hA0, hV, rfl, hfz, hnd⟩ := hW
 have hA : DataW.TrodAll enc Try.prog W 0 (fun _ => true) true Try.f4.params.toList args.toList ds p := hA0
 rw [Try.params4] at hA hval
 obtain ⟨v0, vs0, d0, ds0, p0, q0, hargs, rfl, rfl, h0, r0⟩ := trodAll_cons hA
 obtain ⟨v1, vs1, d1, ds1, p1, q1, rfl, rfl, rfl, h1, r1⟩ := trodAll_cons r0
 obtain ⟨rfl, rfl, rfl⟩ := trodAll_nil r1
 obtain rfl : args = #[v0, v1] := by cases args; simp_all
 obtain ⟨rfl, rfl⟩ := trodVars_none hV
 have k0 := h0
 have lt0 : ∀ x ∈ p0, x.block < W.heap.size := by obtain ⟨m, hm⟩ := k0; exact DataW.trod_lt m _ _ _ hm
 obtain ⟨fuel0, hf0⟩ := h0
 obtain ⟨a0, len0, cap0, rfl⟩ := okWide_slice Try.underlying36 (hval 0 36 v0 rfl rfl)
 obtain ⟨x0, ⟨A0, c0, he0, hc0, hr0⟩, o0⟩ := (opens_slice 78 Try.underlying36 (by kernel_rfl) opensS78) enc W 0 (fun _ => true) true fuel0 _ _ hf0
 simp only [Value.cells, List.cons.injEq, Value.slice.injEq, and_true] at he0
 obtain ⟨rfl, rfl, rfl⟩ := he0
 have k1 := h1
 have lt1 : ∀ x ∈ p1, x.block < W.heap.size := by obtain ⟨m, hm⟩ := k1; exact DataW.trod_lt m _ _ _ hm
 obtain ⟨fuel1, hf1⟩ := h1
 obtain ⟨a1, len1, cap1, rfl⟩ := okWide_slice Try.underlying36 (hval 1 36 v1 rfl rfl)
 obtain ⟨x1, ⟨A1, c1, he1, hc1, hr1⟩, o1⟩ := (opens_slice 78 Try.underlying36 (by kernel_rfl) opensS78) enc W 0 (fun _ => true) true fuel1 _ _ hf1
 simp only [Value.cells, List.cons.injEq, Value.slice.injEq, and_true] at he1
 obtain ⟨rfl, rfl, rfl⟩ := he1
 refine (PFnExactMergePages.laws_FnExactMergePages.walk Pure.FnExactMergePages _ _ x0 _ _ x1 W hr0 hc0 hr1 hc1 o0 o1).mono fun e W' ⟨he, bel⟩ => ?_
 subst he
 exact ⟨_, rfl, _, _, _, [], _, [], hW', trodAll_mk1 (shut_bool Try.underlying4 _), (trodAll_cons_mk (Below.trod laidOut (by kernel_rfl) (of_decide_eq_true (by kernel_rfl)) k0 bel lt0) (trodAll_cons_mk (Below.trod laidOut (by kernel_rfl) (of_decide_eq_true (by kernel_rfl)) k1 bel lt1) trodAll_mk0)), rfl, bel.frame _, fun h => by cases h⟩
theorem over : Rows.fnExactMergePagesRow.holds Try.pinned (OpenSpec.ofChange Rows.fnExactMergePagesSpec) :=
 OpenClaim.holds_of_wide 4 Try.f4 rfl rfl rfl rfl rfl rfl rfl ⟨rfl, rfl, rfl, rfl, rfl⟩ rfl rfl rfl rfl rfl (by kernel_rfl) Try.func4 (by kernel_rfl)
  (of_decide_eq_true (by kernel_rfl)) (by unfold Func.isWrapper; first | (rw [if_pos (by decide +kernel)]; kernel_rfl) | (rw [if_neg (by decide +kernel)]; exact ⟨rfl, rfl⟩))
  (fun os started H enc _ => lifted os started H enc)
theorem proved : Rows.FnExactMergePagesSaid := over
#print axioms proved
end Go.Proofs.Ytfblodggimjoaaa.fnExactMergePages
namespace Go.Proofs.Ytfblodggimjoaaa
/-- The row, under a short name, for the claim. -/
theorem fnExactMergePages_holds : Rows.FnExactMergePagesSaid := fnExactMergePages.proved
end Go.Proofs.Ytfblodggimjoaaa
