/- The plain form of FnExactDataFirst: for all arguments the answer is true. It holds without a condition. -/
import Derived.Test.YtnjgocbcbjmlcaaPFnExactDataFirstx1
import Derived.OpenShut
namespace Go.Proofs.Ytnjgocbcbjmlcaa.Pure
open Go Go.RowKit Go.Proofs.Ytnjgocbcbjmlcaa.PFnExactDataFirst Go.Proofs.YtnjgocbcbjmlcaaW.PrintWords Go.Proofs.YtnjgocbcbjmlcaaW.PrintLast Go.Proofs.YtnjgocbcbjmlcaaW.PrintMore
set_option linter.unusedVariables false
set_option linter.unusedSimpArgs false

theorem wf64 {a : Int} (h : (Lit.int .i64 a).wf = true) : -9223372036854775808 ≤ a ∧ a ≤ 9223372036854775807 := Go.bounds_i64 h
theorem wrap64_id {a : Int} (h : -9223372036854775808 ≤ a) (h' : a ≤ 9223372036854775807) : wrap64 a = a := by unfold wrap64; omega
theorem in_eq (a b c : Int) : spec_l00In.f a b c = some (decide (b ≤ a ∧ a ≤ c)) := by
  unfold spec_l00In.f
  by_cases h : a ≥ b
  · rw [if_pos h]
    by_cases h2 : a ≤ c <;> simp [h2] <;> omega
  · rw [if_neg h]; simp; omega
theorem within_eq (a b c : Int) : impl_within.f a b c = some (decide (b ≤ a ∧ a ≤ c)) := by
  unfold impl_within.f
  by_cases h : a ≥ b
  · rw [if_pos h]
    by_cases h2 : a ≤ c <;> simp [h2] <;> omega
  · rw [if_neg h]; simp; omega
theorem superEq (a b c d : Int) (ha : (Lit.int .i64 a).wf = true) : impl_ValidSuper.f a b c d = spec_ValidSuper.f a b c d := by
  have ha := wf64 ha
  unfold impl_ValidSuper.f spec_ValidSuper.f
  simp only [in_eq, within_eq, Option.bind_some, decide_eq_true_eq, mn]
  by_cases h1 : 16 ≤ a ∧ a ≤ 256
  · rw [if_pos h1, if_pos h1, wrap64_id (by omega) (by omega)]
    by_cases h2 : 8 ≤ b ∧ b ≤ 64
    · rw [if_pos h2]
      by_cases h3 : b ≤ a - 4
      · rw [if_pos h3, if_pos (by split <;> omega)]
      · rw [if_neg h3, if_neg (by split <;> omega)]
    · rw [if_neg h2, if_neg (by split <;> omega)]
  · rw [if_neg h1, if_neg h1]
theorem super_some (a b c d : Int) : ∃ v, spec_ValidSuper.f a b c d = some v := by
  unfold spec_ValidSuper.f
  simp only [in_eq, Option.bind_some, decide_eq_true_eq]
  repeat' split
  all_goals exact ⟨_, rfl⟩
theorem FnExactDataFirst : laws_FnExactDataFirst.Pure := by
  intro a b c d ha hb hc hd
  obtain ⟨v, hv⟩ := super_some a b c d
  unfold laws_FnExactDataFirst.f laws_toSuper.f impl_DataFirst.f spec_DataFirst.f spec_l10Area.f
  simp only [Option.bind_some, superEq a b c d ha, hv]
  cases v <;> simp

end Go.Proofs.Ytnjgocbcbjmlcaa.Pure
