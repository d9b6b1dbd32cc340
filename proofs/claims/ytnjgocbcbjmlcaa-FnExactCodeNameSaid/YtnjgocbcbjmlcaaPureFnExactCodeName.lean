/- The plain form of FnExactCodeName: for all arguments the answer is true. It holds without a condition. -/
import Derived.Test.YtnjgocbcbjmlcaaPFnExactCodeNamex1
import Derived.OpenShut
namespace Go.Proofs.Ytnjgocbcbjmlcaa.Pure
open Go Go.RowKit Go.Proofs.Ytnjgocbcbjmlcaa.PFnExactCodeName Go.Proofs.YtnjgocbcbjmlcaaW.PrintWords Go.Proofs.YtnjgocbcbjmlcaaW.PrintLast Go.Proofs.YtnjgocbcbjmlcaaW.PrintMore
set_option linter.unusedVariables false
set_option linter.unusedSimpArgs false

theorem wf64 {a : Int} (h : (Lit.int .i64 a).wf = true) : -9223372036854775808 ≤ a ∧ a ≤ 9223372036854775807 := Go.bounds_i64 h
theorem wrap64_id {a : Int} (h : -9223372036854775808 ≤ a) (h' : a ≤ 9223372036854775807) : wrap64 a = a := by unfold wrap64; omega
theorem in_eq (a b c : Int) : spec_l00In.f a b c = some (decide (b ≤ a ∧ a ≤ c)) := by
  unfold spec_l00In.f
  by_cases h : a ≥ b
  · rw [if_pos h]
    by_cases h2 : a ≤ c <;> simp [h2] <;> omega
  · rw [if_neg h]; simp; omega
theorem within_eq (a b c : Int) : impl_within.f a b c = some (decide (b ≤ a ∧ a ≤ c)) := by
  unfold impl_within.f
  by_cases h : a ≥ b
  · rw [if_pos h]
    by_cases h2 : a ≤ c <;> simp [h2] <;> omega
  · rw [if_neg h]; simp; omega
theorem FnExactCodeName : laws_FnExactCodeName.Pure := by
  intro a _
  have e : impl_CodeName.f a = spec_CodeName.f a := by
    unfold impl_CodeName.f spec_CodeName.f impl_isIndex.f
    simp only [in_eq, within_eq, Option.bind_some]
  obtain ⟨v, hv⟩ : ∃ v, spec_CodeName.f a = some v := by
    unfold spec_CodeName.f
    simp only [in_eq, Option.bind_some]
    by_cases h : 0 ≤ a ∧ a ≤ 13
    · rw [if_pos (by simp [wrap64]; omega), if_pos h.1, if_pos (by simp; omega)]
      exact ⟨_, rfl⟩
    · rw [if_neg (by simp [wrap64]; omega)]
      exact ⟨_, rfl⟩
  unfold laws_FnExactCodeName.f
  rw [e, hv]
  simp

end Go.Proofs.Ytnjgocbcbjmlcaa.Pure
