/- The plain form of FnExactRecordBlocks: for all arguments the answer is true. It holds without a condition. -/
import Derived.Test.YtnjgocbcbjmlcaaPFnExactRecordBlocksx1
import Derived.OpenShut
namespace Go.Proofs.Ytnjgocbcbjmlcaa.Pure
open Go Go.RowKit Go.Proofs.Ytnjgocbcbjmlcaa.PFnExactRecordBlocks Go.Proofs.YtnjgocbcbjmlcaaW.PrintWords Go.Proofs.YtnjgocbcbjmlcaaW.PrintLast Go.Proofs.YtnjgocbcbjmlcaaW.PrintMore
set_option linter.unusedVariables false
set_option linter.unusedSimpArgs false

theorem wf64 {a : Int} (h : (Lit.int .i64 a).wf = true) : -9223372036854775808 ≤ a ∧ a ≤ 9223372036854775807 := Go.bounds_i64 h
theorem wrap64_id {a : Int} (h : -9223372036854775808 ≤ a) (h' : a ≤ 9223372036854775807) : wrap64 a = a := by unfold wrap64; omega
theorem in_eq (a b c : Int) : spec_l00In.f a b c = some (decide (b ≤ a ∧ a ≤ c)) := by
  unfold spec_l00In.f
  by_cases h : a ≥ b
  · rw [if_pos h]
    by_cases h2 : a ≤ c <;> simp [h2] <;> omega
  · rw [if_neg h]; simp; omega
theorem within_eq (a b c : Int) : impl_within.f a b c = some (decide (b ≤ a ∧ a ≤ c)) := by
  unfold impl_within.f
  by_cases h : a ≥ b
  · rw [if_pos h]
    by_cases h2 : a ≤ c <;> simp [h2] <;> omega
  · rw [if_neg h]; simp; omega
theorem FnExactRecordBlocks : laws_FnExactRecordBlocks.Pure := by
  intro a _
  unfold laws_FnExactRecordBlocks.f spec_RecordBlocks.f impl_RecordBlocks.f
  simp only [in_eq, within_eq, Option.bind_some]
  by_cases h : 1 ≤ a ∧ a ≤ 60
  · simp [h, spec_l11Blocks.f, spec_l11Table.f, impl_tableBlocks.f]
  · simp [h]

end Go.Proofs.Ytnjgocbcbjmlcaa.Pure
