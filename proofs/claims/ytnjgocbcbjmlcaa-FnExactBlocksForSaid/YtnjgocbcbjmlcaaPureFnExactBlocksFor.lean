/- The plain form of FnExactBlocksFor: for all arguments the answer is true. It holds without a condition. -/
import Derived.Test.YtnjgocbcbjmlcaaPFnExactBlocksForx1
import Derived.OpenShut
namespace Go.Proofs.Ytnjgocbcbjmlcaa.Pure
open Go Go.RowKit Go.Proofs.Ytnjgocbcbjmlcaa.PFnExactBlocksFor Go.Proofs.YtnjgocbcbjmlcaaW.PrintWords Go.Proofs.YtnjgocbcbjmlcaaW.PrintLast Go.Proofs.YtnjgocbcbjmlcaaW.PrintMore
set_option linter.unusedVariables false
set_option linter.unusedSimpArgs false

theorem wf64 {a : Int} (h : (Lit.int .i64 a).wf = true) : -9223372036854775808 ≤ a ∧ a ≤ 9223372036854775807 := Go.bounds_i64 h
theorem wrap64_id {a : Int} (h : -9223372036854775808 ≤ a) (h' : a ≤ 9223372036854775807) : wrap64 a = a := by unfold wrap64; omega
theorem in_eq (a b c : Int) : spec_l00In.f a b c = some (decide (b ≤ a ∧ a ≤ c)) := by
  unfold spec_l00In.f
  by_cases h : a ≥ b
  · rw [if_pos h]
    by_cases h2 : a ≤ c <;> simp [h2] <;> omega
  · rw [if_neg h]; simp; omega
theorem within_eq (a b c : Int) : impl_within.f a b c = some (decide (b ≤ a ∧ a ≤ c)) := by
  unfold impl_within.f
  by_cases h : a ≥ b
  · rw [if_pos h]
    by_cases h2 : a ≤ c <;> simp [h2] <;> omega
  · rw [if_neg h]; simp; omega
theorem FnExactBlocksFor : laws_FnExactBlocksFor.Pure := by
  intro a _
  unfold laws_FnExactBlocksFor.f spec_BlocksFor.f impl_BlocksFor.f
  simp only [in_eq, within_eq, Option.bind_some]
  by_cases h : 0 ≤ a ∧ a ≤ 65536
  · simp only [h, and_self, decide_true, if_true, spec_l00Max.f, impl_blocksFor.f, mx]
    by_cases h2 : 1 > wrap64 (Int.tdiv (wrap64 ((wrap64 (a + 64)) - 1)) 64)
    · rw [if_pos h2, if_neg (by omega)]; simp
    · rw [if_neg h2]
      simp only [Option.bind_some]
      by_cases h3 : 1 < wrap64 (Int.tdiv (wrap64 ((wrap64 (a + 64)) - 1)) 64)
      · rw [if_pos h3]; simp
      · rw [if_neg h3, if_pos (by omega)]
  · simp [h]

end Go.Proofs.Ytnjgocbcbjmlcaa.Pure
