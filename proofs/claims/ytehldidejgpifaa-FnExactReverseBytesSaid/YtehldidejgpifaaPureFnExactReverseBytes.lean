/- The plain form of FnExactReverseBytes: for all arguments the answer is true. It holds without a condition. -/
import Derived.Test.YtehldidejgpifaaPFnExactReverseBytesx1
import Derived.OpenShut
namespace Go.Proofs.Ytehldidejgpifaa.Pure
open Go Go.RowKit Go.Proofs.Ytehldidejgpifaa.PFnExactReverseBytes Go.Proofs.YtehldidejgpifaaW.PrintWords Go.Proofs.YtehldidejgpifaaW.PrintLast Go.Proofs.YtehldidejgpifaaW.PrintMore
set_option linter.unusedVariables false
set_option linter.unusedSimpArgs false

theorem wf64 {a : Int} (h : (Lit.int .i64 a).wf = true) : -9223372036854775808 ≤ a ∧ a ≤ 9223372036854775807 := Go.bounds_i64 h
theorem wrap64_id {a : Int} (h : -9223372036854775808 ≤ a) (h' : a ≤ 9223372036854775807) : wrap64 a = a := by unfold wrap64; omega
theorem rev_loop (s : ByteArray) (hs : s.size ≤ 1048576) : ∀ (d k : Nat) (out : List Int), d < k → out.length + d = s.size →
    spec_ReverseBytes.l0 k s out ((d : Int) - 1) = some (strOfNums (out ++ ((s.data.toList.take d).reverse.map fun b => (b.toNat : Int)))) := by
  intro d
  induction d with
  | zero =>
    intro k out hk hl
    obtain ⟨k, rfl⟩ : ∃ m, k = m + 1 := ⟨k - 1, by omega⟩
    rw [spec_ReverseBytes.l0, if_neg (by omega)]
    simp
  | succ d ih =>
    intro k out hk hl
    obtain ⟨k, rfl⟩ : ∃ m, k = m + 1 := ⟨k - 1, by omega⟩
    have e : ((d + 1 : Nat) : Int) - 1 = (d : Int) := by omega
    have hd : d < s.data.toList.length := by rw [show s.data.toList.length = s.size from rfl]; omega
    have hb : bt s (d : Int) = (s.data.toList[d].toNat : Int) := by
      have h := bt_at s (d : Int) (by simpa using (show d < s.size by omega))
      rw [← h]
      rfl
    rw [spec_ReverseBytes.l0, e, if_pos (by omega), if_pos (by omega), if_pos (by omega), if_pos (by omega), wrap64_id (by omega) (by omega), ih k (out ++ [bt s (d : Int)]) (by omega) (by simp; omega), hb, List.take_succ_eq_append_getElem hd]
    simp

theorem nums_back (l : List UInt8) : strOfNums (l.map fun b => (b.toNat : Int)) = ⟨l.toArray⟩ := by
  unfold strOfNums
  rw [List.map_map]
  congr 2
  rw [show ((fun n : Int => UInt8.ofNat n.toNat) ∘ fun b : UInt8 => (b.toNat : Int)) = id from by funext b; simp]
  simp

theorem FnExactReverseBytes : laws_FnExactReverseBytes.Pure := by
  intro s hs
  by_cases h : (s.size : Int) > 1048576
  · exact ⟨0, by unfold laws_FnExactReverseBytes.f; rw [if_pos h]⟩
  · refine ⟨s.size + 1, ?_⟩
    unfold laws_FnExactReverseBytes.f spec_ReverseBytes.f impl_ReverseBytes.f
    rw [if_neg h, wrap64_id (by omega) (by omega), rev_loop s (by omega) s.size (s.size + 1) [] (by omega) (by simp), if_pos (by omega)]
    simp only [Option.bind_some, List.nil_append]
    rw [show s.data.toList.take s.size = s.data.toList from List.take_of_length_le (Nat.le_refl _), nums_back]
    simp

end Go.Proofs.Ytehldidejgpifaa.Pure
