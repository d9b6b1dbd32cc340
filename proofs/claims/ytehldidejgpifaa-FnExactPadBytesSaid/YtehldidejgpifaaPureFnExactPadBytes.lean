/- The plain form of FnExactPadBytes: for all arguments the answer is true. It holds without a condition. -/
import Derived.Test.YtehldidejgpifaaPFnExactPadBytesx1
import Derived.OpenShut
namespace Go.Proofs.Ytehldidejgpifaa.Pure
open Go Go.RowKit Go.Proofs.Ytehldidejgpifaa.PFnExactPadBytes Go.Proofs.YtehldidejgpifaaW.PrintWords Go.Proofs.YtehldidejgpifaaW.PrintLast Go.Proofs.YtehldidejgpifaaW.PrintMore
set_option linter.unusedVariables false
set_option linter.unusedSimpArgs false

theorem wf64 {a : Int} (h : (Lit.int .i64 a).wf = true) : -9223372036854775808 ≤ a ∧ a ≤ 9223372036854775807 := Go.bounds_i64 h
theorem wrap64_id {a : Int} (h : -9223372036854775808 ≤ a) (h' : a ≤ 9223372036854775807) : wrap64 a = a := by unfold wrap64; omega
theorem rep_zero (d : Nat) : Lib.repeatL [0] d = List.replicate d (0 : UInt8) := by
  have h := Lib.repeatL_replicate (0 : UInt8) 1 d
  simpa using h

theorem zeros_eq (d : Nat) (hd : d ≤ 65536) : impl_zeros.f (d : Int) = some ⟨(List.replicate d (0 : UInt8)).toArray⟩ := by
  unfold impl_zeros.f strings_Repeat.f
  have e : ((⟨#[0]⟩ : ByteArray).size : Int) = 1 := rfl
  rw [e, if_pos (by omega)]
  simp only [Option.bind_some]
  rw [Int.toNat_natCast, rep_zero]

theorem strOf_zeros (d : Nat) : strOfNums (List.replicate d 0) = ⟨(List.replicate d (0 : UInt8)).toArray⟩ := by
  unfold strOfNums
  rw [List.map_replicate]
  rfl

theorem both (s : ByteArray) (n : Int) (hs : (s.size : Int) ≤ 1048576) : ∃ v, spec_PadBytes.f s n = some v ∧ impl_PadBytes.f s n = some v := by
  unfold spec_PadBytes.f impl_PadBytes.f
  by_cases h1 : (s.size : Int) > n
  · exact ⟨_, by rw [if_pos h1], by rw [if_pos h1]⟩
  rw [if_neg h1, if_neg h1]
  by_cases h2 : n > 65536
  · exact ⟨_, by rw [if_pos h2], by rw [if_pos h2]⟩
  rw [if_neg h2, if_neg h2]
  obtain ⟨d, hd⟩ : ∃ d : Nat, n - (s.size : Int) = (d : Int) := ⟨(n - (s.size : Int)).toNat, by omega⟩
  rw [hd, wrap64_id (by omega) (by omega), zeros_eq d (by omega)]
  have hz : (⟨(List.replicate d (0 : UInt8)).toArray⟩ : ByteArray).size = d := by simp [ByteArray.size]
  simp only [Option.bind_some]
  rw [if_pos (by rw [hz]; omega)]
  refine ⟨_, ?_, rfl⟩
  unfold spec_l01Pad.f
  by_cases h3 : (s.size : Int) ≥ n
  · rw [if_pos h3]
    have : d = 0 := by omega
    subst this
    simp only [Option.bind_some]
    congr 2
    apply ByteArray.ext
    simp
  · rw [if_neg h3, hd, wrap64_id (by omega) (by omega), if_pos (by omega), if_pos (by omega), Int.toNat_natCast]
    simp only [Option.bind_some]
    rw [strOf_zeros, if_pos (by rw [hz]; omega)]
    rfl

theorem FnExactPadBytes : laws_FnExactPadBytes.Pure := by
  intro s n hs hn
  unfold laws_FnExactPadBytes.f
  by_cases h : (s.size : Int) > 1048576
  · rw [if_pos h]
  · rw [if_neg h]
    obtain ⟨v, h1, h2⟩ := both s n (by omega)
    rw [h1, h2]
    simp

end Go.Proofs.Ytehldidejgpifaa.Pure
