/- The plain form of FnExactHexText: for all arguments the answer is true. It holds without a condition. -/
import Derived.Test.YtnjgocbcbjmlcaaPFnExactHexTextx1
import Derived.OpenShut
namespace Go.Proofs.Ytnjgocbcbjmlcaa.Pure
open Go Go.RowKit Go.Proofs.Ytnjgocbcbjmlcaa.PFnExactHexText Go.Proofs.YtnjgocbcbjmlcaaW.PrintWords Go.Proofs.YtnjgocbcbjmlcaaW.PrintLast Go.Proofs.YtnjgocbcbjmlcaaW.PrintMore
set_option linter.unusedVariables false
set_option linter.unusedSimpArgs false

theorem wf64 {a : Int} (h : (Lit.int .i64 a).wf = true) : -9223372036854775808 ≤ a ∧ a ≤ 9223372036854775807 := Go.bounds_i64 h
theorem wrap64_id {a : Int} (h : -9223372036854775808 ≤ a) (h' : a ≤ 9223372036854775807) : wrap64 a = a := by unfold wrap64; omega
theorem nib (c : Int) (h0 : 0 ≤ c) (h1 : c ≤ 255) : IntKind.u8.wrap (Int.tdiv c 16) = c / 16 ∧ Int.tmod c 16 = c % 16 ∧ Go.bits .and .u8 c 15 = c % 16 :=
  ⟨by rw [Int.tdiv_eq_ediv_of_nonneg h0, IntKind.wrap_u8]; omega, Int.tmod_eq_emod_of_nonneg h0, u8_and15 _ h0 (by omega)⟩

theorem hex_loops (s : ByteArray) (hs : s.size ≤ 1048576) (d : Nat) : ∀ (k : Nat) (i : Int) (out : List Int), 0 ≤ i → i ≤ s.size → (s.size : Int) - i = d → d < k → (out.length : Int) ≤ 2 * i →
    ∃ r, spec_l01Hex.l0 k s ⟨#[48, 49, 50, 51, 52, 53, 54, 55, 56, 57, 97, 98, 99, 100, 101, 102]⟩ out i = some r ∧ impl_HexText.l0 k s out (s.size : Int) i = some r := by
  induction d with
  | zero =>
    intro k i out h0 h1 hd hk hl
    obtain ⟨k, rfl⟩ : ∃ m, k = m + 1 := ⟨k - 1, by omega⟩
    refine ⟨strOfNums out, ?_, ?_⟩
    · rw [spec_l01Hex.l0, if_neg (by omega)]
    · rw [impl_HexText.l0, if_neg (by omega)]
  | succ d ih =>
    intro k i out h0 h1 hd hk hl
    obtain ⟨k, rfl⟩ : ∃ m, k = m + 1 := ⟨k - 1, by omega⟩
    obtain ⟨c0, c1⟩ := bt_range s i
    obtain ⟨n1, n2, n3⟩ := nib (bt s i) c0 c1
    have e16 : (((⟨#[48, 49, 50, 51, 52, 53, 54, 55, 56, 57, 97, 98, 99, 100, 101, 102]⟩ : ByteArray).size : Nat) : Int) = 16 := rfl
    obtain ⟨r, hr1, hr2⟩ := ih k (i + 1) (out ++ [bt ⟨#[48, 49, 50, 51, 52, 53, 54, 55, 56, 57, 97, 98, 99, 100, 101, 102]⟩ (bt s i / 16), bt ⟨#[48, 49, 50, 51, 52, 53, 54, 55, 56, 57, 97, 98, 99, 100, 101, 102]⟩ (bt s i % 16)]) (by omega) (by omega) (by omega) (by omega) (by simp; omega)
    refine ⟨r, ?_, ?_⟩
    · rw [spec_l01Hex.l0, if_pos (by omega), if_pos h0, if_pos (by omega), if_pos (by omega), n3, if_pos (by omega), if_pos (by omega)]
      simp only [Option.bind_some]
      rw [if_pos (by simp; omega), wrap64_id (by omega) (by omega)]
      exact hr1
    · rw [impl_HexText.l0, if_pos (by omega), if_pos h0, if_pos (by omega), n1, n2, if_pos (by omega), if_pos (by omega), if_pos (by omega), if_pos (by omega)]
      simp only [Option.bind_some]
      rw [if_pos (by simp; omega), wrap64_id (by omega) (by omega)]
      exact hr2

theorem FnExactHexText : laws_FnExactHexText.Pure := by
  intro s hs
  by_cases h : (s.size : Int) > 1048576
  · exact ⟨0, by unfold laws_FnExactHexText.f; rw [if_pos h]⟩
  · obtain ⟨r, h1, h2⟩ := hex_loops s (by omega) s.size (s.size + 1) 0 [] (by omega) (by omega) (by omega) (by omega) (by simp)
    refine ⟨s.size + 1, ?_⟩
    unfold laws_FnExactHexText.f spec_HexText.f spec_l01Hex.f impl_HexText.f
    rw [if_neg h, h1, h2]
    simp

end Go.Proofs.Ytnjgocbcbjmlcaa.Pure
