/- The plain form of FnExactReadHex: for all arguments the answer is true. It holds without a condition. -/
import Derived.Test.YtngjbdijimapnabPFnExactReadHexx1
import Derived.OpenShut
namespace Go.Proofs.Ytngjbdijimapnab.Pure
open Go Go.RowKit Go.Proofs.Ytngjbdijimapnab.PFnExactReadHex Go.Proofs.YtngjbdijimapnabW.PrintWords Go.Proofs.YtngjbdijimapnabW.PrintLast Go.Proofs.YtngjbdijimapnabW.PrintMore
set_option linter.unusedVariables false
set_option linter.unusedSimpArgs false

theorem wf64 {a : Int} (h : (Lit.int .i64 a).wf = true) : -9223372036854775808 ≤ a ∧ a ≤ 9223372036854775807 := Go.bounds_i64 h
theorem wrap64_id {a : Int} (h : -9223372036854775808 ≤ a) (h' : a ≤ 9223372036854775807) : wrap64 a = a := by unfold wrap64; omega
def dvI (c : Int) : Int := if 48 ≤ c ∧ c ≤ 57 then c - 48 else if 97 ≤ c ∧ c ≤ 102 then c - 87 else -1
theorem dvI_le (c : Int) : -1 ≤ dvI c ∧ dvI c ≤ 15 := by
  unfold dvI
  split
  · omega
  · split <;> omega
set_option maxRecDepth 1000000 in
set_option maxHeartbeats 4000000 in
theorem idx_all : ∀ n : Nat, n < 256 → Lib.indexByte (⟨#[48, 49, 50, 51, 52, 53, 54, 55, 56, 57, 97, 98, 99, 100, 101, 102]⟩ : ByteArray).data.toList ((n : Int)).toNat.toUInt8 = dvI (n : Int) := by
  decide
theorem idx_eq (c : Int) (h0 : 0 ≤ c) (h1 : c ≤ 255) : strings_IndexByte.f (⟨#[48, 49, 50, 51, 52, 53, 54, 55, 56, 57, 97, 98, 99, 100, 101, 102]⟩ : ByteArray) c = some (dvI c) := by
  obtain ⟨n, rfl⟩ : ∃ n : Nat, c = (n : Int) := ⟨c.toNat, by omega⟩
  unfold strings_IndexByte.f
  rw [idx_all n (by omega)]
theorem digit_eq (k : Nat) (c : Int) (h0 : 0 ≤ c) (h1 : c ≤ 255) : spec_l01Digit.f (k + 1) c = some ((if dvI c < 0 then 0 else dvI c), decide (0 ≤ dvI c)) := by
  unfold spec_l01Digit.f dvI
  by_cases a : c ≥ 48
  · rw [if_pos a, spec_l01Digit.j0]
    by_cases b : c ≤ 57
    · have e : (48 ≤ c ∧ c ≤ 57) := ⟨a, b⟩
      have e2 : ¬ (c - 48 < 0) := by omega
      have e3 : (0 : Int) ≤ c - 48 := by omega
      have e4 : (c - 48) % 256 = c - 48 := by omega
      simp [b, e, e2, e3, e4]
    · have e : ¬ (48 ≤ c ∧ c ≤ 57) := by omega
      by_cases d : c ≥ 97
      · by_cases f : c ≤ 102
        · have g : (97 ≤ c ∧ c ≤ 102) := ⟨d, f⟩
          have e2 : ¬ (c - 87 < 0) := by omega
          have e3 : (0 : Int) ≤ c - 87 := by omega
          have e4 : ((c - 97) % 256 + 10) % 256 = c - 87 := by omega
          rw [decide_eq_false b, if_neg (by simp), if_pos d, if_pos f, if_neg e, if_pos g, if_neg e2, e4, decide_eq_true e3]
        · have g : ¬ (97 ≤ c ∧ c ≤ 102) := by omega
          rw [decide_eq_false b, if_neg (by simp), if_pos d, if_neg f, if_neg e, if_neg g]
          rfl
      · have g : ¬ (97 ≤ c ∧ c ≤ 102) := by omega
        rw [decide_eq_false b, if_neg (by simp), if_neg d, if_neg e, if_neg g]
        rfl
  · have e : ¬ (48 ≤ c ∧ c ≤ 57) := by omega
    have d : ¬ c ≥ 97 := by omega
    have g : ¬ (97 ≤ c ∧ c ≤ 102) := by omega
    rw [if_neg a, spec_l01Digit.j0, if_neg (by simp), if_neg d, if_neg e, if_neg g]
    rfl
theorem read_loops (s : ByteArray) (hs : s.size ≤ 1048576) (d : Nat) : ∀ (k : Nat) (i : Int) (out : List Int), 0 ≤ i → (s.size : Int) - i = 2 * d → d + 1 < k → (out.length : Int) ≤ i →
    ∃ r, spec_ReadHex.l0 k s out i = some r ∧ impl_ReadHex.l0 k s out i = some r := by
  induction d with
  | zero =>
    intro k i out h0 hd hk hl
    obtain ⟨k, rfl⟩ : ∃ m, k = m + 1 := ⟨k - 1, by omega⟩
    refine ⟨(strOfNums out, true), ?_, ?_⟩
    · rw [spec_ReadHex.l0, wrap64_id (a := i + 1) (by omega) (by omega), if_neg (by omega)]
    · rw [impl_ReadHex.l0, if_neg (by omega)]
  | succ d ih =>
    intro k i out h0 hd hk hl
    obtain ⟨k, rfl⟩ : ∃ m, k = m + 2 := ⟨k - 2, by omega⟩
    obtain ⟨c0, c1⟩ := bt_range s i
    obtain ⟨c2, c3⟩ := bt_range s (i + 1)
    obtain ⟨a0, a1⟩ := dvI_le (bt s i)
    obtain ⟨b0, b1⟩ := dvI_le (bt s (i + 1))
    have hw : wrap64 (i + 1) = i + 1 := wrap64_id (by omega) (by omega)
    have hw2 : wrap64 (i + 2) = i + 2 := wrap64_id (by omega) (by omega)
    have g1 : i + 1 < (s.size : Int) := by omega
    have g2 : i < (s.size : Int) := by omega
    have g3 : 0 ≤ i + 1 := by omega
    have g4 : out.length < 140737488355328 := by omega
    rw [spec_ReadHex.l0, impl_ReadHex.l0]
    simp only [hw, hw2, if_pos g1, if_pos g2, if_pos g3, if_pos g4, if_pos h0, digit_eq k _ c0 c1, digit_eq k _ c2 c3, idx_eq _ c0 c1, idx_eq _ c2 c3, Option.bind_some]
    generalize dvI (bt s i) = a at *
    generalize dvI (bt s (i + 1)) = b at *
    by_cases ha : a < 0
    · have ha' : ¬ (0 : Int) ≤ a := by omega
      refine ⟨((⟨#[]⟩ : ByteArray), false), ?_, ?_⟩
      · rw [decide_eq_false ha', if_neg (by simp)]
      · rw [if_pos ha]
    · have ha' : (0 : Int) ≤ a := by omega
      by_cases hb : b < 0
      · have hb' : ¬ (0 : Int) ≤ b := by omega
        refine ⟨((⟨#[]⟩ : ByteArray), false), ?_, ?_⟩
        · rw [decide_eq_true ha', if_pos rfl, decide_eq_false hb', if_neg (by simp)]
        · rw [if_neg ha, if_pos hb]
      · have hb' : (0 : Int) ≤ b := by omega
        obtain ⟨r, h1, h2⟩ := ih (k + 1) (i + 2) (out ++ [16 * a + b]) (by omega) (by omega) (by omega) (by rw [List.length_append]; simp; omega)
        have e1 : (a * 16 + b) % 256 = 16 * a + b := by omega
        have e2 : wrap64 (wrap64 (16 * a) + b) % 256 = 16 * a + b := by
          rw [wrap64_id (a := 16 * a) (by omega) (by omega), wrap64_id (by omega) (by omega)]; omega
        refine ⟨r, ?_, ?_⟩
        · rw [decide_eq_true ha', if_pos rfl, decide_eq_true hb', if_pos rfl, if_neg ha, if_neg hb, e1]; exact h1
        · rw [if_neg ha, if_neg hb, e2]; exact h2
theorem FnExactReadHex : laws_FnExactReadHex.Pure := by
  intro s hs
  by_cases h : (s.size : Int) > 1048576
  · exact ⟨0, by unfold laws_FnExactReadHex.f; rw [if_pos h]⟩
  · refine ⟨s.size + 10, ?_⟩
    have key : ∃ r, spec_ReadHex.f (s.size + 10) s = some r ∧ impl_ReadHex.f (s.size + 10) s = some r := by
      unfold spec_ReadHex.f impl_ReadHex.f
      by_cases he : (s.size : Int) % 2 = 0
      · rw [if_pos he, if_neg (by omega)]
        exact read_loops s (by omega) (s.size / 2) (s.size + 10) 0 [] (by omega) (by omega) (by omega) (by simp)
      · rw [if_neg he, if_pos (by omega)]
        exact ⟨_, rfl, rfl⟩
    obtain ⟨r, h1, h2⟩ := key
    unfold laws_FnExactReadHex.f
    rw [if_neg h, h1, h2]
    simp

end Go.Proofs.Ytngjbdijimapnab.Pure
