/- The plain form of FnExactIsName: for all arguments the answer is true. It holds without a condition. -/
import Derived.Test.YtnjgocbcbjmlcaaPFnExactIsNamex2
import Derived.OpenShut
namespace Go.Proofs.Ytnjgocbcbjmlcaa.Pure
open Go Go.RowKit Go.Proofs.Ytnjgocbcbjmlcaa.PFnExactIsName Go.Proofs.YtnjgocbcbjmlcaaW.PrintWords Go.Proofs.YtnjgocbcbjmlcaaW.PrintLast Go.Proofs.YtnjgocbcbjmlcaaW.PrintMore
set_option linter.unusedVariables false
set_option linter.unusedSimpArgs false

theorem wf64 {a : Int} (h : (Lit.int .i64 a).wf = true) : -9223372036854775808 ≤ a ∧ a ≤ 9223372036854775807 := Go.bounds_i64 h
theorem wrap64_id {a : Int} (h : -9223372036854775808 ≤ a) (h' : a ≤ 9223372036854775807) : wrap64 a = a := by unfold wrap64; omega
def ltr (c : Int) : Prop := (65 ≤ c ∧ c ≤ 90) ∨ (97 ≤ c ∧ c ≤ 122)
instance (c : Int) : Decidable (ltr c) := by unfold ltr; infer_instance
def okC (i c : Int) : Prop := ltr c ∨ (i ≠ 0 ∧ ((48 ≤ c ∧ c ≤ 57) ∨ c = 95))
instance (i c : Int) : Decidable (okC i c) := by unfold okC; infer_instance

theorem letter_eq (c : Int) : spec_l01Letter.f c = some (decide (ltr c)) := by
  unfold spec_l01Letter.f
  by_cases h : ltr c
  · rw [decide_eq_true h]
    unfold ltr at h
    repeat' split
    all_goals first | rfl | (exfalso; omega) | (simp; omega)
  · rw [decide_eq_false h]
    unfold ltr at h
    repeat' split
    all_goals first | rfl | (exfalso; omega) | (simp; omega)

theorem impl_round (k : Nat) (s : ByteArray) (n i : Int) (h0 : 0 ≤ i) (h1 : i < n) (hn : n = s.size) (hs : n ≤ 1048576) :
    impl_IsName.l0 (k + 1) s n i = if okC i (bt s i) then impl_IsName.l0 k s n (i + 1) else some false := by
  rw [impl_IsName.l0, wrap64_id (by omega) (by omega), if_pos h1, if_pos h0, if_pos (by omega)]
  generalize bt s i = c
  by_cases hp : okC i c
  · rw [if_pos hp]
    unfold okC ltr at hp
    repeat' split
    all_goals first | rfl | (exfalso; omega)
  · rw [if_neg hp]
    unfold okC ltr at hp
    repeat' split
    all_goals first | rfl | (exfalso; omega)
theorem spec_round (k : Nat) (s : ByteArray) (i : Int) (h0 : 1 ≤ i) (h1 : i < s.size) (hs : s.size ≤ 1048576) :
    spec_IsName.l0 (k + 1) s i = if okC i (bt s i) then spec_IsName.l0 k s (i + 1) else some false := by
  rw [spec_IsName.l0, wrap64_id (by omega) (by omega), if_pos h1, if_pos (by omega), letter_eq]
  simp only [Option.bind_some]
  generalize bt s i = c
  by_cases hl : ltr c
  · rw [if_pos (by simp [hl]), if_pos (.inl hl)]
  · rw [if_neg (by simp [hl])]
    by_cases hp : okC i c
    · rw [if_pos hp]
      unfold okC at hp
      repeat' split
      all_goals first | rfl | (exfalso; simp only [hl, false_or] at hp; omega)
    · rw [if_neg hp]
      unfold okC at hp
      simp only [hl, false_or] at hp
      repeat' split
      all_goals first | rfl | (exfalso; omega)

theorem loops (s : ByteArray) (h1s : 1 ≤ s.size) (hs : s.size ≤ 12) (d : Nat) : ∀ (k : Nat) (i : Int), 1 ≤ i → i ≤ s.size → (s.size : Int) - i = d → d < k →
    ∃ r, spec_IsName.l0 k s i = some r ∧ impl_IsName.l0 k s (s.size : Int) i = some r := by
  induction d with
  | zero =>
    intro k i h0 h1 hd hk
    obtain ⟨k, rfl⟩ : ∃ m, k = m + 1 := ⟨k - 1, by omega⟩
    refine ⟨true, ?_, ?_⟩
    · rw [spec_IsName.l0, if_neg (by omega)]
    · rw [impl_IsName.l0, if_neg (by omega), if_pos (by omega)]
      simp; omega
  | succ d ih =>
    intro k i h0 h1 hd hk
    obtain ⟨k, rfl⟩ : ∃ m, k = m + 1 := ⟨k - 1, by omega⟩
    rw [spec_round k s i h0 (by omega) (by omega), impl_round k s _ i (by omega) (by omega) rfl (by omega)]
    by_cases hp : okC i (bt s i)
    · rw [if_pos hp, if_pos hp]; exact ih k (i + 1) (by omega) (by omega) (by omega) (by omega)
    · rw [if_neg hp, if_neg hp]; exact ⟨false, rfl, rfl⟩

theorem impl_false (s : ByteArray) (hs : s.size ≤ 1048576) (hb : ¬ (1 ≤ s.size ∧ s.size ≤ 12)) (d : Nat) : ∀ (k : Nat) (i : Int), 0 ≤ i → i ≤ s.size → (s.size : Int) - i = d → d < k →
    impl_IsName.l0 k s (s.size : Int) i = some false := by
  induction d with
  | zero =>
    intro k i h0 h1 hd hk
    obtain ⟨k, rfl⟩ : ∃ m, k = m + 1 := ⟨k - 1, by omega⟩
    rw [impl_IsName.l0, if_neg (by omega)]
    split
    · simp; omega
    · rfl
  | succ d ih =>
    intro k i h0 h1 hd hk
    obtain ⟨k, rfl⟩ : ∃ m, k = m + 1 := ⟨k - 1, by omega⟩
    rw [impl_round k s _ i (by omega) (by omega) rfl (by omega)]
    split
    · exact ih k (i + 1) (by omega) (by omega) (by omega) (by omega)
    · rfl

theorem FnExactIsName : laws_FnExactIsName.Pure := by
  intro s _
  by_cases h : (s.size : Int) > 1048576
  · exact ⟨0, by unfold laws_FnExactIsName.f; rw [if_pos h]⟩
  have key : ∃ k r, spec_IsName.f k s = some r ∧ impl_IsName.f k s = some r := by
    by_cases hb : 1 ≤ s.size ∧ s.size ≤ 12
    · refine ⟨s.size + 2, ?_⟩
      unfold spec_IsName.f impl_IsName.f
      rw [if_neg (by omega), if_neg (by omega), if_pos (by omega), letter_eq, impl_round _ s _ 0 (by omega) (by omega) rfl (by omega)]
      simp only [Option.bind_some]
      by_cases hp : ltr (bt s 0)
      · obtain ⟨r, h1, h2⟩ := loops s hb.1 hb.2 (s.size - 1) (s.size + 1) 1 (by omega) (by omega) (by omega) (by omega)
        refine ⟨r, ?_, ?_⟩
        · rw [spec_IsName.j0]; simp only [hp]; simpa using h1
        · rw [if_pos (.inl hp)]; exact h2
      · refine ⟨false, ?_, ?_⟩
        · rw [spec_IsName.j0]; simp [hp]
        · rw [if_neg (by unfold okC; simp [hp])]
    · refine ⟨s.size + 1, false, ?_, impl_false s (by omega) hb s.size (s.size + 1) 0 (by omega) (by omega) (by omega) (by omega)⟩
      unfold spec_IsName.f
      by_cases h0 : (s.size : Int) = 0
      · rw [if_pos h0, spec_IsName.j0, if_pos rfl]
      · rw [if_neg h0, if_pos (by omega), spec_IsName.j0, if_pos rfl]
  obtain ⟨k, r, h1, h2⟩ := key
  refine ⟨k, ?_⟩
  unfold laws_FnExactIsName.f
  rw [if_neg h, h1, h2]
  simp

end Go.Proofs.Ytnjgocbcbjmlcaa.Pure
