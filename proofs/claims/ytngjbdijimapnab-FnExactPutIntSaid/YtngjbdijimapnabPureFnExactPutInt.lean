/- The plain form of FnExactPutInt: for all arguments the answer is true. It holds without a condition. -/
import Derived.Test.YtngjbdijimapnabPFnExactPutIntx1
import Derived.OpenShut
namespace Go.Proofs.Ytngjbdijimapnab.Pure
open Go Go.RowKit Go.Proofs.Ytngjbdijimapnab.PFnExactPutInt Go.Proofs.YtngjbdijimapnabW.PrintWords Go.Proofs.YtngjbdijimapnabW.PrintLast Go.Proofs.YtngjbdijimapnabW.PrintMore
set_option linter.unusedVariables false
set_option linter.unusedSimpArgs false

theorem wf64 {a : Int} (h : (Lit.int .i64 a).wf = true) : -9223372036854775808 ≤ a ∧ a ≤ 9223372036854775807 := Go.bounds_i64 h
theorem wrap64_id {a : Int} (h : -9223372036854775808 ≤ a) (h' : a ≤ 9223372036854775807) : wrap64 a = a := by unfold wrap64; omega
theorem count_loop {σ ρ : Type} (L : Nat → σ → Int → Option ρ) (n m : Nat) (I : Nat → σ → Prop) (R : ρ → Prop)
    (hstop : ∀ k s, m ≤ k → I n s → ∃ r, L (k + 1) s (n : Int) = some r ∧ R r)
    (hstep : ∀ k s (i : Nat), m ≤ k → i < n → I i s → (∃ s', I (i + 1) s' ∧ L (k + 1) s (i : Int) = L k s' ((i + 1 : Nat) : Int)) ∨ ∃ r, L (k + 1) s (i : Int) = some r ∧ R r)
    (k : Nat) (s : σ) (i : Nat) (hi : i ≤ n) (hk : n - i + m < k) (h : I i s) : ∃ r, L k s (i : Int) = some r ∧ R r := by
  obtain ⟨d, hd⟩ : ∃ d, d = n - i := ⟨_, rfl⟩
  induction d generalizing k s i with
  | zero =>
    obtain ⟨k, rfl⟩ : ∃ z, k = z + 1 := ⟨k - 1, by omega⟩
    obtain rfl : i = n := by omega
    exact hstop k s (by omega) h
  | succ d ih =>
    obtain ⟨k, rfl⟩ : ∃ z, k = z + 1 := ⟨k - 1, by omega⟩
    rcases hstep k s i (by omega) (by omega) h with ⟨s', h', e⟩ | h'
    · rw [e]; exact ih k s' (i + 1) (by omega) (by omega) h' (by omega)
    · exact h'
theorem w0 : wrap64 0 = 0 := by unfold wrap64; omega
theorem w1 : wrap64 1 = 1 := by unfold wrap64; omega
theorem w2 : wrap64 2 = 2 := by unfold wrap64; omega
theorem w3 : wrap64 3 = 3 := by unfold wrap64; omega
theorem rd_lt (l : List Int) (i : Nat) (h : i < l.length) : rd l (i : Int) = l[i] := by
  simp [rd, List.getD_eq_getElem?_getD, List.getElem?_eq_getElem h]
theorem rds_lt (l : List ByteArray) (i : Nat) (h : i < l.length) : rdOf ByteArray.empty l (i : Int) = l[i] := by
  simp [rdOf, List.getD_eq_getElem?_getD, List.getElem?_eq_getElem h]
theorem wrap_up (i : Nat) (h : i < 1099511627776) : wrap64 ((i : Int) + 1) = ((i + 1 : Nat) : Int) := by unfold wrap64; omega
theorem set_next {α : Type} (l out : List α) (i : Nat) (h : i < l.length) (hl : out.length = l.length) (hp : out.take i = l.take i) : (out.set i l[i]).take (i + 1) = l.take (i + 1) := by
  apply List.ext_getElem?
  intro j
  by_cases hj : j < i + 1
  · rw [List.getElem?_take_of_lt hj, List.getElem?_take_of_lt hj]
    by_cases hji : j = i
    · subst hji; rw [List.getElem?_set_self (by omega), List.getElem?_eq_getElem h]
    · rw [List.getElem?_set_ne (by omega)]
      have := congrArg (fun z => z[j]?) hp
      simpa [List.getElem?_take_of_lt (show j < i by omega)] using this
  · rw [List.getElem?_eq_none (by simp; omega), List.getElem?_eq_none (by simp; omega)]
theorem take_all {α : Type} (l out : List α) (hl : out.length = l.length) (hp : out.take l.length = l.take l.length) : out = l := by
  rwa [List.take_of_length_le (by omega), List.take_length] at hp
theorem in_eq (a b c : Int) : spec_l00In.f a b c = some (decide (b ≤ a ∧ a ≤ c)) := by
  unfold spec_l00In.f
  by_cases h : a ≥ b
  · rw [if_pos h]
    by_cases h2 : a ≤ c <;> simp [h2] <;> omega
  · rw [if_neg h]; simp; omega
theorem within_eq (a b c : Int) : impl_within.f a b c = some (decide (b ≤ a ∧ a ≤ c)) := by
  unfold impl_within.f
  by_cases h : a ≥ b
  · rw [if_pos h]
    by_cases h2 : a ≤ c <;> simp [h2] <;> omega
  · rw [if_neg h]; simp; omega
theorem and_low (x : Int) : (Go.bits .and .i64 x 255) % 256 = x % 256 := by
  have e : Go.bits .and .i64 x 255 = IntKind.i64.wrap (((BitVec.ofInt 64 x) &&& (BitVec.ofInt 64 255)).toNat : Int) := rfl
  rw [e, BitVec.toNat_and, BitVec.toNat_ofInt, BitVec.toNat_ofInt, IntKind.wrap_i64]
  have e2 : ((255 : Int) % ((2 ^ 64 : Nat) : Int)).toNat = 2 ^ 8 - 1 := by decide
  rw [e2, Nat.and_two_pow_sub_one_eq_mod, show ((2 ^ 64 : Nat) : Int) = 18446744073709551616 from rfl, show (2 : Nat) ^ 8 = 256 from rfl]
  omega
theorem u8i (i : Int) (h0 : 0 ≤ i) (h1 : i ≤ 8) : IntKind.u64.wrap (8 * (IntKind.u64.wrap i)) = 8 * i := by
  simp only [IntKind.wrap, IntKind.bits, IntKind.signed]
  simp
  omega
theorem w8i (i : Int) (h0 : 0 ≤ i) (h1 : i ≤ 8) : wrap64 (8 * i) = 8 * i := wrap64_id (by omega) (by omega)
def lowBytes (n : Int) (m : Nat) : List Int := (List.range m).map fun (i : Nat) => shr .i64 n (8 * (i : Int)) % 256
theorem spec_bytes (k : Nat) (n : Int) (m : Nat) (hm : m ≤ 8) (hk : 8 < k) : spec_l01Bytes.f k n m = some (strOfNums (lowBytes n m)) := by
  unfold spec_l01Bytes.f
  obtain ⟨r, h, rfl⟩ := count_loop (fun k s i => spec_l01Bytes.l0 k n m s i) m 0 (fun i s => s = lowBytes n i) (fun r => r = strOfNums (lowBytes n m))
    (by
      rintro k s - rfl
      exact ⟨_, by show spec_l01Bytes.l0 (k + 1) n m _ _ = _; rw [spec_l01Bytes.l0, if_neg (by omega)], rfl⟩)
    (by
      rintro k s i - hi rfl
      refine .inl ⟨lowBytes n (i + 1), rfl, ?_⟩
      show spec_l01Bytes.l0 (k + 1) n m _ _ = _
      rw [spec_l01Bytes.l0, if_pos (by omega), u8i _ (by omega) (by omega), if_pos (by omega), if_pos (by simp [lowBytes]; omega), and_low, wrap_up i (by omega)]
      rw [show lowBytes n (i + 1) = lowBytes n i ++ [shr .i64 n (8 * (i : Int)) % 256] from by simp [lowBytes, List.range_succ]])
    k [] 0 (by omega) (by omega) rfl
  exact h
theorem impl_bytes (k : Nat) (n : Int) (m : Nat) (hm : m ≤ 8) (hk : 8 < k) : impl_putBytes.f k n m = some (strOfNums (lowBytes n m)) := by
  unfold impl_putBytes.f
  rw [if_pos (by omega), if_pos (by omega)]
  simp only [Option.bind_some, Int.toNat_natCast, List.length_replicate]
  obtain ⟨r, h, rfl⟩ := count_loop (fun k s i => impl_putBytes.l0 k n s m i) m 0 (fun i s => s.length = m ∧ s.take i = lowBytes n i) (fun r => r = strOfNums (lowBytes n m))
    (by
      rintro k s - ⟨h1, h2⟩
      refine ⟨strOfNums s, by show impl_putBytes.l0 (k + 1) n _ m _ = _; rw [impl_putBytes.l0, if_neg (by omega)], ?_⟩
      rw [← h2, List.take_of_length_le (by omega)])
    (by
      rintro k s i - hi ⟨h1, h2⟩
      refine .inl ⟨s.set i (shr .i64 n (8 * (i : Int)) % 256), ⟨by simpa using h1, ?_⟩, ?_⟩
      · rw [show lowBytes n (i + 1) = lowBytes n i ++ [shr .i64 n (8 * (i : Int)) % 256] from by simp [lowBytes, List.range_succ], ← h2]
        rw [List.take_succ_eq_append_getElem (by simpa using (show i < s.length by omega)), List.getElem_set_self, List.take_set_of_le (by omega)]
      · show impl_putBytes.l0 (k + 1) n _ m _ = _
        rw [impl_putBytes.l0, if_pos (by omega), w8i _ (by omega) (by omega), if_pos (by omega), if_pos (by omega), if_pos (by omega), wrap_up i (by omega)]
        rfl)
    k (List.replicate m 0) 0 (by omega) (by omega) ⟨by simp, by simp [lowBytes]⟩
  exact h
theorem u8j (i : Int) (h0 : 1 ≤ i) (h1 : i ≤ 8) : IntKind.u64.wrap (8 * i - 1) = 8 * i - 1 := by
  simp only [IntKind.wrap, IntKind.bits, IntKind.signed]
  simp
  omega
theorem shl_one (m : Nat) (h : m ≤ 62) : shl .i64 1 (m : Int) = 2 ^ m ∧ shl .i64 (-1) (m : Int) = - 2 ^ m ∧ (0 : Int) < 2 ^ m ∧ (2 : Int) ^ m ≤ 4611686018427387904 := by
  have hp : (0 : Int) < 2 ^ m := Int.pow_pos (by omega)
  have hq : (2 : Int) ^ m ≤ 2 ^ 62 := by
    have := Nat.pow_le_pow_right (n := 2) (by omega) h
    exact_mod_cast this
  have hr : (2 : Int) ^ 62 = 4611686018427387904 := rfl
  unfold shl
  have hm : min ((m : Int)).toNat IntKind.i64.bits = m := by
    show min ((m : Int)).toNat 64 = m
    omega
  rw [hm, IntKind.wrap_i64, IntKind.wrap_i64]
  refine ⟨by omega, by omega, hp, by omega⟩
theorem FnExactPutInt : laws_FnExactPutInt.Pure := by
  intro n s hn hs
  refine ⟨20, ?_⟩
  have key : ∃ r, spec_PutInt.f 20 n s = some r ∧ impl_PutInt.f 20 n s = some r := by
    unfold spec_PutInt.f impl_PutInt.f impl_sizeOk.f spec_l01Fits.f
    simp only [in_eq, within_eq, Option.bind_some]
    by_cases h : 1 ≤ s ∧ s ≤ 8
    · obtain ⟨m, rfl⟩ : ∃ m : Nat, s = m := ⟨s.toNat, by omega⟩
      rw [spec_bytes 20 n m (by omega) (by omega), impl_bytes 20 n m (by omega) (by omega), u8i _ (by omega) (by omega), w8i _ (by omega) (by omega), u8j _ (by omega) (by omega), wrap64_id (a := 8 * (m : Int) - 1) (by omega) (by omega)]
      simp only [h, and_self, decide_true, if_true, Option.bind_some]
      by_cases h8 : (m : Int) = 8
      · exact ⟨strOfNums (lowBytes n m), by simp [h8], by simp [h8]⟩
      · have h7 : (m : Int) < 8 := by omega
        have h4 : (0 : Int) ≤ 8 * (m : Int) - 1 := by omega
        obtain ⟨e, he⟩ : ∃ e : Nat, 8 * (m : Int) - 1 = e := ⟨8 * m - 1, by omega⟩
        obtain ⟨s1, s2, s3, s4⟩ := shl_one e (by omega)
        rw [he, s1, s2, wrap64_id (a := - 2 ^ e) (by omega) (by omega), wrap64_id (a := 2 ^ e - 1) (by omega) (by omega)]
        have h4' : (0 : Int) ≤ (e : Int) := by omega
        simp only [if_neg h8, if_pos h7, if_pos h4', Option.bind_some]
        by_cases hf : - 2 ^ e ≤ n ∧ n ≤ 2 ^ e - 1
        · exact ⟨strOfNums (lowBytes n m), by simp only [hf, and_self, decide_true, if_true, Option.bind_some], by simp only [hf, and_self, decide_true, if_true, Option.bind_some]⟩
        · exact ⟨⟨#[]⟩, by simp [hf], by simp [hf]⟩
    · exact ⟨⟨#[]⟩, by simp [h], by simp [h]⟩
  obtain ⟨r, h1, h2⟩ := key
  unfold laws_FnExactPutInt.f
  rw [h1, h2]
  simp

end Go.Proofs.Ytngjbdijimapnab.Pure
