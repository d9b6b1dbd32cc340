/- The plain form of FnExactValidSpace: for all arguments the answer is true. It holds without a condition. -/
import Derived.Test.YtngjbdijimapnadPFnExactValidSpacex3
import Derived.OpenShut
namespace Go.Proofs.Ytngjbdijimapnad.Pure
open Go Go.RowKit Go.Proofs.Ytngjbdijimapnad.PFnExactValidSpace Go.Proofs.YtngjbdijimapnadW.PrintWords Go.Proofs.YtngjbdijimapnadW.PrintLast Go.Proofs.YtngjbdijimapnadW.PrintMore
set_option linter.unusedVariables false
set_option linter.unusedSimpArgs false

theorem wf64 {a : Int} (h : (Lit.int .i64 a).wf = true) : -9223372036854775808 ≤ a ∧ a ≤ 9223372036854775807 := Go.bounds_i64 h
theorem wrap64_id {a : Int} (h : -9223372036854775808 ≤ a) (h' : a ≤ 9223372036854775807) : wrap64 a = a := by unfold wrap64; omega
theorem count_loop {σ ρ : Type} (L : Nat → σ → Int → Option ρ) (n m : Nat) (I : Nat → σ → Prop) (R : ρ → Prop)
    (hstop : ∀ k s, m ≤ k → I n s → ∃ r, L (k + 1) s (n : Int) = some r ∧ R r)
    (hstep : ∀ k s (i : Nat), m ≤ k → i < n → I i s → (∃ s', I (i + 1) s' ∧ L (k + 1) s (i : Int) = L k s' ((i + 1 : Nat) : Int)) ∨ ∃ r, L (k + 1) s (i : Int) = some r ∧ R r)
    (k : Nat) (s : σ) (i : Nat) (hi : i ≤ n) (hk : n - i + m < k) (h : I i s) : ∃ r, L k s (i : Int) = some r ∧ R r := by
  obtain ⟨d, hd⟩ : ∃ d, d = n - i := ⟨_, rfl⟩
  induction d generalizing k s i with
  | zero =>
    obtain ⟨k, rfl⟩ : ∃ z, k = z + 1 := ⟨k - 1, by omega⟩
    obtain rfl : i = n := by omega
    exact hstop k s (by omega) h
  | succ d ih =>
    obtain ⟨k, rfl⟩ : ∃ z, k = z + 1 := ⟨k - 1, by omega⟩
    rcases hstep k s i (by omega) (by omega) h with ⟨s', h', e⟩ | h'
    · rw [e]; exact ih k s' (i + 1) (by omega) (by omega) h' (by omega)
    · exact h'
theorem w0 : wrap64 0 = 0 := by unfold wrap64; omega
theorem w1 : wrap64 1 = 1 := by unfold wrap64; omega
theorem w2 : wrap64 2 = 2 := by unfold wrap64; omega
theorem w3 : wrap64 3 = 3 := by unfold wrap64; omega
theorem rd_lt (l : List Int) (i : Nat) (h : i < l.length) : rd l (i : Int) = l[i] := by
  simp [rd, List.getD_eq_getElem?_getD, List.getElem?_eq_getElem h]
theorem rds_lt (l : List ByteArray) (i : Nat) (h : i < l.length) : rdOf ByteArray.empty l (i : Int) = l[i] := by
  simp [rdOf, List.getD_eq_getElem?_getD, List.getElem?_eq_getElem h]
theorem wrap_up (i : Nat) (h : i < 1099511627776) : wrap64 ((i : Int) + 1) = ((i + 1 : Nat) : Int) := by unfold wrap64; omega
theorem set_next {α : Type} (l out : List α) (i : Nat) (h : i < l.length) (hl : out.length = l.length) (hp : out.take i = l.take i) : (out.set i l[i]).take (i + 1) = l.take (i + 1) := by
  apply List.ext_getElem?
  intro j
  by_cases hj : j < i + 1
  · rw [List.getElem?_take_of_lt hj, List.getElem?_take_of_lt hj]
    by_cases hji : j = i
    · subst hji; rw [List.getElem?_set_self (by omega), List.getElem?_eq_getElem h]
    · rw [List.getElem?_set_ne (by omega)]
      have := congrArg (fun z => z[j]?) hp
      simpa [List.getElem?_take_of_lt (show j < i by omega)] using this
  · rw [List.getElem?_eq_none (by simp; omega), List.getElem?_eq_none (by simp; omega)]
theorem take_all {α : Type} (l out : List α) (hl : out.length = l.length) (hp : out.take l.length = l.take l.length) : out = l := by
  rwa [List.take_of_length_le (by omega), List.take_length] at hp
theorem sz64 (l : List Int) (a : Int) (h0 : 0 ≤ a) (h1 : a ≤ 1048576) (hl : l.length ≤ maxLen) : ∃ t, laws_szInt64S.f l a = some t ∧ (t < 0 ∨ (0 ≤ t ∧ (l.length : Int) + t = a)) := by
  unfold maxLen at hl
  unfold laws_szInt64S.f
  rw [wrap64_id (by omega) (by omega)]
  by_cases h : a - (l.length : Int) < 0
  · rw [if_pos h]; exact ⟨-1, rfl, .inl (by omega)⟩
  · rw [if_neg h]; exact ⟨_, rfl, .inr ⟨by omega, by omega⟩⟩
theorem szSpace (a b : List Int) (n : Int) (h0 : 0 ≤ n) (h1 : n ≤ 1048576) (ha : a.length ≤ maxLen) (hb : b.length ≤ maxLen) : ∃ t, laws_szSpace.f a b n = some t ∧ (t < 0 ∨ (0 ≤ t ∧ (a.length : Int) + b.length + t = n)) := by
  unfold laws_szSpace.f
  obtain ⟨t, e, h⟩ := sz64 a n h0 h1 ha
  rw [e]
  simp only [Option.bind_some]
  rcases h with h | ⟨h2, h3⟩
  · rw [if_pos h]; exact ⟨-1, rfl, .inl (by omega)⟩
  · rw [if_neg (by omega)]
    obtain ⟨u, e', h'⟩ := sz64 b t h2 (by omega) hb
    rw [e']
    simp only [Option.bind_some]
    rcases h' with h' | ⟨h4, h5⟩
    · rw [if_pos h']; exact ⟨-1, rfl, .inl (by omega)⟩
    · rw [if_neg (by omega)]; exact ⟨u, rfl, .inr ⟨h4, by omega⟩⟩
theorem toInt64S_eq (k : Nat) (l : List Int) (hl : l.length ≤ 1048576) (hk : l.length < k) : laws_toInt64S.f k l = some l := by
  unfold laws_toInt64S.f
  rw [if_pos (by omega), if_pos (by omega)]
  obtain ⟨r, h, rfl⟩ := count_loop (fun k s i => laws_toInt64S.l0 k l s i) l.length 0 (fun i s => s.length = l.length ∧ s.take i = l.take i) (fun r => r = l)
    (by
      rintro k s - ⟨h1, h2⟩
      exact ⟨s, by show laws_toInt64S.l0 (k + 1) l s _ = _; rw [laws_toInt64S.l0, if_neg (by omega)], take_all l s h1 h2⟩)
    (by
      rintro k s i - hi ⟨h1, h2⟩
      refine .inl ⟨s.set i l[i], ⟨by simpa using h1, set_next l s i hi h1 h2⟩, ?_⟩
      show laws_toInt64S.l0 (k + 1) l s _ = _
      rw [laws_toInt64S.l0, if_pos (by omega), if_pos (by omega), if_pos (by omega), rd_lt l i hi, wrap_up i (by omega)]
      rfl)
    k (List.replicate ((l.length : Int) : Int).toNat 0) 0 (by omega) (by omega) ⟨by simp, by simp⟩
  exact h
theorem laws_eqInt64S_eq (k : Nat) (a b : List Int) (hl : a.length ≤ 1048576) (hk : a.length < k) : laws_eqInt64S.f k a b = some (decide (a = b)) := by
  unfold laws_eqInt64S.f
  by_cases hn : (a.length : Int) = (b.length : Int)
  · rw [if_pos hn]
    obtain ⟨r, h, rfl⟩ := count_loop (fun k (_ : Unit) i => laws_eqInt64S.l0 k a b  i) a.length 0 (fun i _ => a.take i = b.take i) (fun r => r = decide (a = b))
      (by
        rintro k s - h1
        refine ⟨true, by show laws_eqInt64S.l0 (k + 1) a b  _ = _; rw [laws_eqInt64S.l0, if_neg (by omega)], ?_⟩
        have := take_all b a (by omega) (by rw [show b.length = a.length by omega]; exact h1)
        simp [this])
      (by
        rintro k s i - hi h1
        have hib : i < b.length := by omega
        by_cases he : a[i] = b[i]
        · refine .inl ⟨(), ?_, ?_⟩
          · rw [List.take_succ_eq_append_getElem hi, List.take_succ_eq_append_getElem hib, h1, he]
          · show laws_eqInt64S.l0 (k + 1) a b  _ = _
            rw [laws_eqInt64S.l0, rd_lt a i hi, rd_lt b i hib]
            repeat rw [if_pos (by omega)]
            try rw [if_pos he]
            rw [wrap_up i (by omega)]
        · refine .inr ⟨false, ?_, ?_⟩
          · show laws_eqInt64S.l0 (k + 1) a b  _ = _
            rw [laws_eqInt64S.l0, rd_lt a i hi, rd_lt b i hib]
            repeat rw [if_pos (by omega)]
            rw [if_neg he]
          · have : a ≠ b := by intro h; subst h; exact he rfl
            simp [this])
      k () 0 (by omega) (by omega) (by simp)
    exact h
  · rw [if_neg hn]
    have : a ≠ b := by intro h; subst h; exact hn rfl
    simp [this]
theorem toSpace_eq (k : Nat) (a b : List Int) (ha : a.length ≤ 1048576) (hb : b.length ≤ 1048576) (hk : 1048576 < k) : laws_toSpace.f k a b = some (a, b) := by
  unfold laws_toSpace.f
  rw [toInt64S_eq k a ha (by omega), toInt64S_eq k b hb (by omega)]
  rfl
theorem eqSpace_eq (k : Nat) (a b : List Int) (ha : a.length ≤ 1048576) (hb : b.length ≤ 1048576) (hk : 1048576 < k) : laws_eqSpace.f k a b a b = some true := by
  unfold laws_eqSpace.f
  rw [laws_eqInt64S_eq k a a ha (by omega), laws_eqInt64S_eq k b b hb (by omega)]
  simp
theorem in_eq (a b c : Int) : spec_l00In.f a b c = some (decide (b ≤ a ∧ a ≤ c)) := by
  unfold spec_l00In.f
  by_cases h : a ≥ b
  · rw [if_pos h]
    by_cases h2 : a ≤ c <;> simp [h2] <;> omega
  · rw [if_neg h]; simp; omega
theorem within_eq (a b c : Int) : impl_within.f a b c = some (decide (b ≤ a ∧ a ≤ c)) := by
  unfold impl_within.f
  by_cases h : a ≥ b
  · rw [if_pos h]
    by_cases h2 : a ≤ c <;> simp [h2] <;> omega
  · rw [if_neg h]; simp; omega
def prodL : List Int → Int := fun l => l.foldl (· * ·) 1
def VD (l : List Int) : Prop := l.length ≤ 3 ∧ (∀ x ∈ l, 0 ≤ x ∧ x ≤ 40) ∧ prodL l ≤ 600
instance (l : List Int) : Decidable (VD l) := by unfold VD; infer_instance
theorem mul_le {a b A B : Int} (ha : 0 ≤ a) (hb : 0 ≤ b) (hA : a ≤ A) (hB : b ≤ B) : 0 ≤ a * b ∧ a * b ≤ A * B :=
  ⟨Int.mul_nonneg ha hb, Int.mul_le_mul hA hB hb (by omega)⟩
theorem dims_spec (k : Nat) (l : List Int) (hk : 4 < k) : spec_l05Dims.f k l = some (decide (VD l)) := by
  unfold spec_l05Dims.f
  by_cases h3 : (l.length : Int) > 3
  · rw [if_pos h3]
    have : ¬ VD l := fun h => by have := h.1; omega
    simp [this]
  · rw [if_neg h3]
    obtain ⟨k, rfl⟩ : ∃ z, k = z + 5 := ⟨k - 5, by omega⟩
    match l, h3 with
    | [], _ => simp [spec_l05Dims.l0, VD, prodL]
    | [a], _ =>
      by_cases ha : 0 ≤ a ∧ a ≤ 40
      · simp [spec_l05Dims.l0, VD, prodL, in_eq, rd, ha, w1, wrap64_id (a := a) (by omega) (by omega)]
      · simp [spec_l05Dims.l0, VD, prodL, in_eq, rd, ha]
    | [a, b], _ =>
      by_cases ha : 0 ≤ a ∧ a ≤ 40
      · by_cases hb : 0 ≤ b ∧ b ≤ 40
        · have h1 := mul_le ha.1 hb.1 ha.2 hb.2
          simp [spec_l05Dims.l0, VD, prodL, in_eq, rd, ha, hb, wrap64_id (a := a) (by omega) (by omega), wrap64_id (a := a * b) (by omega) (by omega), w1, w2]
        · simp [spec_l05Dims.l0, VD, prodL, in_eq, rd, ha, hb, wrap64_id (a := a) (by omega) (by omega), w1]
      · simp [spec_l05Dims.l0, VD, prodL, in_eq, rd, ha]
    | [a, b, c], _ =>
      by_cases ha : 0 ≤ a ∧ a ≤ 40
      · by_cases hb : 0 ≤ b ∧ b ≤ 40
        · have h1 := mul_le ha.1 hb.1 ha.2 hb.2
          by_cases hc : 0 ≤ c ∧ c ≤ 40
          · have h2 := mul_le h1.1 hc.1 h1.2 hc.2
            simp [spec_l05Dims.l0, VD, prodL, in_eq, rd, ha, hb, hc, wrap64_id (a := a) (by omega) (by omega), wrap64_id (a := a * b) (by omega) (by omega), wrap64_id (a := a * b * c) (by omega) (by omega), w1, w2, w3]
          · simp [spec_l05Dims.l0, VD, prodL, in_eq, rd, ha, hb, hc, wrap64_id (a := a) (by omega) (by omega), wrap64_id (a := a * b) (by omega) (by omega), w1, w2]
        · simp [spec_l05Dims.l0, VD, prodL, in_eq, rd, ha, hb, wrap64_id (a := a) (by omega) (by omega), w1]
      · simp [spec_l05Dims.l0, VD, prodL, in_eq, rd, ha]
    | a :: b :: c :: d :: l, h => simp at h; omega
theorem within_all (k : Nat) (l : List Int) (a b : Int) (hl : l.length ≤ 1048576) (hk : l.length < k) : impl_allWithin.f k l a b = some (decide (∀ x ∈ l, a ≤ x ∧ x ≤ b)) := by
  unfold impl_allWithin.f slices_ContainsFunc_impl_allWithin_1.f slices_IndexFunc_impl_allWithin_1.f
  obtain ⟨r, h, hr⟩ := count_loop (fun k (_ : Unit) i => slices_IndexFunc_impl_allWithin_1.l0 k l (l.length : Int) i a b) l.length 0 (fun i _ => ∀ x ∈ l.take i, a ≤ x ∧ x ≤ b) (fun r => decide (r ≥ 0) = !decide (∀ x ∈ l, a ≤ x ∧ x ≤ b))
    (by
      rintro k s - h1
      refine ⟨-1, by show slices_IndexFunc_impl_allWithin_1.l0 (k + 1) l _ _ a b = _; rw [slices_IndexFunc_impl_allWithin_1.l0, if_neg (by omega)], ?_⟩
      rw [List.take_length] at h1
      simp [h1]
      exact h1)
    (by
      rintro k s i - hi h1
      by_cases he : a ≤ l[i] ∧ l[i] ≤ b
      · refine .inl ⟨(), ?_, ?_⟩
        · intro x hx
          rw [List.take_succ_eq_append_getElem hi, List.mem_append] at hx
          rcases hx with hx | hx
          · exact h1 x hx
          · simp at hx; subst hx; exact he
        · show slices_IndexFunc_impl_allWithin_1.l0 (k + 1) l _ _ a b = _
          rw [slices_IndexFunc_impl_allWithin_1.l0, if_pos (by omega), if_pos (by omega), if_pos (by omega), rd_lt l i hi, impl_allWithin_1.f, within_eq, wrap_up i (by omega)]
          simp [he]
      · refine .inr ⟨i, ?_, ?_⟩
        · show slices_IndexFunc_impl_allWithin_1.l0 (k + 1) l _ _ a b = _
          rw [slices_IndexFunc_impl_allWithin_1.l0, if_pos (by omega), if_pos (by omega), if_pos (by omega), rd_lt l i hi, impl_allWithin_1.f, within_eq]
          simp [he]
        · have hx : ¬ ∀ x ∈ l, a ≤ x ∧ x ≤ b := fun h => he (h _ (List.getElem_mem hi))
          simp [hx])
    k () 0 (by omega) (by omega) (by simp)
  have h' : slices_IndexFunc_impl_allWithin_1.l0 k l (l.length : Int) 0 a b = some r := h
  rw [h']
  simp [hr]
theorem dims_impl (k : Nat) (l : List Int) (hk : 4 < k) : impl_ValidDims.f k l = some (decide (VD l)) := by
  unfold impl_ValidDims.f
  by_cases h3 : (l.length : Int) ≤ 3
  · rw [if_pos h3, within_all k l 0 40 (by omega) (by omega)]
    by_cases hw : ∀ x ∈ l, 0 ≤ x ∧ x ≤ 40
    · rw [decide_eq_true hw]
      have hp : impl_product.f k l = some (prodL l) := by
        unfold impl_product.f
        obtain ⟨k, rfl⟩ : ∃ z, k = z + 5 := ⟨k - 5, by omega⟩
        match l, h3, hw with
        | [], _, _ => simp [impl_product.l0, prodL]
        | [a], _, hw =>
          have ha := hw a (by simp)
          simp [impl_product.l0, prodL, rd, w1, wrap64_id (a := a) (by omega) (by omega)]
        | [a, b], _, hw =>
          have ha := hw a (by simp)
          have hb := hw b (by simp)
          have h1 := mul_le ha.1 hb.1 ha.2 hb.2
          simp [impl_product.l0, prodL, rd, wrap64_id (a := a) (by omega) (by omega), wrap64_id (a := a * b) (by omega) (by omega), w1, w2]
        | [a, b, c], _, hw =>
          have ha := hw a (by simp)
          have hb := hw b (by simp)
          have hc := hw c (by simp)
          have h1 := mul_le ha.1 hb.1 ha.2 hb.2
          have h2 := mul_le h1.1 hc.1 h1.2 hc.2
          simp [impl_product.l0, prodL, rd, wrap64_id (a := a) (by omega) (by omega), wrap64_id (a := a * b) (by omega) (by omega), wrap64_id (a := a * b * c) (by omega) (by omega), w1, w2, w3]
        | a :: b :: c :: d :: l, h, _ => simp at h; omega
      have : VD l ↔ prodL l ≤ 600 := ⟨fun h => h.2.2, fun h => ⟨by omega, hw, h⟩⟩
      simp only [Option.bind_some, if_true, hp]
      rw [decide_eq_decide.mpr this]
    · have : ¬ VD l := fun h => hw h.2.1
      simp [hw, this]
  · rw [if_neg h3]
    have : ¬ VD l := fun h => by have := h.1; omega
    simp [this]
theorem space_loops (d m : List Int) (hd : VD d) (hn : m.length = d.length) : ∀ (e k i : Nat), m.length - i = e → e < k →
    ∃ r, spec_l05Space.l0 k i d m = some r ∧ impl_ValidSpace.l0 k m (m.length : Int) i d m = some r := by
  intro e
  have h3 := hd.1
  induction e with
  | zero =>
    intro k i he hk
    obtain ⟨k, rfl⟩ : ∃ z, k = z + 1 := ⟨k - 1, by omega⟩
    exact ⟨true, by rw [spec_l05Space.l0, if_neg (by omega)], by rw [impl_ValidSpace.l0, if_neg (by omega)]⟩
  | succ e ih =>
    intro k i he hk
    obtain ⟨k, rfl⟩ : ∃ z, k = z + 1 := ⟨k - 1, by omega⟩
    have him : (i : Int) < (m.length : Int) := by omega
    have hid : (i : Int) < (d.length : Int) := by omega
    have hi0 : (0 : Int) ≤ (i : Int) := by omega
    rw [spec_l05Space.l0, impl_ValidSpace.l0]
    simp only [if_pos him, if_pos hid, if_pos hi0, in_eq, within_eq, Option.bind_some, wrap_up i (by omega)]
    by_cases h1 : rd m i = -1
    · simp only [if_pos h1]; exact ih k (i + 1) (by omega) (by omega)
    · simp only [if_neg h1]
      by_cases h2 : rd d i ≤ rd m i ∧ rd m i ≤ 40
      · simp only [h2, and_self, decide_true, if_true]; exact ih k (i + 1) (by omega) (by omega)
      · exact ⟨false, by simp [h2], by simp [h2]⟩
theorem FnExactValidSpace : laws_FnExactValidSpace.Pure := by
  rintro a b ⟨ha, -⟩ ⟨hb, -⟩
  obtain ⟨t, e, h⟩ := szSpace a b 1048576 (by omega) (by omega) ha hb
  rcases h with h | ⟨h1, h2⟩
  · exact ⟨0, by unfold laws_FnExactValidSpace.f; rw [e]; simp only [Option.bind_some]; rw [if_pos h]⟩
  refine ⟨1048600, ?_⟩
  have key : ∃ r, spec_ValidSpace.f 1048600 a b = some r ∧ impl_ValidSpace.f 1048600 a b = some r := by
    unfold spec_ValidSpace.f spec_l05Space.f impl_ValidSpace.f
    rw [dims_spec _ a (by omega), dims_impl _ a (by omega)]
    by_cases hv : VD a
    · by_cases hn : (b.length : Int) = (a.length : Int)
      · obtain ⟨r, k1, k2⟩ := space_loops a b hv (by omega) b.length 1048599 0 (by omega) (by have := hv.1; omega)
        have k1' : spec_l05Space.l0 1048599 0 a b = some r := k1
        have k2' : impl_ValidSpace.l0 1048599 b (b.length : Int) 0 a b = some r := k2
        refine ⟨r, ?_, ?_⟩
        · simp [hv, hn, spec_l05Space.j0, k1']
        · simp [hv, hn, impl_ValidSpace.j0]; rw [← hn]; exact k2'
      · exact ⟨false, by simp [hv, hn, spec_l05Space.j0], by simp [hv, hn, impl_ValidSpace.j0]⟩
    · exact ⟨false, by simp [hv, spec_l05Space.j0], by simp [hv, impl_ValidSpace.j0]⟩
  obtain ⟨r, k1, k2⟩ := key
  unfold laws_FnExactValidSpace.f
  rw [e]
  simp only [Option.bind_some]
  rw [if_neg (by omega), toSpace_eq _ a b (by omega) (by omega) (by omega)]
  simp only [Option.bind_some]
  rw [k1, k2]
  simp only [Option.bind_some, bne_self_eq_false]
  rw [if_neg (by simp), eqSpace_eq _ a b (by omega) (by omega) (by omega)]
  simp

end Go.Proofs.Ytngjbdijimapnad.Pure
