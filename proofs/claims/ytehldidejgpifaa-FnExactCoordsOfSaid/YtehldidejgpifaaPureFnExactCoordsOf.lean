/- The plain form of FnExactCoordsOf: for all arguments the answer is true. It holds without a condition. -/
import Derived.Test.YtehldidejgpifaaPFnExactCoordsOfx3
import Derived.OpenShut
namespace Go.Proofs.Ytehldidejgpifaa.Pure
open Go Go.RowKit Go.Proofs.Ytehldidejgpifaa.PFnExactCoordsOf Go.Proofs.YtehldidejgpifaaW.PrintWords Go.Proofs.YtehldidejgpifaaW.PrintLast Go.Proofs.YtehldidejgpifaaW.PrintMore
set_option linter.unusedVariables false
set_option linter.unusedSimpArgs false

theorem wf64 {a : Int} (h : (Lit.int .i64 a).wf = true) : -9223372036854775808 ≤ a ∧ a ≤ 9223372036854775807 := Go.bounds_i64 h
theorem wrap64_id {a : Int} (h : -9223372036854775808 ≤ a) (h' : a ≤ 9223372036854775807) : wrap64 a = a := by unfold wrap64; omega
theorem count_loop {σ ρ : Type} (L : Nat → σ → Int → Option ρ) (n m : Nat) (I : Nat → σ → Prop) (R : ρ → Prop)
    (hstop : ∀ k s, m ≤ k → I n s → ∃ r, L (k + 1) s (n : Int) = some r ∧ R r)
    (hstep : ∀ k s (i : Nat), m ≤ k → i < n → I i s → (∃ s', I (i + 1) s' ∧ L (k + 1) s (i : Int) = L k s' ((i + 1 : Nat) : Int)) ∨ ∃ r, L (k + 1) s (i : Int) = some r ∧ R r)
    (k : Nat) (s : σ) (i : Nat) (hi : i ≤ n) (hk : n - i + m < k) (h : I i s) : ∃ r, L k s (i : Int) = some r ∧ R r := by
  obtain ⟨d, hd⟩ : ∃ d, d = n - i := ⟨_, rfl⟩
  induction d generalizing k s i with
  | zero =>
    obtain ⟨k, rfl⟩ : ∃ z, k = z + 1 := ⟨k - 1, by omega⟩
    obtain rfl : i = n := by omega
    exact hstop k s (by omega) h
  | succ d ih =>
    obtain ⟨k, rfl⟩ : ∃ z, k = z + 1 := ⟨k - 1, by omega⟩
    rcases hstep k s i (by omega) (by omega) h with ⟨s', h', e⟩ | h'
    · rw [e]; exact ih k s' (i + 1) (by omega) (by omega) h' (by omega)
    · exact h'
theorem w0 : wrap64 0 = 0 := by unfold wrap64; omega
theorem w1 : wrap64 1 = 1 := by unfold wrap64; omega
theorem w2 : wrap64 2 = 2 := by unfold wrap64; omega
theorem w3 : wrap64 3 = 3 := by unfold wrap64; omega
theorem rd_lt (l : List Int) (i : Nat) (h : i < l.length) : rd l (i : Int) = l[i] := by
  simp [rd, List.getD_eq_getElem?_getD, List.getElem?_eq_getElem h]
theorem rds_lt (l : List ByteArray) (i : Nat) (h : i < l.length) : rdOf ByteArray.empty l (i : Int) = l[i] := by
  simp [rdOf, List.getD_eq_getElem?_getD, List.getElem?_eq_getElem h]
theorem wrap_up (i : Nat) (h : i < 1099511627776) : wrap64 ((i : Int) + 1) = ((i + 1 : Nat) : Int) := by unfold wrap64; omega
theorem set_next {α : Type} (l out : List α) (i : Nat) (h : i < l.length) (hl : out.length = l.length) (hp : out.take i = l.take i) : (out.set i l[i]).take (i + 1) = l.take (i + 1) := by
  apply List.ext_getElem?
  intro j
  by_cases hj : j < i + 1
  · rw [List.getElem?_take_of_lt hj, List.getElem?_take_of_lt hj]
    by_cases hji : j = i
    · subst hji; rw [List.getElem?_set_self (by omega), List.getElem?_eq_getElem h]
    · rw [List.getElem?_set_ne (by omega)]
      have := congrArg (fun z => z[j]?) hp
      simpa [List.getElem?_take_of_lt (show j < i by omega)] using this
  · rw [List.getElem?_eq_none (by simp; omega), List.getElem?_eq_none (by simp; omega)]
theorem take_all {α : Type} (l out : List α) (hl : out.length = l.length) (hp : out.take l.length = l.take l.length) : out = l := by
  rwa [List.take_of_length_le (by omega), List.take_length] at hp
theorem toInt64S_eq (k : Nat) (l : List Int) (hl : l.length ≤ 1048576) (hk : l.length < k) : laws_toInt64S.f k l = some l := by
  unfold laws_toInt64S.f
  rw [if_pos (by omega), if_pos (by omega)]
  obtain ⟨r, h, rfl⟩ := count_loop (fun k s i => laws_toInt64S.l0 k l s i) l.length 0 (fun i s => s.length = l.length ∧ s.take i = l.take i) (fun r => r = l)
    (by
      rintro k s - ⟨h1, h2⟩
      exact ⟨s, by show laws_toInt64S.l0 (k + 1) l s _ = _; rw [laws_toInt64S.l0, if_neg (by omega)], take_all l s h1 h2⟩)
    (by
      rintro k s i - hi ⟨h1, h2⟩
      refine .inl ⟨s.set i l[i], ⟨by simpa using h1, set_next l s i hi h1 h2⟩, ?_⟩
      show laws_toInt64S.l0 (k + 1) l s _ = _
      rw [laws_toInt64S.l0, if_pos (by omega), if_pos (by omega), if_pos (by omega), rd_lt l i hi, wrap_up i (by omega)]
      rfl)
    k (List.replicate ((l.length : Int) : Int).toNat 0) 0 (by omega) (by omega) ⟨by simp, by simp⟩
  exact h
theorem eqInt64S_eq (k : Nat) (a b : List Int) (hl : a.length ≤ 1048576) (hk : a.length < k) : laws_eqInt64S.f k a b = some (decide (a = b)) := by
  unfold laws_eqInt64S.f
  by_cases hn : (a.length : Int) = (b.length : Int)
  · rw [if_pos hn]
    obtain ⟨r, h, rfl⟩ := count_loop (fun k (_ : Unit) i => laws_eqInt64S.l0 k a b i) a.length 0 (fun i _ => a.take i = b.take i) (fun r => r = decide (a = b))
      (by
        rintro k s - h1
        refine ⟨true, by show laws_eqInt64S.l0 (k + 1) a b _ = _; rw [laws_eqInt64S.l0, if_neg (by omega)], ?_⟩
        have := take_all b a (by omega) (by rw [show b.length = a.length by omega]; exact h1)
        simp [this])
      (by
        rintro k s i - hi h1
        have hib : i < b.length := by omega
        by_cases he : a[i] = b[i]
        · refine .inl ⟨(), ?_, ?_⟩
          · rw [List.take_succ_eq_append_getElem hi, List.take_succ_eq_append_getElem hib, h1, he]
          · show laws_eqInt64S.l0 (k + 1) a b _ = _
            rw [laws_eqInt64S.l0, if_pos (by omega), if_pos (by omega), if_pos (by omega), rd_lt a i hi, rd_lt b i hib, if_pos he, wrap_up i (by omega)]
        · refine .inr ⟨false, ?_, ?_⟩
          · show laws_eqInt64S.l0 (k + 1) a b _ = _
            rw [laws_eqInt64S.l0, if_pos (by omega), if_pos (by omega), if_pos (by omega), rd_lt a i hi, rd_lt b i hib, if_neg he]
          · have : a ≠ b := by intro h; subst h; exact he rfl
            simp [this])
      k () 0 (by omega) (by omega) (by simp)
    exact h
  · rw [if_neg hn]
    have : a ≠ b := by intro h; subst h; exact hn rfl
    simp [this]
theorem in_eq (a b c : Int) : spec_l00In.f a b c = some (decide (b ≤ a ∧ a ≤ c)) := by
  unfold spec_l00In.f
  by_cases h : a ≥ b
  · rw [if_pos h]
    by_cases h2 : a ≤ c <;> simp [h2] <;> omega
  · rw [if_neg h]; simp; omega
theorem within_eq (a b c : Int) : impl_within.f a b c = some (decide (b ≤ a ∧ a ≤ c)) := by
  unfold impl_within.f
  by_cases h : a ≥ b
  · rw [if_pos h]
    by_cases h2 : a ≤ c <;> simp [h2] <;> omega
  · rw [if_neg h]; simp; omega
def prodL : List Int → Int := fun l => l.foldl (· * ·) 1
def VD (l : List Int) : Prop := l.length ≤ 3 ∧ (∀ x ∈ l, 0 ≤ x ∧ x ≤ 40) ∧ prodL l ≤ 600
instance (l : List Int) : Decidable (VD l) := by unfold VD; infer_instance
theorem mul_le {a b A B : Int} (ha : 0 ≤ a) (hb : 0 ≤ b) (hA : a ≤ A) (hB : b ≤ B) : 0 ≤ a * b ∧ a * b ≤ A * B :=
  ⟨Int.mul_nonneg ha hb, Int.mul_le_mul hA hB hb (by omega)⟩
theorem dims_spec (k : Nat) (l : List Int) (hk : 4 < k) : spec_l05Dims.f k l = some (decide (VD l)) := by
  unfold spec_l05Dims.f
  by_cases h3 : (l.length : Int) > 3
  · rw [if_pos h3]
    have : ¬ VD l := fun h => by have := h.1; omega
    simp [this]
  · rw [if_neg h3]
    obtain ⟨k, rfl⟩ : ∃ z, k = z + 5 := ⟨k - 5, by omega⟩
    match l, h3 with
    | [], _ => simp [spec_l05Dims.l0, VD, prodL]
    | [a], _ =>
      by_cases ha : 0 ≤ a ∧ a ≤ 40
      · simp [spec_l05Dims.l0, VD, prodL, in_eq, rd, ha, w1, wrap64_id (a := a) (by omega) (by omega)]
      · simp [spec_l05Dims.l0, VD, prodL, in_eq, rd, ha]
    | [a, b], _ =>
      by_cases ha : 0 ≤ a ∧ a ≤ 40
      · by_cases hb : 0 ≤ b ∧ b ≤ 40
        · have h1 := mul_le ha.1 hb.1 ha.2 hb.2
          simp [spec_l05Dims.l0, VD, prodL, in_eq, rd, ha, hb, wrap64_id (a := a) (by omega) (by omega), wrap64_id (a := a * b) (by omega) (by omega), w1, w2]
        · simp [spec_l05Dims.l0, VD, prodL, in_eq, rd, ha, hb, wrap64_id (a := a) (by omega) (by omega), w1]
      · simp [spec_l05Dims.l0, VD, prodL, in_eq, rd, ha]
    | [a, b, c], _ =>
      by_cases ha : 0 ≤ a ∧ a ≤ 40
      · by_cases hb : 0 ≤ b ∧ b ≤ 40
        · have h1 := mul_le ha.1 hb.1 ha.2 hb.2
          by_cases hc : 0 ≤ c ∧ c ≤ 40
          · have h2 := mul_le h1.1 hc.1 h1.2 hc.2
            simp [spec_l05Dims.l0, VD, prodL, in_eq, rd, ha, hb, hc, wrap64_id (a := a) (by omega) (by omega), wrap64_id (a := a * b) (by omega) (by omega), wrap64_id (a := a * b * c) (by omega) (by omega), w1, w2, w3]
          · simp [spec_l05Dims.l0, VD, prodL, in_eq, rd, ha, hb, hc, wrap64_id (a := a) (by omega) (by omega), wrap64_id (a := a * b) (by omega) (by omega), w1, w2]
        · simp [spec_l05Dims.l0, VD, prodL, in_eq, rd, ha, hb, wrap64_id (a := a) (by omega) (by omega), w1]
      · simp [spec_l05Dims.l0, VD, prodL, in_eq, rd, ha]
    | a :: b :: c :: d :: l, h => simp at h; omega
theorem within_all (k : Nat) (l : List Int) (a b : Int) (hl : l.length ≤ 1048576) (hk : l.length < k) : impl_allWithin.f k l a b = some (decide (∀ x ∈ l, a ≤ x ∧ x ≤ b)) := by
  unfold impl_allWithin.f slices_ContainsFunc_impl_allWithin_1.f slices_IndexFunc_impl_allWithin_1.f
  obtain ⟨r, h, hr⟩ := count_loop (fun k (_ : Unit) i => slices_IndexFunc_impl_allWithin_1.l0 k l (l.length : Int) i a b) l.length 0 (fun i _ => ∀ x ∈ l.take i, a ≤ x ∧ x ≤ b) (fun r => decide (r ≥ 0) = !decide (∀ x ∈ l, a ≤ x ∧ x ≤ b))
    (by
      rintro k s - h1
      refine ⟨-1, by show slices_IndexFunc_impl_allWithin_1.l0 (k + 1) l _ _ a b = _; rw [slices_IndexFunc_impl_allWithin_1.l0, if_neg (by omega)], ?_⟩
      rw [List.take_length] at h1
      simp [h1]
      exact h1)
    (by
      rintro k s i - hi h1
      by_cases he : a ≤ l[i] ∧ l[i] ≤ b
      · refine .inl ⟨(), ?_, ?_⟩
        · intro x hx
          rw [List.take_succ_eq_append_getElem hi, List.mem_append] at hx
          rcases hx with hx | hx
          · exact h1 x hx
          · simp at hx; subst hx; exact he
        · show slices_IndexFunc_impl_allWithin_1.l0 (k + 1) l _ _ a b = _
          rw [slices_IndexFunc_impl_allWithin_1.l0, if_pos (by omega), if_pos (by omega), if_pos (by omega), rd_lt l i hi, impl_allWithin_1.f, within_eq, wrap_up i (by omega)]
          simp [he]
      · refine .inr ⟨i, ?_, ?_⟩
        · show slices_IndexFunc_impl_allWithin_1.l0 (k + 1) l _ _ a b = _
          rw [slices_IndexFunc_impl_allWithin_1.l0, if_pos (by omega), if_pos (by omega), if_pos (by omega), rd_lt l i hi, impl_allWithin_1.f, within_eq]
          simp [he]
        · have hx : ¬ ∀ x ∈ l, a ≤ x ∧ x ≤ b := fun h => he (h _ (List.getElem_mem hi))
          simp [hx])
    k () 0 (by omega) (by omega) (by simp)
  have h' : slices_IndexFunc_impl_allWithin_1.l0 k l (l.length : Int) 0 a b = some r := h
  rw [h']
  simp [hr]
theorem dims_impl (k : Nat) (l : List Int) (hk : 4 < k) : impl_ValidDims.f k l = some (decide (VD l)) := by
  unfold impl_ValidDims.f
  by_cases h3 : (l.length : Int) ≤ 3
  · rw [if_pos h3, within_all k l 0 40 (by omega) (by omega)]
    by_cases hw : ∀ x ∈ l, 0 ≤ x ∧ x ≤ 40
    · rw [decide_eq_true hw]
      have hp : impl_product.f k l = some (prodL l) := by
        unfold impl_product.f
        obtain ⟨k, rfl⟩ : ∃ z, k = z + 5 := ⟨k - 5, by omega⟩
        match l, h3, hw with
        | [], _, _ => simp [impl_product.l0, prodL]
        | [a], _, hw =>
          have ha := hw a (by simp)
          simp [impl_product.l0, prodL, rd, w1, wrap64_id (a := a) (by omega) (by omega)]
        | [a, b], _, hw =>
          have ha := hw a (by simp)
          have hb := hw b (by simp)
          have h1 := mul_le ha.1 hb.1 ha.2 hb.2
          simp [impl_product.l0, prodL, rd, wrap64_id (a := a) (by omega) (by omega), wrap64_id (a := a * b) (by omega) (by omega), w1, w2]
        | [a, b, c], _, hw =>
          have ha := hw a (by simp)
          have hb := hw b (by simp)
          have hc := hw c (by simp)
          have h1 := mul_le ha.1 hb.1 ha.2 hb.2
          have h2 := mul_le h1.1 hc.1 h1.2 hc.2
          simp [impl_product.l0, prodL, rd, wrap64_id (a := a) (by omega) (by omega), wrap64_id (a := a * b) (by omega) (by omega), wrap64_id (a := a * b * c) (by omega) (by omega), w1, w2, w3]
        | a :: b :: c :: d :: l, h, _ => simp at h; omega
      have : VD l ↔ prodL l ≤ 600 := ⟨fun h => h.2.2, fun h => ⟨by omega, hw, h⟩⟩
      simp only [Option.bind_some, if_true, hp]
      rw [decide_eq_decide.mpr this]
    · have : ¬ VD l := fun h => hw h.2.1
      simp [hw, this]
  · rw [if_neg h3]
    have : ¬ VD l := fun h => by have := h.1; omega
    simp [this]
theorem prod_spec (k : Nat) (l : List Int) (hk : 4 < k) (hv : VD l) : spec_l05Count.f k l = some (prodL l) := by
  unfold spec_l05Count.f
  obtain ⟨k, rfl⟩ : ∃ z, k = z + 5 := ⟨k - 5, by omega⟩
  obtain ⟨h3, hw, _⟩ := hv
  match l, h3, hw with
  | [], _, _ => simp [spec_l05Count.l0, prodL]
  | [a], _, hw =>
    have ha := hw a (by simp)
    simp [spec_l05Count.l0, prodL, rd, w1, wrap64_id (a := a) (by omega) (by omega)]
  | [a, b], _, hw =>
    have ha := hw a (by simp)
    have hb := hw b (by simp)
    have h1 := mul_le ha.1 hb.1 ha.2 hb.2
    simp [spec_l05Count.l0, prodL, rd, wrap64_id (a := a) (by omega) (by omega), wrap64_id (a := a * b) (by omega) (by omega), w1, w2]
  | [a, b, c], _, hw =>
    have ha := hw a (by simp)
    have hb := hw b (by simp)
    have hc := hw c (by simp)
    have h1 := mul_le ha.1 hb.1 ha.2 hb.2
    have h2 := mul_le h1.1 hc.1 h1.2 hc.2
    simp [spec_l05Count.l0, prodL, rd, wrap64_id (a := a) (by omega) (by omega), wrap64_id (a := a * b) (by omega) (by omega), wrap64_id (a := a * b * c) (by omega) (by omega), w1, w2, w3]
  | a :: b :: c :: d :: l, h, _ => exact absurd h (by simp)
theorem prod_impl (k : Nat) (l : List Int) (hk : 4 < k) (hv : VD l) : impl_product.f k l = some (prodL l) := by
  unfold impl_product.f
  obtain ⟨k, rfl⟩ : ∃ z, k = z + 5 := ⟨k - 5, by omega⟩
  obtain ⟨h3, hw, _⟩ := hv
  match l, h3, hw with
  | [], _, _ => simp [impl_product.l0, prodL]
  | [a], _, hw =>
    have ha := hw a (by simp)
    simp [impl_product.l0, prodL, rd, w1, wrap64_id (a := a) (by omega) (by omega)]
  | [a, b], _, hw =>
    have ha := hw a (by simp)
    have hb := hw b (by simp)
    have h1 := mul_le ha.1 hb.1 ha.2 hb.2
    simp [impl_product.l0, prodL, rd, wrap64_id (a := a) (by omega) (by omega), wrap64_id (a := a * b) (by omega) (by omega), w1, w2]
  | [a, b, c], _, hw =>
    have ha := hw a (by simp)
    have hb := hw b (by simp)
    have hc := hw c (by simp)
    have h1 := mul_le ha.1 hb.1 ha.2 hb.2
    have h2 := mul_le h1.1 hc.1 h1.2 hc.2
    simp [impl_product.l0, prodL, rd, wrap64_id (a := a) (by omega) (by omega), wrap64_id (a := a * b) (by omega) (by omega), wrap64_id (a := a * b * c) (by omega) (by omega), w1, w2, w3]
  | a :: b :: c :: d :: l, h, _ => exact absurd h (by simp)
theorem mark64 (n : Nat) (hn : n ≤ 1048576) : ∀ (d i : Nat) (x : Int) (l : List Int), l.length = n → n - i = d → i ≤ n → 0 ≤ x → x + d ≤ 1099511627776 →
    ∃ r : List Int, r.length = n ∧ (∀ k, d < k → laws_markInt64S.l0 k l x (i : Int) = some (x + d, r)) ∧ (∀ j, j < i → r.getD j 0 = l.getD j 0) ∧ ∀ j, i ≤ j → j < n → r.getD j 0 = x + ((j - i : Nat) : Int) := by
  intro d
  induction d with
  | zero =>
    intro i x l hl hd hi h0 h1
    refine ⟨l, hl, fun k hk => ?_, fun j _ => rfl, fun j h2 h3 => by omega⟩
    obtain ⟨k, rfl⟩ : ∃ m, k = m + 1 := ⟨k - 1, by omega⟩
    rw [laws_markInt64S.l0, if_neg (by omega)]
    simp
  | succ d ih =>
    intro i x l hl hd hi h0 h1
    obtain ⟨r, hr, hk0, hlo, hhi⟩ := ih (i + 1) (x + 1) (l.set i x) (by simpa using hl) (by omega) (by omega) (by omega) (by omega)
    refine ⟨r, hr, fun k hk => ?_, fun j hj => ?_, fun j h2 h3 => ?_⟩
    · obtain ⟨k, rfl⟩ : ∃ m, k = m + 1 := ⟨k - 1, by omega⟩
      rw [laws_markInt64S.l0, if_pos (by omega), if_pos (by omega), wrap64_id (by omega) (by omega), wrap64_id (by omega) (by omega), Int.toNat_natCast, show (i : Int) + 1 = ((i + 1 : Nat) : Int) by omega, hk0 k (by omega)]
      congr 2
      omega
    · rw [hlo j (by omega)]
      simp only [List.getD_eq_getElem?_getD]
      rw [List.getElem?_set_ne (by omega)]
    · by_cases hj : j = i
      · subst hj
        rw [hlo j (by omega)]
        simp only [List.getD_eq_getElem?_getD]
        rw [List.getElem?_set_self (by omega)]
        simp
      · rw [hhi j (by omega) h3]
        omega
theorem held64 (n : Nat) (hn : n ≤ 1048576) (l : List Int) (hl : l.length = n) : ∀ (d i : Nat) (x : Int), n - i = d → i ≤ n → 0 ≤ x → x + d ≤ 1099511627776 → (∀ j, i ≤ j → j < n → l.getD j 0 = x + ((j - i : Nat) : Int)) →
    ∀ k, d < k → laws_heldInt64S.l0 k l x (i : Int) = some (x + d) := by
  intro d
  induction d with
  | zero =>
    intro i x hd hi h0 h1 hm k hk
    obtain ⟨k, rfl⟩ : ∃ m, k = m + 1 := ⟨k - 1, by omega⟩
    rw [laws_heldInt64S.l0, if_neg (by omega)]
    simp
  | succ d ih =>
    intro i x hd hi h0 h1 hm k hk
    obtain ⟨k, rfl⟩ : ∃ m, k = m + 1 := ⟨k - 1, by omega⟩
    have e : rd l (i : Int) = x := by
      have h := hm i (Nat.le_refl _) (by omega)
      rw [Nat.sub_self] at h
      simpa [rd] using h
    rw [laws_heldInt64S.l0, if_pos (by omega), if_pos (by omega), e, if_pos rfl, wrap64_id (by omega) (by omega), wrap64_id (by omega) (by omega), show (i : Int) + 1 = ((i + 1 : Nat) : Int) by omega, ih (i + 1) (x + 1) (by omega) (by omega) (by omega) (by omega) (fun j h2 h3 => by
      rw [hm j (by omega) h3]; omega) k (by omega)]
    congr 1
    omega
/-- a list that has been marked from x on, and what its marks are held against -/
theorem marks64 (l : List Int) (hl : l.length ≤ 1048576) (x : Int) (h0 : 0 ≤ x) (h1 : x ≤ 1073741824) :
    ∃ r : List Int, r.length = l.length ∧ (∀ k, 1048576 < k → laws_markInt64S.f k l x = some (x + l.length, r)) ∧ ∀ k, 1048576 < k → laws_heldInt64S.f k r x = some (x + l.length) := by
  obtain ⟨r, hr, hm, -, hv⟩ := mark64 l.length hl l.length 0 x l rfl (by omega) (by omega) h0 (by omega)
  exact ⟨r, hr, fun k hk => hm k (by omega), fun k hk => held64 l.length hl r hr l.length 0 x (by omega) (by omega) h0 (by omega) (fun j h2 h3 => hv j h2 h3) k (by omega)⟩
theorem nonzero (l : List Int) (h : prodL l ≠ 0) : ∀ x ∈ l, x ≠ 0 := by
  have key : ∀ (l : List Int) (a : Int), l.foldl (· * ·) a ≠ 0 → a ≠ 0 ∧ ∀ x ∈ l, x ≠ 0 := by
    intro l
    induction l with
    | nil => intro a h; exact ⟨h, by simp⟩
    | cons b l ih =>
      intro a h
      obtain ⟨h1, h2⟩ := ih (a * b) h
      refine ⟨fun e => h1 (by rw [e, Int.zero_mul]), ?_⟩
      intro x hx
      rcases List.mem_cons.1 hx with rfl | hx
      · exact fun e => h1 (by rw [e, Int.mul_zero])
      · exact h2 x hx
  exact (key l 1 h).2
theorem prod_nonneg (l : List Int) (h : ∀ x ∈ l, 0 ≤ x ∧ x ≤ 40) : 0 ≤ prodL l := by
  have key : ∀ (l : List Int) (a : Int), (∀ x ∈ l, 0 ≤ x ∧ x ≤ 40) → 0 ≤ a → 0 ≤ l.foldl (· * ·) a := by
    intro l
    induction l with
    | nil => intro a _ h; exact h
    | cons b l ih =>
      intro a h ha
      exact ih (a * b) (fun x hx => h x (List.mem_cons_of_mem _ hx)) (Int.mul_nonneg ha (h b List.mem_cons_self).1)
  exact key l 1 h (by omega)
theorem coords_loop (l : List Int) (a : Int) (hl : l.length ≤ 1048576) (hn : ∀ x ∈ l, x ≠ 0) : ∀ (d j k : Nat), j + d = l.length → d < k →
    spec_l05Coords.l0 k l (impl_coordsOf.run l a (List.range j)).1 (impl_coordsOf.run l a (List.range j)).2 ((l.length : Int) - 1 - j) = some (impl_coordsOf.run l a (List.range l.length)).2 := by
  intro d
  induction d with
  | zero =>
    intro j k hj hk
    obtain ⟨k, rfl⟩ : ∃ m, k = m + 1 := ⟨k - 1, by omega⟩
    rw [spec_l05Coords.l0, if_neg (by omega), show j = l.length by omega]
  | succ d ih =>
    intro j k hj hk
    obtain ⟨k, rfl⟩ : ∃ m, k = m + 1 := ⟨k - 1, by omega⟩
    have hlen := impl_coordsOf.run_length l a (List.range j)
    have e : (l.length : Int) - 1 - j = ((l.length - 1 - j : Nat) : Int) := by omega
    have hr : rd l ((l.length - 1 - j : Nat) : Int) = l[l.length - 1 - j]?.getD 0 := by simp [rd]
    have hne : l[l.length - 1 - j]?.getD 0 ≠ 0 := by
      rw [List.getElem?_eq_getElem (by omega)]
      exact hn _ (List.getElem_mem _)
    have h := ih (j + 1) k (by omega) (by omega)
    rw [List.range_succ, impl_coordsOf.run_snoc] at h
    unfold impl_coordsOf.step at h
    rw [show (l.length : Int) - 1 - ((j + 1 : Nat) : Int) = ((l.length - 1 - j : Nat) : Int) - 1 by omega] at h
    rw [spec_l05Coords.l0, e, if_pos (by omega), if_pos (by omega), if_pos (by omega), hr, if_neg hne, if_pos (by omega), Int.toNat_natCast, wrap64_id (a := ((l.length - 1 - j : Nat) : Int) - 1) (by omega) (by omega)]
    exact h
theorem both (l : List Int) (a : Int) (hl : (l.length : Int) ≤ 1048576) : ∃ v : List Int, (v.length : Int) ≤ 1048576 ∧ ∀ k, 1048590 ≤ k → spec_CoordsOf.f k l a = some v ∧ impl_CoordsOf.f k l a = some v := by
  by_cases hv : VD l
  · by_cases hc : 0 ≤ a ∧ a ≤ prodL l - 1
    · have hp := hv.2.2
      refine ⟨(impl_coordsOf.run l a (List.range l.length)).2, by rw [impl_coordsOf.run_length]; exact hl, fun k hk => ⟨?_, ?_⟩⟩
      · unfold spec_CoordsOf.f
        rw [dims_spec _ l (by omega)]
        simp only [hv, decide_true, Option.bind_some, if_true]
        rw [prod_spec _ l (by omega) hv]
        simp only [Option.bind_some]
        rw [in_eq, wrap64_id (by omega) (by omega)]
        simp only [hc, and_self, decide_true, Option.bind_some, if_true]
        unfold spec_l05Coords.f
        rw [if_pos (by omega), if_pos (by omega), Int.toNat_natCast, wrap64_id (by omega) (by omega)]
        have h := coords_loop l a (by omega) (nonzero l (by omega)) l.length 0 k (by omega) (by omega)
        simp only [List.range_zero, Int.natCast_zero, Int.sub_zero] at h
        rw [show spec_l05Coords.l0 k l a (List.replicate l.length 0) ((l.length : Int) - 1) = _ from h]
        rfl
      · unfold impl_CoordsOf.f
        rw [dims_impl _ l (by omega)]
        simp only [hv, decide_true, Option.bind_some, if_true]
        rw [prod_impl _ l (by omega) hv]
        simp only [Option.bind_some]
        rw [within_eq, wrap64_id (by omega) (by omega)]
        simp only [hc, and_self, decide_true, Option.bind_some, if_true]
        unfold impl_coordsOf.f
        rw [if_pos ⟨by omega, nonzero l (by omega)⟩]
        rfl
    · have hp := hv.2.2
      have hp0 : 0 ≤ prodL l := prod_nonneg l hv.2.1
      refine ⟨[], by simp, fun k hk => ⟨?_, ?_⟩⟩
      · unfold spec_CoordsOf.f
        rw [dims_spec _ l (by omega)]
        simp only [hv, decide_true, Option.bind_some, if_true]
        rw [prod_spec _ l (by omega) hv]
        simp only [Option.bind_some]
        rw [in_eq, wrap64_id (by omega) (by omega)]
        simp [hc]
      · unfold impl_CoordsOf.f
        rw [dims_impl _ l (by omega)]
        simp only [hv, decide_true, Option.bind_some, if_true]
        rw [prod_impl _ l (by omega) hv]
        simp only [Option.bind_some]
        rw [within_eq, wrap64_id (by omega) (by omega)]
        simp [hc]
  · refine ⟨[], by simp, fun k hk => ⟨?_, ?_⟩⟩
    · unfold spec_CoordsOf.f
      rw [dims_spec _ l (by omega)]
      simp [hv]
    · unfold impl_CoordsOf.f
      rw [dims_impl _ l (by omega)]
      simp [hv]
theorem FnExactCoordsOf : laws_FnExactCoordsOf.Pure := by
  rintro l a ⟨-, -⟩ -
  by_cases h : (l.length : Int) > 1048576
  · exact ⟨0, by unfold laws_FnExactCoordsOf.f; rw [if_pos h]⟩
  · obtain ⟨v, hvl, hv⟩ := both l a (by omega)
    obtain ⟨m, hm, hm1, -⟩ := marks64 l (by omega) 1 (by omega) (by omega)
    obtain ⟨r, hr, hr1, hr2⟩ := marks64 v (by omega) 1 (by omega) (by omega)
    refine ⟨1048701, ?_⟩
    unfold laws_FnExactCoordsOf.f
    rw [if_neg h, toInt64S_eq _ l (by omega) (by omega)]
    simp only [Option.bind_some]
    rw [(hv 1048701 (by omega)).1]
    simp only [Option.bind_some]
    rw [(hv 1048701 (by omega)).2]
    simp only [Option.bind_some]
    rw [eqInt64S_eq _ v v (by omega) (by omega), eqInt64S_eq _ l l (by omega) (by omega)]
    simp only [decide_true, Option.bind_some, if_true]
    rw [hm1 1048701 (by omega)]
    simp only [Option.bind_some]
    rw [if_neg (by omega), Bool.not_true, laws_FnExactCoordsOf.j0, if_neg (by decide), hr1 1048700 (by omega)]
    simp only [Option.bind_some]
    rw [hr2 1048700 (by omega)]
    simp only [Option.bind_some]
    rw [if_neg (by omega), if_pos trivial, toInt64S_eq _ l (by omega) (by omega)]
    simp only [Option.bind_some]
    rw [(hv 1048700 (by omega)).2]
    simp only [Option.bind_some]
    rw [eqInt64S_eq _ v v (by omega) (by omega)]
    simp only [decide_true, Option.bind_some, if_true]
    rw [if_neg (by omega)]

end Go.Proofs.Ytehldidejgpifaa.Pure
