/- The plain form of FnExactResizeSpace: for all arguments the answer is true. It holds without a condition. -/
import Derived.Test.YtehldidejgpifaaPFnExactResizeSpacex8
import Derived.OpenShut
namespace Go.Proofs.Ytehldidejgpifaa.Pure
open Go Go.RowKit Go.Proofs.Ytehldidejgpifaa.PFnExactResizeSpace Go.Proofs.YtehldidejgpifaaW.PrintWords Go.Proofs.YtehldidejgpifaaW.PrintLast Go.Proofs.YtehldidejgpifaaW.PrintMore
set_option linter.unusedVariables false
set_option linter.unusedSimpArgs false

theorem wf64 {a : Int} (h : (Lit.int .i64 a).wf = true) : -9223372036854775808 ≤ a ∧ a ≤ 9223372036854775807 := Go.bounds_i64 h
theorem wrap64_id {a : Int} (h : -9223372036854775808 ≤ a) (h' : a ≤ 9223372036854775807) : wrap64 a = a := by unfold wrap64; omega
theorem count_loop {σ ρ : Type} (L : Nat → σ → Int → Option ρ) (n m : Nat) (I : Nat → σ → Prop) (R : ρ → Prop)
    (hstop : ∀ k s, m ≤ k → I n s → ∃ r, L (k + 1) s (n : Int) = some r ∧ R r)
    (hstep : ∀ k s (i : Nat), m ≤ k → i < n → I i s → (∃ s', I (i + 1) s' ∧ L (k + 1) s (i : Int) = L k s' ((i + 1 : Nat) : Int)) ∨ ∃ r, L (k + 1) s (i : Int) = some r ∧ R r)
    (k : Nat) (s : σ) (i : Nat) (hi : i ≤ n) (hk : n - i + m < k) (h : I i s) : ∃ r, L k s (i : Int) = some r ∧ R r := by
  obtain ⟨d, hd⟩ : ∃ d, d = n - i := ⟨_, rfl⟩
  induction d generalizing k s i with
  | zero =>
    obtain ⟨k, rfl⟩ : ∃ z, k = z + 1 := ⟨k - 1, by omega⟩
    obtain rfl : i = n := by omega
    exact hstop k s (by omega) h
  | succ d ih =>
    obtain ⟨k, rfl⟩ : ∃ z, k = z + 1 := ⟨k - 1, by omega⟩
    rcases hstep k s i (by omega) (by omega) h with ⟨s', h', e⟩ | h'
    · rw [e]; exact ih k s' (i + 1) (by omega) (by omega) h' (by omega)
    · exact h'
theorem w0 : wrap64 0 = 0 := by unfold wrap64; omega
theorem w1 : wrap64 1 = 1 := by unfold wrap64; omega
theorem w2 : wrap64 2 = 2 := by unfold wrap64; omega
theorem w3 : wrap64 3 = 3 := by unfold wrap64; omega
theorem rd_lt (l : List Int) (i : Nat) (h : i < l.length) : rd l (i : Int) = l[i] := by
  simp [rd, List.getD_eq_getElem?_getD, List.getElem?_eq_getElem h]
theorem rds_lt (l : List ByteArray) (i : Nat) (h : i < l.length) : rdOf ByteArray.empty l (i : Int) = l[i] := by
  simp [rdOf, List.getD_eq_getElem?_getD, List.getElem?_eq_getElem h]
theorem wrap_up (i : Nat) (h : i < 1099511627776) : wrap64 ((i : Int) + 1) = ((i + 1 : Nat) : Int) := by unfold wrap64; omega
theorem set_next {α : Type} (l out : List α) (i : Nat) (h : i < l.length) (hl : out.length = l.length) (hp : out.take i = l.take i) : (out.set i l[i]).take (i + 1) = l.take (i + 1) := by
  apply List.ext_getElem?
  intro j
  by_cases hj : j < i + 1
  · rw [List.getElem?_take_of_lt hj, List.getElem?_take_of_lt hj]
    by_cases hji : j = i
    · subst hji; rw [List.getElem?_set_self (by omega), List.getElem?_eq_getElem h]
    · rw [List.getElem?_set_ne (by omega)]
      have := congrArg (fun z => z[j]?) hp
      simpa [List.getElem?_take_of_lt (show j < i by omega)] using this
  · rw [List.getElem?_eq_none (by simp; omega), List.getElem?_eq_none (by simp; omega)]
theorem take_all {α : Type} (l out : List α) (hl : out.length = l.length) (hp : out.take l.length = l.take l.length) : out = l := by
  rwa [List.take_of_length_le (by omega), List.take_length] at hp
theorem sz64 (l : List Int) (a : Int) (h0 : 0 ≤ a) (h1 : a ≤ 1048576) (hl : l.length ≤ maxLen) : ∃ t, laws_szInt64S.f l a = some t ∧ (t < 0 ∨ (0 ≤ t ∧ (l.length : Int) + t = a)) := by
  unfold maxLen at hl
  unfold laws_szInt64S.f
  rw [wrap64_id (by omega) (by omega)]
  by_cases h : a - (l.length : Int) < 0
  · rw [if_pos h]; exact ⟨-1, rfl, .inl (by omega)⟩
  · rw [if_neg h]; exact ⟨_, rfl, .inr ⟨by omega, by omega⟩⟩
theorem szSpace (a b : List Int) (n : Int) (h0 : 0 ≤ n) (h1 : n ≤ 1048576) (ha : a.length ≤ maxLen) (hb : b.length ≤ maxLen) : ∃ t, laws_szSpace.f a b n = some t ∧ (t < 0 ∨ (0 ≤ t ∧ (a.length : Int) + b.length + t = n)) := by
  unfold laws_szSpace.f
  obtain ⟨t, e, h⟩ := sz64 a n h0 h1 ha
  rw [e]
  simp only [Option.bind_some]
  rcases h with h | ⟨h2, h3⟩
  · rw [if_pos h]; exact ⟨-1, rfl, .inl (by omega)⟩
  · rw [if_neg (by omega)]
    obtain ⟨u, e', h'⟩ := sz64 b t h2 (by omega) hb
    rw [e']
    simp only [Option.bind_some]
    rcases h' with h' | ⟨h4, h5⟩
    · rw [if_pos h']; exact ⟨-1, rfl, .inl (by omega)⟩
    · rw [if_neg (by omega)]; exact ⟨u, rfl, .inr ⟨h4, by omega⟩⟩
theorem toInt64S_eq (k : Nat) (l : List Int) (hl : l.length ≤ 1048576) (hk : l.length < k) : laws_toInt64S.f k l = some l := by
  unfold laws_toInt64S.f
  rw [if_pos (by omega), if_pos (by omega)]
  obtain ⟨r, h, rfl⟩ := count_loop (fun k s i => laws_toInt64S.l0 k l s i) l.length 0 (fun i s => s.length = l.length ∧ s.take i = l.take i) (fun r => r = l)
    (by
      rintro k s - ⟨h1, h2⟩
      exact ⟨s, by show laws_toInt64S.l0 (k + 1) l s _ = _; rw [laws_toInt64S.l0, if_neg (by omega)], take_all l s h1 h2⟩)
    (by
      rintro k s i - hi ⟨h1, h2⟩
      refine .inl ⟨s.set i l[i], ⟨by simpa using h1, set_next l s i hi h1 h2⟩, ?_⟩
      show laws_toInt64S.l0 (k + 1) l s _ = _
      rw [laws_toInt64S.l0, if_pos (by omega), if_pos (by omega), if_pos (by omega), rd_lt l i hi, wrap_up i (by omega)]
      rfl)
    k (List.replicate ((l.length : Int) : Int).toNat 0) 0 (by omega) (by omega) ⟨by simp, by simp⟩
  exact h
theorem laws_eqInt64S_eq (k : Nat) (a b : List Int) (hl : a.length ≤ 1048576) (hk : a.length < k) : laws_eqInt64S.f k a b = some (decide (a = b)) := by
  unfold laws_eqInt64S.f
  by_cases hn : (a.length : Int) = (b.length : Int)
  · rw [if_pos hn]
    obtain ⟨r, h, rfl⟩ := count_loop (fun k (_ : Unit) i => laws_eqInt64S.l0 k a b  i) a.length 0 (fun i _ => a.take i = b.take i) (fun r => r = decide (a = b))
      (by
        rintro k s - h1
        refine ⟨true, by show laws_eqInt64S.l0 (k + 1) a b  _ = _; rw [laws_eqInt64S.l0, if_neg (by omega)], ?_⟩
        have := take_all b a (by omega) (by rw [show b.length = a.length by omega]; exact h1)
        simp [this])
      (by
        rintro k s i - hi h1
        have hib : i < b.length := by omega
        by_cases he : a[i] = b[i]
        · refine .inl ⟨(), ?_, ?_⟩
          · rw [List.take_succ_eq_append_getElem hi, List.take_succ_eq_append_getElem hib, h1, he]
          · show laws_eqInt64S.l0 (k + 1) a b  _ = _
            rw [laws_eqInt64S.l0, rd_lt a i hi, rd_lt b i hib]
            repeat rw [if_pos (by omega)]
            try rw [if_pos he]
            rw [wrap_up i (by omega)]
        · refine .inr ⟨false, ?_, ?_⟩
          · show laws_eqInt64S.l0 (k + 1) a b  _ = _
            rw [laws_eqInt64S.l0, rd_lt a i hi, rd_lt b i hib]
            repeat rw [if_pos (by omega)]
            rw [if_neg he]
          · have : a ≠ b := by intro h; subst h; exact he rfl
            simp [this])
      k () 0 (by omega) (by omega) (by simp)
    exact h
  · rw [if_neg hn]
    have : a ≠ b := by intro h; subst h; exact hn rfl
    simp [this]
theorem toSpace_eq (k : Nat) (a b : List Int) (ha : a.length ≤ 1048576) (hb : b.length ≤ 1048576) (hk : 1048576 < k) : laws_toSpace.f k a b = some (a, b) := by
  unfold laws_toSpace.f
  rw [toInt64S_eq k a ha (by omega), toInt64S_eq k b hb (by omega)]
  rfl
theorem eqSpace_eq (k : Nat) (a b : List Int) (ha : a.length ≤ 1048576) (hb : b.length ≤ 1048576) (hk : 1048576 < k) : laws_eqSpace.f k a b a b = some true := by
  unfold laws_eqSpace.f
  rw [laws_eqInt64S_eq k a a ha (by omega), laws_eqInt64S_eq k b b hb (by omega)]
  simp
theorem in_eq (a b c : Int) : spec_l00In.f a b c = some (decide (b ≤ a ∧ a ≤ c)) := by
  unfold spec_l00In.f
  by_cases h : a ≥ b
  · rw [if_pos h]
    by_cases h2 : a ≤ c <;> simp [h2] <;> omega
  · rw [if_neg h]; simp; omega
theorem within_eq (a b c : Int) : impl_within.f a b c = some (decide (b ≤ a ∧ a ≤ c)) := by
  unfold impl_within.f
  by_cases h : a ≥ b
  · rw [if_pos h]
    by_cases h2 : a ≤ c <;> simp [h2] <;> omega
  · rw [if_neg h]; simp; omega
def prodL : List Int → Int := fun l => l.foldl (· * ·) 1
def VD (l : List Int) : Prop := l.length ≤ 3 ∧ (∀ x ∈ l, 0 ≤ x ∧ x ≤ 40) ∧ prodL l ≤ 600
instance (l : List Int) : Decidable (VD l) := by unfold VD; infer_instance
theorem mul_le {a b A B : Int} (ha : 0 ≤ a) (hb : 0 ≤ b) (hA : a ≤ A) (hB : b ≤ B) : 0 ≤ a * b ∧ a * b ≤ A * B :=
  ⟨Int.mul_nonneg ha hb, Int.mul_le_mul hA hB hb (by omega)⟩
theorem dims_spec (k : Nat) (l : List Int) (hk : 4 < k) : spec_l05Dims.f k l = some (decide (VD l)) := by
  unfold spec_l05Dims.f
  by_cases h3 : (l.length : Int) > 3
  · rw [if_pos h3]
    have : ¬ VD l := fun h => by have := h.1; omega
    simp [this]
  · rw [if_neg h3]
    obtain ⟨k, rfl⟩ : ∃ z, k = z + 5 := ⟨k - 5, by omega⟩
    match l, h3 with
    | [], _ => simp [spec_l05Dims.l0, VD, prodL]
    | [a], _ =>
      by_cases ha : 0 ≤ a ∧ a ≤ 40
      · simp [spec_l05Dims.l0, VD, prodL, in_eq, rd, ha, w1, wrap64_id (a := a) (by omega) (by omega)]
      · simp [spec_l05Dims.l0, VD, prodL, in_eq, rd, ha]
    | [a, b], _ =>
      by_cases ha : 0 ≤ a ∧ a ≤ 40
      · by_cases hb : 0 ≤ b ∧ b ≤ 40
        · have h1 := mul_le ha.1 hb.1 ha.2 hb.2
          simp [spec_l05Dims.l0, VD, prodL, in_eq, rd, ha, hb, wrap64_id (a := a) (by omega) (by omega), wrap64_id (a := a * b) (by omega) (by omega), w1, w2]
        · simp [spec_l05Dims.l0, VD, prodL, in_eq, rd, ha, hb, wrap64_id (a := a) (by omega) (by omega), w1]
      · simp [spec_l05Dims.l0, VD, prodL, in_eq, rd, ha]
    | [a, b, c], _ =>
      by_cases ha : 0 ≤ a ∧ a ≤ 40
      · by_cases hb : 0 ≤ b ∧ b ≤ 40
        · have h1 := mul_le ha.1 hb.1 ha.2 hb.2
          by_cases hc : 0 ≤ c ∧ c ≤ 40
          · have h2 := mul_le h1.1 hc.1 h1.2 hc.2
            simp [spec_l05Dims.l0, VD, prodL, in_eq, rd, ha, hb, hc, wrap64_id (a := a) (by omega) (by omega), wrap64_id (a := a * b) (by omega) (by omega), wrap64_id (a := a * b * c) (by omega) (by omega), w1, w2, w3]
          · simp [spec_l05Dims.l0, VD, prodL, in_eq, rd, ha, hb, hc, wrap64_id (a := a) (by omega) (by omega), wrap64_id (a := a * b) (by omega) (by omega), w1, w2]
        · simp [spec_l05Dims.l0, VD, prodL, in_eq, rd, ha, hb, wrap64_id (a := a) (by omega) (by omega), w1]
      · simp [spec_l05Dims.l0, VD, prodL, in_eq, rd, ha]
    | a :: b :: c :: d :: l, h => simp at h; omega
theorem within_all (k : Nat) (l : List Int) (a b : Int) (hl : l.length ≤ 1048576) (hk : l.length < k) : impl_allWithin.f k l a b = some (decide (∀ x ∈ l, a ≤ x ∧ x ≤ b)) := by
  unfold impl_allWithin.f slices_ContainsFunc_impl_allWithin_1.f slices_IndexFunc_impl_allWithin_1.f
  obtain ⟨r, h, hr⟩ := count_loop (fun k (_ : Unit) i => slices_IndexFunc_impl_allWithin_1.l0 k l (l.length : Int) i a b) l.length 0 (fun i _ => ∀ x ∈ l.take i, a ≤ x ∧ x ≤ b) (fun r => decide (r ≥ 0) = !decide (∀ x ∈ l, a ≤ x ∧ x ≤ b))
    (by
      rintro k s - h1
      refine ⟨-1, by show slices_IndexFunc_impl_allWithin_1.l0 (k + 1) l _ _ a b = _; rw [slices_IndexFunc_impl_allWithin_1.l0, if_neg (by omega)], ?_⟩
      rw [List.take_length] at h1
      simp [h1]
      exact h1)
    (by
      rintro k s i - hi h1
      by_cases he : a ≤ l[i] ∧ l[i] ≤ b
      · refine .inl ⟨(), ?_, ?_⟩
        · intro x hx
          rw [List.take_succ_eq_append_getElem hi, List.mem_append] at hx
          rcases hx with hx | hx
          · exact h1 x hx
          · simp at hx; subst hx; exact he
        · show slices_IndexFunc_impl_allWithin_1.l0 (k + 1) l _ _ a b = _
          rw [slices_IndexFunc_impl_allWithin_1.l0, if_pos (by omega), if_pos (by omega), if_pos (by omega), rd_lt l i hi, impl_allWithin_1.f, within_eq, wrap_up i (by omega)]
          simp [he]
      · refine .inr ⟨i, ?_, ?_⟩
        · show slices_IndexFunc_impl_allWithin_1.l0 (k + 1) l _ _ a b = _
          rw [slices_IndexFunc_impl_allWithin_1.l0, if_pos (by omega), if_pos (by omega), if_pos (by omega), rd_lt l i hi, impl_allWithin_1.f, within_eq]
          simp [he]
        · have hx : ¬ ∀ x ∈ l, a ≤ x ∧ x ≤ b := fun h => he (h _ (List.getElem_mem hi))
          simp [hx])
    k () 0 (by omega) (by omega) (by simp)
  have h' : slices_IndexFunc_impl_allWithin_1.l0 k l (l.length : Int) 0 a b = some r := h
  rw [h']
  simp [hr]
theorem dims_impl (k : Nat) (l : List Int) (hk : 4 < k) : impl_ValidDims.f k l = some (decide (VD l)) := by
  unfold impl_ValidDims.f
  by_cases h3 : (l.length : Int) ≤ 3
  · rw [if_pos h3, within_all k l 0 40 (by omega) (by omega)]
    by_cases hw : ∀ x ∈ l, 0 ≤ x ∧ x ≤ 40
    · rw [decide_eq_true hw]
      have hp : impl_product.f k l = some (prodL l) := by
        unfold impl_product.f
        obtain ⟨k, rfl⟩ : ∃ z, k = z + 5 := ⟨k - 5, by omega⟩
        match l, h3, hw with
        | [], _, _ => simp [impl_product.l0, prodL]
        | [a], _, hw =>
          have ha := hw a (by simp)
          simp [impl_product.l0, prodL, rd, w1, wrap64_id (a := a) (by omega) (by omega)]
        | [a, b], _, hw =>
          have ha := hw a (by simp)
          have hb := hw b (by simp)
          have h1 := mul_le ha.1 hb.1 ha.2 hb.2
          simp [impl_product.l0, prodL, rd, wrap64_id (a := a) (by omega) (by omega), wrap64_id (a := a * b) (by omega) (by omega), w1, w2]
        | [a, b, c], _, hw =>
          have ha := hw a (by simp)
          have hb := hw b (by simp)
          have hc := hw c (by simp)
          have h1 := mul_le ha.1 hb.1 ha.2 hb.2
          have h2 := mul_le h1.1 hc.1 h1.2 hc.2
          simp [impl_product.l0, prodL, rd, wrap64_id (a := a) (by omega) (by omega), wrap64_id (a := a * b) (by omega) (by omega), wrap64_id (a := a * b * c) (by omega) (by omega), w1, w2, w3]
        | a :: b :: c :: d :: l, h, _ => simp at h; omega
      have : VD l ↔ prodL l ≤ 600 := ⟨fun h => h.2.2, fun h => ⟨by omega, hw, h⟩⟩
      simp only [Option.bind_some, if_true, hp]
      rw [decide_eq_decide.mpr this]
    · have : ¬ VD l := fun h => hw h.2.1
      simp [hw, this]
  · rw [if_neg h3]
    have : ¬ VD l := fun h => by have := h.1; omega
    simp [this]
theorem all_loop (L : Nat → Int → Option Bool) (P : Nat → Prop) [DecidablePred P] (n m : Nat) (r : Bool)
    (hend : ∀ k, m ≤ k → L (k + 1) (n : Int) = some r) (hstep : ∀ k (i : Nat), m ≤ k → i < n → L (k + 1) (i : Int) = if P i then L k ((i + 1 : Nat) : Int) else some false) (k : Nat) (hk : n + m < k) :
    L k 0 = some (decide (∀ i, i < n → P i) && r) := by
  obtain ⟨s, h, rfl⟩ := count_loop (fun k (_ : Unit) i => L k i) n m (fun i _ => ∀ j, j < i → P j) (fun s => s = (decide (∀ i, i < n → P i) && r))
    (by
      rintro k s hm h
      exact ⟨r, hend k hm, by simp [decide_eq_true h]⟩)
    (by
      rintro k s i hm hi h
      by_cases hp : P i
      · refine .inl ⟨(), ?_, by show L (k + 1) _ = _; rw [hstep k i hm hi, if_pos hp]⟩
        intro j hj
        by_cases hji : j = i
        · subst hji; exact hp
        · exact h j (by omega)
      · refine .inr ⟨false, by show L (k + 1) _ = _; rw [hstep k i hm hi, if_neg hp], ?_⟩
        have : ¬ ∀ i, i < n → P i := fun h => hp (h i hi)
        simp [this])
    k () 0 (by omega) (by omega) (by simp)
  exact h
def look (P : Nat → Prop) [DecidablePred P] : Nat → Nat → Int
  | 0, _ => -1
  | d + 1, i => if P i then (i : Int) else look P d (i + 1)
theorem look_or (P : Nat → Prop) [DecidablePred P] (d : Nat) : ∀ i, (look P d i = -1 ∧ ∀ j, i ≤ j → j < i + d → ¬ P j) ∨ ∃ j, i ≤ j ∧ j < i + d ∧ look P d i = (j : Int) ∧ P j := by
  induction d with
  | zero => intro i; exact .inl ⟨rfl, fun j h1 h2 => by omega⟩
  | succ d ih =>
    intro i
    by_cases hp : P i
    · exact .inr ⟨i, by omega, by omega, by rw [look, if_pos hp], hp⟩
    · rw [look, if_neg hp]
      rcases ih (i + 1) with ⟨h1, h2⟩ | ⟨j, h1, h2, h3, h4⟩
      · refine .inl ⟨h1, fun j h3 h4 => ?_⟩
        by_cases hji : j = i
        · subst hji; exact hp
        · exact h2 j (by omega) (by omega)
      · exact .inr ⟨j, by omega, by omega, h3, h4⟩
theorem find_loop (L : Nat → Int → Option Int) (P : Nat → Prop) [DecidablePred P] (n m : Nat)
    (hend : ∀ k, m ≤ k → L (k + 1) (n : Int) = some (-1)) (hstep : ∀ k (i : Nat), m ≤ k → i < n → L (k + 1) (i : Int) = if P i then some (i : Int) else L k ((i + 1 : Nat) : Int)) (k : Nat) (hk : n + m < k) :
    L k 0 = some (look P n 0) := by
  have key : ∀ d k i, i + d = n → d + m < k → L k (i : Int) = some (look P d i) := by
    intro d
    induction d with
    | zero =>
      intro k i hi hk
      obtain ⟨k, rfl⟩ : ∃ z, k = z + 1 := ⟨k - 1, by omega⟩
      obtain rfl : i = n := by omega
      exact hend k (by omega)
    | succ d ih =>
      intro k i hi hk
      obtain ⟨k, rfl⟩ : ∃ z, k = z + 1 := ⟨k - 1, by omega⟩
      rw [hstep k i (by omega) (by omega), look]
      by_cases hp : P i
      · rw [if_pos hp, if_pos hp]
      · rw [if_neg hp, if_neg hp]; exact ih k (i + 1) (by omega) (by omega)
  exact key n k 0 (by omega) (by omega)
theorem getD_lt {α : Type} (l : List α) (z : α) (i : Nat) (h : i < l.length) : l.getD (i : Int).toNat z = l[i] := by
  simp [List.getD_eq_getElem?_getD, List.getElem?_eq_getElem h]
theorem flip_ite {α : Type} (c : Prop) [Decidable c] (a b : α) : (if c then b else a) = if ¬ c then a else b := by
  by_cases h : c
  · rw [if_pos h, if_neg (fun h2 => h2 h)]
  · rw [if_neg h, if_pos h]
theorem seq_loop (L : Nat → Int → Option Bool) (P : Nat → Prop) [DecidablePred P] (n : Nat)
    (hend : ∀ k, L (k + 1) (n : Int) = some true) (hstep : ∀ k (i : Nat), i < n → L (k + 1) (i : Int) = if P i then L k ((i + 1 : Nat) : Int) else some false) (k : Nat) (hk : n < k) :
    L k 0 = some (decide (∀ i, i < n → P i)) := by
  rw [all_loop L P n 0 true (fun k _ => hend k) (fun k i _ hi => hstep k i hi) k (by omega), Bool.and_true]
theorem mark64 (n : Nat) (hn : n ≤ 1048576) : ∀ (d i : Nat) (x : Int) (l : List Int), l.length = n → n - i = d → i ≤ n → 0 ≤ x → x + d ≤ 1099511627776 →
    ∃ r : List Int, r.length = n ∧ (∀ k, d < k → laws_markInt64S.l0 k l x (i : Int) = some (x + d, r)) ∧ (∀ j, j < i → r.getD j 0 = l.getD j 0) ∧ ∀ j, i ≤ j → j < n → r.getD j 0 = x + ((j - i : Nat) : Int) := by
  intro d
  induction d with
  | zero =>
    intro i x l hl hd hi h0 h1
    refine ⟨l, hl, fun k hk => ?_, fun j _ => rfl, fun j h2 h3 => by omega⟩
    obtain ⟨k, rfl⟩ : ∃ m, k = m + 1 := ⟨k - 1, by omega⟩
    rw [laws_markInt64S.l0, if_neg (by omega)]
    simp
  | succ d ih =>
    intro i x l hl hd hi h0 h1
    obtain ⟨r, hr, hk0, hlo, hhi⟩ := ih (i + 1) (x + 1) (l.set i x) (by simpa using hl) (by omega) (by omega) (by omega) (by omega)
    refine ⟨r, hr, fun k hk => ?_, fun j hj => ?_, fun j h2 h3 => ?_⟩
    · obtain ⟨k, rfl⟩ : ∃ m, k = m + 1 := ⟨k - 1, by omega⟩
      rw [laws_markInt64S.l0, if_pos (by omega), if_pos (by omega), wrap64_id (by omega) (by omega), wrap64_id (by omega) (by omega), Int.toNat_natCast, show (i : Int) + 1 = ((i + 1 : Nat) : Int) by omega, hk0 k (by omega)]
      congr 2
      omega
    · rw [hlo j (by omega)]
      simp only [List.getD_eq_getElem?_getD]
      rw [List.getElem?_set_ne (by omega)]
    · by_cases hj : j = i
      · subst hj
        rw [hlo j (by omega)]
        simp only [List.getD_eq_getElem?_getD]
        rw [List.getElem?_set_self (by omega)]
        simp
      · rw [hhi j (by omega) h3]
        omega
theorem held64 (n : Nat) (hn : n ≤ 1048576) (l : List Int) (hl : l.length = n) : ∀ (d i : Nat) (x : Int), n - i = d → i ≤ n → 0 ≤ x → x + d ≤ 1099511627776 → (∀ j, i ≤ j → j < n → l.getD j 0 = x + ((j - i : Nat) : Int)) →
    ∀ k, d < k → laws_heldInt64S.l0 k l x (i : Int) = some (x + d) := by
  intro d
  induction d with
  | zero =>
    intro i x hd hi h0 h1 hm k hk
    obtain ⟨k, rfl⟩ : ∃ m, k = m + 1 := ⟨k - 1, by omega⟩
    rw [laws_heldInt64S.l0, if_neg (by omega)]
    simp
  | succ d ih =>
    intro i x hd hi h0 h1 hm k hk
    obtain ⟨k, rfl⟩ : ∃ m, k = m + 1 := ⟨k - 1, by omega⟩
    have e : rd l (i : Int) = x := by
      have h := hm i (Nat.le_refl _) (by omega)
      rw [Nat.sub_self] at h
      simpa [rd] using h
    rw [laws_heldInt64S.l0, if_pos (by omega), if_pos (by omega), e, if_pos rfl, wrap64_id (by omega) (by omega), wrap64_id (by omega) (by omega), show (i : Int) + 1 = ((i + 1 : Nat) : Int) by omega, ih (i + 1) (x + 1) (by omega) (by omega) (by omega) (by omega) (fun j h2 h3 => by
      rw [hm j (by omega) h3]; omega) k (by omega)]
    congr 1
    omega
/-- a list that has been marked from x on, and what its marks are held against -/
theorem marks64 (l : List Int) (hl : l.length ≤ 1048576) (x : Int) (h0 : 0 ≤ x) (h1 : x ≤ 1073741824) :
    ∃ r : List Int, r.length = l.length ∧ (∀ k, 1048576 < k → laws_markInt64S.f k l x = some (x + l.length, r)) ∧ ∀ k, 1048576 < k → laws_heldInt64S.f k r x = some (x + l.length) := by
  obtain ⟨r, hr, hm, -, hv⟩ := mark64 l.length hl l.length 0 x l rfl (by omega) (by omega) h0 (by omega)
  exact ⟨r, hr, fun k hk => hm k (by omega), fun k hk => held64 l.length hl r hr l.length 0 x (by omega) (by omega) h0 (by omega) (fun j h2 h3 => hv j h2 h3) k (by omega)⟩
def PS (d m : List Int) (i : Nat) : Prop := rd m i = -1 ∨ (rd d i ≤ rd m i ∧ rd m i ≤ 40)
instance (d m : List Int) : DecidablePred (PS d m) := fun i => by unfold PS; infer_instance
def PR (d m : List Int) (i : Nat) : Prop := rd m i = -1 ∨ rd d i ≤ rd m i
instance (d m : List Int) : DecidablePred (PR d m) := fun i => by unfold PR; infer_instance
def SP (d m : List Int) : Prop := VD d ∧ m.length = d.length ∧ ∀ i, i < m.length → PS d m i
instance (d m : List Int) : Decidable (SP d m) := by unfold SP; infer_instance
theorem spec_loop (d m : List Int) (hn : m.length = d.length) (hl : m.length ≤ 1048576) (k : Nat) (hk : 1048590 ≤ k) : spec_l05Space.l0 k 0 d m = some (decide (∀ i, i < m.length → PS d m i)) :=
  seq_loop (fun k i => spec_l05Space.l0 k i d m) (PS d m) m.length
    (by intro k; show spec_l05Space.l0 (k + 1) _ d m = _; rw [spec_l05Space.l0, if_neg (by omega)])
    (by
      intro k i hi
      show spec_l05Space.l0 (k + 1) _ d m = if PS d m i then spec_l05Space.l0 k _ d m else _
      rw [spec_l05Space.l0, if_pos (by omega), if_pos (by omega), wrap_up i (by omega)]
      by_cases h1 : rd m i = -1
      · rw [if_pos h1, if_pos (show PS d m i from .inl h1)]
      · rw [if_neg h1, if_pos (by omega), in_eq]
        simp only [Option.bind_some, decide_eq_true_eq]
        by_cases h2 : rd d i ≤ rd m i ∧ rd m i ≤ 40
        · rw [if_pos h2, if_pos (show PS d m i from .inr h2)]
        · rw [if_neg h2, if_neg (show ¬ PS d m i from fun h => h.elim h1 h2)])
    k (by omega)
theorem impl_loop (d m : List Int) (hn : m.length = d.length) (hl : m.length ≤ 1048576) (k : Nat) (hk : 1048590 ≤ k) : impl_ValidSpace.l0 k m (m.length : Int) 0 d m = some (decide (∀ i, i < m.length → PS d m i)) :=
  seq_loop (fun k i => impl_ValidSpace.l0 k m (m.length : Int) i d m) (PS d m) m.length
    (by intro k; show impl_ValidSpace.l0 (k + 1) m _ _ d m = _; rw [impl_ValidSpace.l0, if_neg (by omega)])
    (by
      intro k i hi
      show impl_ValidSpace.l0 (k + 1) m _ _ d m = if PS d m i then impl_ValidSpace.l0 k m _ _ d m else _
      rw [impl_ValidSpace.l0, if_pos (by omega), if_pos (by omega), if_pos (by omega), wrap_up i (by omega)]
      by_cases h1 : rd m i = -1
      · rw [if_pos h1, if_pos (show PS d m i from .inl h1)]
      · rw [if_neg h1, if_pos (by omega), within_eq]
        simp only [Option.bind_some, decide_eq_true_eq]
        by_cases h2 : rd d i ≤ rd m i ∧ rd m i ≤ 40
        · rw [if_pos h2, if_pos (show PS d m i from .inr h2)]
        · rw [if_neg h2, if_neg (show ¬ PS d m i from fun h => h.elim h1 h2)])
    k (by omega)
theorem res_loop (d a b : List Int) (hd : d.length = b.length) (hl : d.length ≤ 1048576) (k : Nat) (hk : 1048590 ≤ k) : impl_Space_resizable.l0 k d (d.length : Int) 0 a b = some (decide (∀ i, i < d.length → PR d b i)) :=
  seq_loop (fun k i => impl_Space_resizable.l0 k d (d.length : Int) i a b) (PR d b) d.length
    (by intro k; show impl_Space_resizable.l0 (k + 1) d _ _ a b = _; rw [impl_Space_resizable.l0, if_neg (by omega)])
    (by
      intro k i hi
      show impl_Space_resizable.l0 (k + 1) d _ _ a b = if PR d b i then impl_Space_resizable.l0 k d _ _ a b else _
      rw [impl_Space_resizable.l0, if_pos (by omega), if_pos (by omega), if_pos (by omega), if_pos (by omega), wrap_up i (by omega)]
      by_cases h1 : rd b i = -1
      · rw [if_pos h1, if_pos (show PR d b i from .inl h1)]
      · rw [if_neg h1]
        by_cases h2 : rd d i ≤ rd b i
        · rw [if_neg (by omega), if_pos (show PR d b i from .inr h2)]
        · rw [if_pos (by omega), if_neg (show ¬ PR d b i from fun h => h.elim h1 h2)])
    k (by omega)
theorem space_spec (d m : List Int) (hm : m.length ≤ 1048576) (k : Nat) (hk : 1048600 ≤ k) : spec_l05Space.f k d m = some (decide (SP d m)) := by
  obtain ⟨k, rfl⟩ : ∃ z, k = z + 1 := ⟨k - 1, by omega⟩
  unfold spec_l05Space.f
  rw [dims_spec _ d (by omega)]
  by_cases hv : VD d
  · by_cases hn : m.length = d.length
    · have hn' : (m.length : Int) = (d.length : Int) := by omega
      simp only [hv, decide_true, Option.bind_some, if_true]
      rw [spec_l05Space.j0, if_neg (by simp [hn']), spec_loop d m hn hm k (by omega)]
      congr 1
      apply decide_eq_decide.2
      exact ⟨fun h => ⟨hv, hn, h⟩, fun h => h.2.2⟩
    · have hn' : ¬ (m.length : Int) = (d.length : Int) := by omega
      simp only [hv, decide_true, Option.bind_some, if_true]
      rw [spec_l05Space.j0, if_pos (by simp [hn']), decide_eq_false (show ¬ SP d m from fun h => hn h.2.1)]
  · simp only [hv, decide_false, Option.bind_some]
    rw [if_neg (by decide), spec_l05Space.j0, if_pos rfl, decide_eq_false (show ¬ SP d m from fun h => hv h.1)]
theorem space_impl (d m : List Int) (hd : d.length ≤ 1048576) (hm : m.length ≤ 1048576) (k : Nat) (hk : 1048600 ≤ k) : impl_ValidSpace.f k d m = some (decide (SP d m)) := by
  obtain ⟨k, rfl⟩ : ∃ z, k = z + 1 := ⟨k - 1, by omega⟩
  unfold impl_ValidSpace.f
  rw [dims_impl _ d (by omega)]
  by_cases hv : VD d
  · by_cases hn : m.length = d.length
    · have hn' : (m.length : Int) = (d.length : Int) := by omega
      simp only [hv, decide_true, Option.bind_some, if_true]
      rw [impl_ValidSpace.j0, if_neg (by simp [hn']), impl_loop d m hn hm k (by omega)]
      congr 1
      apply decide_eq_decide.2
      exact ⟨fun h => ⟨hv, hn, h⟩, fun h => h.2.2⟩
    · have hn' : ¬ (m.length : Int) = (d.length : Int) := by omega
      simp only [hv, decide_true, Option.bind_some, if_true]
      rw [impl_ValidSpace.j0, if_pos (by simp [hn']), decide_eq_false (show ¬ SP d m from fun h => hn h.2.1)]
  · simp only [hv, decide_false, Option.bind_some]
    rw [if_neg (by decide), impl_ValidSpace.j0, if_pos rfl, decide_eq_false (show ¬ SP d m from fun h => hv h.1)]
theorem own_eq (l : List Int) (hl : l.length ≤ 1048576) : spec_l00Own.f l = some l := by
  unfold spec_l00Own.f
  simp only [Option.bind_some]
  rw [if_pos (by simp; omega)]
  rfl
theorem clone_eq (l : List Int) (hl : l.length ≤ 1048576) : slices_Clone_int64_int64.f l = some l := by
  unfold slices_Clone_int64_int64.f slices_Clone_int64_int64_nn.f
  simp only [Option.bind_some]
  rw [if_pos (by simp; omega)]
  rfl
theorem both (a b d : List Int) (ha : a.length ≤ 1048576) (hb : b.length ≤ 1048576) (hd : d.length ≤ 1048576) :
    ∃ (p q : List Int) (e : Int), p.length ≤ 1048576 ∧ q.length ≤ 1048576 ∧ ∀ k, 1048610 ≤ k → spec_ResizeSpace.f k a b d = some (p, q, e) ∧ impl_ResizeSpace.f k a b d = some (p, q, e) := by
  by_cases hs : SP a b
  · by_cases hv : VD d
    · by_cases hr : SP d b
      · refine ⟨d, b, 0, hd, hb, fun k hk => ?_⟩
        obtain ⟨k, rfl⟩ : ∃ z, k = z + 1 := ⟨k - 1, by omega⟩
        unfold spec_ResizeSpace.f impl_ResizeSpace.f
        rw [space_spec a b hb _ (by omega), space_impl a b ha hb _ (by omega), dims_spec _ d (by omega), dims_impl _ d (by omega)]
        simp only [hs, hv, decide_true, Option.bind_some, if_true, Bool.not_true]
        rw [spec_ResizeSpace.j0, impl_ResizeSpace.j0, own_eq d hd, own_eq b hb, if_neg (by decide), if_neg (by decide)]
        simp only [Option.bind_some]
        rw [space_spec d b hb _ (by omega)]
        simp only [hr, decide_true, Option.bind_some, if_true, true_and]
        unfold impl_Space_resizable.f
        have h1 : d.length = a.length := by have := hs.2.1; have := hr.2.1; omega
        rw [if_pos (by omega), res_loop d a b (by have := hr.2.1; omega) hd k (by omega), decide_eq_true (show ∀ i, i < d.length → PR d b i from fun i hi => by
          rcases hr.2.2 i (by have := hr.2.1; omega) with h | h
          · exact .inl h
          · exact .inr h.1)]
        simp only [Option.bind_some, if_true]
        rw [clone_eq d hd, clone_eq b hb]
        rfl
      · refine ⟨[], [], 2, by simp, by simp, fun k hk => ?_⟩
        obtain ⟨k, rfl⟩ : ∃ z, k = z + 1 := ⟨k - 1, by omega⟩
        unfold spec_ResizeSpace.f impl_ResizeSpace.f
        rw [space_spec a b hb _ (by omega), space_impl a b ha hb _ (by omega), dims_spec _ d (by omega), dims_impl _ d (by omega)]
        simp only [hs, hv, decide_true, Option.bind_some, if_true, Bool.not_true]
        rw [spec_ResizeSpace.j0, impl_ResizeSpace.j0, own_eq d hd, own_eq b hb, if_neg (by decide), if_neg (by decide)]
        simp only [Option.bind_some]
        rw [space_spec d b hb _ (by omega)]
        simp only [hr, decide_false, Option.bind_some]
        rw [if_neg (by decide)]
        unfold impl_Space_resizable.f
        by_cases h1 : d.length = a.length
        · have h2 : d.length = b.length := by have := hs.2.1; omega
          rw [if_pos (by omega), res_loop d a b h2 hd k (by omega), decide_eq_false (show ¬ ∀ i, i < d.length → PR d b i from fun h => hr ⟨hv, h2.symm, fun i hi => by
            rcases h i (by omega) with h | h
            · exact .inl h
            · rcases hs.2.2 i hi with h3 | h3
              · exact .inl h3
              · exact .inr ⟨h, h3.2⟩⟩)]
          simp
        · rw [if_neg (by omega)]
          simp
    · refine ⟨[], [], 1, by simp, by simp, fun k hk => ?_⟩
      obtain ⟨k, rfl⟩ : ∃ z, k = z + 1 := ⟨k - 1, by omega⟩
      unfold spec_ResizeSpace.f impl_ResizeSpace.f
      rw [space_spec a b hb _ (by omega), space_impl a b ha hb _ (by omega), dims_spec _ d (by omega), dims_impl _ d (by omega)]
      simp only [hs, hv, decide_true, decide_false, Option.bind_some, if_true, Bool.not_false]
      rw [spec_ResizeSpace.j0, impl_ResizeSpace.j0, if_pos rfl, if_pos rfl]
      exact ⟨rfl, rfl⟩
  · refine ⟨[], [], 1, by simp, by simp, fun k hk => ?_⟩
    obtain ⟨k, rfl⟩ : ∃ z, k = z + 1 := ⟨k - 1, by omega⟩
    unfold spec_ResizeSpace.f impl_ResizeSpace.f
    rw [space_spec a b hb _ (by omega), space_impl a b ha hb _ (by omega)]
    simp only [hs, decide_false, Option.bind_some]
    rw [if_neg (by decide), if_neg (by decide), spec_ResizeSpace.j0, impl_ResizeSpace.j0, if_pos rfl, if_pos rfl]
    exact ⟨rfl, rfl⟩
theorem marksSpace (a b : List Int) (ha : a.length ≤ 1048576) (hb : b.length ≤ 1048576) :
    ∃ r s : List Int, (∀ k, 1048576 < k → laws_markSpace.f k a b 1 = some ((1 + a.length + b.length : Int), r, s)) ∧ ∀ k, 1048576 < k → laws_heldSpace.f k r s 1 = some (1 + a.length + b.length : Int) := by
  obtain ⟨r, hr, r1, r2⟩ := marks64 a ha 1 (by omega) (by omega)
  obtain ⟨s, hs, s1, s2⟩ := marks64 b hb (1 + a.length) (by omega) (by omega)
  refine ⟨r, s, fun k hk => ?_, fun k hk => ?_⟩
  · unfold laws_markSpace.f
    rw [r1 k hk]
    simp only [Option.bind_some]
    rw [s1 k hk]
    rfl
  · unfold laws_heldSpace.f
    rw [r2 k hk]
    simp only [Option.bind_some]
    rw [if_neg (by omega), s2 k hk]
    simp only [Option.bind_some]
    rw [if_neg (by omega)]
theorem FnExactResizeSpace : laws_FnExactResizeSpace.Pure := by
  rintro a b d ⟨ha, -⟩ ⟨hb, -⟩ -
  by_cases hd : (d.length : Int) > 1048576
  · exact ⟨0, by unfold laws_FnExactResizeSpace.f; rw [if_pos hd]⟩
  obtain ⟨t, e0, h⟩ := szSpace a b 1048576 (by omega) (by omega) ha hb
  rcases h with h | ⟨h1, h2⟩
  · exact ⟨0, by unfold laws_FnExactResizeSpace.f; rw [if_neg hd, e0]; simp only [Option.bind_some]; rw [if_pos h]⟩
  obtain ⟨p, q, e, hp, hq, hv⟩ := both a b d (by omega) (by omega) (by omega)
  obtain ⟨m1, m2, hm1, -⟩ := marksSpace a b (by omega) (by omega)
  obtain ⟨m3, hm3, hm4, -⟩ := marks64 d (by omega) (1 + a.length + b.length) (by omega) (by omega)
  obtain ⟨r, s, hr1, hr2⟩ := marksSpace p q hp hq
  refine ⟨1048703, ?_⟩
  unfold laws_FnExactResizeSpace.f
  rw [if_neg hd, e0]
  simp only [Option.bind_some]
  rw [if_neg (by omega), toSpace_eq _ a b (by omega) (by omega) (by omega), toInt64S_eq _ d (by omega) (by omega)]
  simp only [Option.bind_some]
  rw [(hv 1048703 (by omega)).1, (hv 1048703 (by omega)).2]
  simp only [Option.bind_some]
  rw [eqSpace_eq _ p q (by omega) (by omega) (by omega)]
  simp only [Option.bind_some, if_true, bne_self_eq_false]
  rw [laws_FnExactResizeSpace.j0, if_neg (by decide), toSpace_eq _ a b (by omega) (by omega) (by omega)]
  simp only [Option.bind_some]
  rw [eqSpace_eq _ a b (by omega) (by omega) (by omega), toInt64S_eq _ d (by omega) (by omega)]
  simp only [Option.bind_some, if_true]
  rw [laws_eqInt64S_eq _ d d (by omega) (by omega)]
  simp only [decide_true, Option.bind_some, if_true]
  rw [hm1 1048702 (by omega)]
  simp only [Option.bind_some]
  rw [hm4 1048702 (by omega)]
  simp only [Option.bind_some]
  rw [if_neg (by omega), eqSpace_eq _ p q (by omega) (by omega) (by omega)]
  simp only [Option.bind_some, if_true, bne_self_eq_false]
  rw [laws_FnExactResizeSpace.j1, if_neg (by decide), hr1 1048701 (by omega)]
  simp only [Option.bind_some]
  rw [hr2 1048701 (by omega)]
  simp only [Option.bind_some]
  rw [if_neg (by omega), if_pos trivial, toSpace_eq _ a b (by omega) (by omega) (by omega), toInt64S_eq _ d (by omega) (by omega)]
  simp only [Option.bind_some]
  rw [(hv 1048701 (by omega)).2]
  simp only [Option.bind_some]
  rw [eqSpace_eq _ p q (by omega) (by omega) (by omega)]
  simp only [Option.bind_some, if_true, bne_self_eq_false]
  rw [laws_FnExactResizeSpace.j2, if_neg (by decide), hr2 1048700 (by omega)]
  simp only [Option.bind_some]
  rw [if_neg (by omega), if_pos trivial]

end Go.Proofs.Ytehldidejgpifaa.Pure
