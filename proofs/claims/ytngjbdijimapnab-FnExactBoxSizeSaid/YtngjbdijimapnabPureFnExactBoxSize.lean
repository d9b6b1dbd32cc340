/- The plain form of FnExactBoxSize: for all arguments the answer is true. It holds without a condition. -/
import Derived.Test.YtngjbdijimapnabPFnExactBoxSizex4
import Derived.OpenShut
namespace Go.Proofs.Ytngjbdijimapnab.Pure
open Go Go.RowKit Go.Proofs.Ytngjbdijimapnab.PFnExactBoxSize Go.Proofs.YtngjbdijimapnabW.PrintWords Go.Proofs.YtngjbdijimapnabW.PrintLast Go.Proofs.YtngjbdijimapnabW.PrintMore
set_option linter.unusedVariables false
set_option linter.unusedSimpArgs false

theorem wf64 {a : Int} (h : (Lit.int .i64 a).wf = true) : -9223372036854775808 ≤ a ∧ a ≤ 9223372036854775807 := Go.bounds_i64 h
theorem wrap64_id {a : Int} (h : -9223372036854775808 ≤ a) (h' : a ≤ 9223372036854775807) : wrap64 a = a := by unfold wrap64; omega
theorem count_loop {σ ρ : Type} (L : Nat → σ → Int → Option ρ) (n m : Nat) (I : Nat → σ → Prop) (R : ρ → Prop)
    (hstop : ∀ k s, m ≤ k → I n s → ∃ r, L (k + 1) s (n : Int) = some r ∧ R r)
    (hstep : ∀ k s (i : Nat), m ≤ k → i < n → I i s → (∃ s', I (i + 1) s' ∧ L (k + 1) s (i : Int) = L k s' ((i + 1 : Nat) : Int)) ∨ ∃ r, L (k + 1) s (i : Int) = some r ∧ R r)
    (k : Nat) (s : σ) (i : Nat) (hi : i ≤ n) (hk : n - i + m < k) (h : I i s) : ∃ r, L k s (i : Int) = some r ∧ R r := by
  obtain ⟨d, hd⟩ : ∃ d, d = n - i := ⟨_, rfl⟩
  induction d generalizing k s i with
  | zero =>
    obtain ⟨k, rfl⟩ : ∃ z, k = z + 1 := ⟨k - 1, by omega⟩
    obtain rfl : i = n := by omega
    exact hstop k s (by omega) h
  | succ d ih =>
    obtain ⟨k, rfl⟩ : ∃ z, k = z + 1 := ⟨k - 1, by omega⟩
    rcases hstep k s i (by omega) (by omega) h with ⟨s', h', e⟩ | h'
    · rw [e]; exact ih k s' (i + 1) (by omega) (by omega) h' (by omega)
    · exact h'
theorem w0 : wrap64 0 = 0 := by unfold wrap64; omega
theorem w1 : wrap64 1 = 1 := by unfold wrap64; omega
theorem w2 : wrap64 2 = 2 := by unfold wrap64; omega
theorem w3 : wrap64 3 = 3 := by unfold wrap64; omega
theorem rd_lt (l : List Int) (i : Nat) (h : i < l.length) : rd l (i : Int) = l[i] := by
  simp [rd, List.getD_eq_getElem?_getD, List.getElem?_eq_getElem h]
theorem rds_lt (l : List ByteArray) (i : Nat) (h : i < l.length) : rdOf ByteArray.empty l (i : Int) = l[i] := by
  simp [rdOf, List.getD_eq_getElem?_getD, List.getElem?_eq_getElem h]
theorem wrap_up (i : Nat) (h : i < 1099511627776) : wrap64 ((i : Int) + 1) = ((i + 1 : Nat) : Int) := by unfold wrap64; omega
theorem set_next {α : Type} (l out : List α) (i : Nat) (h : i < l.length) (hl : out.length = l.length) (hp : out.take i = l.take i) : (out.set i l[i]).take (i + 1) = l.take (i + 1) := by
  apply List.ext_getElem?
  intro j
  by_cases hj : j < i + 1
  · rw [List.getElem?_take_of_lt hj, List.getElem?_take_of_lt hj]
    by_cases hji : j = i
    · subst hji; rw [List.getElem?_set_self (by omega), List.getElem?_eq_getElem h]
    · rw [List.getElem?_set_ne (by omega)]
      have := congrArg (fun z => z[j]?) hp
      simpa [List.getElem?_take_of_lt (show j < i by omega)] using this
  · rw [List.getElem?_eq_none (by simp; omega), List.getElem?_eq_none (by simp; omega)]
theorem take_all {α : Type} (l out : List α) (hl : out.length = l.length) (hp : out.take l.length = l.take l.length) : out = l := by
  rwa [List.take_of_length_le (by omega), List.take_length] at hp
theorem sz64 (l : List Int) (a : Int) (h0 : 0 ≤ a) (h1 : a ≤ 1048576) (hl : l.length ≤ maxLen) : ∃ t, laws_szInt64S.f l a = some t ∧ (t < 0 ∨ (0 ≤ t ∧ (l.length : Int) + t = a)) := by
  unfold maxLen at hl
  unfold laws_szInt64S.f
  rw [wrap64_id (by omega) (by omega)]
  by_cases h : a - (l.length : Int) < 0
  · rw [if_pos h]; exact ⟨-1, rfl, .inl (by omega)⟩
  · rw [if_neg h]; exact ⟨_, rfl, .inr ⟨by omega, by omega⟩⟩
theorem szBox (a b : List Int) (n : Int) (h0 : 0 ≤ n) (h1 : n ≤ 1048576) (ha : a.length ≤ maxLen) (hb : b.length ≤ maxLen) : ∃ t, laws_szBox.f a b n = some t ∧ (t < 0 ∨ (0 ≤ t ∧ (a.length : Int) + b.length + t = n)) := by
  unfold laws_szBox.f
  obtain ⟨t, e, h⟩ := sz64 a n h0 h1 ha
  rw [e]
  simp only [Option.bind_some]
  rcases h with h | ⟨h2, h3⟩
  · rw [if_pos h]; exact ⟨-1, rfl, .inl (by omega)⟩
  · rw [if_neg (by omega)]
    obtain ⟨u, e', h'⟩ := sz64 b t h2 (by omega) hb
    rw [e']
    simp only [Option.bind_some]
    rcases h' with h' | ⟨h4, h5⟩
    · rw [if_pos h']; exact ⟨-1, rfl, .inl (by omega)⟩
    · rw [if_neg (by omega)]; exact ⟨u, rfl, .inr ⟨h4, by omega⟩⟩
theorem toInt64S_eq (k : Nat) (l : List Int) (hl : l.length ≤ 1048576) (hk : l.length < k) : laws_toInt64S.f k l = some l := by
  unfold laws_toInt64S.f
  rw [if_pos (by omega), if_pos (by omega)]
  obtain ⟨r, h, rfl⟩ := count_loop (fun k s i => laws_toInt64S.l0 k l s i) l.length 0 (fun i s => s.length = l.length ∧ s.take i = l.take i) (fun r => r = l)
    (by
      rintro k s - ⟨h1, h2⟩
      exact ⟨s, by show laws_toInt64S.l0 (k + 1) l s _ = _; rw [laws_toInt64S.l0, if_neg (by omega)], take_all l s h1 h2⟩)
    (by
      rintro k s i - hi ⟨h1, h2⟩
      refine .inl ⟨s.set i l[i], ⟨by simpa using h1, set_next l s i hi h1 h2⟩, ?_⟩
      show laws_toInt64S.l0 (k + 1) l s _ = _
      rw [laws_toInt64S.l0, if_pos (by omega), if_pos (by omega), if_pos (by omega), rd_lt l i hi, wrap_up i (by omega)]
      rfl)
    k (List.replicate ((l.length : Int) : Int).toNat 0) 0 (by omega) (by omega) ⟨by simp, by simp⟩
  exact h
theorem laws_eqInt64S_eq (k : Nat) (a b : List Int) (hl : a.length ≤ 1048576) (hk : a.length < k) : laws_eqInt64S.f k a b = some (decide (a = b)) := by
  unfold laws_eqInt64S.f
  by_cases hn : (a.length : Int) = (b.length : Int)
  · rw [if_pos hn]
    obtain ⟨r, h, rfl⟩ := count_loop (fun k (_ : Unit) i => laws_eqInt64S.l0 k a b  i) a.length 0 (fun i _ => a.take i = b.take i) (fun r => r = decide (a = b))
      (by
        rintro k s - h1
        refine ⟨true, by show laws_eqInt64S.l0 (k + 1) a b  _ = _; rw [laws_eqInt64S.l0, if_neg (by omega)], ?_⟩
        have := take_all b a (by omega) (by rw [show b.length = a.length by omega]; exact h1)
        simp [this])
      (by
        rintro k s i - hi h1
        have hib : i < b.length := by omega
        by_cases he : a[i] = b[i]
        · refine .inl ⟨(), ?_, ?_⟩
          · rw [List.take_succ_eq_append_getElem hi, List.take_succ_eq_append_getElem hib, h1, he]
          · show laws_eqInt64S.l0 (k + 1) a b  _ = _
            rw [laws_eqInt64S.l0, rd_lt a i hi, rd_lt b i hib]
            repeat rw [if_pos (by omega)]
            try rw [if_pos he]
            rw [wrap_up i (by omega)]
        · refine .inr ⟨false, ?_, ?_⟩
          · show laws_eqInt64S.l0 (k + 1) a b  _ = _
            rw [laws_eqInt64S.l0, rd_lt a i hi, rd_lt b i hib]
            repeat rw [if_pos (by omega)]
            rw [if_neg he]
          · have : a ≠ b := by intro h; subst h; exact he rfl
            simp [this])
      k () 0 (by omega) (by omega) (by simp)
    exact h
  · rw [if_neg hn]
    have : a ≠ b := by intro h; subst h; exact hn rfl
    simp [this]
theorem toBox_eq (k : Nat) (a b : List Int) (ha : a.length ≤ 1048576) (hb : b.length ≤ 1048576) (hk : 1048576 < k) : laws_toBox.f k a b = some (a, b) := by
  unfold laws_toBox.f
  rw [toInt64S_eq k a ha (by omega), toInt64S_eq k b hb (by omega)]
  rfl
theorem eqBox_eq (k : Nat) (a b : List Int) (ha : a.length ≤ 1048576) (hb : b.length ≤ 1048576) (hk : 1048576 < k) : laws_eqBox.f k a b a b = some true := by
  unfold laws_eqBox.f
  rw [laws_eqInt64S_eq k a a ha (by omega), laws_eqInt64S_eq k b b hb (by omega)]
  simp
theorem in_eq (a b c : Int) : spec_l00In.f a b c = some (decide (b ≤ a ∧ a ≤ c)) := by
  unfold spec_l00In.f
  by_cases h : a ≥ b
  · rw [if_pos h]
    by_cases h2 : a ≤ c <;> simp [h2] <;> omega
  · rw [if_neg h]; simp; omega
def BoxAt (a b : List Int) (i : Nat) : Prop := 0 ≤ rd a i ∧ rd a i < rd b i ∧ rd b i ≤ 40
instance (a b : List Int) (i : Nat) : Decidable (BoxAt a b i) := by unfold BoxAt; infer_instance
def VBox (a b : List Int) : Prop := a.length ≤ 3 ∧ b.length = a.length ∧ ∀ i, i < a.length → BoxAt a b i
instance (a b : List Int) : Decidable (VBox a b) := by unfold VBox; infer_instance
theorem all_step {P : Nat → Prop} {i : Nat} (h : ∀ j, j < i → P j) (hi : P i) : ∀ j, j < i + 1 → P j := fun j hj => by
  by_cases e : j = i
  · subst e; exact hi
  · exact h j (by omega)
theorem box_spec (k : Nat) (a b : List Int) (hk : 10 < k) : spec_l07Box.f k a b = some (decide (VBox a b)) := by
  obtain ⟨k, rfl⟩ : ∃ z, k = z + 1 := ⟨k - 1, by omega⟩
  unfold spec_l07Box.f
  by_cases h3 : (a.length : Int) > 3
  · rw [if_pos h3, spec_l07Box.j0, if_pos rfl]
    have : ¬ VBox a b := fun h => by have := h.1; omega
    simp [this]
  rw [if_neg h3, spec_l07Box.j0]
  by_cases hn : b.length = a.length
  · rw [if_neg (by simp [hn])]
    obtain ⟨r, h, rfl⟩ := count_loop (fun k (_ : Unit) i => spec_l07Box.l0 k i a b) a.length 0 (fun i _ => ∀ j, j < i → BoxAt a b j) (fun r => r = decide (VBox a b))
      (by
        rintro k - - h1
        refine ⟨true, by show spec_l07Box.l0 (k + 1) _ a b = _; rw [spec_l07Box.l0, if_neg (by omega)], ?_⟩
        have : VBox a b := ⟨by omega, hn, h1⟩
        simp [this])
      (by
        rintro k - i - hi h1
        have e : spec_l07Box.l0 (k + 1) (i : Int) a b = if BoxAt a b i then spec_l07Box.l0 k ((i + 1 : Nat) : Int) a b else some false := by
          rw [spec_l07Box.l0, if_pos (by omega), if_pos (by omega), if_pos (by omega), in_eq]
          simp only [Option.bind_some, decide_eq_true_eq, in_eq]
          rw [wrap_up i (by omega)]
          by_cases c1 : 1 ≤ rd b i ∧ rd b i ≤ 40
          · rw [if_pos c1, wrap64_id (by omega) (by omega)]
            by_cases c2 : 0 ≤ rd a i ∧ rd a i ≤ rd b i - 1
            · rw [if_pos c2, if_pos (show BoxAt a b i from ⟨c2.1, by omega, c1.2⟩)]
            · rw [if_neg c2, if_neg (fun h => c2 ⟨h.1, by have := h.2.1; omega⟩)]
          · rw [if_neg c1, if_neg (fun h => c1 ⟨by have := h.1; have := h.2.1; omega, h.2.2⟩)]
        by_cases c : BoxAt a b i
        · exact .inl ⟨(), all_step h1 c, by show spec_l07Box.l0 (k + 1) _ a b = _; rw [e, if_pos c]⟩
        · refine .inr ⟨false, by show spec_l07Box.l0 (k + 1) _ a b = _; rw [e, if_neg c], ?_⟩
          have : ¬ VBox a b := fun h => c (h.2.2 i hi)
          simp [this])
      k () 0 (by omega) (by omega) (fun j hj => by omega)
    exact h
  · rw [if_pos (by simp; omega)]
    have : ¬ VBox a b := fun h => hn h.2.1
    simp [this]
theorem box_impl (k : Nat) (a b : List Int) (hk : 10 < k) : impl_ValidBox.f k a b = some (decide (VBox a b)) := by
  obtain ⟨k, rfl⟩ : ∃ z, k = z + 1 := ⟨k - 1, by omega⟩
  unfold impl_ValidBox.f
  by_cases hn : (a.length : Int) = (b.length : Int)
  · rw [if_pos hn, impl_ValidBox.j0]
    by_cases h3 : (a.length : Int) > 3
    · rw [if_pos (by simpa using h3)]
      have : ¬ VBox a b := fun h => by have := h.1; omega
      simp [this]
    · rw [if_neg (by simpa using h3)]
      obtain ⟨r, h, rfl⟩ := count_loop (fun k (_ : Unit) i => impl_ValidBox.l0 k a (a.length : Int) i a b) a.length 0 (fun i _ => ∀ j, j < i → BoxAt a b j) (fun r => r = decide (VBox a b))
        (by
          rintro k - - h1
          refine ⟨true, by show impl_ValidBox.l0 (k + 1) a _ _ a b = _; rw [impl_ValidBox.l0, if_neg (by omega)], ?_⟩
          have : VBox a b := ⟨by omega, by omega, h1⟩
          simp [this])
        (by
          rintro k - i - hi h1
          have e : impl_ValidBox.l0 (k + 1) a (a.length : Int) (i : Int) a b = if BoxAt a b i then impl_ValidBox.l0 k a (a.length : Int) ((i + 1 : Nat) : Int) a b else some false := by
            rw [impl_ValidBox.l0, if_pos (by omega), if_pos (by omega), if_pos (by omega), wrap_up i (by omega)]
            by_cases c1 : rd a i < 0
            · rw [if_pos c1, if_neg (fun h => by have := h.1; omega)]
            · rw [if_neg c1, if_pos (by omega)]
              by_cases c2 : rd a i ≥ rd b i
              · rw [if_pos c2, if_neg (fun h => by have := h.2.1; omega)]
              · rw [if_neg c2]
                by_cases c3 : rd b i > 40
                · rw [if_pos c3, if_neg (fun h => by have := h.2.2; omega)]
                · rw [if_neg c3, if_pos (show BoxAt a b i from ⟨by omega, by omega, by omega⟩)]
          by_cases c : BoxAt a b i
          · exact .inl ⟨(), all_step h1 c, by show impl_ValidBox.l0 (k + 1) a _ _ a b = _; rw [e, if_pos c]⟩
          · refine .inr ⟨false, by show impl_ValidBox.l0 (k + 1) a _ _ a b = _; rw [e, if_neg c], ?_⟩
            have : ¬ VBox a b := fun h => c (h.2.2 i hi)
            simp [this])
        k () 0 (by omega) (by omega) (fun j hj => by omega)
      exact h
  · rw [if_neg hn, impl_ValidBox.j0, if_pos rfl]
    have : ¬ VBox a b := fun h => by have := h.2.1; omega
    simp [this]
theorem size_eq (a b : List Int) (hv : VBox a b) : ∀ (e k i : Nat) (acc : Int), a.length - i = e → e < k → ∃ r, spec_l07Size.l0 k acc i a b = some r ∧ impl_BoxSize.l0 k acc a (a.length : Int) i a b = some r := by
  have hn := hv.2.1
  have h3 := hv.1
  intro e
  induction e with
  | zero =>
    intro k i acc he hk
    obtain ⟨k, rfl⟩ : ∃ z, k = z + 1 := ⟨k - 1, by omega⟩
    exact ⟨acc, by rw [spec_l07Size.l0, if_neg (by omega)], by rw [impl_BoxSize.l0, if_neg (by omega)]⟩
  | succ e ih =>
    intro k i acc he hk
    obtain ⟨k, rfl⟩ : ∃ z, k = z + 1 := ⟨k - 1, by omega⟩
    obtain ⟨r, h1, h2⟩ := ih k (i + 1) (wrap64 (acc * (wrap64 ((rd b i) - (rd a i))))) (by omega) (by omega)
    refine ⟨r, ?_, ?_⟩
    · rw [spec_l07Size.l0, if_pos (by omega), if_pos (by omega), if_pos (by omega), wrap_up i (by omega)]; exact h1
    · rw [impl_BoxSize.l0, if_pos (by omega), if_pos (by omega), if_pos (by omega), if_pos (by omega), wrap_up i (by omega)]; exact h2
theorem FnExactBoxSize : laws_FnExactBoxSize.Pure := by
  rintro a b ⟨ha, -⟩ ⟨hb, -⟩
  obtain ⟨t, e, h⟩ := szBox a b 1048576 (by omega) (by omega) ha hb
  rcases h with h | ⟨h1, h2⟩
  · exact ⟨0, by unfold laws_FnExactBoxSize.f; rw [e]; simp only [Option.bind_some]; rw [if_pos h]⟩
  refine ⟨1048600, ?_⟩
  have key : ∃ r, spec_BoxSize.f 1048600 a b = some r ∧ impl_BoxSize.f 1048600 a b = some r := by
    unfold spec_BoxSize.f impl_BoxSize.f spec_l07Size.f
    rw [box_spec _ a b (by omega), box_impl _ a b (by omega)]
    by_cases hv : VBox a b
    · obtain ⟨r, k1, k2⟩ := size_eq a b hv a.length 1048600 0 1 (by omega) (by have := hv.1; omega)
      have k1' : spec_l07Size.l0 1048600 1 0 a b = some r := k1
      have k2' : impl_BoxSize.l0 1048600 1 a (a.length : Int) 0 a b = some r := k2
      simp only [hv, decide_true, Option.bind_some, if_true, k1', k2']
      exact ⟨r, rfl, rfl⟩
    · exact ⟨0, by simp [hv], by simp [hv]⟩
  obtain ⟨r, k1, k2⟩ := key
  unfold laws_FnExactBoxSize.f
  rw [e]
  simp only [Option.bind_some]
  rw [if_neg (by omega), toBox_eq _ a b (by omega) (by omega) (by omega)]
  simp only [Option.bind_some]
  rw [k1, k2]
  simp only [Option.bind_some, if_true]
  rw [eqBox_eq _ a b (by omega) (by omega) (by omega)]
  simp

end Go.Proofs.Ytngjbdijimapnab.Pure
