/- The plain form of FnExactCutBox: for all arguments the answer is true. It holds without a condition. -/
import Derived.Test.YtlfjepcmlgfogaaPFnExactCutBoxx9
import Derived.OpenShut
namespace Go.Proofs.Ytlfjepcmlgfogaa.Pure
open Go Go.RowKit Go.Proofs.Ytlfjepcmlgfogaa.PFnExactCutBox Go.Proofs.YtlfjepcmlgfogaaW.PrintWords Go.Proofs.YtlfjepcmlgfogaaW.PrintLast
set_option linter.unusedVariables false
set_option linter.unusedSimpArgs false

theorem wf64 {a : Int} (h : (Lit.int .i64 a).wf = true) : -9223372036854775808 ≤ a ∧ a ≤ 9223372036854775807 := Go.bounds_i64 h
theorem wrap64_id {a : Int} (h : -9223372036854775808 ≤ a) (h' : a ≤ 9223372036854775807) : wrap64 a = a := by unfold wrap64; omega
theorem count_loop {σ ρ : Type} (L : Nat → σ → Int → Option ρ) (n m : Nat) (I : Nat → σ → Prop) (R : ρ → Prop)
    (hstop : ∀ k s, m ≤ k → I n s → ∃ r, L (k + 1) s (n : Int) = some r ∧ R r)
    (hstep : ∀ k s (i : Nat), m ≤ k → i < n → I i s → (∃ s', I (i + 1) s' ∧ L (k + 1) s (i : Int) = L k s' ((i + 1 : Nat) : Int)) ∨ ∃ r, L (k + 1) s (i : Int) = some r ∧ R r)
    (k : Nat) (s : σ) (i : Nat) (hi : i ≤ n) (hk : n - i + m < k) (h : I i s) : ∃ r, L k s (i : Int) = some r ∧ R r := by
  obtain ⟨d, hd⟩ : ∃ d, d = n - i := ⟨_, rfl⟩
  induction d generalizing k s i with
  | zero =>
    obtain ⟨k, rfl⟩ : ∃ z, k = z + 1 := ⟨k - 1, by omega⟩
    obtain rfl : i = n := by omega
    exact hstop k s (by omega) h
  | succ d ih =>
    obtain ⟨k, rfl⟩ : ∃ z, k = z + 1 := ⟨k - 1, by omega⟩
    rcases hstep k s i (by omega) (by omega) h with ⟨s', h', e⟩ | h'
    · rw [e]; exact ih k s' (i + 1) (by omega) (by omega) h' (by omega)
    · exact h'
theorem w0 : wrap64 0 = 0 := by unfold wrap64; omega
theorem w1 : wrap64 1 = 1 := by unfold wrap64; omega
theorem w2 : wrap64 2 = 2 := by unfold wrap64; omega
theorem w3 : wrap64 3 = 3 := by unfold wrap64; omega
theorem rd_lt (l : List Int) (i : Nat) (h : i < l.length) : rd l (i : Int) = l[i] := by
  simp [rd, List.getD_eq_getElem?_getD, List.getElem?_eq_getElem h]
theorem rds_lt (l : List ByteArray) (i : Nat) (h : i < l.length) : rdOf ByteArray.empty l (i : Int) = l[i] := by
  simp [rdOf, List.getD_eq_getElem?_getD, List.getElem?_eq_getElem h]
theorem wrap_up (i : Nat) (h : i < 1099511627776) : wrap64 ((i : Int) + 1) = ((i + 1 : Nat) : Int) := by unfold wrap64; omega
theorem set_next {α : Type} (l out : List α) (i : Nat) (h : i < l.length) (hl : out.length = l.length) (hp : out.take i = l.take i) : (out.set i l[i]).take (i + 1) = l.take (i + 1) := by
  apply List.ext_getElem?
  intro j
  by_cases hj : j < i + 1
  · rw [List.getElem?_take_of_lt hj, List.getElem?_take_of_lt hj]
    by_cases hji : j = i
    · subst hji; rw [List.getElem?_set_self (by omega), List.getElem?_eq_getElem h]
    · rw [List.getElem?_set_ne (by omega)]
      have := congrArg (fun z => z[j]?) hp
      simpa [List.getElem?_take_of_lt (show j < i by omega)] using this
  · rw [List.getElem?_eq_none (by simp; omega), List.getElem?_eq_none (by simp; omega)]
theorem take_all {α : Type} (l out : List α) (hl : out.length = l.length) (hp : out.take l.length = l.take l.length) : out = l := by
  rwa [List.take_of_length_le (by omega), List.take_length] at hp
theorem sz64 (l : List Int) (a : Int) (h0 : 0 ≤ a) (h1 : a ≤ 1048576) (hl : l.length ≤ maxLen) : ∃ t, laws_szInt64S.f l a = some t ∧ (t < 0 ∨ (0 ≤ t ∧ (l.length : Int) + t = a)) := by
  unfold maxLen at hl
  unfold laws_szInt64S.f
  rw [wrap64_id (by omega) (by omega)]
  by_cases h : a - (l.length : Int) < 0
  · rw [if_pos h]; exact ⟨-1, rfl, .inl (by omega)⟩
  · rw [if_neg h]; exact ⟨_, rfl, .inr ⟨by omega, by omega⟩⟩
theorem szBox (a b : List Int) (n : Int) (h0 : 0 ≤ n) (h1 : n ≤ 1048576) (ha : a.length ≤ maxLen) (hb : b.length ≤ maxLen) : ∃ t, laws_szBox.f a b n = some t ∧ (t < 0 ∨ (0 ≤ t ∧ (a.length : Int) + b.length + t = n)) := by
  unfold laws_szBox.f
  obtain ⟨t, e, h⟩ := sz64 a n h0 h1 ha
  rw [e]
  simp only [Option.bind_some]
  rcases h with h | ⟨h2, h3⟩
  · rw [if_pos h]; exact ⟨-1, rfl, .inl (by omega)⟩
  · rw [if_neg (by omega)]
    obtain ⟨u, e', h'⟩ := sz64 b t h2 (by omega) hb
    rw [e']
    simp only [Option.bind_some]
    rcases h' with h' | ⟨h4, h5⟩
    · rw [if_pos h']; exact ⟨-1, rfl, .inl (by omega)⟩
    · rw [if_neg (by omega)]; exact ⟨u, rfl, .inr ⟨h4, by omega⟩⟩
theorem toInt64S_eq (k : Nat) (l : List Int) (hl : l.length ≤ 1048576) (hk : l.length < k) : laws_toInt64S.f k l = some l := by
  unfold laws_toInt64S.f
  rw [if_pos (by omega), if_pos (by omega)]
  obtain ⟨r, h, rfl⟩ := count_loop (fun k s i => laws_toInt64S.l0 k l s i) l.length 0 (fun i s => s.length = l.length ∧ s.take i = l.take i) (fun r => r = l)
    (by
      rintro k s - ⟨h1, h2⟩
      exact ⟨s, by show laws_toInt64S.l0 (k + 1) l s _ = _; rw [laws_toInt64S.l0, if_neg (by omega)], take_all l s h1 h2⟩)
    (by
      rintro k s i - hi ⟨h1, h2⟩
      refine .inl ⟨s.set i l[i], ⟨by simpa using h1, set_next l s i hi h1 h2⟩, ?_⟩
      show laws_toInt64S.l0 (k + 1) l s _ = _
      rw [laws_toInt64S.l0, if_pos (by omega), if_pos (by omega), if_pos (by omega), rd_lt l i hi, wrap_up i (by omega)]
      rfl)
    k (List.replicate ((l.length : Int) : Int).toNat 0) 0 (by omega) (by omega) ⟨by simp, by simp⟩
  exact h
theorem laws_eqInt64S_eq (k : Nat) (a b : List Int) (hl : a.length ≤ 1048576) (hk : a.length < k) : laws_eqInt64S.f k a b = some (decide (a = b)) := by
  unfold laws_eqInt64S.f
  by_cases hn : (a.length : Int) = (b.length : Int)
  · rw [if_pos hn]
    obtain ⟨r, h, rfl⟩ := count_loop (fun k (_ : Unit) i => laws_eqInt64S.l0 k a b  i) a.length 0 (fun i _ => a.take i = b.take i) (fun r => r = decide (a = b))
      (by
        rintro k s - h1
        refine ⟨true, by show laws_eqInt64S.l0 (k + 1) a b  _ = _; rw [laws_eqInt64S.l0, if_neg (by omega)], ?_⟩
        have := take_all b a (by omega) (by rw [show b.length = a.length by omega]; exact h1)
        simp [this])
      (by
        rintro k s i - hi h1
        have hib : i < b.length := by omega
        by_cases he : a[i] = b[i]
        · refine .inl ⟨(), ?_, ?_⟩
          · rw [List.take_succ_eq_append_getElem hi, List.take_succ_eq_append_getElem hib, h1, he]
          · show laws_eqInt64S.l0 (k + 1) a b  _ = _
            rw [laws_eqInt64S.l0, rd_lt a i hi, rd_lt b i hib]
            repeat rw [if_pos (by omega)]
            try rw [if_pos he]
            rw [wrap_up i (by omega)]
        · refine .inr ⟨false, ?_, ?_⟩
          · show laws_eqInt64S.l0 (k + 1) a b  _ = _
            rw [laws_eqInt64S.l0, rd_lt a i hi, rd_lt b i hib]
            repeat rw [if_pos (by omega)]
            rw [if_neg he]
          · have : a ≠ b := by intro h; subst h; exact he rfl
            simp [this])
      k () 0 (by omega) (by omega) (by simp)
    exact h
  · rw [if_neg hn]
    have : a ≠ b := by intro h; subst h; exact hn rfl
    simp [this]
theorem toBox_eq (k : Nat) (a b : List Int) (ha : a.length ≤ 1048576) (hb : b.length ≤ 1048576) (hk : 1048576 < k) : laws_toBox.f k a b = some (a, b) := by
  unfold laws_toBox.f
  rw [toInt64S_eq k a ha (by omega), toInt64S_eq k b hb (by omega)]
  rfl
theorem eqBox_eq (k : Nat) (a b : List Int) (ha : a.length ≤ 1048576) (hb : b.length ≤ 1048576) (hk : 1048576 < k) : laws_eqBox.f k a b a b = some true := by
  unfold laws_eqBox.f
  rw [laws_eqInt64S_eq k a a ha (by omega), laws_eqInt64S_eq k b b hb (by omega)]
  simp
theorem in_eq (a b c : Int) : spec_l00In.f a b c = some (decide (b ≤ a ∧ a ≤ c)) := by
  unfold spec_l00In.f
  by_cases h : a ≥ b
  · rw [if_pos h]
    by_cases h2 : a ≤ c <;> simp [h2] <;> omega
  · rw [if_neg h]; simp; omega
def BoxAt (a b : List Int) (i : Nat) : Prop := 0 ≤ rd a i ∧ rd a i < rd b i ∧ rd b i ≤ 40
instance (a b : List Int) (i : Nat) : Decidable (BoxAt a b i) := by unfold BoxAt; infer_instance
def VBox (a b : List Int) : Prop := a.length ≤ 3 ∧ b.length = a.length ∧ ∀ i, i < a.length → BoxAt a b i
instance (a b : List Int) : Decidable (VBox a b) := by unfold VBox; infer_instance
theorem all_step {P : Nat → Prop} {i : Nat} (h : ∀ j, j < i → P j) (hi : P i) : ∀ j, j < i + 1 → P j := fun j hj => by
  by_cases e : j = i
  · subst e; exact hi
  · exact h j (by omega)
theorem box_spec (k : Nat) (a b : List Int) (hk : 10 < k) : spec_l07Box.f k a b = some (decide (VBox a b)) := by
  obtain ⟨k, rfl⟩ : ∃ z, k = z + 1 := ⟨k - 1, by omega⟩
  unfold spec_l07Box.f
  by_cases h3 : (a.length : Int) > 3
  · rw [if_pos h3, spec_l07Box.j0, if_pos rfl]
    have : ¬ VBox a b := fun h => by have := h.1; omega
    simp [this]
  rw [if_neg h3, spec_l07Box.j0]
  by_cases hn : b.length = a.length
  · rw [if_neg (by simp [hn])]
    obtain ⟨r, h, rfl⟩ := count_loop (fun k (_ : Unit) i => spec_l07Box.l0 k i a b) a.length 0 (fun i _ => ∀ j, j < i → BoxAt a b j) (fun r => r = decide (VBox a b))
      (by
        rintro k - - h1
        refine ⟨true, by show spec_l07Box.l0 (k + 1) _ a b = _; rw [spec_l07Box.l0, if_neg (by omega)], ?_⟩
        have : VBox a b := ⟨by omega, hn, h1⟩
        simp [this])
      (by
        rintro k - i - hi h1
        have e : spec_l07Box.l0 (k + 1) (i : Int) a b = if BoxAt a b i then spec_l07Box.l0 k ((i + 1 : Nat) : Int) a b else some false := by
          rw [spec_l07Box.l0, if_pos (by omega), if_pos (by omega), if_pos (by omega), in_eq]
          simp only [Option.bind_some, decide_eq_true_eq, in_eq]
          rw [wrap_up i (by omega)]
          by_cases c1 : 1 ≤ rd b i ∧ rd b i ≤ 40
          · rw [if_pos c1, wrap64_id (by omega) (by omega)]
            by_cases c2 : 0 ≤ rd a i ∧ rd a i ≤ rd b i - 1
            · rw [if_pos c2, if_pos (show BoxAt a b i from ⟨c2.1, by omega, c1.2⟩)]
            · rw [if_neg c2, if_neg (fun h => c2 ⟨h.1, by have := h.2.1; omega⟩)]
          · rw [if_neg c1, if_neg (fun h => c1 ⟨by have := h.1; have := h.2.1; omega, h.2.2⟩)]
        by_cases c : BoxAt a b i
        · exact .inl ⟨(), all_step h1 c, by show spec_l07Box.l0 (k + 1) _ a b = _; rw [e, if_pos c]⟩
        · refine .inr ⟨false, by show spec_l07Box.l0 (k + 1) _ a b = _; rw [e, if_neg c], ?_⟩
          have : ¬ VBox a b := fun h => c (h.2.2 i hi)
          simp [this])
      k () 0 (by omega) (by omega) (fun j hj => by omega)
    exact h
  · rw [if_pos (by simp; omega)]
    have : ¬ VBox a b := fun h => hn h.2.1
    simp [this]
theorem box_impl (k : Nat) (a b : List Int) (hk : 10 < k) : impl_ValidBox.f k a b = some (decide (VBox a b)) := by
  obtain ⟨k, rfl⟩ : ∃ z, k = z + 1 := ⟨k - 1, by omega⟩
  unfold impl_ValidBox.f
  by_cases hn : (a.length : Int) = (b.length : Int)
  · rw [if_pos hn, impl_ValidBox.j0]
    by_cases h3 : (a.length : Int) > 3
    · rw [if_pos (by simpa using h3)]
      have : ¬ VBox a b := fun h => by have := h.1; omega
      simp [this]
    · rw [if_neg (by simpa using h3)]
      obtain ⟨r, h, rfl⟩ := count_loop (fun k (_ : Unit) i => impl_ValidBox.l0 k a (a.length : Int) i a b) a.length 0 (fun i _ => ∀ j, j < i → BoxAt a b j) (fun r => r = decide (VBox a b))
        (by
          rintro k - - h1
          refine ⟨true, by show impl_ValidBox.l0 (k + 1) a _ _ a b = _; rw [impl_ValidBox.l0, if_neg (by omega)], ?_⟩
          have : VBox a b := ⟨by omega, by omega, h1⟩
          simp [this])
        (by
          rintro k - i - hi h1
          have e : impl_ValidBox.l0 (k + 1) a (a.length : Int) (i : Int) a b = if BoxAt a b i then impl_ValidBox.l0 k a (a.length : Int) ((i + 1 : Nat) : Int) a b else some false := by
            rw [impl_ValidBox.l0, if_pos (by omega), if_pos (by omega), if_pos (by omega), wrap_up i (by omega)]
            by_cases c1 : rd a i < 0
            · rw [if_pos c1, if_neg (fun h => by have := h.1; omega)]
            · rw [if_neg c1, if_pos (by omega)]
              by_cases c2 : rd a i ≥ rd b i
              · rw [if_pos c2, if_neg (fun h => by have := h.2.1; omega)]
              · rw [if_neg c2]
                by_cases c3 : rd b i > 40
                · rw [if_pos c3, if_neg (fun h => by have := h.2.2; omega)]
                · rw [if_neg c3, if_pos (show BoxAt a b i from ⟨by omega, by omega, by omega⟩)]
          by_cases c : BoxAt a b i
          · exact .inl ⟨(), all_step h1 c, by show impl_ValidBox.l0 (k + 1) a _ _ a b = _; rw [e, if_pos c]⟩
          · refine .inr ⟨false, by show impl_ValidBox.l0 (k + 1) a _ _ a b = _; rw [e, if_neg c], ?_⟩
            have : ¬ VBox a b := fun h => c (h.2.2 i hi)
            simp [this])
        k () 0 (by omega) (by omega) (fun j hj => by omega)
      exact h
  · rw [if_neg hn, impl_ValidBox.j0, if_pos rfl]
    have : ¬ VBox a b := fun h => by have := h.2.1; omega
    simp [this]
theorem mark64 (n : Nat) (hn : n ≤ 1048576) : ∀ (d i : Nat) (x : Int) (l : List Int), l.length = n → n - i = d → i ≤ n → 0 ≤ x → x + d ≤ 1099511627776 →
    ∃ r : List Int, r.length = n ∧ (∀ k, d < k → laws_markInt64S.l0 k l x (i : Int) = some (x + d, r)) ∧ (∀ j, j < i → r.getD j 0 = l.getD j 0) ∧ ∀ j, i ≤ j → j < n → r.getD j 0 = x + ((j - i : Nat) : Int) := by
  intro d
  induction d with
  | zero =>
    intro i x l hl hd hi h0 h1
    refine ⟨l, hl, fun k hk => ?_, fun j _ => rfl, fun j h2 h3 => by omega⟩
    obtain ⟨k, rfl⟩ : ∃ m, k = m + 1 := ⟨k - 1, by omega⟩
    rw [laws_markInt64S.l0, if_neg (by omega)]
    simp
  | succ d ih =>
    intro i x l hl hd hi h0 h1
    obtain ⟨r, hr, hk0, hlo, hhi⟩ := ih (i + 1) (x + 1) (l.set i x) (by simpa using hl) (by omega) (by omega) (by omega) (by omega)
    refine ⟨r, hr, fun k hk => ?_, fun j hj => ?_, fun j h2 h3 => ?_⟩
    · obtain ⟨k, rfl⟩ : ∃ m, k = m + 1 := ⟨k - 1, by omega⟩
      rw [laws_markInt64S.l0, if_pos (by omega), if_pos (by omega), wrap64_id (by omega) (by omega), wrap64_id (by omega) (by omega), Int.toNat_natCast, show (i : Int) + 1 = ((i + 1 : Nat) : Int) by omega, hk0 k (by omega)]
      congr 2
      omega
    · rw [hlo j (by omega)]
      simp only [List.getD_eq_getElem?_getD]
      rw [List.getElem?_set_ne (by omega)]
    · by_cases hj : j = i
      · subst hj
        rw [hlo j (by omega)]
        simp only [List.getD_eq_getElem?_getD]
        rw [List.getElem?_set_self (by omega)]
        simp
      · rw [hhi j (by omega) h3]
        omega
theorem held64 (n : Nat) (hn : n ≤ 1048576) (l : List Int) (hl : l.length = n) : ∀ (d i : Nat) (x : Int), n - i = d → i ≤ n → 0 ≤ x → x + d ≤ 1099511627776 → (∀ j, i ≤ j → j < n → l.getD j 0 = x + ((j - i : Nat) : Int)) →
    ∀ k, d < k → laws_heldInt64S.l0 k l x (i : Int) = some (x + d) := by
  intro d
  induction d with
  | zero =>
    intro i x hd hi h0 h1 hm k hk
    obtain ⟨k, rfl⟩ : ∃ m, k = m + 1 := ⟨k - 1, by omega⟩
    rw [laws_heldInt64S.l0, if_neg (by omega)]
    simp
  | succ d ih =>
    intro i x hd hi h0 h1 hm k hk
    obtain ⟨k, rfl⟩ : ∃ m, k = m + 1 := ⟨k - 1, by omega⟩
    have e : rd l (i : Int) = x := by
      have h := hm i (Nat.le_refl _) (by omega)
      rw [Nat.sub_self] at h
      simpa [rd] using h
    rw [laws_heldInt64S.l0, if_pos (by omega), if_pos (by omega), e, if_pos rfl, wrap64_id (by omega) (by omega), wrap64_id (by omega) (by omega), show (i : Int) + 1 = ((i + 1 : Nat) : Int) by omega, ih (i + 1) (x + 1) (by omega) (by omega) (by omega) (by omega) (fun j h2 h3 => by
      rw [hm j (by omega) h3]; omega) k (by omega)]
    congr 1
    omega
/-- a list that has been marked from x on, and what its marks are held against -/
theorem marks64 (l : List Int) (hl : l.length ≤ 1048576) (x : Int) (h0 : 0 ≤ x) (h1 : x ≤ 1073741824) :
    ∃ r : List Int, r.length = l.length ∧ (∀ k, 1048576 < k → laws_markInt64S.f k l x = some (x + l.length, r)) ∧ ∀ k, 1048576 < k → laws_heldInt64S.f k r x = some (x + l.length) := by
  obtain ⟨r, hr, hm, -, hv⟩ := mark64 l.length hl l.length 0 x l rfl (by omega) (by omega) h0 (by omega)
  exact ⟨r, hr, fun k hk => hm k (by omega), fun k hk => held64 l.length hl r hr l.length 0 x (by omega) (by omega) h0 (by omega) (fun j h2 h3 => hv j h2 h3) k (by omega)⟩
theorem max_eq (x y : Int) : spec_l00Max.f x y = some (mx x y) := by
  unfold spec_l00Max.f mx
  split <;> split <;> first | rfl | (congr 1; omega)
theorem min_eq (x y : Int) : spec_l00Min.f x y = some (mn x y) := by
  unfold spec_l00Min.f mn
  split <;> split <;> first | rfl | (congr 1; omega)
theorem mx_le (x y z : Int) (hx : z ≤ x) : z ≤ mx x y := by unfold mx; split <;> omega
theorem mn_le (x y z : Int) (hx : x ≤ z) : mn x y ≤ z := by unfold mn; split <;> omega
def mxL (a c : List Int) (i : Nat) : List Int := (List.range i).map fun (j : Nat) => mx (rd a (j : Int)) (rd c (j : Int))
def mnL (b d : List Int) (i : Nat) : List Int := (List.range i).map fun (j : Nat) => mn (rd b (j : Int)) (rd d (j : Int))
theorem mxL_succ (a c : List Int) (i : Nat) : mxL a c (i + 1) = mxL a c i ++ [mx (rd a (i : Int)) (rd c (i : Int))] := by simp [mxL, List.range_succ]
theorem mnL_succ (b d : List Int) (i : Nat) : mnL b d (i + 1) = mnL b d i ++ [mn (rd b (i : Int)) (rd d (i : Int))] := by simp [mnL, List.range_succ]
theorem mxL_len (a c : List Int) (i : Nat) : (mxL a c i).length = i := by simp [mxL]
theorem mnL_len (b d : List Int) (i : Nat) : (mnL b d i).length = i := by simp [mnL]
theorem mxL_rd (a c : List Int) (n j : Nat) (h : j < n) : rd (mxL a c n) (j : Int) = mx (rd a (j : Int)) (rd c (j : Int)) := by
  rw [rd_lt _ j (by rw [mxL_len]; exact h)]
  simp [mxL]
theorem mnL_rd (b d : List Int) (n j : Nat) (h : j < n) : rd (mnL b d n) (j : Int) = mn (rd b (j : Int)) (rd d (j : Int)) := by
  rw [rd_lt _ j (by rw [mnL_len]; exact h)]
  simp [mnL]
def CutOk (a b c d : List Int) : Prop := ∀ j, j < a.length → mx (rd a (j : Int)) (rd c (j : Int)) < mn (rd b (j : Int)) (rd d (j : Int))
instance (a b c d : List Int) : Decidable (CutOk a b c d) := by unfold CutOk; infer_instance
abbrev cutV (a b c d : List Int) : Option (List Int × List Int × Bool) := if CutOk a b c d then some (mxL a c a.length, mnL b d a.length, true) else some (([] : List Int), ([] : List Int), false)
theorem cut_spec (a b c d : List Int) (h1 : VBox a b) (h2 : VBox c d) (hn : c.length = a.length) : ∀ (e i k : Nat), i + e = a.length → e + 20 < k → (∀ j, j < i → mx (rd a (j : Int)) (rd c (j : Int)) < mn (rd b (j : Int)) (rd d (j : Int))) →
    spec_CutBox.l0 k (i : Int) a b c d (mxL a c i) (mnL b d i) = cutV a b c d := by
  have hb := h1.2.1
  have hd := h2.2.1
  have h3 := h1.1
  intro e
  induction e with
  | zero =>
    intro i k hi hk hj
    obtain ⟨k, rfl⟩ : ∃ m, k = m + 1 := ⟨k - 1, by omega⟩
    have hi' : i = a.length := by omega
    subst hi'
    rw [spec_CutBox.l0, if_neg (by omega)]
    unfold cutV
    rw [if_pos (show CutOk a b c d from hj)]
  | succ e ih =>
    intro i k hi hk hj
    obtain ⟨k, rfl⟩ : ∃ m, k = m + 1 := ⟨k - 1, by omega⟩
    rw [spec_CutBox.l0, if_pos (by omega), if_pos (by omega), if_pos (by omega), max_eq]
    simp only [Option.bind_some]
    rw [if_pos (by omega), if_pos (by omega), min_eq]
    simp only [Option.bind_some]
    by_cases h : mx (rd a (i : Int)) (rd c (i : Int)) < mn (rd b (i : Int)) (rd d (i : Int))
    · rw [if_neg (by omega), if_pos (by rw [mxL_len]; omega), if_pos (by rw [mnL_len]; omega), wrap_up i (by omega), ← mxL_succ, ← mnL_succ]
      exact ih (i + 1) k (by omega) (by omega) (all_step hj h)
    · rw [if_pos (by omega)]
      unfold cutV
      rw [if_neg (fun q => h (q i (by omega)))]
theorem vbox_cut (a b c d : List Int) (h1 : VBox a b) (h2 : VBox c d) (hn : c.length = a.length) : VBox (mxL a c a.length) (mnL b d a.length) ↔ CutOk a b c d := by
  constructor
  · intro h j hj
    have := (h.2.2 j (by rw [mxL_len]; exact hj)).2.1
    rwa [mxL_rd _ _ _ _ hj, mnL_rd _ _ _ _ hj] at this
  · intro h
    refine ⟨by rw [mxL_len]; exact h1.1, by rw [mxL_len, mnL_len], fun j hj => ?_⟩
    rw [mxL_len] at hj
    unfold BoxAt
    rw [mxL_rd _ _ _ _ hj, mnL_rd _ _ _ _ hj]
    have q1 := h1.2.2 j hj
    exact ⟨mx_le _ _ _ q1.1, h j hj, mn_le _ _ _ q1.2.2⟩
theorem cut_impl (a b c d : List Int) (h1 : VBox a b) (h2 : VBox c d) (hn : c.length = a.length) : ∀ (e i k : Nat), i + e = a.length → e + 20 < k →
    impl_CutBox.l0 k (a.length : Int) (i : Int) a b c d (mxL a c i) (mnL b d i) = cutV a b c d := by
  have hb := h1.2.1
  have hd := h2.2.1
  have h3 := h1.1
  intro e
  induction e with
  | zero =>
    intro i k hi hk
    obtain ⟨k, rfl⟩ : ∃ m, k = m + 1 := ⟨k - 1, by omega⟩
    have hi' : i = a.length := by omega
    subst hi'
    rw [impl_CutBox.l0, if_neg (by omega), box_impl k _ _ (by omega)]
    simp only [Option.bind_some, decide_eq_true_eq]
    unfold cutV
    by_cases h : CutOk a b c d
    · rw [if_pos h, if_pos ((vbox_cut a b c d h1 h2 hn).2 h)]
    · rw [if_neg h, if_neg (fun q => h ((vbox_cut a b c d h1 h2 hn).1 q))]
  | succ e ih =>
    intro i k hi hk
    obtain ⟨k, rfl⟩ : ∃ m, k = m + 1 := ⟨k - 1, by omega⟩
    rw [impl_CutBox.l0, if_pos (by omega), if_pos (by omega), if_pos (by omega), if_pos (by omega), if_pos (by rw [mxL_len]; omega), if_pos (by omega), if_pos (by omega), if_pos (by rw [mnL_len]; omega), wrap_up i (by omega), ← mxL_succ, ← mnL_succ]
    exact ih (i + 1) k (by omega) (by omega)
theorem both (a b c d : List Int) : ∃ (l h : List Int) (o : Bool), l.length ≤ 3 ∧ h.length ≤ 3 ∧ ∀ k, 100 ≤ k → spec_CutBox.f k a b c d = some (l, h, o) ∧ impl_CutBox.f k a b c d = some (l, h, o) := by
  by_cases h1 : VBox a b
  · by_cases h2 : VBox c d
    · by_cases hn : c.length = a.length
      · have hS : ∀ k, 100 ≤ k → spec_CutBox.f k a b c d = cutV a b c d := by
          intro k hk
          obtain ⟨k, rfl⟩ : ∃ z, k = z + 1 := ⟨k - 1, by omega⟩
          unfold spec_CutBox.f
          rw [box_spec _ _ _ (by omega), box_spec _ _ _ (by omega), decide_eq_true h1, decide_eq_true h2]
          simp only [Option.bind_some, if_true]
          have := h1.1
          rw [spec_CutBox.j0, if_neg (by simp [hn])]
          exact cut_spec a b c d h1 h2 hn a.length 0 k (by omega) (by omega) (by intro j hj; omega)
        have hI : ∀ k, 100 ≤ k → impl_CutBox.f k a b c d = cutV a b c d := by
          intro k hk
          obtain ⟨k, rfl⟩ : ∃ z, k = z + 1 := ⟨k - 1, by omega⟩
          unfold impl_CutBox.f
          rw [box_impl _ _ _ (by omega), box_impl _ _ _ (by omega), decide_eq_true h1, decide_eq_true h2]
          simp only [Option.bind_some, if_true]
          have := h1.1
          rw [impl_CutBox.j0, if_neg (by simp [hn])]
          exact cut_impl a b c d h1 h2 hn a.length 0 k (by omega) (by omega)
        by_cases h : CutOk a b c d
        · refine ⟨mxL a c a.length, mnL b d a.length, true, by rw [mxL_len]; exact h1.1, by rw [mnL_len]; exact h1.1, fun k hk => ?_⟩
          rw [hS k hk, hI k hk]
          unfold cutV
          rw [if_pos h]
          exact ⟨rfl, rfl⟩
        · refine ⟨[], [], false, by simp, by simp, fun k hk => ?_⟩
          rw [hS k hk, hI k hk]
          unfold cutV
          rw [if_neg h]
          exact ⟨rfl, rfl⟩
      · refine ⟨[], [], false, by simp, by simp, fun k hk => ?_⟩
        obtain ⟨k, rfl⟩ : ∃ z, k = z + 1 := ⟨k - 1, by omega⟩
        unfold spec_CutBox.f impl_CutBox.f
        rw [box_spec _ _ _ (by omega), box_spec _ _ _ (by omega), box_impl _ _ _ (by omega), box_impl _ _ _ (by omega), decide_eq_true h1, decide_eq_true h2]
        simp only [Option.bind_some, if_true]
        rw [spec_CutBox.j0, impl_CutBox.j0, if_pos (by simp; omega), if_pos (by simp; omega)]
        exact ⟨rfl, rfl⟩
    · refine ⟨[], [], false, by simp, by simp, fun k hk => ?_⟩
      obtain ⟨k, rfl⟩ : ∃ z, k = z + 1 := ⟨k - 1, by omega⟩
      unfold spec_CutBox.f impl_CutBox.f
      rw [box_spec _ _ _ (by omega), box_spec _ _ _ (by omega), box_impl _ _ _ (by omega), box_impl _ _ _ (by omega), decide_eq_true h1, decide_eq_false h2]
      simp only [Option.bind_some, if_true, Bool.false_eq_true, if_false]
      rw [spec_CutBox.j0, impl_CutBox.j0, if_pos rfl, if_pos rfl]
      exact ⟨rfl, rfl⟩
  · refine ⟨[], [], false, by simp, by simp, fun k hk => ?_⟩
    obtain ⟨k, rfl⟩ : ∃ z, k = z + 1 := ⟨k - 1, by omega⟩
    unfold spec_CutBox.f impl_CutBox.f
    rw [box_spec _ _ _ (by omega), box_impl _ _ _ (by omega), decide_eq_false h1]
    simp only [Option.bind_some, Bool.false_eq_true, if_false]
    rw [spec_CutBox.j0, impl_CutBox.j0, if_pos rfl, if_pos rfl]
    exact ⟨rfl, rfl⟩
theorem marks_box (p q : List Int) (hp : p.length ≤ 1048576) (hq : q.length ≤ 1048576) (x : Int) (h0 : 0 ≤ x) (h1 : x ≤ 10000000) :
    ∃ r s : List Int, (∀ k, 1048576 < k → laws_markBox.f k p q x = some (x + p.length + q.length, r, s)) ∧ ∀ k, 1048576 < k → laws_heldBox.f k r s x = some (x + p.length + q.length) := by
  obtain ⟨r, -, m1, n1⟩ := marks64 p hp x h0 (by omega)
  obtain ⟨s, -, m2, n2⟩ := marks64 q hq (x + p.length) (by omega) (by omega)
  refine ⟨r, s, fun k hk => ?_, fun k hk => ?_⟩
  · unfold laws_markBox.f
    rw [m1 k hk]
    simp only [Option.bind_some]
    rw [m2 k hk]
    rfl
  · unfold laws_heldBox.f
    rw [n1 k hk]
    simp only [Option.bind_some]
    rw [if_neg (by omega), n2 k hk]
    simp only [Option.bind_some]
    rw [if_neg (by omega)]
theorem FnExactCutBox : laws_FnExactCutBox.Pure := by
  rintro a b c d ⟨ha, -⟩ ⟨hb, -⟩ ⟨hc, -⟩ ⟨hd, -⟩
  obtain ⟨t, e, h⟩ := szBox a b 1048576 (by omega) (by omega) ha hb
  rcases h with h | ⟨h1, h2⟩
  · exact ⟨0, by unfold laws_FnExactCutBox.f; rw [e]; simp only [Option.bind_some]; rw [if_pos h]⟩
  obtain ⟨u, e', h'⟩ := szBox c d t h1 (by omega) hc hd
  rcases h' with h' | ⟨h3, h4⟩
  · exact ⟨0, by unfold laws_FnExactCutBox.f; rw [e]; simp only [Option.bind_some]; rw [if_neg (by omega), e']; simp only [Option.bind_some]; rw [if_pos h']⟩
  obtain ⟨l, m, o, hl, hm, hv⟩ := both a b c d
  have TA := fun k (hk : 1048576 < k) => toBox_eq k a b (by omega) (by omega) hk
  have TC := fun k (hk : 1048576 < k) => toBox_eq k c d (by omega) (by omega) hk
  have EA := fun k (hk : 1048576 < k) => eqBox_eq k a b (by omega) (by omega) hk
  have EC := fun k (hk : 1048576 < k) => eqBox_eq k c d (by omega) (by omega) hk
  have EL := fun k (hk : 1048576 < k) => eqBox_eq k l m (by omega) (by omega) hk
  obtain ⟨r1, s1, M1, -⟩ := marks_box a b (by omega) (by omega) 1 (by omega) (by omega)
  obtain ⟨r2, s2, M2, -⟩ := marks_box c d (by omega) (by omega) (1 + a.length + b.length) (by omega) (by omega)
  obtain ⟨r3, s3, M3, N3⟩ := marks_box l m (by omega) (by omega) 1 (by omega) (by omega)
  refine ⟨1048700, ?_⟩
  unfold laws_FnExactCutBox.f
  rw [e]
  simp only [Option.bind_some]
  rw [if_neg (by omega), e']
  simp only [Option.bind_some]
  rw [if_neg (by omega), TA 1048700 (by omega), TC 1048700 (by omega)]
  simp only [Option.bind_some]
  rw [(hv 1048700 (by omega)).1, (hv 1048700 (by omega)).2]
  simp only [Option.bind_some]
  rw [EL 1048700 (by omega)]
  simp only [Option.bind_some, if_true, bne_self_eq_false]
  rw [laws_FnExactCutBox.j0, if_neg (by decide), TA 1048699 (by omega)]
  simp only [Option.bind_some]
  rw [EA 1048699 (by omega)]
  simp only [Option.bind_some, if_true]
  rw [TC 1048699 (by omega)]
  simp only [Option.bind_some]
  rw [EC 1048699 (by omega)]
  simp only [Option.bind_some, if_true]
  rw [M1 1048699 (by omega)]
  simp only [Option.bind_some]
  rw [M2 1048699 (by omega)]
  simp only [Option.bind_some]
  rw [if_neg (by omega), EL 1048699 (by omega)]
  simp only [Option.bind_some, if_true, bne_self_eq_false]
  rw [laws_FnExactCutBox.j1, if_neg (by decide), M3 1048698 (by omega)]
  simp only [Option.bind_some]
  rw [N3 1048698 (by omega)]
  simp only [Option.bind_some]
  rw [if_neg (by omega), if_pos trivial, TA 1048698 (by omega)]
  simp only [Option.bind_some]
  rw [TC 1048698 (by omega)]
  simp only [Option.bind_some]
  rw [(hv 1048698 (by omega)).2]
  simp only [Option.bind_some]
  rw [EL 1048698 (by omega)]
  simp only [Option.bind_some, if_true, bne_self_eq_false]
  rw [laws_FnExactCutBox.j2, if_neg (by decide), N3 1048697 (by omega)]
  simp only [Option.bind_some]
  rw [if_neg (by omega), if_pos trivial]

end Go.Proofs.Ytlfjepcmlgfogaa.Pure
