/- The plain form of FnRanges: for all arguments the answer is true. It holds without a condition. -/
import Derived.Test.YtgpkkplabnliiaaPFnRangesx15
import Derived.OpenShut
namespace Go.Proofs.Ytgpkkplabnliiaa.Pure
open Go Go.RowKit Go.Proofs.Ytgpkkplabnliiaa.PFnRanges Go.Proofs.YtgpkkplabnliiaaW.PrintWords Go.Proofs.YtgpkkplabnliiaaW.PrintLast
set_option linter.unusedVariables false
set_option linter.unusedSimpArgs false

theorem wrap64_id {a : Int} (h : -9223372036854775808 ≤ a) (h' : a ≤ 9223372036854775807) : wrap64 a = a := by unfold wrap64; omega
theorem count_loop {σ ρ : Type} (L : Nat → σ → Int → Option ρ) (n m : Nat) (I : Nat → σ → Prop) (R : ρ → Prop)
 (hstop : ∀ k s, m ≤ k → I n s → ∃ r, L (k + 1) s (n : Int) = some r ∧ R r)
 (hstep : ∀ k s (i : Nat), m ≤ k → i < n → I i s → (∃ s', I (i + 1) s' ∧ L (k + 1) s (i : Int) = L k s' ((i + 1 : Nat) : Int)) ∨ ∃ r, L (k + 1) s (i : Int) = some r ∧ R r)
 (k : Nat) (s : σ) (i : Nat) (hi : i ≤ n) (hk : n - i + m < k) (h : I i s) : ∃ r, L k s (i : Int) = some r ∧ R r := by
 obtain ⟨d, hd⟩ : ∃ d, d = n - i := ⟨_, rfl⟩
 induction d generalizing k s i with
 | zero =>
  obtain ⟨k, rfl⟩ : ∃ z, k = z + 1 := ⟨k - 1, by omega⟩
  obtain rfl : i = n := by omega
  exact hstop k s (by omega) h
 | succ d ih =>
  obtain ⟨k, rfl⟩ : ∃ z, k = z + 1 := ⟨k - 1, by omega⟩
  rcases hstep k s i (by omega) (by omega) h with ⟨s', h', e⟩ | h'
  · rw [e]; exact ih k s' (i + 1) (by omega) (by omega) h' (by omega)
  · exact h'
theorem w0 : wrap64 0 = 0 := by unfold wrap64; omega
theorem w1 : wrap64 1 = 1 := by unfold wrap64; omega
theorem w2 : wrap64 2 = 2 := by unfold wrap64; omega
theorem w3 : wrap64 3 = 3 := by unfold wrap64; omega
theorem rd_lt (l : List Int) (i : Nat) (h : i < l.length) : rd l (i : Int) = l[i] := by
 simp [rd, List.getD_eq_getElem?_getD, List.getElem?_eq_getElem h]
theorem wrap_up (i : Nat) (h : i < 1099511627776) : wrap64 ((i : Int) + 1) = ((i + 1 : Nat) : Int) := by unfold wrap64; omega
theorem in_eq (a b c : Int) : spec_l00In.f a b c = some (decide (b ≤ a ∧ a ≤ c)) := by
 unfold spec_l00In.f
 by_cases h : a ≥ b
 · rw [if_pos h]
   by_cases h2 : a ≤ c <;> simp [h2] <;> omega
 · rw [if_neg h]; simp; omega
def BoxAt (a b : List Int) (i : Nat) : Prop := 0 ≤ rd a i ∧ rd a i < rd b i ∧ rd b i ≤ 40
instance (a b : List Int) (i : Nat) : Decidable (BoxAt a b i) := by unfold BoxAt; infer_instance
def VBox (a b : List Int) : Prop := a.length ≤ 3 ∧ b.length = a.length ∧ ∀ i, i < a.length → BoxAt a b i
instance (a b : List Int) : Decidable (VBox a b) := by unfold VBox; infer_instance
theorem all_step {P : Nat → Prop} {i : Nat} (h : ∀ j, j < i → P j) (hi : P i) : ∀ j, j < i + 1 → P j := fun j hj => by
 by_cases e : j = i
 · subst e; exact hi
 · exact h j (by omega)
theorem box_impl (k : Nat) (a b : List Int) (hk : 10 < k) : impl_ValidBox.f k a b = some (decide (VBox a b)) := by
 obtain ⟨k, rfl⟩ : ∃ z, k = z + 1 := ⟨k - 1, by omega⟩
 unfold impl_ValidBox.f
 by_cases hn : (a.length : Int) = (b.length : Int)
 ·
  rw [if_pos hn, impl_ValidBox.j0]
  by_cases h3 : (a.length : Int) > 3
  · rw [if_pos (by simpa using h3)]
    have : ¬ VBox a b := fun h => by have := h.1; omega
    simp [this]
  ·
   rw [if_neg (by simpa using h3)]
   obtain ⟨r, h, rfl⟩ := count_loop (fun k (_ : Unit) i => impl_ValidBox.l0 k a (a.length : Int) i a b) a.length 0 (fun i _ => ∀ j, j < i → BoxAt a b j) (fun r => r = decide (VBox a b))
    (by
     rintro k - - h1
     refine ⟨true, by show impl_ValidBox.l0 (k + 1) a _ _ a b = _; rw [impl_ValidBox.l0, if_neg (by omega)], ?_⟩
     have : VBox a b := ⟨by omega, by omega, h1⟩
     simp [this])
    (by
     rintro k - i - hi h1
     have e : impl_ValidBox.l0 (k + 1) a (a.length : Int) (i : Int) a b = if BoxAt a b i then impl_ValidBox.l0 k a (a.length : Int) ((i + 1 : Nat) : Int) a b else some false := by
      rw [impl_ValidBox.l0, if_pos (by omega), if_pos (by omega), if_pos (by omega), wrap_up i (by omega)]
      by_cases c1 : rd a i < 0
      · rw [if_pos c1, if_neg (fun h => by have := h.1; omega)]
      · rw [if_neg c1, if_pos (by omega)]
        by_cases c2 : rd a i ≥ rd b i
        · rw [if_pos c2, if_neg (fun h => by have := h.2.1; omega)]
        · rw [if_neg c2]
          by_cases c3 : rd b i > 40
          · rw [if_pos c3, if_neg (fun h => by have := h.2.2; omega)]
          · rw [if_neg c3, if_pos (show BoxAt a b i from ⟨by omega, by omega, by omega⟩)]
     by_cases c : BoxAt a b i
     · exact .inl ⟨(), all_step h1 c, by show impl_ValidBox.l0 (k + 1) a _ _ a b = _; rw [e, if_pos c]⟩
     · refine .inr ⟨false, by show impl_ValidBox.l0 (k + 1) a _ _ a b = _; rw [e, if_neg c], ?_⟩
       have : ¬ VBox a b := fun h => c (h.2.2 i hi)
       simp [this])
    k () 0 (by omega) (by omega) (fun j hj => by omega)
   exact h
 · rw [if_neg hn, impl_ValidBox.j0, if_pos rfl]
   have : ¬ VBox a b := fun h => by have := h.2.1; omega
   simp [this]
theorem within_eq (a b c : Int) : impl_within.f a b c = some (decide (b ≤ a ∧ a ≤ c)) := by
 unfold impl_within.f
 by_cases h : a ≥ b
 · rw [if_pos h]
   by_cases h2 : a ≤ c <;> simp [h2] <;> omega
 · rw [if_neg h]; simp; omega
def prodL : List Int → Int := fun l => l.foldl (· * ·) 1
def VD (l : List Int) : Prop := l.length ≤ 3 ∧ (∀ x ∈ l, 0 ≤ x ∧ x ≤ 40) ∧ prodL l ≤ 600
instance (l : List Int) : Decidable (VD l) := by unfold VD; infer_instance
theorem mul_le {a b A B : Int} (ha : 0 ≤ a) (hb : 0 ≤ b) (hA : a ≤ A) (hB : b ≤ B) : 0 ≤ a * b ∧ a * b ≤ A * B :=
 ⟨Int.mul_nonneg ha hb, Int.mul_le_mul hA hB hb (by omega)⟩
theorem dims_spec (k : Nat) (l : List Int) (hk : 4 < k) : spec_l05Dims.f k l = some (decide (VD l)) := by
 unfold spec_l05Dims.f
 by_cases h3 : (l.length : Int) > 3
 · rw [if_pos h3]
   have : ¬ VD l := fun h => by have := h.1; omega
   simp [this]
 ·
  rw [if_neg h3]
  obtain ⟨k, rfl⟩ : ∃ z, k = z + 5 := ⟨k - 5, by omega⟩
  match l, h3 with
  | [], _ => simp [spec_l05Dims.l0, VD, prodL]
  | [a], _ =>
   by_cases ha : 0 ≤ a ∧ a ≤ 40
   · simp [spec_l05Dims.l0, VD, prodL, in_eq, rd, ha, w1, wrap64_id (a := a) (by omega) (by omega)]
   · simp [spec_l05Dims.l0, VD, prodL, in_eq, rd, ha]
  | [a, b], _ =>
   by_cases ha : 0 ≤ a ∧ a ≤ 40
   · by_cases hb : 0 ≤ b ∧ b ≤ 40
     · have h1 := mul_le ha.1 hb.1 ha.2 hb.2
       simp [spec_l05Dims.l0, VD, prodL, in_eq, rd, ha, hb, wrap64_id (a := a) (by omega) (by omega), wrap64_id (a := a * b) (by omega) (by omega), w1, w2]
     · simp [spec_l05Dims.l0, VD, prodL, in_eq, rd, ha, hb, wrap64_id (a := a) (by omega) (by omega), w1]
   · simp [spec_l05Dims.l0, VD, prodL, in_eq, rd, ha]
  | [a, b, c], _ =>
   by_cases ha : 0 ≤ a ∧ a ≤ 40
   · by_cases hb : 0 ≤ b ∧ b ≤ 40
     · have h1 := mul_le ha.1 hb.1 ha.2 hb.2
       by_cases hc : 0 ≤ c ∧ c ≤ 40
       · have h2 := mul_le h1.1 hc.1 h1.2 hc.2
         simp [spec_l05Dims.l0, VD, prodL, in_eq, rd, ha, hb, hc, wrap64_id (a := a) (by omega) (by omega), wrap64_id (a := a * b) (by omega) (by omega), wrap64_id (a := a * b * c) (by omega) (by omega), w1, w2, w3]
       · simp [spec_l05Dims.l0, VD, prodL, in_eq, rd, ha, hb, hc, wrap64_id (a := a) (by omega) (by omega), wrap64_id (a := a * b) (by omega) (by omega), w1, w2]
     · simp [spec_l05Dims.l0, VD, prodL, in_eq, rd, ha, hb, wrap64_id (a := a) (by omega) (by omega), w1]
   · simp [spec_l05Dims.l0, VD, prodL, in_eq, rd, ha]
  | a :: b :: c :: d :: l, h => simp at h; omega
theorem within_all (k : Nat) (l : List Int) (a b : Int) (hl : l.length ≤ 1048576) (hk : l.length < k) : impl_allWithin.f k l a b = some (decide (∀ x ∈ l, a ≤ x ∧ x ≤ b)) := by
 unfold impl_allWithin.f slices_ContainsFunc_impl_allWithin_1.f slices_IndexFunc_impl_allWithin_1.f
 obtain ⟨r, h, hr⟩ := count_loop (fun k (_ : Unit) i => slices_IndexFunc_impl_allWithin_1.l0 k l (l.length : Int) i a b) l.length 0 (fun i _ => ∀ x ∈ l.take i, a ≤ x ∧ x ≤ b) (fun r => decide (r ≥ 0) = !decide (∀ x ∈ l, a ≤ x ∧ x ≤ b))
  (by
   rintro k s - h1
   refine ⟨-1, by show slices_IndexFunc_impl_allWithin_1.l0 (k + 1) l _ _ a b = _; rw [slices_IndexFunc_impl_allWithin_1.l0, if_neg (by omega)], ?_⟩
   rw [List.take_length] at h1
   simp [h1]
   exact h1)
  (by
   rintro k s i - hi h1
   by_cases he : a ≤ l[i] ∧ l[i] ≤ b
   ·
    refine .inl ⟨(), ?_, ?_⟩
    · intro x hx
      rw [List.take_succ_eq_append_getElem hi, List.mem_append] at hx
      rcases hx with hx | hx
      · exact h1 x hx
      · simp at hx; subst hx; exact he
    · show slices_IndexFunc_impl_allWithin_1.l0 (k + 1) l _ _ a b = _
      rw [slices_IndexFunc_impl_allWithin_1.l0, if_pos (by omega), if_pos (by omega), if_pos (by omega), rd_lt l i hi, impl_allWithin_1.f, within_eq, wrap_up i (by omega)]
      simp [he]
   · refine .inr ⟨i, ?_, ?_⟩
     · show slices_IndexFunc_impl_allWithin_1.l0 (k + 1) l _ _ a b = _
       rw [slices_IndexFunc_impl_allWithin_1.l0, if_pos (by omega), if_pos (by omega), if_pos (by omega), rd_lt l i hi, impl_allWithin_1.f, within_eq]
       simp [he]
     · have hx : ¬ ∀ x ∈ l, a ≤ x ∧ x ≤ b := fun h => he (h _ (List.getElem_mem hi))
       simp [hx])
  k () 0 (by omega) (by omega) (by simp)
 have h' : slices_IndexFunc_impl_allWithin_1.l0 k l (l.length : Int) 0 a b = some r := h
 rw [h']
 simp [hr]
theorem dims_impl (k : Nat) (l : List Int) (hk : 4 < k) : impl_ValidDims.f k l = some (decide (VD l)) := by
 unfold impl_ValidDims.f
 by_cases h3 : (l.length : Int) ≤ 3
 ·
  rw [if_pos h3, within_all k l 0 40 (by omega) (by omega)]
  by_cases hw : ∀ x ∈ l, 0 ≤ x ∧ x ≤ 40
  ·
   rw [decide_eq_true hw]
   have hp : impl_product.f k l = some (prodL l) := by
    unfold impl_product.f
    obtain ⟨k, rfl⟩ : ∃ z, k = z + 5 := ⟨k - 5, by omega⟩
    match l, h3, hw with
    | [], _, _ => simp [impl_product.l0, prodL]
    | [a], _, hw =>
     have ha := hw a (by simp)
     simp [impl_product.l0, prodL, rd, w1, wrap64_id (a := a) (by omega) (by omega)]
    | [a, b], _, hw =>
     have ha := hw a (by simp)
     have hb := hw b (by simp)
     have h1 := mul_le ha.1 hb.1 ha.2 hb.2
     simp [impl_product.l0, prodL, rd, wrap64_id (a := a) (by omega) (by omega), wrap64_id (a := a * b) (by omega) (by omega), w1, w2]
    | [a, b, c], _, hw =>
     have ha := hw a (by simp)
     have hb := hw b (by simp)
     have hc := hw c (by simp)
     have h1 := mul_le ha.1 hb.1 ha.2 hb.2
     have h2 := mul_le h1.1 hc.1 h1.2 hc.2
     simp [impl_product.l0, prodL, rd, wrap64_id (a := a) (by omega) (by omega), wrap64_id (a := a * b) (by omega) (by omega), wrap64_id (a := a * b * c) (by omega) (by omega), w1, w2, w3]
    | a :: b :: c :: d :: l, h, _ => simp at h; omega
   have : VD l ↔ prodL l ≤ 600 := ⟨fun h => h.2.2, fun h => ⟨by omega, hw, h⟩⟩
   simp only [Option.bind_some, if_true, hp]
   rw [decide_eq_decide.mpr this]
  · have : ¬ VD l := fun h => hw h.2.1
    simp [hw, this]
 · rw [if_neg h3]
   have : ¬ VD l := fun h => by have := h.1; omega
   simp [this]
theorem prod_spec (k : Nat) (l : List Int) (hk : 4 < k) (hv : VD l) : spec_l05Count.f k l = some (prodL l) := by
 unfold spec_l05Count.f
 obtain ⟨k, rfl⟩ : ∃ z, k = z + 5 := ⟨k - 5, by omega⟩
 obtain ⟨h3, hw, _⟩ := hv
 match l, h3, hw with
 | [], _, _ => simp [spec_l05Count.l0, prodL]
 | [a], _, hw =>
  have ha := hw a (by simp)
  simp [spec_l05Count.l0, prodL, rd, w1, wrap64_id (a := a) (by omega) (by omega)]
 | [a, b], _, hw =>
  have ha := hw a (by simp)
  have hb := hw b (by simp)
  have h1 := mul_le ha.1 hb.1 ha.2 hb.2
  simp [spec_l05Count.l0, prodL, rd, wrap64_id (a := a) (by omega) (by omega), wrap64_id (a := a * b) (by omega) (by omega), w1, w2]
 | [a, b, c], _, hw =>
  have ha := hw a (by simp)
  have hb := hw b (by simp)
  have hc := hw c (by simp)
  have h1 := mul_le ha.1 hb.1 ha.2 hb.2
  have h2 := mul_le h1.1 hc.1 h1.2 hc.2
  simp [spec_l05Count.l0, prodL, rd, wrap64_id (a := a) (by omega) (by omega), wrap64_id (a := a * b) (by omega) (by omega), wrap64_id (a := a * b * c) (by omega) (by omega), w1, w2, w3]
 | a :: b :: c :: d :: l, h, _ => exact absurd h (by simp)
theorem prod_impl (k : Nat) (l : List Int) (hk : 4 < k) (hv : VD l) : impl_product.f k l = some (prodL l) := by
 unfold impl_product.f
 obtain ⟨k, rfl⟩ : ∃ z, k = z + 5 := ⟨k - 5, by omega⟩
 obtain ⟨h3, hw, _⟩ := hv
 match l, h3, hw with
 | [], _, _ => simp [impl_product.l0, prodL]
 | [a], _, hw =>
  have ha := hw a (by simp)
  simp [impl_product.l0, prodL, rd, w1, wrap64_id (a := a) (by omega) (by omega)]
 | [a, b], _, hw =>
  have ha := hw a (by simp)
  have hb := hw b (by simp)
  have h1 := mul_le ha.1 hb.1 ha.2 hb.2
  simp [impl_product.l0, prodL, rd, wrap64_id (a := a) (by omega) (by omega), wrap64_id (a := a * b) (by omega) (by omega), w1, w2]
 | [a, b, c], _, hw =>
  have ha := hw a (by simp)
  have hb := hw b (by simp)
  have hc := hw c (by simp)
  have h1 := mul_le ha.1 hb.1 ha.2 hb.2
  have h2 := mul_le h1.1 hc.1 h1.2 hc.2
  simp [impl_product.l0, prodL, rd, wrap64_id (a := a) (by omega) (by omega), wrap64_id (a := a * b) (by omega) (by omega), wrap64_id (a := a * b * c) (by omega) (by omega), w1, w2, w3]
 | a :: b :: c :: d :: l, h, _ => exact absurd h (by simp)
theorem all_loop (L : Nat → Int → Option Bool) (P : Nat → Prop) [DecidablePred P] (n m : Nat) (r : Bool)
 (hend : ∀ k, m ≤ k → L (k + 1) (n : Int) = some r) (hstep : ∀ k (i : Nat), m ≤ k → i < n → L (k + 1) (i : Int) = if P i then L k ((i + 1 : Nat) : Int) else some false) (k : Nat) (hk : n + m < k) :
 L k 0 = some (decide (∀ i, i < n → P i) && r) := by
 obtain ⟨s, h, rfl⟩ := count_loop (fun k (_ : Unit) i => L k i) n m (fun i _ => ∀ j, j < i → P j) (fun s => s = (decide (∀ i, i < n → P i) && r))
  (by
   rintro k s hm h
   exact ⟨r, hend k hm, by simp [decide_eq_true h]⟩)
  (by
   rintro k s i hm hi h
   by_cases hp : P i
   · refine .inl ⟨(), ?_, by show L (k + 1) _ = _; rw [hstep k i hm hi, if_pos hp]⟩
     intro j hj
     by_cases hji : j = i
     · subst hji; exact hp
     · exact h j (by omega)
   · refine .inr ⟨false, by show L (k + 1) _ = _; rw [hstep k i hm hi, if_neg hp], ?_⟩
     have : ¬ ∀ i, i < n → P i := fun h => hp (h i hi)
     simp [this])
  k () 0 (by omega) (by omega) (by simp)
 exact h
def look (P : Nat → Prop) [DecidablePred P] : Nat → Nat → Int
 | 0, _ => -1
 | d + 1, i => if P i then (i : Int) else look P d (i + 1)
theorem look_or (P : Nat → Prop) [DecidablePred P] (d : Nat) : ∀ i, (look P d i = -1 ∧ ∀ j, i ≤ j → j < i + d → ¬ P j) ∨ ∃ j, i ≤ j ∧ j < i + d ∧ look P d i = (j : Int) ∧ P j := by
 induction d with
 | zero => intro i; exact .inl ⟨rfl, fun j h1 h2 => by omega⟩
 | succ d ih =>
  intro i
  by_cases hp : P i
  · exact .inr ⟨i, by omega, by omega, by rw [look, if_pos hp], hp⟩
  ·
   rw [look, if_neg hp]
   rcases ih (i + 1) with ⟨h1, h2⟩ | ⟨j, h1, h2, h3, h4⟩
   · refine .inl ⟨h1, fun j h3 h4 => ?_⟩
     by_cases hji : j = i
     · subst hji; exact hp
     · exact h2 j (by omega) (by omega)
   · exact .inr ⟨j, by omega, by omega, h3, h4⟩
theorem find_loop (L : Nat → Int → Option Int) (P : Nat → Prop) [DecidablePred P] (n m : Nat)
 (hend : ∀ k, m ≤ k → L (k + 1) (n : Int) = some (-1)) (hstep : ∀ k (i : Nat), m ≤ k → i < n → L (k + 1) (i : Int) = if P i then some (i : Int) else L k ((i + 1 : Nat) : Int)) (k : Nat) (hk : n + m < k) :
 L k 0 = some (look P n 0) := by
 have key : ∀ d k i, i + d = n → d + m < k → L k (i : Int) = some (look P d i) := by
  intro d
  induction d with
  | zero =>
   intro k i hi hk
   obtain ⟨k, rfl⟩ : ∃ z, k = z + 1 := ⟨k - 1, by omega⟩
   obtain rfl : i = n := by omega
   exact hend k (by omega)
  | succ d ih =>
   intro k i hi hk
   obtain ⟨k, rfl⟩ : ∃ z, k = z + 1 := ⟨k - 1, by omega⟩
   rw [hstep k i (by omega) (by omega), look]
   by_cases hp : P i
   · rw [if_pos hp, if_pos hp]
   · rw [if_neg hp, if_neg hp]; exact ih k (i + 1) (by omega) (by omega)
 exact key n k 0 (by omega) (by omega)
theorem getD_lt {α : Type} (l : List α) (z : α) (i : Nat) (h : i < l.length) : l.getD (i : Int).toNat z = l[i] := by
 simp [List.getD_eq_getElem?_getD, List.getElem?_eq_getElem h]
theorem seq_loop (L : Nat → Int → Option Bool) (P : Nat → Prop) [DecidablePred P] (n : Nat)
 (hend : ∀ k, L (k + 1) (n : Int) = some true) (hstep : ∀ k (i : Nat), i < n → L (k + 1) (i : Int) = if P i then L k ((i + 1 : Nat) : Int) else some false) (k : Nat) (hk : n < k) :
 L k 0 = some (decide (∀ i, i < n → P i)) := by
 rw [all_loop L P n 0 true (fun k _ => hend k) (fun k i _ hi => hstep k i hi) k (by omega), Bool.and_true]
def inI (l : List Int) (a b : Int) (i : Nat) : Prop := a ≤ rd l (i : Int) ∧ rd l (i : Int) ≤ b
instance (l : List Int) (a b : Int) (i : Nat) : Decidable (inI l a b i) := by unfold inI; infer_instance
theorem withinI (l : List Int) (a b : Int) (hl : l.length ≤ 1048576) (k : Nat) (hk : 1048590 ≤ k) : impl_allWithin.f k l a b = some (decide (∀ i, i < l.length → inI l a b i)) := by
 unfold impl_allWithin.f slices_ContainsFunc_impl_allWithin_1.f slices_IndexFunc_impl_allWithin_1.f
 rw [find_loop (fun k i => slices_IndexFunc_impl_allWithin_1.l0 k l l.length i a b) (fun i => ¬ inI l a b i) l.length 0
  (by intro k _; show slices_IndexFunc_impl_allWithin_1.l0 (k + 1) l _ _ a b = _; rw [slices_IndexFunc_impl_allWithin_1.l0, if_neg (by omega)])
  (by
   intro k i _ hi
   show slices_IndexFunc_impl_allWithin_1.l0 (k + 1) l _ _ a b = _
   rw [slices_IndexFunc_impl_allWithin_1.l0, if_pos (by omega), if_pos (by omega), if_pos (by omega), wrap_up i (by omega)]
   simp only [impl_allWithin_1.f, within_eq, Option.bind_some]
   by_cases h : a ≤ rd l (i : Int) ∧ rd l (i : Int) ≤ b
   · have h2 : inI l a b i := h
     simp [h, h2]
   · have h2 : ¬ inI l a b i := h
     rw [decide_eq_false h]
     simp [h2])
  k (by omega)]
 simp only [Option.bind_some]
 rcases look_or (fun i => ¬ inI l a b i) l.length 0 with ⟨h4, h5⟩ | ⟨j, -, h4, h5, h6⟩
 · rw [h4]
   have h7 : ∀ i, i < l.length → inI l a b i := fun i hi => Decidable.not_not.1 (h5 i (by omega) (by omega))
   rw [decide_eq_true h7]; rfl
 · rw [h5]
   have h7 : ¬ ∀ i, i < l.length → inI l a b i := fun h => h6 (h j (by omega))
   have h8 : (j : Int) ≥ 0 := by omega
   rw [decide_eq_false h7]; simp [h8]
theorem slices_Equal_int64_int64_is (k : Nat) (a b : List Int) (hl : a.length ≤ 1048576) (hk : 1048590 ≤ k) : slices_Equal_int64_int64.f k a b = some (decide (a = b)) := by
 unfold slices_Equal_int64_int64.f
 by_cases hn : (a.length : Int) = (b.length : Int)
 ·
  rw [if_pos hn, seq_loop (fun k i => slices_Equal_int64_int64.l0 k a b (a.length : Int) i) (fun i => rd a (i : Int) = rd b (i : Int)) a.length
   (by intro k; show slices_Equal_int64_int64.l0 (k + 1) a b _ _ = _; rw [slices_Equal_int64_int64.l0, if_neg (by omega)])
   (by
    intro k i hi
    show slices_Equal_int64_int64.l0 (k + 1) a b _ _ = _
    rw [slices_Equal_int64_int64.l0]
    repeat rw [if_pos (show (i : Int) < (a.length : Int) by omega)]
    repeat rw [if_pos (show (0 : Int) ≤ (i : Int) by omega)]
    repeat rw [if_pos (show (i : Int) < (a.length : Int) by omega)]
    repeat rw [if_pos (show (i : Int) < (b.length : Int) by omega)]
    rw [wrap_up i (by omega)])
   k (by omega)]
  have hb : a.length = b.length := by omega
  congr 1
  apply decide_eq_decide.2
  constructor
  · intro h
    apply List.ext_getElem hb
    intro i h1 h2
    have := h i h1
    rwa [rd_lt a i h1, rd_lt b i h2] at this
  · rintro rfl i _
    rfl
 · rw [if_neg hn, decide_eq_false]
   rintro rfl
   exact hn rfl
def QS97 (x : S97) : Prop := (x.f0.length : Int) ≤ 1048576
theorem point_same (ps qs : List S97) (hp : ps.length ≤ 1048576) (hq : ∀ y ∈ ps, QS97 y) (k : Nat) (hk : 3000000 ≤ k) : slices_EqualFunc_impl_samePoint.f k ps qs = some (decide (ps.length = qs.length ∧ ∀ i, i < ps.length → (rd_T97 ps (i : Int)).f0 = (rd_T97 qs (i : Int)).f0)) := by
 have hql : ∀ i, i < ps.length → (rd_T97 ps (i : Int)).f0.length ≤ 1048576 := by
  intro i hi
  have : rd_T97 ps (i : Int) = ps[i] := getD_lt ps z97 i hi
  rw [this]
  have h := hq _ (List.getElem_mem hi)
  unfold QS97 at h
  omega
 unfold slices_EqualFunc_impl_samePoint.f
 by_cases h1 : ps.length = qs.length
 ·
  rw [if_pos (by omega), all_loop (fun k i => slices_EqualFunc_impl_samePoint.l0 k qs ps ps.length i) (fun i => (rd_T97 ps (i : Int)).f0 = (rd_T97 qs (i : Int)).f0) ps.length 1048590 true
   (by intro k _; show slices_EqualFunc_impl_samePoint.l0 (k + 1) qs ps _ _ = _; rw [slices_EqualFunc_impl_samePoint.l0, if_neg (by omega)])
   (by
    intro k i hk hi
    show slices_EqualFunc_impl_samePoint.l0 (k + 1) qs ps _ _ = _
    rw [slices_EqualFunc_impl_samePoint.l0, if_pos (by omega), if_pos (by omega), if_pos (by omega), if_pos (by omega), wrap_up i (by omega)]
    unfold impl_samePoint.f
    rw [slices_Equal_int64_int64_is k _ _ (hql i hi) hk]
    simp only [Option.bind_some, decide_eq_true_eq])
   k (by omega)]
  simp [h1]
 · rw [if_neg (by omega), decide_eq_false (fun h => h1 h.1)]
theorem lists_same (a1 a2 a3 a4 b1 b2 b3 b4 : List Int) (h1 : a1.length ≤ 1048576) (h2 : a2.length ≤ 1048576) (h3 : a3.length ≤ 1048576) (h4 : a4.length ≤ 1048576) (k : Nat) (hk : 3000000 ≤ k) :
 slices_EqualFunc_slices_Equal_int64_int64.f k [a1, a2, a3, a4] [b1, b2, b3, b4] = some (decide (a1 = b1 ∧ a2 = b2 ∧ a3 = b3 ∧ a4 = b4)) := by
 unfold slices_EqualFunc_slices_Equal_int64_int64.f
 have hL : (([a1, a2, a3, a4] : List (List Int)).length : Int) = (([b1, b2, b3, b4] : List (List Int)).length : Int) := rfl
 have la : (([a1, a2, a3, a4] : List (List Int)).length : Int) = ((4 : Nat) : Int) := rfl
 have lb : (([b1, b2, b3, b4] : List (List Int)).length : Int) = ((4 : Nat) : Int) := rfl
 have hq : ∀ i : Nat, i < 4 → (rd_L2 [a1, a2, a3, a4] (i : Int)).length ≤ 1048576 := by
  intro i hi
  rcases i with _ | _ | _ | _ | i
  · exact h1
  · exact h2
  · exact h3
  · exact h4
  · omega
 rw [if_pos hL, all_loop (fun k i => slices_EqualFunc_slices_Equal_int64_int64.l0 k [b1, b2, b3, b4] [a1, a2, a3, a4] (([a1, a2, a3, a4] : List (List Int)).length : Int) i) (fun i => rd_L2 [a1, a2, a3, a4] (i : Int) = rd_L2 [b1, b2, b3, b4] (i : Int)) 4 1048590 true
  (by intro k _; show slices_EqualFunc_slices_Equal_int64_int64.l0 (k + 1) _ _ _ _ = _; rw [slices_EqualFunc_slices_Equal_int64_int64.l0, la, if_neg (by omega)])
  (by
   intro k i hk hi
   show slices_EqualFunc_slices_Equal_int64_int64.l0 (k + 1) _ _ _ _ = _
   rw [slices_EqualFunc_slices_Equal_int64_int64.l0, la, lb]
   have g1 : (i : Int) < ((4 : Nat) : Int) := by omega
   have g0 : (0 : Int) ≤ (i : Int) := by omega
   simp only [if_pos g1, if_pos g0]
   rw [slices_Equal_int64_int64_is k _ _ (hq i hi) hk, wrap_up i (by omega)]
   simp only [Option.bind_some, decide_eq_true_eq])
  k (by omega), Bool.and_true]
 congr 1
 apply decide_eq_decide.2
 constructor
 · intro h
   exact ⟨h 0 (by omega), h 1 (by omega), h 2 (by omega), h 3 (by omega)⟩
 ·
  rintro ⟨e1, e2, e3, e4⟩ i hi
  rcases i with _ | _ | _ | _ | i
  · exact e1
  · exact e2
  · exact e3
  · exact e4
  · omega
def okPlain (l1 l2 l3 l4 : List Int) : Prop := l1.length = 0 ∧ l2.length = 0 ∧ l3.length = 0 ∧ l4.length = 0
instance (l1 l2 l3 l4 : List Int) : Decidable (okPlain l1 l2 l3 l4) := by unfold okPlain; infer_instance
theorem sel_plain (a : Int) (l1 l2 l3 l4 : List Int) (ps : List S97) (hp : ps.length ≤ 1048576) (hq : ∀ y ∈ ps, QS97 y) (k : Nat) (hk : 3000000 ≤ k) :
 impl_SameSelection.f k a ([] : List Int) ([] : List Int) ([] : List Int) ([] : List Int) ps a l1 l2 l3 l4 ps = some (decide (okPlain l1 l2 l3 l4)) := by
 unfold impl_SameSelection.f impl_Selection_lists.f
 rw [if_pos rfl]
 simp only [Option.bind_some]
 rw [lists_same [] [] [] [] l1 l2 l3 l4 (by simp) (by simp) (by simp) (by simp) k hk, point_same ps ps hp hq k hk]
 simp only [Option.bind_some, decide_eq_true_eq]
 have e : (([] : List Int) = l1 ∧ ([] : List Int) = l2 ∧ ([] : List Int) = l3 ∧ ([] : List Int) = l4) ↔ (l1.length = 0 ∧ l2.length = 0 ∧ l3.length = 0 ∧ l4.length = 0) := by
  simp only [List.length_eq_zero_iff, eq_comm]
 by_cases h : okPlain l1 l2 l3 l4
 · rw [if_pos (e.2 h), decide_eq_true h]; simp
 · rw [if_neg (fun h' => h (e.1 h')), decide_eq_false h]
instance decBetween (i n : Nat) (P : Nat → Prop) [DecidablePred P] : Decidable (∀ j, i ≤ j → j < n → P j) := decidable_of_iff (∀ j, j < n → i ≤ j → P j) ⟨fun h j h1 h2 => h j h2 h1, fun h j h1 h2 => h j h2 h1⟩
theorem end_eq (a : Int) (l1 l2 l3 l4 : List Int) (ps : List S97) (i : Int) : spec_l06End.f a l1 l2 l3 l4 ps i = impl_Selection_end.f a l1 l2 l3 l4 ps i := rfl
/-- one dimension of a slab -/
def okD (l1 l2 l3 l4 : List Int) (i : Nat) : Prop := (0 ≤ rd l1 i ∧ rd l1 i ≤ 40) ∧ (1 ≤ rd l3 i ∧ rd l3 i ≤ 40) ∧ (1 ≤ rd l4 i ∧ rd l4 i ≤ 40) ∧ (rd l4 i ≤ rd l2 i ∧ rd l2 i ≤ 40) ∧ rd l1 i + (rd l3 i - 1) * rd l2 i + rd l4 i ≤ 40
instance (l1 l2 l3 l4 : List Int) (i : Nat) : Decidable (okD l1 l2 l3 l4 i) := by unfold okD; infer_instance
theorem end_val (a : Int) (l1 l2 l3 l4 : List Int) (ps : List S97) (i : Nat) (h1 : i < l1.length) (h2 : i < l2.length) (h3 : i < l3.length) (h4 : i < l4.length)
 (q1 : 0 ≤ rd l1 i ∧ rd l1 i ≤ 40) (q3 : 1 ≤ rd l3 i ∧ rd l3 i ≤ 40) (q4 : 1 ≤ rd l4 i ∧ rd l4 i ≤ 40) (q2 : rd l4 i ≤ rd l2 i ∧ rd l2 i ≤ 40) :
 spec_l06End.f a l1 l2 l3 l4 ps i = some (rd l1 i + (rd l3 i - 1) * rd l2 i + rd l4 i) := by
 unfold spec_l06End.f
 rw [if_pos (by omega), if_pos (by omega), if_pos (by omega), if_pos (by omega), if_pos (by omega)]
 have hm : 0 ≤ (rd l3 i - 1) * rd l2 i := Int.mul_nonneg (by omega) (by omega)
 have hM : (rd l3 i - 1) * rd l2 i ≤ 40 * 40 := Int.mul_le_mul (by omega) (by omega) (by omega) (by omega)
 rw [wrap64_id (a := rd l3 i - 1) (by omega) (by omega), wrap64_id (a := (rd l3 i - 1) * rd l2 i) (by omega) (by omega), wrap64_id (a := rd l1 i + (rd l3 i - 1) * rd l2 i) (by omega) (by omega), wrap64_id (by omega) (by omega)]
theorem slab_spec (a : Int) (l1 l2 l3 l4 : List Int) (ps : List S97) (n : Nat) (hn : n ≤ 3) (h1 : l1.length = n) (h2 : l2.length = n) (h3 : l3.length = n) (h4 : l4.length = n) : ∀ (d k i : Nat), i + d = n → 2 * d < k →
 spec_l06Slab.l0 k n i a l1 l2 l3 l4 ps = some (decide (∀ j, i ≤ j → j < n → okD l1 l2 l3 l4 j)) := by
 intro d
 induction d with
 | zero =>
  intro k i hi hk
  obtain ⟨k, rfl⟩ : ∃ z, k = z + 1 := ⟨k - 1, by omega⟩
  rw [spec_l06Slab.l0, if_neg (by omega), decide_eq_true]
  intro j hj hj2; omega
 | succ d ih =>
  intro k i hi hk
  obtain ⟨k, rfl⟩ : ∃ z, k = z + 2 := ⟨k - 2, by omega⟩
  have no : ∀ (h : ¬ okD l1 l2 l3 l4 i), decide (∀ j, i ≤ j → j < n → okD l1 l2 l3 l4 j) = false := fun h => decide_eq_false (fun h' => h (h' i (by omega) (by omega)))
  rw [spec_l06Slab.l0, if_pos (by omega), if_pos (by omega), if_pos (by omega), in_eq]
  simp only [Option.bind_some, decide_eq_true_eq]
  by_cases q1 : 0 ≤ rd l1 i ∧ rd l1 i ≤ 40
  ·
   rw [if_pos q1, if_pos (by omega), in_eq]
   simp only [Option.bind_some, decide_eq_true_eq]
   by_cases q3 : 1 ≤ rd l3 i ∧ rd l3 i ≤ 40
   ·
    rw [if_pos q3, if_pos (by omega), in_eq]
    simp only [Option.bind_some, decide_eq_true_eq]
    by_cases q4 : 1 ≤ rd l4 i ∧ rd l4 i ≤ 40
    ·
     rw [if_pos q4, if_pos (by omega), in_eq]
     simp only [Option.bind_some, decide_eq_true_eq]
     by_cases q2 : rd l4 i ≤ rd l2 i ∧ rd l2 i ≤ 40
     ·
      rw [if_pos q2, end_val a l1 l2 l3 l4 ps i (by omega) (by omega) (by omega) (by omega) q1 q3 q4 q2]
      simp only [Option.bind_some]
      by_cases q5 : rd l1 i + (rd l3 i - 1) * rd l2 i + rd l4 i > 40
      · rw [if_pos q5, no (fun h => by have := h.2.2.2.2; omega)]
      ·
       rw [if_neg q5, wrap_up i (by omega), ih (k + 1) (i + 1) (by omega) (by omega)]
       have hq : okD l1 l2 l3 l4 i := ⟨q1, q3, q4, q2, by omega⟩
       congr 1
       apply decide_eq_decide.2
       constructor
       · intro h j hj hj2
         by_cases hji : j = i
         · subst hji; exact hq
         · exact h j (by omega) hj2
       · intro h j hj hj2
         exact h j (by omega) hj2
     · rw [if_neg q2, no (fun h => q2 h.2.2.2.1)]
    · rw [if_neg q4, no (fun h => q4 h.2.2.1)]
   · rw [if_neg q3, no (fun h => q3 h.2.1)]
  · rw [if_neg q1, no (fun h => q1 h.1)]
theorem slab_same (a : Int) (l1 l2 l3 l4 : List Int) (ps : List S97) : ∀ k n i, impl_Selection_slabFormed.l0 k n i a l1 l2 l3 l4 ps = spec_l06Slab.l0 k n i a l1 l2 l3 l4 ps := by
 intro k
 induction k with
 | zero => intro n i; rfl
 | succ k ih =>
  intro n i
  rw [impl_Selection_slabFormed.l0, spec_l06Slab.l0]
  simp only [in_eq, within_eq, Option.bind_some, end_eq, ih n _]
def okSlab (l1 l2 l3 l4 : List Int) : Prop := l1.length ≤ 3 ∧ l2.length = l1.length ∧ l3.length = l1.length ∧ l4.length = l1.length ∧ ∀ i, 0 ≤ i → i < l1.length → okD l1 l2 l3 l4 i
instance (l1 l2 l3 l4 : List Int) : Decidable (okSlab l1 l2 l3 l4) := by unfold okSlab; infer_instance
theorem slabF_spec (a : Int) (l1 l2 l3 l4 : List Int) (ps : List S97) (k : Nat) (hk : 100 ≤ k) : spec_l06Slab.f k a l1 l2 l3 l4 ps = some (decide (okSlab l1 l2 l3 l4 ∧ ps.length = 0)) := by
 obtain ⟨k, rfl⟩ : ∃ z, k = z + 2 := ⟨k - 2, by omega⟩
 unfold spec_l06Slab.f
 have no : ∀ (h : ¬ (okSlab l1 l2 l3 l4 ∧ ps.length = 0)), decide (okSlab l1 l2 l3 l4 ∧ ps.length = 0) = false := fun h => decide_eq_false h
 by_cases h3 : l1.length ≤ 3
 ·
  rw [if_neg (by omega)]
  by_cases q2 : l2.length = l1.length
  ·
   rw [if_pos (by omega)]
   by_cases q3 : l3.length = l1.length
   ·
    rw [if_pos (by omega)]
    by_cases q4 : l4.length = l1.length
    ·
     rw [if_pos (by omega), spec_l06Slab.j0]
     by_cases q5 : ps.length = 0
     · have h0 := slab_spec a l1 l2 l3 l4 ps l1.length h3 rfl q2 q3 q4 l1.length (k + 1) 0 (by omega) (by omega)
       rw [if_neg (by rw [decide_eq_true_eq]; omega)]
       rw [show spec_l06Slab.l0 (k + 1) (l1.length : Int) 0 a l1 l2 l3 l4 ps = _ from h0]
       congr 1
       apply decide_eq_decide.2
       exact ⟨fun h => ⟨⟨h3, q2, q3, q4, h⟩, q5⟩, fun h => h.1.2.2.2.2⟩
     · rw [if_pos (by rw [decide_eq_true_eq]; omega), no (fun h => q5 h.2)]
    · rw [if_neg (by omega), spec_l06Slab.j0, if_pos rfl, no (fun h => q4 h.1.2.2.2.1)]
   · rw [if_neg (by omega), spec_l06Slab.j0, if_pos rfl, no (fun h => q3 h.1.2.2.1)]
  · rw [if_neg (by omega), spec_l06Slab.j0, if_pos rfl, no (fun h => q2 h.1.2.1)]
 · rw [if_pos (by omega), spec_l06Slab.j0, if_pos rfl, no (fun h => h3 h.1.1)]
theorem slabF_impl (a : Int) (l1 l2 l3 l4 : List Int) (ps : List S97) (k : Nat) (hk : 100 ≤ k) : impl_Selection_slabFormed.f k a l1 l2 l3 l4 ps = some (decide (okSlab l1 l2 l3 l4)) := by
 obtain ⟨k, rfl⟩ : ∃ z, k = z + 2 := ⟨k - 2, by omega⟩
 unfold impl_Selection_slabFormed.f
 have no : ∀ (h : ¬ (okSlab l1 l2 l3 l4)), decide (okSlab l1 l2 l3 l4) = false := fun h => decide_eq_false h
 by_cases h3 : l1.length ≤ 3
 ·
  rw [if_neg (by omega)]
  by_cases q2 : l2.length = l1.length
  ·
   rw [if_pos (by omega)]
   by_cases q3 : l3.length = l1.length
   ·
    rw [if_pos (by omega), impl_Selection_slabFormed.j0]
    by_cases q4 : l4.length = l1.length
    · have h0 := slab_spec a l1 l2 l3 l4 ps l1.length h3 rfl q2 q3 q4 l1.length (k + 1) 0 (by omega) (by omega)
      have h4 : (l4.length : Int) = (l1.length : Int) := by omega
      rw [if_neg (by simp [h4]), slab_same a l1 l2 l3 l4 ps (k + 1) _ _]
      rw [show spec_l06Slab.l0 (k + 1) (l1.length : Int) 0 a l1 l2 l3 l4 ps = _ from h0]
      congr 1
      apply decide_eq_decide.2
      exact ⟨fun h => ⟨h3, q2, q3, q4, h⟩, fun h => h.2.2.2.2⟩
    · have h4 : ¬ (l4.length : Int) = (l1.length : Int) := by omega
      rw [if_pos (by simp [h4]), no (fun h => q4 h.2.2.2.1)]
   · rw [if_neg (by omega), impl_Selection_slabFormed.j0, if_pos rfl, no (fun h => q3 h.2.2.1)]
  · rw [if_neg (by omega), impl_Selection_slabFormed.j0, if_pos rfl, no (fun h => q2 h.2.1)]
 · rw [if_pos (by omega), impl_Selection_slabFormed.j0, if_pos rfl, no (fun h => h3 h.1)]
/-- one point of a selection -/
def okPt (ps : List S97) (i : Nat) : Prop := (rd_T97 ps i).f0.length = (rd_T97 ps 0).f0.length ∧ (rd_T97 ps i).f0.length ≤ 3 ∧ ∀ j, j < (rd_T97 ps i).f0.length → inI (rd_T97 ps i).f0 0 39 j
instance (ps : List S97) (i : Nat) : Decidable (okPt ps i) := by unfold okPt; infer_instance
def okPts (ps : List S97) : Prop := (1 ≤ ps.length ∧ ps.length ≤ 24) ∧ ∀ m, 0 ≤ m → m < ps.length → okPt ps m
instance (ps : List S97) : Decidable (okPts ps) := by unfold okPts; infer_instance
theorem points_impl (a : Int) (l1 l2 l3 l4 : List Int) (ps : List S97) (hp : ps.length ≤ 1048576) (hq : ∀ y ∈ ps, QS97 y) (k : Nat) (hk : 3000000 ≤ k) : impl_Selection_pointsFormed.f k a l1 l2 l3 l4 ps = some (decide (okPts ps)) := by
 unfold impl_Selection_pointsFormed.f slices_ContainsFunc_impl_Selection_pointsFormed_1.f slices_IndexFunc_impl_Selection_pointsFormed_1.f
 rw [within_eq]
 simp only [Option.bind_some, decide_eq_true_eq]
 have hql : ∀ i, i < ps.length → (rd_T97 ps (i : Int)).f0.length ≤ 1048576 := by
  intro i hi
  have : rd_T97 ps (i : Int) = ps[i] := getD_lt ps z97 i hi
  rw [this]
  have h := hq _ (List.getElem_mem hi)
  unfold QS97 at h
  omega
 by_cases h1 : 1 ≤ ps.length ∧ ps.length ≤ 24
 ·
  rw [if_pos (show 1 ≤ (ps.length : Int) ∧ (ps.length : Int) ≤ 24 by omega), if_pos (by omega)]
  by_cases h3 : (rd_T97 ps 0).f0.length ≤ 3
  ·
   have hg := find_loop (fun k i => slices_IndexFunc_impl_Selection_pointsFormed_1.l0 k ps ps.length i ((rd_T97 ps 0).f0.length : Int)) (fun i => ¬ okPt ps i) ps.length 1048590
    (by intro k _; show slices_IndexFunc_impl_Selection_pointsFormed_1.l0 (k + 1) ps _ _ _ = _; rw [slices_IndexFunc_impl_Selection_pointsFormed_1.l0, if_neg (by omega)])
    (by
     intro k i hk hi
     show slices_IndexFunc_impl_Selection_pointsFormed_1.l0 (k + 1) ps _ _ _ = _
     rw [slices_IndexFunc_impl_Selection_pointsFormed_1.l0, if_pos (by omega), if_pos (by omega), if_pos (by omega), wrap_up i (by omega)]
     unfold impl_Selection_pointsFormed_1.f
     by_cases q1 : (rd_T97 ps i).f0.length = (rd_T97 ps 0).f0.length
     · rw [if_pos (by omega), withinI (rd_T97 ps i).f0 0 39 (hql i hi) k hk]
       simp only [Option.bind_some]
       by_cases q2 : ∀ j, j < (rd_T97 ps i).f0.length → inI (rd_T97 ps i).f0 0 39 j
       · have : okPt ps i := ⟨q1, by omega, q2⟩
         rw [decide_eq_true q2, if_neg (by simp), if_neg (fun h => h this)]
       · have : ¬ okPt ps i := fun h => q2 h.2.2
         rw [decide_eq_false q2, if_pos (show (!false) = true from rfl), if_pos this]
     · have : ¬ okPt ps i := fun h => q1 h.1
       rw [if_neg (by omega), if_pos this]
       rfl)
    k (by omega)
   rw [if_pos (show ((rd_T97 ps 0).f0.length : Int) ≤ 3 by omega)]
   rw [show slices_IndexFunc_impl_Selection_pointsFormed_1.l0 k ps (ps.length : Int) 0 ((rd_T97 ps 0).f0.length : Int) = _ from hg]
   simp only [Option.bind_some]
   rcases look_or (fun i => ¬ okPt ps i) ps.length 0 with ⟨h4, h5⟩ | ⟨j, -, h4, h5, h6⟩
   · rw [h4]
     have h7 : okPts ps := ⟨h1, fun i _ hi => Decidable.not_not.1 (h5 i (by omega) (by omega))⟩
     rw [decide_eq_true h7]; rfl
   · rw [h5]
     have h7 : ¬ okPts ps := fun h => h6 (h.2 j (by omega) (by omega))
     have h8 : (j : Int) ≥ 0 := by omega
     rw [decide_eq_false h7]; simp [h8]
  · rw [if_neg (by omega), decide_eq_false]
    intro h
    have := (h.2 0 (by omega) (by omega)).2.1
    exact h3 this
 · rw [if_neg (by omega), decide_eq_false (fun h => h1 h.1)]
/-- the whole of it -/
def okF (a : Int) (l1 l2 l3 l4 : List Int) (ps : List S97) : Prop := (a = 1 ∨ a = 2) ∧ okPlain l1 l2 l3 l4 ∧ ps.length = 0 ∨ a = 3 ∧ okSlab l1 l2 l3 l4 ∧ ps.length = 0 ∨ a = 4 ∧ okPlain l1 l2 l3 l4 ∧ okPts ps
instance (a : Int) (l1 l2 l3 l4 : List Int) (ps : List S97) : Decidable (okF a l1 l2 l3 l4 ps) := by unfold okF; infer_instance
theorem formed_impl (a : Int) (l1 l2 l3 l4 : List Int) (ps : List S97) (hp : ps.length ≤ 1048576) (hq : ∀ y ∈ ps, QS97 y) (k : Nat) (hk : 11000010 ≤ k) : impl_FormedSelection.f k a l1 l2 l3 l4 ps = some (decide (okF a l1 l2 l3 l4 ps)) := by
 obtain ⟨k, rfl⟩ : ∃ z, k = z + 1 := ⟨k - 1, by omega⟩
 unfold impl_FormedSelection.f
 rw [sel_plain a l1 l2 l3 l4 ps hp hq _ (by omega)]
 simp only [Option.bind_some]
 generalize hpp : decide (okPlain l1 l2 l3 l4) = p
 have hb : (if a = 1 then impl_FormedSelection.j0 (k + 1) p a (a == 1) a l1 l2 l3 l4 ps else impl_FormedSelection.j0 (k + 1) p a (a == 2) a l1 l2 l3 l4 ps) = impl_FormedSelection.j0 (k + 1) p a (decide (a = 1 ∨ a = 2)) a l1 l2 l3 l4 ps := by
  by_cases h1 : a = 1
  · rw [if_pos h1]; congr 1; simp [h1]
  · rw [if_neg h1]; congr 1; simp [h1]; rfl
 rw [hb, impl_FormedSelection.j0, slabF_impl a l1 l2 l3 l4 ps k (by omega), points_impl a l1 l2 l3 l4 ps hp hq k (by omega), ← hpp]
 simp only [Option.bind_some, decide_eq_true_eq]
 unfold okF
 by_cases h12 : a = 1 ∨ a = 2
 ·
  rw [if_pos h12]
  by_cases hpl : okPlain l1 l2 l3 l4
  · rw [if_pos hpl]
    have h3 : ¬ a = 3 := by omega
    have h4 : ¬ a = 4 := by omega
    have e5 : ((ps.length : Int) == 0) = decide (ps.length = 0) := by rw [Bool.eq_iff_iff]; simp
    rw [e5]
    simp [h12, hpl, h3, h4]
  · rw [if_neg hpl]
    have h3 : ¬ a = 3 := by omega
    simp [hpl, h3]
 ·
  rw [if_neg h12]
  by_cases h3 : a = 3
  ·
   rw [if_pos h3]
   have h4 : ¬ a = 4 := by omega
   by_cases h5 : ps.length = 0
   · rw [if_pos (by omega)]
     simp only [h12, h3, h5, false_and, true_and, and_true, false_or]
     simp
   · rw [if_neg (by omega)]
     simp only [h12, h3, h5, false_and, true_and, and_false, false_or]
     simp
  ·
   rw [if_neg h3]
   by_cases h4 : a = 4
   · rw [if_pos h4]
     by_cases hpl : okPlain l1 l2 l3 l4
     · simp [h4, hpl]
     · simp [h4, hpl]
   · rw [if_neg h4]
     simp [h12, h3, h4]
def endv (l1 l2 l3 l4 : List Int) (i : Nat) : Int := rd l1 i + (rd l3 i - 1) * rd l2 i + rd l4 i
def okIn (d p : List Int) : Prop := p.length = d.length ∧ ∀ i, i < p.length → (0 ≤ rd p (i : Int) ∧ rd p (i : Int) ≤ wrap64 (rd d (i : Int) - 1))
instance (d p : List Int) : Decidable (okIn d p) := by unfold okIn; infer_instance
theorem inside_impl (d p : List Int) (hp : p.length ≤ 1048576) (k : Nat) (hk : 1048590 ≤ k) : impl_inDims.f k d p = some (decide (okIn d p)) := by
 unfold impl_inDims.f
 by_cases hn : p.length = d.length
 ·
  rw [if_pos (by omega), seq_loop (fun k i => impl_inDims.l0 k d p p.length i) (fun i => 0 ≤ rd p (i : Int) ∧ rd p (i : Int) ≤ wrap64 (rd d (i : Int) - 1)) p.length
   (by intro k; show impl_inDims.l0 (k + 1) d p _ _ = _; rw [impl_inDims.l0, if_neg (by omega)])
   (by
    intro k i hi
    show impl_inDims.l0 (k + 1) d p _ _ = _
    rw [impl_inDims.l0, if_pos (by omega), if_pos (by omega), if_pos (by omega), if_pos (by omega), wrap_up i (by omega), within_eq]
    simp only [Option.bind_some, decide_eq_true_eq])
   k (by omega)]
  congr 1
  apply decide_eq_decide.2
  exact ⟨fun h => ⟨hn, h⟩, fun h => h.2⟩
 · rw [if_neg (by omega), decide_eq_false (fun h => hn h.1)]
theorem end_okD (a : Int) (l1 l2 l3 l4 : List Int) (ps : List S97) (h : okSlab l1 l2 l3 l4) (i : Nat) (hi : i < l1.length) : spec_l06End.f a l1 l2 l3 l4 ps i = some (endv l1 l2 l3 l4 i) := by
 obtain ⟨h1, h2, h3, h4, h5⟩ := h
 have hd := h5 i (by omega) hi
 exact end_val a l1 l2 l3 l4 ps i hi (by omega) (by omega) (by omega) hd.1 hd.2.1 hd.2.2.1 hd.2.2.2.1
def okFitS (d l1 l2 l3 l4 : List Int) : Prop := l1.length = d.length ∧ ∀ i, i < d.length → endv l1 l2 l3 l4 i ≤ rd d (i : Int)
instance (d l1 l2 l3 l4 : List Int) : Decidable (okFitS d l1 l2 l3 l4) := by unfold okFitS; infer_instance
def okFitP (d : List Int) (ps : List S97) : Prop := ∀ i, i < ps.length → okIn d (rd_T97 ps (i : Int)).f0
instance (d : List Int) (ps : List S97) : Decidable (okFitP d ps) := by unfold okFitP; infer_instance
theorem fitS_impl (a : Int) (d l1 l2 l3 l4 : List Int) (ps : List S97) (hs : okSlab l1 l2 l3 l4) (hd : l1.length = d.length) (k : Nat) (hk : 100 ≤ k) : impl_Selection_fits.l0 k d d.length 0 a l1 l2 l3 l4 ps = some (decide (okFitS d l1 l2 l3 l4)) := by
 have h3 := hs.1
 rw [seq_loop (fun k i => impl_Selection_fits.l0 k d d.length i a l1 l2 l3 l4 ps) (fun i => endv l1 l2 l3 l4 i ≤ rd d (i : Int)) d.length
  (by intro k; show impl_Selection_fits.l0 (k + 1) d _ _ a l1 l2 l3 l4 ps = _; rw [impl_Selection_fits.l0, if_neg (by omega)])
  (by
   intro k i hi
   show impl_Selection_fits.l0 (k + 1) d _ _ a l1 l2 l3 l4 ps = _
   rw [impl_Selection_fits.l0, if_pos (by omega), if_pos (by omega), if_pos (by omega), ← end_eq, end_okD a l1 l2 l3 l4 ps hs i (by omega), wrap_up i (by omega)]
   simp only [Option.bind_some]
   by_cases h : endv l1 l2 l3 l4 i ≤ rd d (i : Int)
   · rw [if_neg (show ¬ endv l1 l2 l3 l4 i > rd d (i : Int) by omega), if_pos h]
   · rw [if_pos (show endv l1 l2 l3 l4 i > rd d (i : Int) by omega), if_neg h])
  k (by omega)]
 congr 1
 apply decide_eq_decide.2
 exact ⟨fun h => ⟨hd, h⟩, fun h => h.2⟩
theorem pts_len (ps : List S97) (hq : ∀ y ∈ ps, QS97 y) (i : Nat) (hi : i < ps.length) : (rd_T97 ps (i : Int)).f0.length ≤ 1048576 := by
 have : rd_T97 ps (i : Int) = ps[i] := getD_lt ps z97 i hi
 rw [this]
 have h := hq _ (List.getElem_mem hi)
 unfold QS97 at h
 omega
theorem fitP_impl (d : List Int) (ps : List S97) (hp : ps.length ≤ 1048576) (hq : ∀ y ∈ ps, QS97 y) (k : Nat) (hk : 3000000 ≤ k) : slices_ContainsFunc_impl_Selection_fits_1.f k ps d = some (!decide (okFitP d ps)) := by
 unfold slices_ContainsFunc_impl_Selection_fits_1.f slices_IndexFunc_impl_Selection_fits_1.f
 rw [find_loop (fun k i => slices_IndexFunc_impl_Selection_fits_1.l0 k ps ps.length i d) (fun i => ¬ okIn d (rd_T97 ps (i : Int)).f0) ps.length 1048590
  (by intro k _; show slices_IndexFunc_impl_Selection_fits_1.l0 (k + 1) ps _ _ d = _; rw [slices_IndexFunc_impl_Selection_fits_1.l0, if_neg (by omega)])
  (by
   intro k i hk hi
   show slices_IndexFunc_impl_Selection_fits_1.l0 (k + 1) ps _ _ d = _
   rw [slices_IndexFunc_impl_Selection_fits_1.l0, if_pos (by omega), if_pos (by omega), if_pos (by omega), wrap_up i (by omega)]
   unfold impl_Selection_fits_1.f
   rw [inside_impl d _ (pts_len ps hq i hi) k hk]
   simp only [Option.bind_some]
   by_cases h : okIn d (rd_T97 ps (i : Int)).f0 <;> simp [h])
  k (by omega)]
 simp only [Option.bind_some]
 rcases look_or (fun i => ¬ okIn d (rd_T97 ps (i : Int)).f0) ps.length 0 with ⟨h4, h5⟩ | ⟨j, -, h4, h5, h6⟩
 · rw [h4]
   have h7 : okFitP d ps := fun i hi => Decidable.not_not.1 (h5 i (by omega) (by omega))
   rw [decide_eq_true h7]; rfl
 · rw [h5]
   have h7 : ¬ okFitP d ps := fun h => h6 (h j (by omega))
   have h8 : (j : Int) ≥ 0 := by omega
   rw [decide_eq_false h7]; simp [h8]
def okV (d : List Int) (a : Int) (l1 l2 l3 l4 : List Int) (ps : List S97) : Prop := VD d ∧ okF a l1 l2 l3 l4 ps ∧ (a = 3 → okFitS d l1 l2 l3 l4) ∧ (a = 4 → okFitP d ps)
instance (d : List Int) (a : Int) (l1 l2 l3 l4 : List Int) (ps : List S97) : Decidable (okV d a l1 l2 l3 l4 ps) := by unfold okV; infer_instance
theorem okF_slab {a : Int} {l1 l2 l3 l4 : List Int} {ps : List S97} (h : okF a l1 l2 l3 l4 ps) (ha : a = 3) : okSlab l1 l2 l3 l4 := by
 rcases h with h | h | h
 · omega
 · exact h.2.1
 · omega
theorem valid_impl (d : List Int) (a : Int) (l1 l2 l3 l4 : List Int) (ps : List S97) (hp : ps.length ≤ 1048576) (hq : ∀ y ∈ ps, QS97 y) (k : Nat) (hk : 11000020 ≤ k) : impl_ValidSelection.f k d a l1 l2 l3 l4 ps = some (decide (okV d a l1 l2 l3 l4 ps)) := by
 unfold impl_ValidSelection.f impl_Selection_fits.f
 rw [dims_impl k d (by omega), formed_impl a l1 l2 l3 l4 ps hp hq k (by omega)]
 simp only [Option.bind_some, decide_eq_true_eq]
 by_cases hd : VD d
 ·
  rw [if_pos hd]
  by_cases hf : okF a l1 l2 l3 l4 ps
  ·
   rw [if_pos hf]
   by_cases h3 : a = 3
   ·
    rw [if_pos h3]
    by_cases hl : l1.length = d.length
    · rw [if_pos (by omega), fitS_impl a d l1 l2 l3 l4 ps (okF_slab hf h3) hl k (by omega)]
      simp only [Option.bind_some]
      congr 1
      apply decide_eq_decide.2
      exact ⟨fun h => ⟨hd, hf, fun _ => h, fun h4 => by omega⟩, fun h => h.2.2.1 h3⟩
    · rw [if_neg (by omega), decide_eq_false (show ¬ okV d a l1 l2 l3 l4 ps from fun h => hl (h.2.2.1 h3).1)]
      rfl
   ·
    rw [if_neg h3]
    by_cases h4 : a = 4
    · rw [if_pos h4, fitP_impl d ps hp hq k (by omega)]
      simp only [Option.bind_some, Bool.not_not]
      congr 1
      apply decide_eq_decide.2
      exact ⟨fun h => ⟨hd, hf, fun h => by omega, fun _ => h⟩, fun h => h.2.2.2 h4⟩
    · rw [if_neg h4, decide_eq_true (show okV d a l1 l2 l3 l4 ps from ⟨hd, hf, fun h => absurd h h3, fun h => absurd h h4⟩)]
      rfl
  · rw [if_neg hf, decide_eq_false (fun h => hf h.2.1)]
 · rw [if_neg hd, decide_eq_false (fun h => hd h.1)]
theorem flat_loop {ρ : Type} (L : Nat → List Int → Int → Option ρ) (C : Nat → List Int → Option ρ) (G : Nat → List Int) (n cost m g : Nat)
 (hlen : ∀ i, i < n → (G i).length ≤ g)
 (hend : ∀ k acc, m ≤ k → L (k + 1) acc (n : Int) = C k acc)
 (hstep : ∀ k acc (i : Nat), i < n → m + cost ≤ k → acc.length + g < 17592186044416 → ∃ k', k ≤ k' + cost ∧ L k acc (i : Int) = L k' (acc ++ G i) ((i + 1 : Nat) : Int)) :
 ∀ (d i k : Nat) (acc : List Int), i + d = n → m + d * cost + 1 ≤ k → acc.length + d * g < 17592186044416 → ∃ k', k ≤ k' + d * cost + 1 ∧ L k acc (i : Int) = C k' (acc ++ (List.range' i d).flatMap G) := by
 intro d
 induction d with
 | zero =>
  intro i k acc hi hk ha
  obtain ⟨k, rfl⟩ : ∃ z, k = z + 1 := ⟨k - 1, by omega⟩
  obtain rfl : i = n := by omega
  exact ⟨k, by omega, by rw [hend k acc (by omega)]; simp⟩
 | succ d ih =>
  intro i k acc hi hk ha
  rw [Nat.add_mul, Nat.one_mul] at hk ha
  obtain ⟨k1, h1, e1⟩ := hstep k acc i (by omega) (by omega) (by omega)
  have hl := hlen i (by omega)
  obtain ⟨k2, h2, e2⟩ := ih (i + 1) k1 (acc ++ G i) (by omega) (by omega) (by rw [List.length_append]; omega)
  refine ⟨k2, ?_, ?_⟩
  · rw [Nat.add_mul, Nat.one_mul]; omega
  · rw [e1, e2, List.range'_succ, List.flatMap_cons, List.append_assoc]
theorem flat_len (G : Nat → List Int) (g : Nat) (h : ∀ i, (G i).length = g) : ∀ (d s : Nat), ((List.range' s d).flatMap G).length = d * g := by
 intro d
 induction d with
 | zero => intro s; simp
 | succ d ih => intro s; rw [List.range'_succ, List.flatMap_cons, List.length_append, ih, h, Nat.add_mul, Nat.one_mul, Nat.add_comm]
def axG (l1 l2 : List Int) (i j t : Nat) : List Int := [wrap64 (wrap64 (rd l1 (i : Int) + wrap64 ((j : Int) * rd l2 (i : Int))) + (t : Int))]
def axJ (l1 l2 l4 : List Int) (i j : Nat) : List Int := (List.range' 0 (rd l4 (i : Int)).toNat).flatMap (axG l1 l2 i j)
def axisL (l1 l2 l3 l4 : List Int) (i : Nat) : List Int := (List.range' 0 (rd l3 (i : Int)).toNat).flatMap (axJ l1 l2 l4 i)
theorem axJ_len (l1 l2 l4 : List Int) (i j : Nat) : (axJ l1 l2 l4 i j).length = (rd l4 (i : Int)).toNat := by
 unfold axJ
 rw [flat_len _ 1 (fun _ => rfl), Nat.mul_one]
theorem axis_len (l1 l2 l3 l4 : List Int) (i : Nat) : (axisL l1 l2 l3 l4 i).length = (rd l3 (i : Int)).toNat * (rd l4 (i : Int)).toNat := by
 unfold axisL
 rw [flat_len _ _ (fun j => axJ_len l1 l2 l4 i j)]
/-- what holds of a dimension that the loops reach -/
structure Dim (l1 l2 l3 l4 : List Int) (i : Nat) : Prop where
 a1 : i < l1.length
 a2 : i < l2.length
 a3 : i < l3.length
 a4 : i < l4.length
 c1 : 1 ≤ rd l3 (i : Int) ∧ rd l3 (i : Int) ≤ 40
 c2 : 1 ≤ rd l4 (i : Int) ∧ rd l4 (i : Int) ≤ 40
 c3 : rd l3 (i : Int) * rd l4 (i : Int) ≤ 40
 small : i < 3
theorem dim_of (l1 l2 l3 l4 : List Int) (h : okSlab l1 l2 l3 l4) (i : Nat) (hi : i < l1.length) : Dim l1 l2 l3 l4 i := by
 obtain ⟨h1, h2, h3, h4, h5⟩ := h
 obtain ⟨q1, q3, q4, q2, q5⟩ := h5 i (by omega) hi
 refine ⟨hi, by omega, by omega, by omega, q3, q4, ?_, by omega⟩
 have hm : (rd l3 i - 1) * rd l4 i ≤ (rd l3 i - 1) * rd l2 i := Int.mul_le_mul_of_nonneg_left q2.1 (by omega)
 have he : rd l3 i * rd l4 i = (rd l3 i - 1) * rd l4 i + rd l4 i := by rw [Int.sub_mul, Int.one_mul]; omega
 omega
theorem axis_le (l1 l2 l3 l4 : List Int) (i : Nat) (h : Dim l1 l2 l3 l4 i) : (axisL l1 l2 l3 l4 i).length ≤ 40 ∧ ((axisL l1 l2 l3 l4 i).length : Int) = rd l3 (i : Int) * rd l4 (i : Int) := by
 have h1 := h.c1
 have h2 := h.c2
 have e : (((rd l3 (i : Int)).toNat * (rd l4 (i : Int)).toNat : Nat) : Int) = rd l3 (i : Int) * rd l4 (i : Int) := by
  rw [Int.natCast_mul, Int.toNat_of_nonneg (by omega), Int.toNat_of_nonneg (by omega)]
 rw [axis_len]
 refine ⟨?_, e⟩
 have h3 := h.c3
 omega
theorem axis_impl (a : Int) (l1 l2 l3 l4 : List Int) (ps : List S97) (i : Nat) (h : Dim l1 l2 l3 l4 i) (k : Nat) (hk : 2000 ≤ k) : impl_Selection_coordinates.f k a l1 l2 l3 l4 ps i = some (axisL l1 l2 l3 l4 i) := by
 obtain ⟨a1, a2, a3, a4, c1, c2, -, hs⟩ := h
 unfold impl_Selection_coordinates.f
 rw [if_pos (by omega), if_pos (by omega)]
 obtain ⟨k', -, e⟩ := flat_loop (fun k acc j => impl_Selection_coordinates.l0 k i acc (rd l3 (i : Int)) j a l1 l2 l3 l4 ps) (fun _ acc => some acc) (axJ l1 l2 l4 i) (rd l3 (i : Int)).toNat 43 1 40
  (by intro j hj; rw [axJ_len]; omega)
  (by intro k acc _; show impl_Selection_coordinates.l0 (k + 1) i acc _ _ a l1 l2 l3 l4 ps = _; rw [impl_Selection_coordinates.l0, if_neg (by omega)])
  (by
   intro k acc j hj hk ha
   obtain ⟨k, rfl⟩ : ∃ z, k = z + 1 := ⟨k - 1, by omega⟩
   obtain ⟨k', h1, e⟩ := flat_loop (fun k acc t => impl_Selection_coordinates.l1 k i acc j (rd l3 (i : Int)) j (rd l4 (i : Int)) t a l1 l2 l3 l4 ps) (fun k acc => impl_Selection_coordinates.l0 k i acc (rd l3 (i : Int)) ((j + 1 : Nat) : Int) a l1 l2 l3 l4 ps) (axG l1 l2 i j) (rd l4 (i : Int)).toNat 1 0 1
    (by intro t ht; exact Nat.le_refl 1)
    (by intro k acc _; show impl_Selection_coordinates.l1 (k + 1) i acc j _ j _ _ a l1 l2 l3 l4 ps = _; rw [impl_Selection_coordinates.l1, if_neg (by omega), wrap_up j (by omega)])
    (by
     intro k acc t ht hk ha
     obtain ⟨k, rfl⟩ : ∃ z, k = z + 1 := ⟨k - 1, by omega⟩
     refine ⟨k, by omega, ?_⟩
     show impl_Selection_coordinates.l1 (k + 1) i acc j _ j _ _ a l1 l2 l3 l4 ps = _
     rw [impl_Selection_coordinates.l1, if_pos (by omega), if_pos (by omega), if_pos (by omega), if_pos (by omega), if_pos (by omega), wrap_up t (by omega)]
     rfl)
    (rd l4 (i : Int)).toNat 0 k acc (by omega) (by omega) (by omega)
   refine ⟨k', by omega, ?_⟩
   show impl_Selection_coordinates.l0 (k + 1) i acc _ _ a l1 l2 l3 l4 ps = _
   rw [impl_Selection_coordinates.l0, if_pos (by omega), if_pos (by omega), if_pos (by omega)]
   exact e)
  (rd l3 (i : Int)).toNat 0 k [] (by omega) (by omega) (by simp; omega)
 exact e
def stG (d out ax : List Int) (i q t : Nat) : List Int := [wrap64 (wrap64 (rd out (q : Int) * rd d (i : Int)) + rd ax (t : Int))]
def stQ (d out ax : List Int) (i q : Nat) : List Int := (List.range' 0 ax.length).flatMap (stG d out ax i q)
def slabStep (d l1 l2 l3 l4 : List Int) (i : Nat) (out : List Int) : List Int := (List.range' 0 out.length).flatMap (stQ d out (axisL l1 l2 l3 l4 i) i)
theorem stQ_len (d out ax : List Int) (i q : Nat) : (stQ d out ax i q).length = ax.length := by
 unfold stQ
 rw [flat_len _ 1 (fun _ => rfl), Nat.mul_one]
theorem step_len (d l1 l2 l3 l4 : List Int) (i : Nat) (out : List Int) : (slabStep d l1 l2 l3 l4 i out).length = out.length * (axisL l1 l2 l3 l4 i).length := by
 unfold slabStep
 rw [flat_len _ _ (fun q => stQ_len d out _ i q)]
def slabR (d l1 l2 l3 l4 : List Int) : Nat → Nat → List Int → List Int
 | 0, _, out => out
 | c + 1, i, out => slabR d l1 l2 l3 l4 c (i + 1) (slabStep d l1 l2 l3 l4 i out)
theorem pow_step (n x c : Nat) (h : n * 40 ^ (c + 1) ≤ 64000) (hx : x ≤ 40) : n * x * 40 ^ c ≤ 64000 ∧ n ≤ 64000 ∧ n * x ≤ 64000 := by
 have h1 : n * x * 40 ^ c ≤ n * 40 * 40 ^ c := Nat.mul_le_mul_right _ (Nat.mul_le_mul_left _ hx)
 have h2 : n * 40 ^ (c + 1) = n * 40 * 40 ^ c := by rw [Nat.pow_succ, Nat.mul_comm (40 ^ c) 40, Nat.mul_assoc]
 have h3 : 0 < 40 ^ c := Nat.pow_pos (by omega)
 have h4 : n * x ≤ n * x * 40 ^ c := Nat.le_mul_of_pos_right _ h3
 have h5 : n * 40 ≤ n * 40 * 40 ^ c := Nat.le_mul_of_pos_right _ h3
 omega
theorem slab_ind_impl (a : Int) (d l1 l2 l3 l4 : List Int) (ps : List S97) (hD : ∀ i, i < d.length → Dim l1 l2 l3 l4 i) (hd : d.length ≤ 3) : ∀ (c i k : Nat) (out : List Int), i + c = d.length → out.length * 40 ^ c ≤ 64000 → 3000 + 3000000 * c < k →
 impl_Selection_slabIndices.l0 k out d d.length i a l1 l2 l3 l4 ps = some (slabR d l1 l2 l3 l4 c i out) := by
 intro c
 induction c with
 | zero =>
  intro i k out hi ho hk
  obtain ⟨k, rfl⟩ : ∃ z, k = z + 1 := ⟨k - 1, by omega⟩
  rw [impl_Selection_slabIndices.l0, if_neg (by omega)]; rfl
 | succ c ih =>
  intro i k out hi ho hk
  obtain ⟨k, rfl⟩ : ∃ z, k = z + 1 := ⟨k - 1, by omega⟩
  have hdim := hD i (by omega)
  obtain ⟨hx, -⟩ := axis_le l1 l2 l3 l4 i hdim
  obtain ⟨p1, p2, p3⟩ := pow_step _ _ _ ho hx
  have hc := fun k (hk : 2000 ≤ k) => axis_impl a l1 l2 l3 l4 ps i hdim k hk
  rw [impl_Selection_slabIndices.l0, if_pos (by omega), if_pos (by omega), if_pos (by omega)]
  generalize hax : axisL l1 l2 l3 l4 i = ax at *
  obtain ⟨k', h1, e⟩ := flat_loop (fun k acc q => impl_Selection_slabIndices.l1 k i (rd d (i : Int)) acc d d.length i out out.length q a l1 l2 l3 l4 ps) (fun k acc => impl_Selection_slabIndices.l0 k acc d d.length ((i + 1 : Nat) : Int) a l1 l2 l3 l4 ps) (stQ d out ax i) out.length 43 2001 40
   (by intro q hq; rw [stQ_len]; omega)
   (by intro k acc _; show impl_Selection_slabIndices.l1 (k + 1) i _ acc d _ i out _ _ a l1 l2 l3 l4 ps = _; rw [impl_Selection_slabIndices.l1, if_neg (by omega), wrap_up i (by omega)])
   (by
    intro k acc q hq hk ha
    obtain ⟨k, rfl⟩ : ∃ z, k = z + 1 := ⟨k - 1, by omega⟩
    obtain ⟨k', h1, e⟩ := flat_loop (fun k acc t => impl_Selection_slabIndices.l2 k i (rd d (i : Int)) acc (rd out (q : Int)) d d.length i out out.length q ax ax.length t a l1 l2 l3 l4 ps) (fun k acc => impl_Selection_slabIndices.l1 k i (rd d (i : Int)) acc d d.length i out out.length ((q + 1 : Nat) : Int) a l1 l2 l3 l4 ps) (stG d out ax i q) ax.length 1 0 1
     (by intro t ht; exact Nat.le_refl 1)
     (by intro k acc _; show impl_Selection_slabIndices.l2 (k + 1) i _ acc _ d _ i out _ q ax _ _ a l1 l2 l3 l4 ps = _; rw [impl_Selection_slabIndices.l2, if_neg (by omega), wrap_up q (by omega)])
     (by
      intro k acc t ht hk ha
      obtain ⟨k, rfl⟩ : ∃ z, k = z + 1 := ⟨k - 1, by omega⟩
      refine ⟨k, by omega, ?_⟩
      show impl_Selection_slabIndices.l2 (k + 1) i _ acc _ d _ i out _ q ax _ _ a l1 l2 l3 l4 ps = _
      rw [impl_Selection_slabIndices.l2, if_pos (by omega), if_pos (by omega), if_pos (by omega), if_pos (by omega), wrap_up t (by omega)]
      rfl)
     ax.length 0 k acc (by omega) (by omega) (by omega)
    refine ⟨k', by omega, ?_⟩
    show impl_Selection_slabIndices.l1 (k + 1) i _ acc d _ i out _ _ a l1 l2 l3 l4 ps = _
    rw [impl_Selection_slabIndices.l1, if_pos (by omega), if_pos (by omega), if_pos (by omega), hc k (by omega)]
    exact e)
   out.length 0 k [] (by omega) (by omega) (by simp; omega)
  have e' : impl_Selection_slabIndices.l1 k i (rd d (i : Int)) [] d d.length i out out.length 0 a l1 l2 l3 l4 ps = impl_Selection_slabIndices.l0 k' (slabStep d l1 l2 l3 l4 i out) d d.length ((i + 1 : Nat) : Int) a l1 l2 l3 l4 ps := by
   unfold slabStep; rw [hax]; exact e
  rw [e', ih (i + 1) k' _ (by omega) (by rw [step_len, hax]; exact p1) (by omega)]
  rfl
theorem slabR_len (d l1 l2 l3 l4 : List Int) (hD : ∀ i, i < d.length → Dim l1 l2 l3 l4 i) : ∀ (c i : Nat) (out : List Int), i + c = d.length → out.length * 40 ^ c ≤ 64000 → (slabR d l1 l2 l3 l4 c i out).length ≤ 64000 := by
 intro c
 induction c with
 | zero => intro i out hi ho; rw [Nat.pow_zero, Nat.mul_one] at ho; exact ho
 | succ c ih =>
  intro i out hi ho
  have hdim := hD i (by omega)
  obtain ⟨hx, -⟩ := axis_le l1 l2 l3 l4 i hdim
  obtain ⟨p1, p2, p3⟩ := pow_step _ _ _ ho hx
  exact ih (i + 1) _ (by omega) (by rw [step_len]; exact p1)
/-- the index of a point -/
def idxR (d p : List Int) : Nat → Nat → Int → Int
 | 0, _, x => x
 | c + 1, i, x => idxR d p c (i + 1) (wrap64 (wrap64 (x * rd d (i : Int)) + rd p (i : Int)))
theorem idx_impl (d p : List Int) (hd : d.length ≤ 1048576) (hp : p.length = d.length) : ∀ (c i k : Nat) (x : Int), i + c = d.length → c < k → impl_indexOf.l0 k d x p p.length i = some (idxR d p c i x) := by
 intro c
 induction c with
 | zero =>
  intro i k x hi hk
  obtain ⟨k, rfl⟩ : ∃ z, k = z + 1 := ⟨k - 1, by omega⟩
  rw [impl_indexOf.l0, if_neg (by omega)]; rfl
 | succ c ih =>
  intro i k x hi hk
  obtain ⟨k, rfl⟩ : ∃ z, k = z + 1 := ⟨k - 1, by omega⟩
  rw [impl_indexOf.l0, if_pos (by omega), if_pos (by omega), if_pos (by omega), if_pos (by omega), wrap_up i (by omega), ih (i + 1) k _ (by omega) (by omega)]
  rfl
theorem idxF_impl (d p : List Int) (hd : d.length ≤ 3) (hp : p.length = d.length) (k : Nat) (hk : 10 ≤ k) : impl_indexOf.f k d p = some (idxR d p d.length 0 0) := idx_impl d p (by omega) hp d.length 0 k 0 (by omega) (by omega)
def allG (i : Nat) : List Int := [(i : Int)]
def ptG (d : List Int) (ps : List S97) (i : Nat) : List Int := [idxR d (rd_T97 ps (i : Int)).f0 d.length 0 0]
/-- the indices that a valid selection selects -/
def indL (d : List Int) (a : Int) (l1 l2 l3 l4 : List Int) (ps : List S97) : List Int :=
 if a = 1 then (List.range' 0 (prodL d).toNat).flatMap allG else if a = 3 then slabR d l1 l2 l3 l4 d.length 0 [0] else if a = 4 then (List.range' 0 ps.length).flatMap (ptG d ps) else []
theorem pow40 (n : Nat) (h : n ≤ 3) : 1 * 40 ^ n ≤ 64000 := by
 rw [Nat.one_mul]
 exact Nat.le_trans (Nat.pow_le_pow_right (by omega) h) (by decide)
theorem dims_of {d : List Int} {a : Int} {l1 l2 l3 l4 : List Int} {ps : List S97} (h : okV d a l1 l2 l3 l4 ps) (h3 : a = 3) : ∀ i, i < d.length → Dim l1 l2 l3 l4 i := by
 intro i hi
 have hs := okF_slab h.2.1 h3
 exact dim_of l1 l2 l3 l4 hs i (by rw [(h.2.2.1 h3).1]; exact hi)
theorem pts24 {a : Int} {l1 l2 l3 l4 : List Int} {ps : List S97} (h : okF a l1 l2 l3 l4 ps) (h4 : a = 4) : ps.length ≤ 24 := by
 rcases h with h | h | h
 · omega
 · omega
 · exact h.2.2.1.2
theorem ind_impl (d : List Int) (a : Int) (l1 l2 l3 l4 : List Int) (ps : List S97) (h : okV d a l1 l2 l3 l4 ps) (k : Nat) (hk : 10000000 ≤ k) : impl_Selection_indices.f k a l1 l2 l3 l4 ps d = some (indL d a l1 l2 l3 l4 ps) := by
 have hd3 : d.length ≤ 3 := h.1.1
 have hpr : prodL d ≤ 600 := h.1.2.2
 unfold impl_Selection_indices.f indL
 by_cases h1 : a = 1
 ·
  rw [if_pos h1, if_pos h1, prod_impl k d (by omega) h.1]
  simp only [Option.bind_some]
  obtain ⟨k', -, e⟩ := flat_loop (fun k acc i => impl_Selection_indices.l0 k acc (prodL d) i) (fun _ acc => some acc) allG (prodL d).toNat 1 10 1
   (by intro i hi; exact Nat.le_refl 1)
   (by intro k acc _; show impl_Selection_indices.l0 (k + 1) acc _ _ = _; rw [impl_Selection_indices.l0, if_neg (by omega)])
   (by
    intro k acc i hi hk ha
    obtain ⟨k, rfl⟩ : ∃ z, k = z + 1 := ⟨k - 1, by omega⟩
    refine ⟨k, by omega, ?_⟩
    show impl_Selection_indices.l0 (k + 1) acc _ _ = _
    rw [impl_Selection_indices.l0, if_pos (by omega), if_pos (by omega), wrap_up i (by omega)]
    rfl)
   (prodL d).toNat 0 k [] (by omega) (by omega) (by simp; omega)
  exact e
 ·
  rw [if_neg h1, if_neg h1]
  by_cases h3 : a = 3
  · rw [if_pos h3, if_pos h3]
    unfold impl_Selection_slabIndices.f
    have := slab_ind_impl a d l1 l2 l3 l4 ps (dims_of h h3) hd3 d.length 0 k [0] (by omega) (by simpa using pow40 _ hd3) (by omega)
    rw [show impl_Selection_slabIndices.l0 k [0] d (d.length : Int) 0 a l1 l2 l3 l4 ps = _ from this]
    rfl
  ·
   rw [if_neg h3, if_neg h3]
   by_cases h4 : a = 4
   ·
    have hp := pts24 h.2.1 h4
    have hin := h.2.2.2 h4
    rw [if_pos h4, if_pos h4]
    obtain ⟨k', -, e⟩ := flat_loop (fun k acc i => impl_Selection_indices.l1 k d acc ps ps.length i) (fun _ acc => some acc) (ptG d ps) ps.length 1 10 1
     (by intro i hi; exact Nat.le_refl 1)
     (by intro k acc _; show impl_Selection_indices.l1 (k + 1) d acc ps _ _ = _; rw [impl_Selection_indices.l1, if_neg (by omega)])
     (by
      intro k acc i hi hk ha
      obtain ⟨k, rfl⟩ : ∃ z, k = z + 1 := ⟨k - 1, by omega⟩
      refine ⟨k, by omega, ?_⟩
      show impl_Selection_indices.l1 (k + 1) d acc ps _ _ = _
      rw [impl_Selection_indices.l1, if_pos (by omega), if_pos (by omega), if_pos (by omega), idxF_impl d _ hd3 (hin i hi).1 k (by omega)]
      simp only [Option.bind_some]
      rw [if_pos (by omega), wrap_up i (by omega)]
      rfl)
     ps.length 0 k [] (by omega) (by omega) (by simp; omega)
    exact e
   · rw [if_neg h4, if_neg h4]
theorem indL_len (d : List Int) (a : Int) (l1 l2 l3 l4 : List Int) (ps : List S97) (h : okV d a l1 l2 l3 l4 ps) : (indL d a l1 l2 l3 l4 ps).length ≤ 64000 := by
 have hd3 : d.length ≤ 3 := h.1.1
 have hpr : prodL d ≤ 600 := h.1.2.2
 unfold indL
 by_cases h1 : a = 1
 · rw [if_pos h1, flat_len _ 1 (fun _ => rfl)]; omega
 ·
  rw [if_neg h1]
  by_cases h3 : a = 3
  · rw [if_pos h3]
    exact slabR_len d l1 l2 l3 l4 (dims_of h h3) d.length 0 [0] (by omega) (by simpa using pow40 _ hd3)
  · rw [if_neg h3]
    by_cases h4 : a = 4
    · rw [if_pos h4, flat_len _ 1 (fun _ => rfl)]
      have := pts24 h.2.1 h4
      omega
    · rw [if_neg h4]; simp
theorem u64_lo (x : Int) : 0 ≤ IntKind.u64.wrap x ∧ IntKind.u64.wrap x < 18446744073709551616 := by
 have h : IntKind.u64.wrap x = x % 18446744073709551616 := by simp [IntKind.wrap, IntKind.bits, IntKind.signed]
 omega
theorem and255 (x : Int) : 0 ≤ wrap64 (Go.bits .and .u64 (IntKind.u64.wrap x / 1099511627776) 255) ∧ wrap64 (Go.bits .and .u64 (IntKind.u64.wrap x / 1099511627776) 255) ≤ 255 := by
 obtain ⟨h0, h1⟩ := u64_lo x
 have h := bits_mask .u64 24 (by decide) (fun n h0 h1 => by
  have h : IntKind.u64.wrap n = n % 18446744073709551616 := by simp [IntKind.wrap, IntKind.bits, IntKind.signed]
  omega) 8 (by decide) (IntKind.u64.wrap x / 1099511627776) (by omega) (by omega)
 rw [show ((2 : Int) ^ 8 - 1) = 255 by decide, show ((2 : Int) ^ 8) = 256 by decide] at h
 rw [h]; unfold wrap64; omega
def Code (c : List Int) : Prop := ∀ x ∈ c, 0 ≤ x ∧ x ≤ 255
theorem code_wf {c : List Int} (h : ∀ x_ ∈ c, (Lit.int .u8 x_).wf = true) : Code c := fun x hx => by
 have := h x hx
 simp [Lit.wf, IntKind.min, IntKind.max, IntKind.bits, IntKind.signed] at this
 omega
theorem code_rd {c : List Int} (h : Code c) (i : Int) (h0 : 0 ≤ i) (h1 : i < c.length) : 0 ≤ rd c i ∧ rd c i ≤ 255 := by
 have := rd_lt c i.toNat (by omega)
 rw [show ((i.toNat : Nat) : Int) = i by omega] at this
 rw [this]
 exact h _ (List.getElem_mem _)
theorem next_ok {c : List Int} (hc : Code c) (p s : Int) (h0 : 0 ≤ p) (h1 : p ≤ 1000000000000) : ∃ r t, (0 ≤ r ∧ r ≤ 255) ∧ spec_l00Src_next.f c p s = some (r, p + 1, t) := by
 have hw : wrap64 (p + 1) = p + 1 := by unfold wrap64; omega
 unfold spec_l00Src_next.f
 rw [hw]
 by_cases hp : p < (c.length : Int)
 · obtain ⟨r0, r1⟩ := code_rd hc p h0 hp
   have hr : wrap64 (rd c p) = rd c p := by unfold wrap64; omega
   rw [if_pos hp, if_pos h0, if_pos (by omega), hr]
   exact ⟨_, _, ⟨r0, r1⟩, rfl⟩
 · rw [if_neg hp, if_neg (by omega)]
   exact ⟨_, _, and255 _, rfl⟩
theorem pick_ok {c : List Int} (hc : Code c) (p s n : Int) (h0 : 0 ≤ p) (h1 : p ≤ 100000000000) : ∃ r q t, (0 ≤ r ∧ (r < n ∨ r = 0)) ∧ (p ≤ q ∧ q ≤ p + 2) ∧ spec_l00Src_pick.f c p s n = some (r, q, t) := by
 unfold spec_l00Src_pick.f
 by_cases hn : n ≤ 1
 · rw [if_pos hn]
   exact ⟨0, p, s, ⟨by omega, .inr rfl⟩, ⟨by omega, by omega⟩, rfl⟩
 ·
  obtain ⟨r, t, hr, e⟩ := next_ok hc p s h0 (by omega)
  rw [if_neg hn, e]
  simp only [Option.bind_some]
  by_cases h2 : n > 200
  ·
   obtain ⟨r2, t2, hr2, e2⟩ := next_ok hc (p + 1) t (by omega) (by omega)
   rw [if_pos h2, e2]
   simp only [Option.bind_some]
   rw [if_neg (by omega)]
   have hw : wrap64 (wrap64 (r * 256) + r2) = r * 256 + r2 := by unfold wrap64; omega
   rw [hw]
   refine ⟨_, _, _, ⟨Int.tmod_nonneg _ (by omega), .inl (Int.tmod_lt_of_pos _ (by omega))⟩, ⟨?_, ?_⟩, rfl⟩ <;> omega
  · rw [if_neg h2, if_neg (by omega)]
    refine ⟨_, _, _, ⟨Int.tmod_nonneg _ (by omega), .inl (Int.tmod_lt_of_pos _ (by omega))⟩, ⟨?_, ?_⟩, rfl⟩ <;> omega
theorem one_ok {c : List Int} (hc : Code c) (p s n : Int) (h0 : 0 ≤ p) (h1 : p ≤ 100000000000) : ∃ b q t, (p ≤ q ∧ q ≤ p + 2) ∧ spec_l00Src_one.f c p s n = some (b, q, t) := by
 obtain ⟨r, q, t, -, hq, e⟩ := pick_ok hc p s n h0 h1
 exact ⟨_, q, t, hq, by unfold spec_l00Src_one.f; rw [e]; rfl⟩
theorem among_ok {c : List Int} (hc : Code c) (p s : Int) (l : List Int) (hl : 0 < l.length) (h0 : 0 ≤ p) (h1 : p ≤ 100000000000) : ∃ (i : Nat) (q t : Int), i < l.length ∧ (p ≤ q ∧ q ≤ p + 2) ∧ spec_l00Src_among.f c p s l = some (rd l (i : Int), q, t) := by
 obtain ⟨r, q, t, hr, hq, e⟩ := pick_ok hc p s l.length h0 h1
 refine ⟨r.toNat, q, t, by omega, hq, ?_⟩
 unfold spec_l00Src_among.f
 rw [e]
 simp only [Option.bind_some]
 rw [if_pos hr.1, if_pos (by omega), show ((r.toNat : Nat) : Int) = r by omega]
def st_ (x y : List Int) (n : Nat) : List Int := (List.range n).map fun (j : Nat) => wrap64 (rd y (j : Int) - rd x (j : Int))
def on_ (n : Nat) : List Int := (List.range n).map fun (_ : Nat) => (1 : Int)
theorem st_succ (x y : List Int) (n : Nat) : st_ x y (n + 1) = st_ x y n ++ [wrap64 (rd y (n : Int) - rd x (n : Int))] := by simp [st_, List.range_succ]
theorem on_succ (n : Nat) : on_ (n + 1) = on_ n ++ [1] := by simp [on_, List.range_succ]
theorem st_len (x y : List Int) (n : Nat) : (st_ x y n).length = n := by simp [st_]
theorem on_len (n : Nat) : (on_ n).length = n := by simp [on_]
theorem st_rd (x y : List Int) (n j : Nat) (h : j < n) : rd (st_ x y n) (j : Int) = wrap64 (rd y (j : Int) - rd x (j : Int)) := by
 rw [rd_lt _ j (by rw [st_len]; exact h)]
 simp [st_]
theorem on_rd (n j : Nat) (h : j < n) : rd (on_ n) (j : Int) = 1 := by
 rw [rd_lt _ j (by rw [on_len]; exact h)]
 simp [on_]
theorem own_eq (l : List Int) (h : l.length ≤ 1048576) : spec_l00Own.f l = some l := by
 unfold spec_l00Own.f
 simp only [Option.bind_some, List.length_nil, List.nil_append]
 rw [if_pos (by omega)]
theorem clone_eq (l : List Int) (h : l.length ≤ 1048576) : slices_Clone_int64_int64.f l = some l := by
 unfold slices_Clone_int64_int64.f slices_Clone_int64_int64_nn.f
 simp only [Option.bind_some, List.length_nil, List.nil_append]
 rw [if_pos (by omega)]
theorem srange_loop (x y l : List Int) (n : Nat) (hn : n = min x.length y.length) (hx : x.length ≤ 1048576) : ∀ (d i k : Nat), i + d = n → d < k →
 spec_l06Range.l0 k x y (i : Int) 3 l (st_ x y i) (on_ i) (st_ x y i) = some (3, l, st_ x y n, on_ n, st_ x y n, ([] : List S97)) := by
 intro d
 induction d with
 | zero =>
  intro i k hi hk
  obtain ⟨k, rfl⟩ : ∃ m, k = m + 1 := ⟨k - 1, by omega⟩
  have hi' : i = n := by omega
  subst hi'
  rw [spec_l06Range.l0]
  by_cases h : (i : Int) < (x.length : Int)
  · rw [if_pos h, if_neg (by omega)]
  · rw [if_neg h]
 | succ d ih =>
  intro i k hi hk
  obtain ⟨k, rfl⟩ : ∃ m, k = m + 1 := ⟨k - 1, by omega⟩
  rw [spec_l06Range.l0, if_pos (by omega), if_pos (by omega), if_pos (by omega), if_pos (by rw [st_len]; omega), if_pos (by rw [on_len]; omega), if_pos (by rw [st_len]; omega), wrap_up i (by omega), ← st_succ, ← on_succ]
  exact ih (i + 1) k (by omega) (by omega)
theorem irange_loop (x y l : List Int) (hy : y.length = x.length) (hx : x.length ≤ 1048576) : ∀ (d i k : Nat), i + d = x.length → d < k →
 impl_rangeOf.l0 k x y (x.length : Int) (i : Int) 3 l (st_ x y i) (on_ i) (st_ x y i) = some (3, l, st_ x y x.length, on_ x.length, st_ x y x.length, ([] : List S97)) := by
 intro d
 induction d with
 | zero =>
  intro i k hi hk
  obtain ⟨k, rfl⟩ : ∃ m, k = m + 1 := ⟨k - 1, by omega⟩
  have hi' : i = x.length := by omega
  subst hi'
  rw [impl_rangeOf.l0, if_neg (by omega)]
 | succ d ih =>
  intro i k hi hk
  obtain ⟨k, rfl⟩ : ∃ m, k = m + 1 := ⟨k - 1, by omega⟩
  rw [impl_rangeOf.l0, if_pos (by omega), if_pos (by rw [on_len]; omega), if_pos (by omega), if_pos (by omega), if_pos (by omega), if_pos (by rw [st_len]; omega), if_pos (by rw [st_len]; omega), wrap_up i (by omega), ← st_succ, ← on_succ]
  exact ih (i + 1) k (by omega) (by omega)
def PassAt (x y : List Int) (j : Nat) : Prop := (0 ≤ rd x (j : Int) ∧ rd x (j : Int) ≤ wrap64 (rd y (j : Int) - 1)) ∧ rd y (j : Int) ≤ 40
instance (x y : List Int) (j : Nat) : Decidable (PassAt x y j) := by unfold PassAt; infer_instance
abbrev RT := Int × List Int × List Int × List Int × List Int × List S97 × Bool
abbrev noR : Option RT := some (0, ([] : List Int), ([] : List Int), ([] : List Int), ([] : List Int), ([] : List S97), false)
abbrev yesR (x y : List Int) : Option RT := some (3, x, st_ x y x.length, on_ x.length, st_ x y x.length, ([] : List S97), true)
def okR (x y : List Int) : Prop := y.length = x.length ∧ okSlab x (st_ x y x.length) (on_ x.length) (st_ x y x.length)
instance (x y : List Int) : Decidable (okR x y) := by unfold okR; infer_instance
theorem formed3 (l1 l2 l3 l4 : List Int) (k : Nat) (hk : 200 ≤ k) : spec_l06Formed.f k 3 l1 l2 l3 l4 ([] : List S97) = some (decide (okSlab l1 l2 l3 l4)) := by
 obtain ⟨k, rfl⟩ : ∃ z, k = z + 1 := ⟨k - 1, by omega⟩
 unfold spec_l06Formed.f
 rw [if_neg (by decide), spec_l06Formed.j0, if_neg (by decide), if_pos rfl, slabF_spec 3 l1 l2 l3 l4 [] k (by omega)]
 simp
theorem fin_eq (x y : List Int) (hx : x.length ≤ 1048576) (hy : y.length ≤ 1048576) (i : Int) (k : Nat) (hk : 1048800 ≤ k) : spec_RangeOf.j1 k x y i false = if okR x y then yesR x y else noR := by
 obtain ⟨k, rfl⟩ : ∃ z, k = z + 1 := ⟨k - 1, by omega⟩
 rw [spec_RangeOf.j1, if_neg (by decide)]
 unfold spec_l06Range.f
 rw [own_eq x hx]
 simp only [Option.bind_some]
 have h := srange_loop x y x (min x.length y.length) rfl hx (min x.length y.length) 0 k (by omega) (by omega)
 rw [show spec_l06Range.l0 k x y 0 3 x [] [] [] = _ from h]
 simp only [Option.bind_some]
 by_cases he : y.length = x.length
 ·
  rw [if_pos (by omega), formed3 _ _ _ _ k (by omega)]
  have hm : min x.length y.length = x.length := by omega
  rw [hm]
  simp only [Option.bind_some, decide_eq_true_eq]
  by_cases ho : okSlab x (st_ x y x.length) (on_ x.length) (st_ x y x.length)
  · rw [if_pos ho, if_pos (show okR x y from ⟨he, ho⟩)]
  · rw [if_neg ho, if_neg (fun q : okR x y => ho q.2)]
 · rw [if_neg (by omega), if_neg (fun q : okR x y => he q.1)]
theorem spec_loop (x y : List Int) (hx : x.length ≤ 1048576) (hy : y.length ≤ 1048576) : ∀ (d i k : Nat), i + d = min x.length y.length → 2 * d + 1048802 < k →
 spec_RangeOf.l0 k x y (i : Int) = if (∀ j, i ≤ j → j < min x.length y.length → PassAt x y j) ∧ okR x y then yesR x y else noR := by
 intro d
 induction d with
 | zero =>
  intro i k hi hk
  obtain ⟨k, rfl⟩ : ∃ m, k = m + 1 := ⟨k - 1, by omega⟩
  have e : (if (∀ j, i ≤ j → j < min x.length y.length → PassAt x y j) ∧ okR x y then yesR x y else noR) = if okR x y then yesR x y else noR := by
   by_cases h : okR x y
   · rw [if_pos h, if_pos ⟨fun j h1 h2 => by omega, h⟩]
   · rw [if_neg h, if_neg (fun q => h q.2)]
  rw [e, spec_RangeOf.l0]
  by_cases h : (i : Int) < (x.length : Int)
  · rw [if_pos h, decide_eq_false (by omega), fin_eq x y hx hy _ k (by omega)]
  · rw [if_neg h, fin_eq x y hx hy _ k (by omega)]
 | succ d ih =>
  intro i k hi hk
  obtain ⟨k, rfl⟩ : ∃ m, k = m + 2 := ⟨k - 2, by omega⟩
  rw [spec_RangeOf.l0, if_pos (by omega), decide_eq_true (by omega), spec_RangeOf.j1, if_pos rfl, if_pos (by omega), if_pos (by omega), if_pos (by omega), in_eq]
  simp only [Option.bind_some, decide_eq_true_eq]
  have no : ¬ PassAt x y i → (if (∀ j, i ≤ j → j < min x.length y.length → PassAt x y j) ∧ okR x y then yesR x y else noR) = noR := fun h => if_neg (fun q => h (q.1 i (by omega) (by omega)))
  by_cases h1 : 0 ≤ rd x (i : Int) ∧ rd x (i : Int) ≤ wrap64 (rd y (i : Int) - 1)
  ·
   rw [if_pos h1]
   by_cases h2 : rd y (i : Int) > 40
   · rw [if_pos h2, no (fun q => by have := q.2; omega)]
   ·
    rw [if_neg h2, wrap_up i (by omega), ih (i + 1) k (by omega) (by omega)]
    have hp : PassAt x y i := ⟨h1, by omega⟩
    by_cases h : (∀ j, i + 1 ≤ j → j < min x.length y.length → PassAt x y j) ∧ okR x y
    · rw [if_pos h, if_pos ⟨fun j q1 q2 => by
       by_cases e : j = i
       · subst e; exact hp
       · exact h.1 j (by omega) q2, h.2⟩]
    · rw [if_neg h, if_neg (fun q => h ⟨fun j q1 q2 => q.1 j (by omega) q2, q.2⟩)]
  · rw [if_neg h1, no (fun q => h1 q.1)]
theorem rd_bd (l : List Int) (h : ∀ x ∈ l, -1000 ≤ x ∧ x ≤ 1000) (j : Nat) (hj : j < l.length) : -1000 ≤ rd l (j : Int) ∧ rd l (j : Int) ≤ 1000 := by
 rw [rd_lt l j hj]; exact h l[j] (List.getElem_mem hj)
theorem vbox_iff (x y : List Int) (wy : ∀ a ∈ y, -1000 ≤ a ∧ a ≤ 1000) : ((∀ j, 0 ≤ j → j < min x.length y.length → PassAt x y j) ∧ okR x y) ↔ VBox x y := by
 constructor
 ·
  rintro ⟨h, he, ho⟩
  refine ⟨ho.1, he, fun j hj => ?_⟩
  obtain ⟨⟨p1, p2⟩, p3⟩ := h j (by omega) (by omega)
  obtain ⟨⟨q1, q2⟩, -, ⟨q5, q6⟩, -, q9⟩ := ho.2.2.2.2 j (by omega) hj
  have w := rd_bd y wy j (by omega)
  rw [on_rd _ _ hj, st_rd _ _ _ _ hj] at q9
  rw [st_rd _ _ _ _ hj] at q5 q6
  have e : wrap64 (rd y (j : Int) - rd x (j : Int)) = rd y (j : Int) - rd x (j : Int) := by
   by_cases hw : -9223372036854775808 ≤ rd y (j : Int) - rd x (j : Int)
   · exact wrap64_id (by omega) (by omega)
   · exfalso
     unfold wrap64 at q5 q6
     omega
  rw [e] at q5 q6
  exact ⟨p1, by omega, p3⟩
 ·
  rintro ⟨h1, h2, h3⟩
  have hm : min x.length y.length = x.length := by omega
  rw [hm]
  refine ⟨fun j _ hj => ?_, h2, h1, st_len _ _ _, on_len _, st_len _ _ _, fun j _ hj => ?_⟩
  · obtain ⟨q1, q2, q3⟩ := h3 j hj
    refine ⟨⟨q1, ?_⟩, q3⟩
    rw [wrap64_id (by omega) (by omega)]
    omega
  · obtain ⟨q1, q2, q3⟩ := h3 j hj
    unfold okD
    rw [on_rd _ _ hj, st_rd _ _ _ _ hj, wrap64_id (a := rd y (j : Int) - rd x (j : Int)) (by omega) (by omega)]
    omega
theorem both_range (x y : List Int) (hx : x.length ≤ 1048576) (hy : y.length ≤ 1048576) (wy : ∀ a ∈ y, -1000 ≤ a ∧ a ≤ 1000) :
 (∀ k, 5000000 ≤ k → spec_RangeOf.f k x y = if VBox x y then yesR x y else noR) ∧ ∀ k, 5000000 ≤ k → impl_RangeOf.f k x y = if VBox x y then yesR x y else noR := by
 have hS : ∀ k, 5000000 ≤ k → spec_RangeOf.f k x y = if VBox x y then yesR x y else noR := by
  intro k hk
  unfold spec_RangeOf.f
  have h := spec_loop x y hx hy (min x.length y.length) 0 k (by omega) (by omega)
  rw [show spec_RangeOf.l0 k x y 0 = _ from h]
  by_cases hv : VBox x y
  · rw [if_pos hv, if_pos ((vbox_iff x y wy).2 hv)]
  · rw [if_neg hv, if_neg (fun q => hv ((vbox_iff x y wy).1 q))]
 have hI : ∀ k, 5000000 ≤ k → impl_RangeOf.f k x y = if VBox x y then yesR x y else noR := by
  intro k hk
  unfold impl_RangeOf.f impl_rangeOf.f
  rw [box_impl k x y (by omega), clone_eq x hx]
  simp only [Option.bind_some, decide_eq_true_eq]
  by_cases hv : VBox x y
  · rw [if_pos hv, if_pos hv]
    have h := irange_loop x y x hv.2.1 hx x.length 0 k (by omega) (by omega)
    rw [show impl_rangeOf.l0 k x y x.length 0 3 x [] [] [] = _ from h]
    rfl
  · rw [if_neg hv, if_neg hv]
 exact ⟨hS, hI⟩
theorem has_impl (T : List Int) (x : Int) (hT : T.length ≤ 64000) (k : Nat) (hk : 100000 ≤ k) : slices_Contains_int64_int64.f k T x = some (!decide (∀ i, i < T.length → ¬ rd T (i : Int) = x)) := by
 unfold slices_Contains_int64_int64.f slices_Index_int64_int64.f
 rw [find_loop (fun k i => slices_Index_int64_int64.l0 k T x T.length i) (fun i => x = rd T (i : Int)) T.length 0
  (by intro k _; show slices_Index_int64_int64.l0 (k + 1) T x _ _ = _; rw [slices_Index_int64_int64.l0, if_neg (by omega)])
  (by
   intro k i _ hi
   show slices_Index_int64_int64.l0 (k + 1) T x _ _ = _
   rw [slices_Index_int64_int64.l0, if_pos (by omega), if_pos (by omega), if_pos (by omega), wrap_up i (by omega)])
  k (by omega)]
 simp only [Option.bind_some]
 rcases look_or (fun i => x = rd T (i : Int)) T.length 0 with ⟨h4, h5⟩ | ⟨j, -, h4, h5, h6⟩
 · rw [h4]
   have h7 : ∀ i, i < T.length → ¬ rd T (i : Int) = x := fun i hi h => h5 i (by omega) (by omega) h.symm
   rw [decide_eq_true h7]; rfl
 · rw [h5]
   have h7 : ¬ ∀ i, i < T.length → ¬ rd T (i : Int) = x := fun h => h j (by omega) h6.symm
   have h8 : (j : Int) ≥ 0 := by omega
   rw [decide_eq_false h7]; simp [h8]
/-! what a drawn range is known to be -/
def Lim (m : Nat) (l : List Int) : Prop := l.length ≤ m ∧ ∀ x ∈ l, -1000 ≤ x ∧ x ≤ 1000
theorem lim_snoc {m : Nat} {l : List Int} (h : Lim m l) (x : Int) (hx : -1000 ≤ x ∧ x ≤ 1000) : Lim (m + 1) (l ++ [x]) := by
 refine ⟨by simp; exact h.1, fun z hz => ?_⟩
 rcases List.mem_append.1 hz with hz | hz
 · exact h.2 z hz
 · rw [List.mem_singleton.1 hz]; exact hx
theorem lim_set {m : Nat} {l : List Int} (h : Lim m l) (i : Nat) (x : Int) (hx : -1000 ≤ x ∧ x ≤ 1000) : Lim m (l.set i x) := by
 refine ⟨by rw [List.length_set]; exact h.1, fun z hz => ?_⟩
 rcases List.mem_or_eq_of_mem_set hz with hz | rfl
 · exact h.2 z hz
 · exact hx
theorem lim_up {m n : Nat} {l : List Int} (h : Lim m l) (hn : m ≤ n) : Lim n l := ⟨by have := h.1; omega, h.2⟩
theorem draw_loop {c : List Int} (hc : Code c) : ∀ (d : Nat) (p s : Int) (m : Nat) (l : List Int), Lim m l → m + d ≤ 100 → 0 ≤ p → p + 10 * d ≤ 90000000000 →
 ∃ l' q t, Lim (m + d) l' ∧ (p ≤ q ∧ q ≤ p + 10 * d + 10) ∧ ∀ k, d < k → spec_l05Draw.l0 k (d : Int) l c p s = some (l', q, t) := by
 intro d
 induction d with
 | zero =>
  intro p s m l hl hm h0 h1
  by_cases h : (l.length : Int) = 1
  ·
   obtain ⟨b, q, t, hq, e⟩ := one_ok hc p s 6 h0 (by omega)
   cases b
   · refine ⟨l, q, t, hl, by omega, fun k hk => ?_⟩
     obtain ⟨k, rfl⟩ : ∃ z, k = z + 1 := ⟨k - 1, by omega⟩
     rw [spec_l05Draw.l0, if_neg (by omega), if_pos h, e]
     simp only [Option.bind_some, Bool.false_eq_true, if_false]
   ·
    obtain ⟨i, q2, t2, hi, hq2, e2⟩ := among_ok hc q t [40, 39, 17] (by simp) (by omega) (by omega)
    have hb : -1000 ≤ rd [40, 39, 17] (i : Int) ∧ rd [40, 39, 17] (i : Int) ≤ 1000 := by
     have hi' : i < 3 := hi
     rcases (show i = 0 ∨ i = 1 ∨ i = 2 by omega) with rfl | rfl | rfl <;> decide
    refine ⟨l.set (0 : Int).toNat (rd [40, 39, 17] (i : Int)), q2, t2, lim_set hl _ _ hb, by omega, fun k hk => ?_⟩
    obtain ⟨k, rfl⟩ : ∃ z, k = z + 1 := ⟨k - 1, by omega⟩
    rw [spec_l05Draw.l0, if_neg (by omega), if_pos h, e]
    simp only [Option.bind_some, if_true]
    rw [e2]
    simp only [Option.bind_some]
    rw [if_pos (by omega)]
  · refine ⟨l, p, s, hl, by omega, fun k hk => ?_⟩
    obtain ⟨k, rfl⟩ : ∃ z, k = z + 1 := ⟨k - 1, by omega⟩
    rw [spec_l05Draw.l0, if_neg (by omega), if_neg h]
 | succ d ih =>
  intro p s m l hl hm h0 h1
  obtain ⟨r, q, t, hr, hq, e⟩ := pick_ok hc p s 6 h0 (by omega)
  obtain ⟨b, q2, t2, hq2, e2⟩ := one_ok hc q t 8 (by omega) (by omega)
  have hl1 := hl.1
  have hw : wrap64 (((d + 1 : Nat) : Int) - 1) = (d : Int) := by unfold wrap64; omega
  cases b
  ·
   have hx : wrap64 (1 + r) = 1 + r := by unfold wrap64; omega
   obtain ⟨l', q3, t3, h3, hq3, e3⟩ := ih q2 t2 (m + 1) (l ++ [1 + r]) (lim_snoc hl _ (by omega)) (by omega) (by omega) (by omega)
   refine ⟨l', q3, t3, lim_up h3 (by omega), by omega, fun k hk => ?_⟩
   obtain ⟨k, rfl⟩ : ∃ z, k = z + 1 := ⟨k - 1, by omega⟩
   rw [spec_l05Draw.l0, if_pos (by omega), e]
   simp only [Option.bind_some]
   rw [e2]
   simp only [Option.bind_some, Bool.false_eq_true, if_false]
   rw [if_pos (by omega), hw, hx]
   exact e3 k (by omega)
  ·
   obtain ⟨r3, q3, t3, hr3, hq3, e3⟩ := pick_ok hc q2 t2 9 (by omega) (by omega)
   obtain ⟨l', q4, t4, h4, hq4, e4⟩ := ih q3 t3 (m + 1) (l ++ [r3]) (lim_snoc hl _ (by omega)) (by omega) (by omega) (by omega)
   refine ⟨l', q4, t4, lim_up h4 (by omega), by omega, fun k hk => ?_⟩
   obtain ⟨k, rfl⟩ : ∃ z, k = z + 1 := ⟨k - 1, by omega⟩
   rw [spec_l05Draw.l0, if_pos (by omega), e]
   simp only [Option.bind_some]
   rw [e2]
   simp only [Option.bind_some, if_true]
   rw [e3]
   simp only [Option.bind_some]
   rw [if_pos (by omega), hw]
   exact e4 k (by omega)
theorem dims_ok {c : List Int} (hc : Code c) (p s : Int) (h0 : 0 ≤ p) (h1 : p ≤ 1000) :
 ∃ l q t, Lim 3 l ∧ (p ≤ q ∧ q ≤ p + 100) ∧ ∀ k, 10 < k → spec_l05DrawDims.f k c p s = some (l, q, t) := by
 obtain ⟨i, q, t, hi, hq, e⟩ := among_ok hc p s [1, 1, 2, 2, 2, 3, 3, 0] (by simp) (by omega) (by omega)
 have hi' : i < 8 := hi
 obtain ⟨n, hn, en⟩ : ∃ n : Nat, n ≤ 3 ∧ rd [1, 1, 2, 2, 2, 3, 3, 0] (i : Int) = (n : Int) := by
  rcases (show i = 0 ∨ i = 1 ∨ i = 2 ∨ i = 3 ∨ i = 4 ∨ i = 5 ∨ i = 6 ∨ i = 7 by omega) with rfl | rfl | rfl | rfl | rfl | rfl | rfl | rfl
  · exact ⟨1, by omega, by decide⟩
  · exact ⟨1, by omega, by decide⟩
  · exact ⟨2, by omega, by decide⟩
  · exact ⟨2, by omega, by decide⟩
  · exact ⟨2, by omega, by decide⟩
  · exact ⟨3, by omega, by decide⟩
  · exact ⟨3, by omega, by decide⟩
  · exact ⟨0, by omega, by decide⟩
 obtain ⟨l, q2, t2, hl, hq2, e2⟩ := draw_loop hc n q t 0 [] ⟨by simp, by simp⟩ (by omega) (by omega) (by omega)
 refine ⟨l, q2, t2, lim_up hl (by omega), by omega, fun k hk => ?_⟩
 unfold spec_l05DrawDims.f spec_l05Draw.f
 rw [e]
 simp only [Option.bind_some]
 rw [en, e2 k (by omega)]
 rfl
theorem at_loop {c : List Int} (hc : Code c) (x : List Int) (hx : Lim 3 x) : ∀ (d i : Nat) (p s : Int) (m : Nat) (l : List Int), i + d = x.length → Lim m l → m + d ≤ 100 → 0 ≤ p → p + 10 * d ≤ 90000000000 →
 ∃ l' q t, Lim (m + d + 1) l' ∧ ∀ k, d < k → spec_l05DrawAt.l0 k x l (i : Int) c p s = some (l', q, t) := by
 intro d
 have hx1 := hx.1
 induction d with
 | zero =>
  intro i p s m l hi hl hm h0 h1
  have hl1 := hl.1
  obtain ⟨b, q, t, hq, e⟩ := one_ok hc p s 20 h0 (by omega)
  cases b
  · refine ⟨l, q, t, lim_up hl (by omega), fun k hk => ?_⟩
    obtain ⟨k, rfl⟩ : ∃ z, k = z + 1 := ⟨k - 1, by omega⟩
    rw [spec_l05DrawAt.l0, if_neg (by omega), e]
    simp only [Option.bind_some, Bool.false_eq_true, if_false]
  · refine ⟨l ++ [0], q, t, lim_snoc hl 0 (by omega), fun k hk => ?_⟩
    obtain ⟨k, rfl⟩ : ∃ z, k = z + 1 := ⟨k - 1, by omega⟩
    rw [spec_l05DrawAt.l0, if_neg (by omega), e]
    simp only [Option.bind_some, if_true]
    rw [if_pos (by omega)]
 | succ d ih =>
  intro i p s m l hi hl hm h0 h1
  have hl1 := hl.1
  have hb := rd_bd x hx.2 i (by omega)
  obtain ⟨r, q, t, hr, hq, e⟩ := pick_ok hc p s (rd x (i : Int)) h0 (by omega)
  obtain ⟨b, q2, t2, hq2, e2⟩ := one_ok hc q t 20 (by omega) (by omega)
  cases b
  ·
   obtain ⟨l', q3, t3, h3, e3⟩ := ih (i + 1) q2 t2 (m + 1) (l ++ [r]) (by omega) (lim_snoc hl _ (by omega)) (by omega) (by omega) (by omega)
   refine ⟨l', q3, t3, lim_up h3 (by omega), fun k hk => ?_⟩
   obtain ⟨k, rfl⟩ : ∃ z, k = z + 1 := ⟨k - 1, by omega⟩
   rw [spec_l05DrawAt.l0, if_pos (by omega), if_pos (by omega), e]
   simp only [Option.bind_some]
   rw [e2]
   simp only [Option.bind_some, Bool.false_eq_true, if_false]
   rw [if_pos (by omega), wrap_up i (by omega)]
   exact e3 k (by omega)
  ·
   obtain ⟨r3, q3, t3, hr3, hq3, e3⟩ := pick_ok hc q2 t2 2 (by omega) (by omega)
   have hv : -1000 ≤ wrap64 (rd x (i : Int) - wrap64 (r3 * wrap64 (rd x (i : Int) + 1))) ∧ wrap64 (rd x (i : Int) - wrap64 (r3 * wrap64 (rd x (i : Int) + 1))) ≤ 1000 := by
    have e1 : wrap64 (rd x (i : Int) + 1) = rd x (i : Int) + 1 := by unfold wrap64; omega
    rw [e1]
    rcases (show r3 = 0 ∨ r3 = 1 by omega) with rfl | rfl
    · rw [Int.zero_mul]; unfold wrap64; omega
    · rw [Int.one_mul]; unfold wrap64; omega
   obtain ⟨l', q4, t4, h4, e4⟩ := ih (i + 1) q3 t3 (m + 1) (l ++ [wrap64 (rd x (i : Int) - wrap64 (r3 * wrap64 (rd x (i : Int) + 1)))]) (by omega) (lim_snoc hl _ hv) (by omega) (by omega) (by omega)
   refine ⟨l', q4, t4, lim_up h4 (by omega), fun k hk => ?_⟩
   obtain ⟨k, rfl⟩ : ∃ z, k = z + 1 := ⟨k - 1, by omega⟩
   rw [spec_l05DrawAt.l0, if_pos (by omega), if_pos (by omega), e]
   simp only [Option.bind_some]
   rw [e2]
   simp only [Option.bind_some, if_true]
   rw [e3]
   simp only [Option.bind_some]
   rw [if_pos (by omega), wrap_up i (by omega)]
   exact e4 k (by omega)
theorem range_drawn {c : List Int} (hc : Code c) (hl : c.length ≤ 1048576) : ∃ x y, Lim 4 x ∧ Lim 3 y ∧ ∀ k, 100 ≤ k → spec_DrawRangeOf.f k c = some (x, y) := by
 obtain ⟨s, hs⟩ : ∃ s, spec_l00From.f c = some (c, 0, s) := ⟨_, rfl⟩
 obtain ⟨y, q, t, hy, hq, e⟩ := dims_ok hc 0 s (by omega) (by omega)
 obtain ⟨x, q2, t2, hx, e2⟩ := at_loop hc y hy y.length 0 q t 0 [] (by omega) ⟨by simp, by simp⟩ (by have := hy.1; omega) (by omega) (by have := hy.1; omega)
 have hy1 := hy.1
 refine ⟨x, y, lim_up hx (by omega), hy, fun k hk => ?_⟩
 unfold spec_DrawRangeOf.f
 rw [hs]
 simp only [Option.bind_some]
 rw [e k (by omega)]
 simp only [Option.bind_some]
 unfold spec_l05DrawAt.f
 rw [show spec_l05DrawAt.l0 k y [] 0 c q t = _ from e2 k (by omega)]
 rfl
/-! the coordinates with a number -/
theorem nonzero (l : List Int) (h : prodL l ≠ 0) : ∀ x ∈ l, x ≠ 0 := by
 have key : ∀ (l : List Int) (a : Int), l.foldl (· * ·) a ≠ 0 → a ≠ 0 ∧ ∀ x ∈ l, x ≠ 0 := by
  intro l
  induction l with
  | nil => intro a h; exact ⟨h, by simp⟩
  | cons b l ih =>
   intro a h
   obtain ⟨h1, h2⟩ := ih (a * b) h
   refine ⟨fun e => h1 (by rw [e, Int.zero_mul]), ?_⟩
   intro x hx
   rcases List.mem_cons.1 hx with rfl | hx
   · exact fun e => h1 (by rw [e, Int.mul_zero])
   · exact h2 x hx
 exact (key l 1 h).2
theorem coords_loop (l : List Int) (hl : l.length ≤ 3) (hn : ∀ x ∈ l, 1 ≤ x ∧ x ≤ 40) : ∀ (d k : Nat) (a : Int) (o : List Int), d ≤ l.length → d < k → 0 ≤ a → a ≤ 1000 → o.length = l.length → (∀ j, d ≤ j → j < l.length → 0 ≤ rd o (j : Int) ∧ rd o (j : Int) < rd l (j : Int)) →
 ∃ v, (v.length = l.length ∧ ∀ j, j < l.length → 0 ≤ rd v (j : Int) ∧ rd v (j : Int) < rd l (j : Int)) ∧ spec_l05Coords.l0 k l a o ((d : Int) - 1) = some v := by
 intro d
 induction d with
 | zero =>
  intro k a o hd hk h0 h1 ho hj
  obtain ⟨k, rfl⟩ : ∃ m, k = m + 1 := ⟨k - 1, by omega⟩
  exact ⟨o, ⟨ho, fun j h => hj j (by omega) h⟩, by rw [spec_l05Coords.l0, if_neg (by omega)]⟩
 | succ d ih =>
  intro k a o hd hk h0 h1 ho hj
  obtain ⟨k, rfl⟩ : ∃ m, k = m + 1 := ⟨k - 1, by omega⟩
  have e : ((d + 1 : Nat) : Int) - 1 = (d : Int) := by omega
  have hr : 1 ≤ rd l (d : Int) ∧ rd l (d : Int) ≤ 40 := by rw [rd_lt l d (by omega)]; exact hn _ (List.getElem_mem _)
  have m0 := Int.tmod_nonneg (rd l (d : Int)) h0
  have m1 := Int.tmod_lt_of_pos a (show 0 < rd l (d : Int) by omega)
  have t0 := Int.tdiv_nonneg h0 (show 0 ≤ rd l (d : Int) by omega)
  have t1 := Int.tdiv_le_self (rd l (d : Int)) h0
  have hw : wrap64 (Int.tdiv a (rd l (d : Int))) = Int.tdiv a (rd l (d : Int)) := wrap64_id (by omega) (by omega)
  obtain ⟨v, hv, ev⟩ := ih k (Int.tdiv a (rd l (d : Int))) (o.set d (Int.tmod a (rd l (d : Int)))) (by omega) (by omega) t0 (by omega) (by rw [List.length_set]; exact ho) (by
   intro j q1 q2
   by_cases e : j = d
   · subst e
     rw [rd_lt _ j (by rw [List.length_set]; omega), List.getElem_set_self]
     exact ⟨m0, m1⟩
   · have := hj j (by omega) q2
     rw [rd_lt o j (by omega)] at this
     rw [rd_lt _ j (by rw [List.length_set]; omega), List.getElem_set_ne (by omega)]
     exact this)
  refine ⟨v, hv, ?_⟩
  rw [spec_l05Coords.l0, e, if_pos (by omega), if_pos (by omega), if_pos (by omega), if_neg (by omega), if_pos (by omega), hw, Int.toNat_natCast, wrap64_id (a := (d : Int) - 1) (by omega) (by omega)]
  exact ev
theorem dims_pos {l : List Int} (hv : VD l) (h : prodL l ≠ 0) : ∀ x ∈ l, 1 ≤ x ∧ x ≤ 40 := fun x hx => by
 have h1 := hv.2.1 x hx
 have h2 := nonzero l h x hx
 omega
theorem coords_ok (l : List Int) (hv : VD l) (a : Int) (h0 : 0 ≤ a) (h1 : a < prodL l) (k : Nat) (hk : 10 < k) : ∃ v, (v.length = l.length ∧ ∀ j, j < l.length → 0 ≤ rd v (j : Int) ∧ rd v (j : Int) < rd l (j : Int)) ∧ spec_CoordsOf.f k l a = some v := by
 have hp := hv.2.2
 have hl := hv.1
 obtain ⟨v, q, e⟩ := coords_loop l hl (dims_pos hv (by omega)) l.length k a (List.replicate l.length 0) (by omega) (by omega) h0 (by omega) (by simp) (fun j q1 q2 => by omega)
 refine ⟨v, q, ?_⟩
 unfold spec_CoordsOf.f
 rw [dims_spec _ l (by omega)]
 simp only [hv, decide_true, Option.bind_some, if_true]
 rw [prod_spec _ l (by omega) hv]
 simp only [Option.bind_some]
 rw [in_eq, wrap64_id (by omega) (by omega), decide_eq_true (show 0 ≤ a ∧ a ≤ prodL l - 1 by omega)]
 simp only [Option.bind_some, if_true]
 unfold spec_l05Coords.f
 rw [if_pos (by omega), if_pos (by omega), Int.toNat_natCast, wrap64_id (by omega) (by omega), e]
 rfl
/-! what a range selects -/
def idxF (d : List Int) (p : Nat → Int) : Nat → Nat → Int → Int
 | 0, _, x => x
 | c + 1, i, x => idxF d p c (i + 1) (wrap64 (wrap64 (x * rd d (i : Int)) + p i))
theorem idxF_eq (d p : List Int) : ∀ (c i : Nat) (x : Int), idxR d p c i x = idxF d (fun j => rd p (j : Int)) c i x
 | 0, _, _ => rfl
 | c + 1, i, x => idxF_eq d p c (i + 1) _
theorem idxF_congr (d : List Int) (p q : Nat → Int) : ∀ (c i : Nat) (x : Int), (∀ j, i ≤ j → j < i + c → p j = q j) → idxF d p c i x = idxF d q c i x
 | 0, _, _, _ => rfl
 | c + 1, i, x, h => by
  unfold idxF
  rw [h i (by omega) (by omega)]
  exact idxF_congr d p q c (i + 1) _ (fun j h1 h2 => h j (by omega) (by omega))
theorem mem_step (d l1 l2 l3 l4 : List Int) (i : Nat) (out : List Int) (z : Int) : z ∈ slabStep d l1 l2 l3 l4 i out ↔ ∃ o ∈ out, ∃ e ∈ axisL l1 l2 l3 l4 i, z = wrap64 (wrap64 (o * rd d (i : Int)) + e) := by
 unfold slabStep stQ stG
 simp only [List.mem_flatMap, List.mem_range'_1, List.mem_singleton]
 constructor
 · rintro ⟨q, hq, t, ht, rfl⟩
   refine ⟨rd out (q : Int), by rw [rd_lt out q (by omega)]; exact List.getElem_mem _, rd (axisL l1 l2 l3 l4 i) (t : Int), by rw [rd_lt _ t (by omega)]; exact List.getElem_mem _, rfl⟩
 · rintro ⟨o, ho, e, he, rfl⟩
   obtain ⟨q, hq, rfl⟩ := List.getElem_of_mem ho
   obtain ⟨t, ht, rfl⟩ := List.getElem_of_mem he
   exact ⟨q, by omega, t, by omega, by rw [rd_lt out q hq, rd_lt _ t ht]⟩
theorem mem_slabR (d l1 l2 l3 l4 : List Int) : ∀ (c i : Nat) (out : List Int) (z : Int), z ∈ slabR d l1 l2 l3 l4 c i out ↔ ∃ o ∈ out, ∃ p : Nat → Int, (∀ j, i ≤ j → j < i + c → p j ∈ axisL l1 l2 l3 l4 j) ∧ z = idxF d p c i o
 | 0, i, out, z => ⟨fun h => ⟨z, h, fun _ => 0, fun j h1 h2 => by omega, rfl⟩, fun ⟨o, ho, p, _, e⟩ => by subst e; exact ho⟩
 | c + 1, i, out, z => by
  show z ∈ slabR d l1 l2 l3 l4 c (i + 1) (slabStep d l1 l2 l3 l4 i out) ↔ _
  rw [mem_slabR d l1 l2 l3 l4 c (i + 1) _ z]
  constructor
  ·
   rintro ⟨o', ho', p, hp, rfl⟩
   obtain ⟨o, ho, e, he, rfl⟩ := (mem_step d l1 l2 l3 l4 i out o').1 ho'
   refine ⟨o, ho, fun j => if j = i then e else p j, fun j h1 h2 => ?_, ?_⟩
   · by_cases hj : j = i
     · subst hj; simpa using he
     · simp only [if_neg hj]; exact hp j (by omega) (by omega)
   · rw [idxF, if_pos rfl]
     exact idxF_congr d _ _ c (i + 1) _ (fun j h1 h2 => by simp only [if_neg (show ¬ j = i by omega)])
  · rintro ⟨o, ho, p, hp, rfl⟩
    exact ⟨wrap64 (wrap64 (o * rd d (i : Int)) + p i), (mem_step d l1 l2 l3 l4 i out _).2 ⟨o, ho, p i, hp i (by omega) (by omega), rfl⟩, p, fun j h1 h2 => hp j (by omega) (by omega), rfl⟩
theorem mem_axis (x y : List Int) (n i : Nat) (hi : i < n) (hb : BoxAt x y i) (e : Int) : e ∈ axisL x (st_ x y n) (on_ n) (st_ x y n) i ↔ rd x (i : Int) ≤ e ∧ e < rd y (i : Int) := by
 obtain ⟨q1, q2, q3⟩ := hb
 have es : rd (st_ x y n) (i : Int) = rd y (i : Int) - rd x (i : Int) := by rw [st_rd _ _ _ _ hi, wrap64_id (by omega) (by omega)]
 unfold axisL axJ axG
 rw [on_rd n i hi, es]
 simp only [List.mem_flatMap, List.mem_range'_1, List.mem_singleton]
 constructor
 · rintro ⟨j, hj, t, ht, rfl⟩
   obtain rfl : j = 0 := by omega
   rw [show ((0 : Nat) : Int) = 0 from rfl, Int.zero_mul, w0, Int.add_zero, wrap64_id (a := rd x (i : Int)) (by omega) (by omega), wrap64_id (by omega) (by omega)]
   omega
 · rintro ⟨h1, h2⟩
   refine ⟨0, by omega, (e - rd x (i : Int)).toNat, by omega, ?_⟩
   rw [show ((0 : Nat) : Int) = 0 from rfl, Int.zero_mul, w0, Int.add_zero, wrap64_id (a := rd x (i : Int)) (by omega) (by omega), wrap64_id (by omega) (by omega)]
   omega
theorem digit (D x p x' p' : Int) (hD : 0 < D) (h0 : 0 ≤ p) (h1 : p < D) (h0' : 0 ≤ p') (h1' : p' < D) (h : x * D + p = x' * D + p') : x = x' ∧ p = p' := by
 have e1 : (x * D + p) / D = x := by rw [Int.add_comm, Int.add_mul_ediv_right _ _ (by omega), Int.ediv_eq_zero_of_lt h0 h1]; omega
 have e2 : (x' * D + p') / D = x' := by rw [Int.add_comm, Int.add_mul_ediv_right _ _ (by omega), Int.ediv_eq_zero_of_lt h0' h1']; omega
 have e : x = x' := by rw [← e1, ← e2, h]
 subst e
 exact ⟨rfl, by omega⟩
theorem idx_inj (d : List Int) (p q : Nat → Int) : ∀ (c i B : Nat) (x x' : Int), 1 ≤ B → B * 100 ^ c ≤ 1000000000000 → (∀ j, i ≤ j → j < i + c → rd d (j : Int) ≤ 40 ∧ (0 ≤ p j ∧ p j < rd d (j : Int)) ∧ (0 ≤ q j ∧ q j < rd d (j : Int))) → (0 ≤ x ∧ x ≤ B) → (0 ≤ x' ∧ x' ≤ B) →
 idxF d p c i x = idxF d q c i x' → x = x' ∧ ∀ j, i ≤ j → j < i + c → p j = q j
 | 0, i, B, x, x', _, _, _, _, _, h => ⟨h, fun j h1 h2 => by omega⟩
 | c + 1, i, B, x, x', hB, hP, hr, hx, hx', h => by
  obtain ⟨r1, r2, r3⟩ := hr i (by omega) (by omega)
  have hp : B * 100 * 100 ^ c ≤ 1000000000000 := by rw [Nat.mul_assoc, Nat.mul_comm 100, ← Nat.pow_succ]; exact hP
  have hb : B * 100 ≤ 1000000000000 := Nat.le_trans (Nat.le_mul_of_pos_right _ (Nat.pow_pos (by omega))) hp
  have k1 : 0 ≤ x * rd d (i : Int) := Int.mul_nonneg hx.1 (by omega)
  have k2 : x * rd d (i : Int) ≤ x * 40 := Int.mul_le_mul_of_nonneg_left r1 hx.1
  have k1' : 0 ≤ x' * rd d (i : Int) := Int.mul_nonneg hx'.1 (by omega)
  have k2' : x' * rd d (i : Int) ≤ x' * 40 := Int.mul_le_mul_of_nonneg_left r1 hx'.1
  unfold idxF at h
  rw [wrap64_id (a := x * rd d (i : Int)) (by omega) (by omega), wrap64_id (a := x * rd d (i : Int) + p i) (by omega) (by omega), wrap64_id (a := x' * rd d (i : Int)) (by omega) (by omega), wrap64_id (a := x' * rd d (i : Int) + q i) (by omega) (by omega)] at h
  obtain ⟨e1, e2⟩ := idx_inj d p q c (i + 1) (B * 100) _ _ (by omega) hp (fun j h1 h2 => hr j (by omega) (by omega)) ⟨by omega, by omega⟩ ⟨by omega, by omega⟩ h
  obtain ⟨e3, e4⟩ := digit _ _ _ _ _ (by omega) r2.1 r2.2 r3.1 r3.2 e1
  refine ⟨e3, fun j h1 h2 => ?_⟩
  by_cases hj : j = i
  · subst hj; exact e4
  · exact e2 j (by omega) (by omega)
theorem sel_ok (x y : List Int) (hd : VD y) (hv : VBox x y) (wy : ∀ a ∈ y, -1000 ≤ a ∧ a ≤ 1000) : okV y 3 x (st_ x y x.length) (on_ x.length) (st_ x y x.length) ([] : List S97) := by
 have ho := ((vbox_iff x y wy).2 hv).2.2
 refine ⟨hd, .inr (.inl ⟨rfl, ho, rfl⟩), fun _ => ⟨hv.2.1.symm, fun i hi => ?_⟩, fun h => absurd h (by decide)⟩
 obtain ⟨q1, q2, q3⟩ := hv.2.2 i (by have := hv.2.1; omega)
 have hi' : i < x.length := by have := hv.2.1; omega
 unfold endv
 rw [on_rd _ _ hi', st_rd _ _ _ _ hi', wrap64_id (a := rd y (i : Int) - rd x (i : Int)) (by omega) (by omega)]
 omega
instance decAt (x v : List Int) (i n : Nat) : Decidable (∀ j, i ≤ j → j < n → rd v (j : Int) ≥ rd x (j : Int)) :=
 decidable_of_iff (∀ j, j < n → i ≤ j → rd v (j : Int) ≥ rd x (j : Int)) ⟨fun h j h1 h2 => h j h2 h1, fun h j h1 h2 => h j h2 h1⟩
theorem sel_is (x y v : List Int) (hd : VD y) (hv : VBox x y) (wy : ∀ a ∈ y, -1000 ≤ a ∧ a ≤ 1000) (hl : v.length = y.length) (hr : ∀ j, j < y.length → 0 ≤ rd v (j : Int) ∧ rd v (j : Int) < rd y (j : Int)) (z : Nat) (hz : z = 0) (k : Nat) (hk : 12000000 ≤ k) :
 impl_IsSelected.f k y 3 x (st_ x y x.length) (on_ x.length) (st_ x y x.length) ([] : List S97) v = some (decide (∀ j, z ≤ j → j < v.length → rd v (j : Int) ≥ rd x (j : Int))) := by
 have ok := sel_ok x y hd hv wy
 have hl1 := hd.1
 have hl2 := hv.2.1
 have b := fun j (hj : j < x.length) => hv.2.2 j hj
 have hi : okIn y v := ⟨hl, fun i h => by
  have h1 := hr i (by omega)
  obtain ⟨q1, q2, q3⟩ := b i (by omega)
  rw [wrap64_id (by omega) (by omega)]; omega⟩
 unfold impl_IsSelected.f
 rw [valid_impl y 3 _ _ _ _ ([] : List S97) (by simp) (by simp) k (by omega), inside_impl y v (by omega) k (by omega), ind_impl y 3 _ _ _ _ _ ok k (by omega), idxF_impl y v hl1 hi.1 k (by omega)]
 simp only [Option.bind_some, decide_eq_true ok, decide_eq_true hi, if_true]
 rw [has_impl _ _ (indL_len y 3 _ _ _ _ _ ok) k (by omega)]
 simp only [Option.bind_some]
 generalize hT : indL y 3 x (st_ x y x.length) (on_ x.length) (st_ x y x.length) ([] : List S97) = T
 have key : idxR y v y.length 0 0 ∈ T ↔ ∀ j, z ≤ j → j < v.length → rd v (j : Int) ≥ rd x (j : Int) := by
  rw [← hT]
  unfold indL
  rw [if_neg (by decide), if_pos rfl, mem_slabR, idxF_eq]
  constructor
  ·
   rintro ⟨o, ho, p, hp, e⟩ j _ hj
   obtain rfl := List.mem_singleton.1 ho
   have hp' : ∀ j, 0 ≤ j → j < 0 + y.length → rd x (j : Int) ≤ p j ∧ p j < rd y (j : Int) := fun j h1 h2 => (mem_axis x y x.length j (by omega) (b j (by omega)) (p j)).1 (hp j h1 h2)
   have := (idx_inj y (fun j => rd v (j : Int)) p y.length 0 1 0 0 (by omega) (by
    rcases (show y.length = 0 ∨ y.length = 1 ∨ y.length = 2 ∨ y.length = 3 by omega) with h | h | h | h <;> rw [h] <;> decide) (fun j h1 h2 => by
     have q1 := hp' j h1 h2
     have q2 := hr j (by omega)
     have q3 := b j (by omega)
     exact ⟨q3.2.2, q2, by have := q3.1; omega⟩) (by omega) (by omega) e).2 j (by omega) (by omega)
   have h2 := hp' j (by omega) (by omega)
   show rd x (j : Int) ≤ rd v (j : Int)
   have h3 : rd v (j : Int) = p j := this
   omega
  · intro h
    refine ⟨0, by simp, fun j => rd v (j : Int), fun j h1 h2 => (mem_axis x y x.length j (by omega) (b j (by omega)) _).2 ⟨h j (by omega) (by omega), (hr j (by omega)).2⟩, rfl⟩
 by_cases h : ∀ j, z ≤ j → j < v.length → rd v (j : Int) ≥ rd x (j : Int)
 · rw [decide_eq_true h, decide_eq_false, Bool.not_false]
   intro hn
   obtain ⟨q, hq, e⟩ := List.getElem_of_mem (key.2 h)
   exact hn q hq (by rw [rd_lt T q hq]; exact e)
 · rw [decide_eq_false h, decide_eq_true, Bool.not_true]
   intro q hq e
   refine h (key.1 ?_)
   rw [← e, rd_lt T q hq]
   exact List.getElem_mem _
/-! the law's own loops -/
theorem l1_loop (x y v : List Int) (a s : Int) (b1 b2 b3 b4 : List Int) (ps : List S97) (t : Bool) (K : Nat) (hx : v.length = x.length) (hl : v.length ≤ 3) (hS : ∀ k, K ≤ k → impl_IsSelected.f k y s b1 b2 b3 b4 ps v = some t) :
 ∀ (d i : Nat) (b : Bool) (k : Nat), i + d = v.length → K ≤ k → laws_FnRanges.l1 (k + d + 1) x y a v b (i : Int) s b1 b2 b3 b4 ps = if (t != (b && decide (∀ j, i ≤ j → j < v.length → rd v (j : Int) ≥ rd x (j : Int)))) = true then some false else laws_FnRanges.l0 k x y (wrap64 (a + 1)) s b1 b2 b3 b4 ps := by
 intro d
 induction d with
 | zero =>
  intro i b k hi hk
  rw [laws_FnRanges.l1, if_neg (by omega), hS _ (by omega), decide_eq_true (show ∀ j, i ≤ j → j < v.length → rd v (j : Int) ≥ rd x (j : Int) from fun j h1 h2 => by omega), Bool.and_true]
  rfl
 | succ d ih =>
  intro i b k hi hk
  rw [show k + (d + 1) + 1 = (k + d + 1) + 1 by omega, laws_FnRanges.l1, if_pos (by omega)]
  cases b
  · rw [if_neg (by decide), wrap_up i (by omega), ih (i + 1) false k (by omega) hk]
    simp only [Bool.false_and]
  ·
   rw [if_pos rfl, if_pos (by omega), if_pos (by omega), wrap_up i (by omega), ih (i + 1) _ k (by omega) hk]
   have e : (decide (rd v (i : Int) ≥ rd x (i : Int)) && decide (∀ j, i + 1 ≤ j → j < v.length → rd v (j : Int) ≥ rd x (j : Int))) = (true && decide (∀ j, i ≤ j → j < v.length → rd v (j : Int) ≥ rd x (j : Int))) := by
    rw [Bool.true_and, ← Bool.decide_and]
    refine decide_eq_decide.2 ⟨fun ⟨h1, h2⟩ j q1 q2 => ?_, fun h => ⟨h i (by omega) (by omega), fun j q1 q2 => h j (by omega) q2⟩⟩
    by_cases e : j = i
    · subst e; exact h1
    · exact h2 j (by omega) q2
   rw [e]
theorem l0_loop (x y : List Int) (hd : VD y) (hv : VBox x y) (wy : ∀ a ∈ y, -1000 ≤ a ∧ a ≤ 1000) : ∀ (d a k : Nat), a + d = (prodL y).toNat → 12000000 + 10 * d + 10 ≤ k →
 laws_FnRanges.l0 k x y (a : Int) 3 x (st_ x y x.length) (on_ x.length) (st_ x y x.length) ([] : List S97) = some true := by
 intro d
 have hE : ∀ k, 100 ≤ k → spec_ElementsOf.f k y = some (prodL y) := fun k hk => by
  unfold spec_ElementsOf.f
  rw [dims_spec _ y (by omega)]
  simp only [hd, decide_true, Option.bind_some, if_true]
  rw [prod_spec _ y (by omega) hd]
  rfl
 induction d with
 | zero =>
  intro a k ha hk
  obtain ⟨k, rfl⟩ : ∃ z, k = z + 1 := ⟨k - 1, by omega⟩
  rw [laws_FnRanges.l0, hE k (by omega)]
  simp only [Option.bind_some]
  rw [if_neg (by omega)]
 | succ d ih =>
  intro a k ha hk
  have hl := hd.1
  have hl2 := hv.2.1
  have hp := hd.2.2
  obtain ⟨k, rfl⟩ : ∃ z, k = z + 1 := ⟨k - 1, by omega⟩
  obtain ⟨v, ⟨q1, q2⟩, e⟩ := coords_ok y hd (a : Int) (by omega) (by omega) k (by omega)
  obtain ⟨k', rfl⟩ : ∃ z, k = z + v.length + 1 := ⟨k - v.length - 1, by omega⟩
  rw [laws_FnRanges.l0, hE _ (by omega)]
  simp only [Option.bind_some]
  rw [if_pos (by omega), e]
  simp only [Option.bind_some]
  have h := l1_loop x y v (a : Int) 3 x (st_ x y x.length) (on_ x.length) (st_ x y x.length) ([] : List S97) _ 12000000 (by omega) (by omega) (fun k hk => sel_is x y v hd hv wy q1 q2 0 rfl k hk) v.length 0 true k' (by omega) (by omega)
  rw [show laws_FnRanges.l1 (k' + v.length + 1) x y (a : Int) v true 0 3 x (st_ x y x.length) (on_ x.length) (st_ x y x.length) ([] : List S97) = _ from h, Bool.true_and, bne_self_eq_false, if_neg (by decide), wrap_up a (by omega)]
  exact ih (a + 1) k' (by omega) (by omega)
theorem FnRanges : laws_FnRanges.Pure := by
 rintro c ⟨-, hw⟩
 by_cases h1 : (c.length : Int) > 1048576
 · exact ⟨0, by unfold laws_FnRanges.f; rw [if_pos h1]⟩
 obtain ⟨x, y, hx, hy, hD⟩ := range_drawn (code_wf hw) (by omega)
 have hx1 := hx.1
 have hy1 := hy.1
 obtain ⟨hS, hI⟩ := both_range x y (by omega) (by omega) hy.2
 refine ⟨20000000, ?_⟩
 unfold laws_FnRanges.f
 rw [if_neg h1, hD _ (by omega)]
 simp only [Option.bind_some]
 rw [hI _ (by omega)]
 by_cases hv : VBox x y
 ·
  rw [if_pos hv]
  simp only [Option.bind_some, if_true]
  unfold spec_ValidDims.f
  rw [dims_spec _ y (by omega)]
  simp only [Option.bind_some, decide_eq_true_eq]
  by_cases hd : VD y
  · rw [if_pos hd]
    have hp := hd.2.2
    exact l0_loop x y hd hv hy.2 (prodL y).toNat 0 20000000 (by omega) (by omega)
  · rw [if_neg hd]
 · rw [if_neg hv]
   simp only [Option.bind_some, Bool.false_eq_true, if_false]
   rw [hS _ (by omega), if_neg hv]
   rfl

end Go.Proofs.Ytgpkkplabnliiaa.Pure
