/- The plain form of FnExactValidHeap: for all arguments the answer is true. It holds without a condition. -/
import Derived.Test.YtngjbdijimapnabPFnExactValidHeapx4
import Derived.OpenShut
namespace Go.Proofs.Ytngjbdijimapnab.Pure
open Go Go.RowKit Go.Proofs.Ytngjbdijimapnab.PFnExactValidHeap Go.Proofs.YtngjbdijimapnabW.PrintWords Go.Proofs.YtngjbdijimapnabW.PrintLast Go.Proofs.YtngjbdijimapnabW.PrintMore
set_option linter.unusedVariables false
set_option linter.unusedSimpArgs false

theorem wf64 {a : Int} (h : (Lit.int .i64 a).wf = true) : -9223372036854775808 ≤ a ∧ a ≤ 9223372036854775807 := Go.bounds_i64 h
theorem wrap64_id {a : Int} (h : -9223372036854775808 ≤ a) (h' : a ≤ 9223372036854775807) : wrap64 a = a := by unfold wrap64; omega
theorem count_loop {σ ρ : Type} (L : Nat → σ → Int → Option ρ) (n m : Nat) (I : Nat → σ → Prop) (R : ρ → Prop)
    (hstop : ∀ k s, m ≤ k → I n s → ∃ r, L (k + 1) s (n : Int) = some r ∧ R r)
    (hstep : ∀ k s (i : Nat), m ≤ k → i < n → I i s → (∃ s', I (i + 1) s' ∧ L (k + 1) s (i : Int) = L k s' ((i + 1 : Nat) : Int)) ∨ ∃ r, L (k + 1) s (i : Int) = some r ∧ R r)
    (k : Nat) (s : σ) (i : Nat) (hi : i ≤ n) (hk : n - i + m < k) (h : I i s) : ∃ r, L k s (i : Int) = some r ∧ R r := by
  obtain ⟨d, hd⟩ : ∃ d, d = n - i := ⟨_, rfl⟩
  induction d generalizing k s i with
  | zero =>
    obtain ⟨k, rfl⟩ : ∃ z, k = z + 1 := ⟨k - 1, by omega⟩
    obtain rfl : i = n := by omega
    exact hstop k s (by omega) h
  | succ d ih =>
    obtain ⟨k, rfl⟩ : ∃ z, k = z + 1 := ⟨k - 1, by omega⟩
    rcases hstep k s i (by omega) (by omega) h with ⟨s', h', e⟩ | h'
    · rw [e]; exact ih k s' (i + 1) (by omega) (by omega) h' (by omega)
    · exact h'
theorem w0 : wrap64 0 = 0 := by unfold wrap64; omega
theorem w1 : wrap64 1 = 1 := by unfold wrap64; omega
theorem w2 : wrap64 2 = 2 := by unfold wrap64; omega
theorem w3 : wrap64 3 = 3 := by unfold wrap64; omega
theorem rd_lt (l : List Int) (i : Nat) (h : i < l.length) : rd l (i : Int) = l[i] := by
  simp [rd, List.getD_eq_getElem?_getD, List.getElem?_eq_getElem h]
theorem rds_lt (l : List ByteArray) (i : Nat) (h : i < l.length) : rdOf ByteArray.empty l (i : Int) = l[i] := by
  simp [rdOf, List.getD_eq_getElem?_getD, List.getElem?_eq_getElem h]
theorem wrap_up (i : Nat) (h : i < 1099511627776) : wrap64 ((i : Int) + 1) = ((i + 1 : Nat) : Int) := by unfold wrap64; omega
theorem set_next {α : Type} (l out : List α) (i : Nat) (h : i < l.length) (hl : out.length = l.length) (hp : out.take i = l.take i) : (out.set i l[i]).take (i + 1) = l.take (i + 1) := by
  apply List.ext_getElem?
  intro j
  by_cases hj : j < i + 1
  · rw [List.getElem?_take_of_lt hj, List.getElem?_take_of_lt hj]
    by_cases hji : j = i
    · subst hji; rw [List.getElem?_set_self (by omega), List.getElem?_eq_getElem h]
    · rw [List.getElem?_set_ne (by omega)]
      have := congrArg (fun z => z[j]?) hp
      simpa [List.getElem?_take_of_lt (show j < i by omega)] using this
  · rw [List.getElem?_eq_none (by simp; omega), List.getElem?_eq_none (by simp; omega)]
theorem take_all {α : Type} (l out : List α) (hl : out.length = l.length) (hp : out.take l.length = l.take l.length) : out = l := by
  rwa [List.take_of_length_le (by omega), List.take_length] at hp
theorem laws_toStringS_eq (k : Nat) (l : List ByteArray) (hl : l.length ≤ 1048576) (hk : l.length < k) : laws_toStringS.f k l = some l := by
  unfold laws_toStringS.f
  rw [if_pos (by omega), if_pos (by omega)]
  obtain ⟨r, h, rfl⟩ := count_loop (fun k s i => laws_toStringS.l0 k l s i) l.length 0 (fun i s => s.length = l.length ∧ s.take i = l.take i) (fun r => r = l)
    (by
      rintro k s - ⟨h1, h2⟩
      exact ⟨s, by show laws_toStringS.l0 (k + 1) l s _ = _; rw [laws_toStringS.l0, if_neg (by omega)], take_all l s h1 h2⟩)
    (by
      rintro k s i - hi ⟨h1, h2⟩
      refine .inl ⟨s.set i l[i], ⟨by simpa using h1, set_next l s i hi h1 h2⟩, ?_⟩
      show laws_toStringS.l0 (k + 1) l s _ = _
      rw [laws_toStringS.l0, if_pos (by omega), if_pos (by omega), if_pos (by omega), rds_lt l i hi, wrap_up i (by omega)]
      rfl)
    k (List.replicate (l.length : Int).toNat ByteArray.empty) 0 (by omega) (by omega) ⟨by simp, by simp⟩
  exact h
theorem laws_eqStringS_eq (k : Nat) (a b : List ByteArray) (hl : a.length ≤ 1048576) (hk : a.length < k) : laws_eqStringS.f k a b = some (decide (a.map ByteArray.toList = b.map ByteArray.toList)) := by
  unfold laws_eqStringS.f
  by_cases hn : (a.length : Int) = (b.length : Int)
  · rw [if_pos hn]
    obtain ⟨r, h, rfl⟩ := count_loop (fun k (_ : Unit) i => laws_eqStringS.l0 k a b  i) a.length 0 (fun i _ => (a.map ByteArray.toList).take i = (b.map ByteArray.toList).take i) (fun r => r = decide (a.map ByteArray.toList = b.map ByteArray.toList))
      (by
        rintro k s - h1
        refine ⟨true, by show laws_eqStringS.l0 (k + 1) a b  _ = _; rw [laws_eqStringS.l0, if_neg (by omega)], ?_⟩
        have := take_all (b.map ByteArray.toList) (a.map ByteArray.toList) (by simp; omega) (by rw [List.length_map, show b.length = a.length by omega]; exact h1)
        simp [this])
      (by
        rintro k s i - hi h1
        have hib : i < b.length := by omega
        have hi' : i < (a.map ByteArray.toList).length := by simpa using hi
        have hib' : i < (b.map ByteArray.toList).length := by simpa using hib
        by_cases he : a[i].toList = b[i].toList
        · refine .inl ⟨(), ?_, ?_⟩
          · rw [List.take_succ_eq_append_getElem hi', List.take_succ_eq_append_getElem hib', h1, List.getElem_map, List.getElem_map, he]
          · show laws_eqStringS.l0 (k + 1) a b  _ = _
            rw [laws_eqStringS.l0, rds_lt a i hi, rds_lt b i hib]
            repeat rw [if_pos (by omega)]
            try rw [if_pos he]
            rw [wrap_up i (by omega)]
        · refine .inr ⟨false, ?_, ?_⟩
          · show laws_eqStringS.l0 (k + 1) a b  _ = _
            rw [laws_eqStringS.l0, rds_lt a i hi, rds_lt b i hib]
            repeat rw [if_pos (by omega)]
            rw [if_neg he]
          · have : a.map ByteArray.toList ≠ b.map ByteArray.toList := by
              intro h
              have h2 := List.getElem_of_eq h hi'
              rw [List.getElem_map, List.getElem_map] at h2
              exact he h2
            simp [this])
      k () 0 (by omega) (by omega) (by simp)
    exact h
  · rw [if_neg hn]
    have : a.map ByteArray.toList ≠ b.map ByteArray.toList := by intro h; have := congrArg List.length h; simp at this; omega
    simp [this]
theorem szStr (k : Nat) (l : List ByteArray) (a : Int) (h0 : 0 ≤ a) (h1 : a ≤ 1048576) (hk : 1048580 < k) (hl : l.length ≤ maxLen) (hs : ∀ x ∈ l, x.size ≤ maxLen) :
    ∃ t, laws_szStringS.f k l a = some t ∧ (t < 0 ∨ (0 ≤ t ∧ (l.length : Int) + t ≤ a ∧ ∀ x ∈ l, (x.size : Int) ≤ a)) := by
  unfold maxLen at hl hs
  unfold laws_szStringS.f
  rw [wrap64_id (by omega) (by omega)]
  by_cases h : a - (l.length : Int) < 0
  · rw [if_pos h]; exact ⟨-1, rfl, .inl (by omega)⟩
  · rw [if_neg h]
    obtain ⟨r, h, hr⟩ := count_loop (fun k s i => laws_szStringS.l0 k l s i) l.length 0 (fun i s => 0 ≤ s ∧ s ≤ a - l.length ∧ ∀ x ∈ l.take i, (x.size : Int) ≤ a) (fun r => r < 0 ∨ (0 ≤ r ∧ (l.length : Int) + r ≤ a ∧ ∀ x ∈ l, (x.size : Int) ≤ a))
      (by
        rintro k s - ⟨h1, h2, h3⟩
        refine ⟨s, by show laws_szStringS.l0 (k + 1) l s _ = _; rw [laws_szStringS.l0, if_neg (by omega)], .inr ⟨h1, by omega, ?_⟩⟩
        rwa [List.take_length] at h3)
      (by
        rintro k s i - hi ⟨h1, h2, h3⟩
        have hx := hs _ (List.getElem_mem hi)
        by_cases hc : s - ((l[i]).size : Int) < 0
        · refine .inr ⟨-1, ?_, .inl (by omega)⟩
          show laws_szStringS.l0 (k + 1) l s _ = _
          rw [laws_szStringS.l0, if_pos (by omega), if_pos (by omega), rds_lt l i hi, wrap64_id (by omega) (by omega), if_pos hc]
        · refine .inl ⟨s - ((l[i]).size : Int), ⟨by omega, by omega, ?_⟩, ?_⟩
          · intro x hx'
            rw [List.take_succ_eq_append_getElem hi, List.mem_append] at hx'
            rcases hx' with hx' | hx'
            · exact h3 x hx'
            · simp at hx'; subst hx'; omega
          · show laws_szStringS.l0 (k + 1) l s _ = _
            rw [laws_szStringS.l0, if_pos (by omega), if_pos (by omega), rds_lt l i hi, wrap64_id (a := s - ((l[i]).size : Int)) (by omega) (by omega), if_neg hc, wrap_up i (by omega)])
      k (a - (l.length : Int)) 0 (by omega) (by omega) ⟨by omega, by omega, by simp⟩
    exact ⟨r, h, hr⟩
theorem szHeap (k : Nat) (l : List ByteArray) (a : Int) (h0 : 0 ≤ a) (h1 : a ≤ 1048576) (hk : 1048580 < k) (hl : l.length ≤ maxLen) (hs : ∀ x ∈ l, x.size ≤ maxLen) :
    ∃ t, laws_szNameHeap.f k l a = some t ∧ (t < 0 ∨ (0 ≤ t ∧ (l.length : Int) + t ≤ a ∧ ∀ x ∈ l, (x.size : Int) ≤ a)) := by
  unfold laws_szNameHeap.f
  obtain ⟨t, e, h⟩ := szStr k l a h0 h1 hk hl hs
  rw [e]
  simp only [Option.bind_some]
  by_cases ht : t < 0
  · rw [if_pos ht]; exact ⟨-1, rfl, .inl (by omega)⟩
  · rw [if_neg ht]; exact ⟨t, rfl, h⟩
theorem toHeap_eq (k : Nat) (l : List ByteArray) (hl : l.length ≤ 1048576) (hk : 1048576 < k) : laws_toNameHeap.f k l = some l := by
  unfold laws_toNameHeap.f
  rw [laws_toStringS_eq k l hl (by omega)]
  rfl
theorem eqHeap_eq (k : Nat) (l : List ByteArray) (hl : l.length ≤ 1048576) (hk : 1048576 < k) : laws_eqNameHeap.f k l l = some true := by
  unfold laws_eqNameHeap.f
  rw [laws_eqStringS_eq k l l hl (by omega)]
  simp
def ltr (c : Int) : Prop := (65 ≤ c ∧ c ≤ 90) ∨ (97 ≤ c ∧ c ≤ 122)
instance (c : Int) : Decidable (ltr c) := by unfold ltr; infer_instance
def okC (i c : Int) : Prop := ltr c ∨ (i ≠ 0 ∧ ((48 ≤ c ∧ c ≤ 57) ∨ c = 95))
instance (i c : Int) : Decidable (okC i c) := by unfold okC; infer_instance

theorem letter_eq (c : Int) : spec_l01Letter.f c = some (decide (ltr c)) := by
  unfold spec_l01Letter.f
  by_cases h : ltr c
  · rw [decide_eq_true h]
    unfold ltr at h
    repeat' split
    all_goals first | rfl | (exfalso; omega) | (simp; omega)
  · rw [decide_eq_false h]
    unfold ltr at h
    repeat' split
    all_goals first | rfl | (exfalso; omega) | (simp; omega)

theorem impl_round (k : Nat) (s : ByteArray) (n i : Int) (h0 : 0 ≤ i) (h1 : i < n) (hn : n = s.size) (hs : n ≤ 1048576) :
    impl_IsName.l0 (k + 1) s n i = if okC i (bt s i) then impl_IsName.l0 k s n (i + 1) else some false := by
  rw [impl_IsName.l0, wrap64_id (by omega) (by omega), if_pos h1, if_pos h0, if_pos (by omega)]
  generalize bt s i = c
  by_cases hp : okC i c
  · rw [if_pos hp]
    unfold okC ltr at hp
    repeat' split
    all_goals first | rfl | (exfalso; omega)
  · rw [if_neg hp]
    unfold okC ltr at hp
    repeat' split
    all_goals first | rfl | (exfalso; omega)
theorem spec_round (k : Nat) (s : ByteArray) (i : Int) (h0 : 1 ≤ i) (h1 : i < s.size) (hs : s.size ≤ 1048576) :
    spec_IsName.l0 (k + 1) s i = if okC i (bt s i) then spec_IsName.l0 k s (i + 1) else some false := by
  rw [spec_IsName.l0, wrap64_id (by omega) (by omega), if_pos h1, if_pos (by omega), letter_eq]
  simp only [Option.bind_some]
  generalize bt s i = c
  by_cases hl : ltr c
  · rw [if_pos (by simp [hl]), if_pos (.inl hl)]
  · rw [if_neg (by simp [hl])]
    by_cases hp : okC i c
    · rw [if_pos hp]
      unfold okC at hp
      repeat' split
      all_goals first | rfl | (exfalso; simp only [hl, false_or] at hp; omega)
    · rw [if_neg hp]
      unfold okC at hp
      simp only [hl, false_or] at hp
      repeat' split
      all_goals first | rfl | (exfalso; omega)

theorem loops (s : ByteArray) (h1s : 1 ≤ s.size) (hs : s.size ≤ 12) (d : Nat) : ∀ (k : Nat) (i : Int), 1 ≤ i → i ≤ s.size → (s.size : Int) - i = d → d < k →
    ∃ r, spec_IsName.l0 k s i = some r ∧ impl_IsName.l0 k s (s.size : Int) i = some r := by
  induction d with
  | zero =>
    intro k i h0 h1 hd hk
    obtain ⟨k, rfl⟩ : ∃ m, k = m + 1 := ⟨k - 1, by omega⟩
    refine ⟨true, ?_, ?_⟩
    · rw [spec_IsName.l0, if_neg (by omega)]
    · rw [impl_IsName.l0, if_neg (by omega), if_pos (by omega)]
      simp; omega
  | succ d ih =>
    intro k i h0 h1 hd hk
    obtain ⟨k, rfl⟩ : ∃ m, k = m + 1 := ⟨k - 1, by omega⟩
    rw [spec_round k s i h0 (by omega) (by omega), impl_round k s _ i (by omega) (by omega) rfl (by omega)]
    by_cases hp : okC i (bt s i)
    · rw [if_pos hp, if_pos hp]; exact ih k (i + 1) (by omega) (by omega) (by omega) (by omega)
    · rw [if_neg hp, if_neg hp]; exact ⟨false, rfl, rfl⟩

theorem impl_false (s : ByteArray) (hs : s.size ≤ 1048576) (hb : ¬ (1 ≤ s.size ∧ s.size ≤ 12)) (d : Nat) : ∀ (k : Nat) (i : Int), 0 ≤ i → i ≤ s.size → (s.size : Int) - i = d → d < k →
    impl_IsName.l0 k s (s.size : Int) i = some false := by
  induction d with
  | zero =>
    intro k i h0 h1 hd hk
    obtain ⟨k, rfl⟩ : ∃ m, k = m + 1 := ⟨k - 1, by omega⟩
    rw [impl_IsName.l0, if_neg (by omega)]
    split
    · simp; omega
    · rfl
  | succ d ih =>
    intro k i h0 h1 hd hk
    obtain ⟨k, rfl⟩ : ∃ m, k = m + 1 := ⟨k - 1, by omega⟩
    rw [impl_round k s _ i (by omega) (by omega) rfl (by omega)]
    split
    · exact ih k (i + 1) (by omega) (by omega) (by omega) (by omega)
    · rfl

theorem isname_eq (k : Nat) (s : ByteArray) (hs : s.size ≤ 1048576) (hk : s.size + 5 < k) : ∃ r, spec_IsName.f k s = some r ∧ impl_IsName.f k s = some r := by
  obtain ⟨k, rfl⟩ : ∃ z, k = z + 1 := ⟨k - 1, by omega⟩
  by_cases hb : 1 ≤ s.size ∧ s.size ≤ 12
  · unfold spec_IsName.f impl_IsName.f
    rw [if_neg (by omega), if_neg (by omega), if_pos (by omega), letter_eq, impl_round _ s _ 0 (by omega) (by omega) rfl (by omega)]
    simp only [Option.bind_some]
    by_cases hp : ltr (bt s 0)
    · obtain ⟨r, h1, h2⟩ := loops s hb.1 hb.2 (s.size - 1) k 1 (by omega) (by omega) (by omega) (by omega)
      refine ⟨r, ?_, ?_⟩
      · rw [spec_IsName.j0]; simp only [hp]; simpa using h1
      · rw [if_pos (.inl hp)]; exact h2
    · refine ⟨false, ?_, ?_⟩
      · rw [spec_IsName.j0]; simp [hp]
      · rw [if_neg (by unfold okC; simp [hp])]
  · refine ⟨false, ?_, impl_false s (by omega) hb s.size (k + 1) 0 (by omega) (by omega) (by omega) (by omega)⟩
    unfold spec_IsName.f
    by_cases h0 : (s.size : Int) = 0
    · rw [if_pos h0, spec_IsName.j0, if_pos rfl]
    · rw [if_neg h0, if_pos (by omega), spec_IsName.j0, if_pos rfl]
def NameOk (s : ByteArray) : Prop := s.toList = [] ∨ spec_IsName.f 100 s = some true
theorem heap_loops (l : List ByteArray) (hl : l.length ≤ 30) (hs : ∀ x ∈ l, (x.size : Int) ≤ 1048576) : ∀ (e k i : Nat), l.length - i = e → e + 1048590 < k →
    ∃ r : Bool, spec_l16Ok.l0 k l.length i l = some r ∧ ∃ t, slices_IndexFunc_impl_ValidHeap_1.l0 k l l.length i = some t ∧ decide (t ≥ 0) = !r := by
  intro e
  induction e with
  | zero =>
    intro k i he hk
    obtain ⟨k, rfl⟩ : ∃ z, k = z + 1 := ⟨k - 1, by omega⟩
    exact ⟨true, by rw [spec_l16Ok.l0, if_neg (by omega)], -1, by rw [slices_IndexFunc_impl_ValidHeap_1.l0, if_neg (by omega)], rfl⟩
  | succ e ih =>
    intro k i he hk
    obtain ⟨k, rfl⟩ : ∃ z, k = z + 1 := ⟨k - 1, by omega⟩
    have hi : i < l.length := by omega
    have h1 : (i : Int) < (l.length : Int) := by omega
    have h0 : (0 : Int) ≤ (i : Int) := by omega
    have hx := hs _ (List.getElem_mem hi)
    rw [spec_l16Ok.l0, slices_IndexFunc_impl_ValidHeap_1.l0]
    simp only [if_pos h1, if_pos h0, rds_lt l i hi, wrap_up i (by omega), impl_ValidHeap_1.f]
    by_cases hz : l[i].toList = ([] : List UInt8)
    · simp only [if_pos hz, Option.bind_some]
      exact ih k (i + 1) (by omega) (by omega)
    · obtain ⟨b, n1, n2⟩ := isname_eq k l[i] (by omega) (by omega)
      simp only [if_neg hz, n1, n2, Option.bind_some]
      cases b with
      | true => exact ih k (i + 1) (by omega) (by omega)
      | false => exact ⟨false, rfl, i, rfl, by simp⟩
theorem heap_both (z : Nat) (hz : 1048650 < z) (l : List ByteArray) (hl : l.length ≤ 1048576) (h3 : ∀ x ∈ l, (x.size : Int) ≤ 1048576) :
    ∃ r, spec_ValidHeap.f (z + 1) l = some r ∧ impl_ValidHeap.f (z + 1) l = some r := by
  unfold spec_ValidHeap.f impl_ValidHeap.f spec_l16Ok.f slices_ContainsFunc_impl_ValidHeap_1.f slices_IndexFunc_impl_ValidHeap_1.f
  by_cases h30 : (l.length : Int) > 30
  · exact ⟨false, by rw [if_pos h30, spec_l16Ok.j0]; rfl, by rw [if_neg (by omega)]⟩
  · rw [if_neg h30, if_pos (show (l.length : Int) ≤ 30 by omega)]
    obtain ⟨r, k1, t, k2, k3⟩ := heap_loops l (by omega) h3 l.length z 0 (by omega) (by omega)
    obtain ⟨r', k1', t', k2', k3'⟩ := heap_loops l (by omega) h3 l.length (z + 1) 0 (by omega) (by omega)
    have hm : spec_l16Ok.l0 (z + 1) l.length 0 l = some r := (spec_l16Ok.mono_l z).2 _ _ _ _ k1
    have : r' = r := by
      have k1'' : spec_l16Ok.l0 (z + 1) l.length 0 l = some r' := k1'
      rw [hm] at k1''; exact (Option.some.inj k1'').symm
    subst this
    have k2'' : slices_IndexFunc_impl_ValidHeap_1.l0 (z + 1) l l.length 0 = some t' := k2'
    have k1'' : spec_l16Ok.l0 z l.length 0 l = some r' := k1
    by_cases hz : (l.length : Int) = 0
    · refine ⟨r', ?_, ?_⟩
      · rw [if_neg (show ¬ (l.length : Int) > 0 by omega), spec_l16Ok.j0, if_neg (by simp), k1'']; rfl
      · rw [if_pos hz, k2'']; simp only [Option.bind_some, k3']; simp
    · rw [if_pos (show (l.length : Int) > 0 by omega), if_neg hz]
      have hw : wrap64 ((l.length : Int) - 1) = (l.length : Int) - 1 := wrap64_id (by omega) (by omega)
      have g0 : 0 ≤ (l.length : Int) - 1 := by omega
      have g1 : (l.length : Int) - 1 < (l.length : Int) := by omega
      rw [hw]
      simp only [if_pos g0, if_pos g1]
      by_cases hq : (rdOf ByteArray.empty l ((l.length : Int) - 1)).toList = ([] : List UInt8)
      · exact ⟨false, by rw [spec_l16Ok.j0, if_pos (by simp [hq])]; rfl, by rw [if_pos hq]⟩
      · refine ⟨r', ?_, ?_⟩
        · rw [spec_l16Ok.j0, if_neg (by simp [hq]), k1'']; rfl
        · rw [if_neg hq, k2'']; simp only [Option.bind_some, k3']; simp
theorem FnExactValidHeap : laws_FnExactValidHeap.Pure := by
  rintro l ⟨hl, hs⟩
  obtain ⟨t, e, h⟩ := szHeap 1048700 l 1048576 (by omega) (by omega) (by omega) hl hs
  rcases h with h | ⟨h1, h2, h3⟩
  · exact ⟨1048700, by unfold laws_FnExactValidHeap.f; rw [e]; simp only [Option.bind_some]; rw [if_pos h]⟩
  obtain ⟨r, k1, k2⟩ := heap_both 1048699 (by omega) l (by omega) h3
  refine ⟨1048700, ?_⟩
  unfold laws_FnExactValidHeap.f
  rw [e]
  simp only [Option.bind_some]
  rw [if_neg (by omega), toHeap_eq _ l (by omega) (by omega)]
  simp only [Option.bind_some]
  rw [k1, k2]
  simp only [Option.bind_some, bne_self_eq_false]
  rw [if_neg (by simp), eqHeap_eq _ l (by omega) (by omega)]
  simp

end Go.Proofs.Ytngjbdijimapnab.Pure
