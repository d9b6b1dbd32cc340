/- The plain form of FnExactSameSpace: for all arguments the answer is true. It holds without a condition. -/
import Derived.Test.YtngjbdijimapnadPFnExactSameSpacex3
import Derived.OpenShut
namespace Go.Proofs.Ytngjbdijimapnad.Pure
open Go Go.RowKit Go.Proofs.Ytngjbdijimapnad.PFnExactSameSpace Go.Proofs.YtngjbdijimapnadW.PrintWords Go.Proofs.YtngjbdijimapnadW.PrintLast Go.Proofs.YtngjbdijimapnadW.PrintMore
set_option linter.unusedVariables false
set_option linter.unusedSimpArgs false

theorem wf64 {a : Int} (h : (Lit.int .i64 a).wf = true) : -9223372036854775808 ≤ a ∧ a ≤ 9223372036854775807 := Go.bounds_i64 h
theorem wrap64_id {a : Int} (h : -9223372036854775808 ≤ a) (h' : a ≤ 9223372036854775807) : wrap64 a = a := by unfold wrap64; omega
theorem count_loop {σ ρ : Type} (L : Nat → σ → Int → Option ρ) (n m : Nat) (I : Nat → σ → Prop) (R : ρ → Prop)
    (hstop : ∀ k s, m ≤ k → I n s → ∃ r, L (k + 1) s (n : Int) = some r ∧ R r)
    (hstep : ∀ k s (i : Nat), m ≤ k → i < n → I i s → (∃ s', I (i + 1) s' ∧ L (k + 1) s (i : Int) = L k s' ((i + 1 : Nat) : Int)) ∨ ∃ r, L (k + 1) s (i : Int) = some r ∧ R r)
    (k : Nat) (s : σ) (i : Nat) (hi : i ≤ n) (hk : n - i + m < k) (h : I i s) : ∃ r, L k s (i : Int) = some r ∧ R r := by
  obtain ⟨d, hd⟩ : ∃ d, d = n - i := ⟨_, rfl⟩
  induction d generalizing k s i with
  | zero =>
    obtain ⟨k, rfl⟩ : ∃ z, k = z + 1 := ⟨k - 1, by omega⟩
    obtain rfl : i = n := by omega
    exact hstop k s (by omega) h
  | succ d ih =>
    obtain ⟨k, rfl⟩ : ∃ z, k = z + 1 := ⟨k - 1, by omega⟩
    rcases hstep k s i (by omega) (by omega) h with ⟨s', h', e⟩ | h'
    · rw [e]; exact ih k s' (i + 1) (by omega) (by omega) h' (by omega)
    · exact h'
theorem w0 : wrap64 0 = 0 := by unfold wrap64; omega
theorem w1 : wrap64 1 = 1 := by unfold wrap64; omega
theorem w2 : wrap64 2 = 2 := by unfold wrap64; omega
theorem w3 : wrap64 3 = 3 := by unfold wrap64; omega
theorem rd_lt (l : List Int) (i : Nat) (h : i < l.length) : rd l (i : Int) = l[i] := by
  simp [rd, List.getD_eq_getElem?_getD, List.getElem?_eq_getElem h]
theorem rds_lt (l : List ByteArray) (i : Nat) (h : i < l.length) : rdOf ByteArray.empty l (i : Int) = l[i] := by
  simp [rdOf, List.getD_eq_getElem?_getD, List.getElem?_eq_getElem h]
theorem wrap_up (i : Nat) (h : i < 1099511627776) : wrap64 ((i : Int) + 1) = ((i + 1 : Nat) : Int) := by unfold wrap64; omega
theorem set_next {α : Type} (l out : List α) (i : Nat) (h : i < l.length) (hl : out.length = l.length) (hp : out.take i = l.take i) : (out.set i l[i]).take (i + 1) = l.take (i + 1) := by
  apply List.ext_getElem?
  intro j
  by_cases hj : j < i + 1
  · rw [List.getElem?_take_of_lt hj, List.getElem?_take_of_lt hj]
    by_cases hji : j = i
    · subst hji; rw [List.getElem?_set_self (by omega), List.getElem?_eq_getElem h]
    · rw [List.getElem?_set_ne (by omega)]
      have := congrArg (fun z => z[j]?) hp
      simpa [List.getElem?_take_of_lt (show j < i by omega)] using this
  · rw [List.getElem?_eq_none (by simp; omega), List.getElem?_eq_none (by simp; omega)]
theorem take_all {α : Type} (l out : List α) (hl : out.length = l.length) (hp : out.take l.length = l.take l.length) : out = l := by
  rwa [List.take_of_length_le (by omega), List.take_length] at hp
theorem sz64 (l : List Int) (a : Int) (h0 : 0 ≤ a) (h1 : a ≤ 1048576) (hl : l.length ≤ maxLen) : ∃ t, laws_szInt64S.f l a = some t ∧ (t < 0 ∨ (0 ≤ t ∧ (l.length : Int) + t = a)) := by
  unfold maxLen at hl
  unfold laws_szInt64S.f
  rw [wrap64_id (by omega) (by omega)]
  by_cases h : a - (l.length : Int) < 0
  · rw [if_pos h]; exact ⟨-1, rfl, .inl (by omega)⟩
  · rw [if_neg h]; exact ⟨_, rfl, .inr ⟨by omega, by omega⟩⟩
theorem szSpace (a b : List Int) (n : Int) (h0 : 0 ≤ n) (h1 : n ≤ 1048576) (ha : a.length ≤ maxLen) (hb : b.length ≤ maxLen) : ∃ t, laws_szSpace.f a b n = some t ∧ (t < 0 ∨ (0 ≤ t ∧ (a.length : Int) + b.length + t = n)) := by
  unfold laws_szSpace.f
  obtain ⟨t, e, h⟩ := sz64 a n h0 h1 ha
  rw [e]
  simp only [Option.bind_some]
  rcases h with h | ⟨h2, h3⟩
  · rw [if_pos h]; exact ⟨-1, rfl, .inl (by omega)⟩
  · rw [if_neg (by omega)]
    obtain ⟨u, e', h'⟩ := sz64 b t h2 (by omega) hb
    rw [e']
    simp only [Option.bind_some]
    rcases h' with h' | ⟨h4, h5⟩
    · rw [if_pos h']; exact ⟨-1, rfl, .inl (by omega)⟩
    · rw [if_neg (by omega)]; exact ⟨u, rfl, .inr ⟨h4, by omega⟩⟩
theorem toInt64S_eq (k : Nat) (l : List Int) (hl : l.length ≤ 1048576) (hk : l.length < k) : laws_toInt64S.f k l = some l := by
  unfold laws_toInt64S.f
  rw [if_pos (by omega), if_pos (by omega)]
  obtain ⟨r, h, rfl⟩ := count_loop (fun k s i => laws_toInt64S.l0 k l s i) l.length 0 (fun i s => s.length = l.length ∧ s.take i = l.take i) (fun r => r = l)
    (by
      rintro k s - ⟨h1, h2⟩
      exact ⟨s, by show laws_toInt64S.l0 (k + 1) l s _ = _; rw [laws_toInt64S.l0, if_neg (by omega)], take_all l s h1 h2⟩)
    (by
      rintro k s i - hi ⟨h1, h2⟩
      refine .inl ⟨s.set i l[i], ⟨by simpa using h1, set_next l s i hi h1 h2⟩, ?_⟩
      show laws_toInt64S.l0 (k + 1) l s _ = _
      rw [laws_toInt64S.l0, if_pos (by omega), if_pos (by omega), if_pos (by omega), rd_lt l i hi, wrap_up i (by omega)]
      rfl)
    k (List.replicate ((l.length : Int) : Int).toNat 0) 0 (by omega) (by omega) ⟨by simp, by simp⟩
  exact h
theorem laws_eqInt64S_eq (k : Nat) (a b : List Int) (hl : a.length ≤ 1048576) (hk : a.length < k) : laws_eqInt64S.f k a b = some (decide (a = b)) := by
  unfold laws_eqInt64S.f
  by_cases hn : (a.length : Int) = (b.length : Int)
  · rw [if_pos hn]
    obtain ⟨r, h, rfl⟩ := count_loop (fun k (_ : Unit) i => laws_eqInt64S.l0 k a b  i) a.length 0 (fun i _ => a.take i = b.take i) (fun r => r = decide (a = b))
      (by
        rintro k s - h1
        refine ⟨true, by show laws_eqInt64S.l0 (k + 1) a b  _ = _; rw [laws_eqInt64S.l0, if_neg (by omega)], ?_⟩
        have := take_all b a (by omega) (by rw [show b.length = a.length by omega]; exact h1)
        simp [this])
      (by
        rintro k s i - hi h1
        have hib : i < b.length := by omega
        by_cases he : a[i] = b[i]
        · refine .inl ⟨(), ?_, ?_⟩
          · rw [List.take_succ_eq_append_getElem hi, List.take_succ_eq_append_getElem hib, h1, he]
          · show laws_eqInt64S.l0 (k + 1) a b  _ = _
            rw [laws_eqInt64S.l0, rd_lt a i hi, rd_lt b i hib]
            repeat rw [if_pos (by omega)]
            try rw [if_pos he]
            rw [wrap_up i (by omega)]
        · refine .inr ⟨false, ?_, ?_⟩
          · show laws_eqInt64S.l0 (k + 1) a b  _ = _
            rw [laws_eqInt64S.l0, rd_lt a i hi, rd_lt b i hib]
            repeat rw [if_pos (by omega)]
            rw [if_neg he]
          · have : a ≠ b := by intro h; subst h; exact he rfl
            simp [this])
      k () 0 (by omega) (by omega) (by simp)
    exact h
  · rw [if_neg hn]
    have : a ≠ b := by intro h; subst h; exact hn rfl
    simp [this]
theorem toSpace_eq (k : Nat) (a b : List Int) (ha : a.length ≤ 1048576) (hb : b.length ≤ 1048576) (hk : 1048576 < k) : laws_toSpace.f k a b = some (a, b) := by
  unfold laws_toSpace.f
  rw [toInt64S_eq k a ha (by omega), toInt64S_eq k b hb (by omega)]
  rfl
theorem eqSpace_eq (k : Nat) (a b : List Int) (ha : a.length ≤ 1048576) (hb : b.length ≤ 1048576) (hk : 1048576 < k) : laws_eqSpace.f k a b a b = some true := by
  unfold laws_eqSpace.f
  rw [laws_eqInt64S_eq k a a ha (by omega), laws_eqInt64S_eq k b b hb (by omega)]
  simp
theorem spec_l00Same_eq (k : Nat) (a b : List Int) (hl : a.length ≤ 1048576) (hk : a.length < k) : spec_l00Same.f k a b = some (decide (a = b)) := by
  unfold spec_l00Same.f
  by_cases hn : (a.length : Int) = (b.length : Int)
  · rw [if_pos hn]
    obtain ⟨r, h, rfl⟩ := count_loop (fun k (_ : Unit) i => spec_l00Same.l0 k a b  i) a.length 0 (fun i _ => a.take i = b.take i) (fun r => r = decide (a = b))
      (by
        rintro k s - h1
        refine ⟨true, by show spec_l00Same.l0 (k + 1) a b  _ = _; rw [spec_l00Same.l0, if_neg (by omega)], ?_⟩
        have := take_all b a (by omega) (by rw [show b.length = a.length by omega]; exact h1)
        simp [this])
      (by
        rintro k s i - hi h1
        have hib : i < b.length := by omega
        by_cases he : a[i] = b[i]
        · refine .inl ⟨(), ?_, ?_⟩
          · rw [List.take_succ_eq_append_getElem hi, List.take_succ_eq_append_getElem hib, h1, he]
          · show spec_l00Same.l0 (k + 1) a b  _ = _
            rw [spec_l00Same.l0, rd_lt a i hi, rd_lt b i hib]
            repeat rw [if_pos (by omega)]
            try rw [if_pos he]
            rw [wrap_up i (by omega)]
        · refine .inr ⟨false, ?_, ?_⟩
          · show spec_l00Same.l0 (k + 1) a b  _ = _
            rw [spec_l00Same.l0, rd_lt a i hi, rd_lt b i hib]
            repeat rw [if_pos (by omega)]
            rw [if_neg he]
          · have : a ≠ b := by intro h; subst h; exact he rfl
            simp [this])
      k () 0 (by omega) (by omega) (by simp)
    exact h
  · rw [if_neg hn]
    have : a ≠ b := by intro h; subst h; exact hn rfl
    simp [this]
theorem slices_Equal_int64_int64_eq (k : Nat) (a b : List Int) (hl : a.length ≤ 1048576) (hk : a.length < k) : slices_Equal_int64_int64.f k a b = some (decide (a = b)) := by
  unfold slices_Equal_int64_int64.f
  by_cases hn : (a.length : Int) = (b.length : Int)
  · rw [if_pos hn]
    obtain ⟨r, h, rfl⟩ := count_loop (fun k (_ : Unit) i => slices_Equal_int64_int64.l0 k a b (a.length : Int) i) a.length 0 (fun i _ => a.take i = b.take i) (fun r => r = decide (a = b))
      (by
        rintro k s - h1
        refine ⟨true, by show slices_Equal_int64_int64.l0 (k + 1) a b (a.length : Int) _ = _; rw [slices_Equal_int64_int64.l0, if_neg (by omega)], ?_⟩
        have := take_all b a (by omega) (by rw [show b.length = a.length by omega]; exact h1)
        simp [this])
      (by
        rintro k s i - hi h1
        have hib : i < b.length := by omega
        by_cases he : a[i] = b[i]
        · refine .inl ⟨(), ?_, ?_⟩
          · rw [List.take_succ_eq_append_getElem hi, List.take_succ_eq_append_getElem hib, h1, he]
          · show slices_Equal_int64_int64.l0 (k + 1) a b (a.length : Int) _ = _
            rw [slices_Equal_int64_int64.l0, rd_lt a i hi, rd_lt b i hib]
            repeat rw [if_pos (by omega)]
            try rw [if_pos he]
            rw [wrap_up i (by omega)]
        · refine .inr ⟨false, ?_, ?_⟩
          · show slices_Equal_int64_int64.l0 (k + 1) a b (a.length : Int) _ = _
            rw [slices_Equal_int64_int64.l0, rd_lt a i hi, rd_lt b i hib]
            repeat rw [if_pos (by omega)]
            rw [if_neg he]
          · have : a ≠ b := by intro h; subst h; exact he rfl
            simp [this])
      k () 0 (by omega) (by omega) (by simp)
    exact h
  · rw [if_neg hn]
    have : a ≠ b := by intro h; subst h; exact hn rfl
    simp [this]
theorem FnExactSameSpace : laws_FnExactSameSpace.Pure := by
  rintro a b c d ⟨ha, -⟩ ⟨hb, -⟩ ⟨hc, -⟩ ⟨hd, -⟩
  obtain ⟨t, e, h⟩ := szSpace a b 1048576 (by omega) (by omega) ha hb
  rcases h with h | ⟨h1, h2⟩
  · exact ⟨0, by unfold laws_FnExactSameSpace.f; rw [e]; simp only [Option.bind_some]; rw [if_pos h]⟩
  obtain ⟨u, e', h'⟩ := szSpace c d t h1 (by omega) hc hd
  rcases h' with h' | ⟨h3, h4⟩
  · refine ⟨10, ?_⟩
    unfold laws_FnExactSameSpace.f
    rw [e]; simp only [Option.bind_some]; rw [if_neg (by omega), laws_FnExactSameSpace.j0, e']; simp only [Option.bind_some]; rw [if_pos h']
  refine ⟨1048600, ?_⟩
  unfold laws_FnExactSameSpace.f
  rw [e]; simp only [Option.bind_some]; rw [if_neg (by omega), laws_FnExactSameSpace.j0, e']; simp only [Option.bind_some]; rw [if_neg (by omega)]
  rw [laws_FnExactSameSpace.j1, toSpace_eq _ a b (by omega) (by omega) (by omega), toSpace_eq _ c d (by omega) (by omega) (by omega)]
  simp only [Option.bind_some]
  have key : ∀ k, 1048590 < k → ∃ r, spec_SameSpace.f k a b c d = some r ∧ impl_SameSpace.f k a b c d = some r := by
    intro k hk
    unfold spec_SameSpace.f impl_SameSpace.f
    rw [spec_l00Same_eq _ a c (by omega) (by omega), spec_l00Same_eq _ b d (by omega) (by omega), slices_Equal_int64_int64_eq _ a c (by omega) (by omega), slices_Equal_int64_int64_eq _ b d (by omega) (by omega)]
    by_cases h5 : a = c <;> simp [h5]
  obtain ⟨r, k1, k2⟩ := key 1048598 (by omega)
  rw [k1, k2]
  simp only [Option.bind_some, bne_self_eq_false]
  rw [if_neg (by simp), laws_FnExactSameSpace.j2, toSpace_eq _ a b (by omega) (by omega) (by omega)]
  simp only [Option.bind_some]
  rw [eqSpace_eq _ a b (by omega) (by omega) (by omega)]
  simp only [Option.bind_some, if_true]
  rw [laws_FnExactSameSpace.j3, toSpace_eq _ c d (by omega) (by omega) (by omega)]
  simp only [Option.bind_some]
  rw [eqSpace_eq _ c d (by omega) (by omega) (by omega)]
  simp

end Go.Proofs.Ytngjbdijimapnad.Pure
