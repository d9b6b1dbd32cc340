/- The plain form of FnExactValidPager: for all arguments the answer is true. It holds without a condition. -/
import Derived.Test.YtjfahjojihlbgaaPFnExactValidPagerx10
import Derived.OpenShut
namespace Go.Proofs.Ytjfahjojihlbgaa.Pure
open Go Go.RowKit Go.Proofs.Ytjfahjojihlbgaa.PFnExactValidPager Go.Proofs.YtjfahjojihlbgaaW.PrintWords Go.Proofs.YtjfahjojihlbgaaW.PrintLast
set_option linter.unusedVariables false
set_option linter.unusedSimpArgs false

theorem wf64 {a : Int} (h : (Lit.int .i64 a).wf = true) : -9223372036854775808 ≤ a ∧ a ≤ 9223372036854775807 := Go.bounds_i64 h
theorem wrap64_id {a : Int} (h : -9223372036854775808 ≤ a) (h' : a ≤ 9223372036854775807) : wrap64 a = a := by unfold wrap64; omega
theorem count_loop {σ ρ : Type} (L : Nat → σ → Int → Option ρ) (n m : Nat) (I : Nat → σ → Prop) (R : ρ → Prop)
    (hstop : ∀ k s, m ≤ k → I n s → ∃ r, L (k + 1) s (n : Int) = some r ∧ R r)
    (hstep : ∀ k s (i : Nat), m ≤ k → i < n → I i s → (∃ s', I (i + 1) s' ∧ L (k + 1) s (i : Int) = L k s' ((i + 1 : Nat) : Int)) ∨ ∃ r, L (k + 1) s (i : Int) = some r ∧ R r)
    (k : Nat) (s : σ) (i : Nat) (hi : i ≤ n) (hk : n - i + m < k) (h : I i s) : ∃ r, L k s (i : Int) = some r ∧ R r := by
  obtain ⟨d, hd⟩ : ∃ d, d = n - i := ⟨_, rfl⟩
  induction d generalizing k s i with
  | zero =>
    obtain ⟨k, rfl⟩ : ∃ z, k = z + 1 := ⟨k - 1, by omega⟩
    obtain rfl : i = n := by omega
    exact hstop k s (by omega) h
  | succ d ih =>
    obtain ⟨k, rfl⟩ : ∃ z, k = z + 1 := ⟨k - 1, by omega⟩
    rcases hstep k s i (by omega) (by omega) h with ⟨s', h', e⟩ | h'
    · rw [e]; exact ih k s' (i + 1) (by omega) (by omega) h' (by omega)
    · exact h'
theorem w0 : wrap64 0 = 0 := by unfold wrap64; omega
theorem w1 : wrap64 1 = 1 := by unfold wrap64; omega
theorem w2 : wrap64 2 = 2 := by unfold wrap64; omega
theorem w3 : wrap64 3 = 3 := by unfold wrap64; omega
theorem rd_lt (l : List Int) (i : Nat) (h : i < l.length) : rd l (i : Int) = l[i] := by
  simp [rd, List.getD_eq_getElem?_getD, List.getElem?_eq_getElem h]
theorem rds_lt (l : List ByteArray) (i : Nat) (h : i < l.length) : rdOf ByteArray.empty l (i : Int) = l[i] := by
  simp [rdOf, List.getD_eq_getElem?_getD, List.getElem?_eq_getElem h]
theorem wrap_up (i : Nat) (h : i < 1099511627776) : wrap64 ((i : Int) + 1) = ((i + 1 : Nat) : Int) := by unfold wrap64; omega
theorem set_next {α : Type} (l out : List α) (i : Nat) (h : i < l.length) (hl : out.length = l.length) (hp : out.take i = l.take i) : (out.set i l[i]).take (i + 1) = l.take (i + 1) := by
  apply List.ext_getElem?
  intro j
  by_cases hj : j < i + 1
  · rw [List.getElem?_take_of_lt hj, List.getElem?_take_of_lt hj]
    by_cases hji : j = i
    · subst hji; rw [List.getElem?_set_self (by omega), List.getElem?_eq_getElem h]
    · rw [List.getElem?_set_ne (by omega)]
      have := congrArg (fun z => z[j]?) hp
      simpa [List.getElem?_take_of_lt (show j < i by omega)] using this
  · rw [List.getElem?_eq_none (by simp; omega), List.getElem?_eq_none (by simp; omega)]
theorem take_all {α : Type} (l out : List α) (hl : out.length = l.length) (hp : out.take l.length = l.take l.length) : out = l := by
  rwa [List.take_of_length_le (by omega), List.take_length] at hp
theorem g_szloop {α : Type} (L : Nat → List α → Int → Int → Option Int) (E : Nat → α → Int → Option Int) (z : α) (m : Nat) (Q : α → Prop) (l : List α)
    (hL : ∀ k a i, L (k + 1) l a i = if i < (l.length : Int) then (if 0 ≤ i then ((E k (l.getD i.toNat z) a).bind fun t => if t < 0 then some (-1) else L k l t (wrap64 (i + 1))) else none) else some a)
    (hE : ∀ k x a, x ∈ l → 0 ≤ a → a ≤ 1048576 → m ≤ k → ∃ t, E k x a = some t ∧ (t < 0 ∨ (0 ≤ t ∧ t ≤ a ∧ Q x)))
    (hl : l.length ≤ 1048576) (k : Nat) (a : Int) (h0 : 0 ≤ a) (h1 : a ≤ 1048576) (hk : m + 1048580 < k) :
    ∃ t, L k l a 0 = some t ∧ (t < 0 ∨ (0 ≤ t ∧ t ≤ a ∧ ∀ x ∈ l, Q x)) := by
  exact count_loop (fun k s i => L k l s i) l.length m (fun i s => 0 ≤ s ∧ s ≤ a ∧ ∀ x ∈ l.take i, Q x) (fun t => t < 0 ∨ (0 ≤ t ∧ t ≤ a ∧ ∀ x ∈ l, Q x))
    (by
      rintro k s - ⟨h1, h2, h3⟩
      rw [List.take_length] at h3
      exact ⟨s, by show L (k + 1) l s _ = _; rw [hL, if_neg (by omega)], .inr ⟨h1, h2, h3⟩⟩)
    (by
      rintro k s i hm hi ⟨h1, h2, h3⟩
      have hg : l.getD (i : Int).toNat z = l[i] := by simp [List.getD_eq_getElem?_getD, List.getElem?_eq_getElem hi]
      obtain ⟨t, e, ht⟩ := hE k l[i] s (List.getElem_mem hi) h1 (by omega) hm
      rcases ht with ht | ⟨q1, q2, q3⟩
      · refine .inr ⟨-1, ?_, .inl (by omega)⟩
        show L (k + 1) l s _ = _
        rw [hL, if_pos (by omega), if_pos (by omega), hg, e]
        simp only [Option.bind_some]
        rw [if_pos ht]
      · refine .inl ⟨t, ⟨q1, by omega, ?_⟩, ?_⟩
        · intro x hx'
          rw [List.take_succ_eq_append_getElem hi, List.mem_append] at hx'
          rcases hx' with hx' | hx'
          · exact h3 x hx'
          · simp at hx'; subst hx'; exact q3
        · show L (k + 1) l s _ = _
          rw [hL, if_pos (by omega), if_pos (by omega), hg, e]
          simp only [Option.bind_some]
          rw [if_neg (by omega), wrap_up i (by omega)])
    k a 0 (by omega) (by omega) ⟨h0, by omega, by simp⟩
theorem g_toloop {α β γ : Type} (L : Nat → List α → List β → Int → Option (List β)) (E : Nat → α → Option γ) (mk : γ → β) (z : α) (c : α → β) (m : Nat) (l : List α)
    (hL : ∀ k s i, L (k + 1) l s i = if i < (l.length : Int) then (if 0 ≤ i then ((E k (l.getD i.toNat z)).bind fun b => (if i < (s.length : Int) then L k l (s.set i.toNat (mk b)) (wrap64 (i + 1)) else none)) else none) else some s)
    (hE : ∀ k x, x ∈ l → m ≤ k → ∃ b, E k x = some b ∧ mk b = c x)
    (hl : l.length ≤ 1048576) (k : Nat) (s : List β) (hs : s.length = l.length) (hk : m + 1048580 < k) : L k l s 0 = some (l.map c) := by
  obtain ⟨r, h, rfl⟩ := count_loop (fun k s i => L k l s i) l.length m (fun i s => s.length = (l.map c).length ∧ s.take i = (l.map c).take i) (fun r => r = l.map c)
    (by
      rintro k s - ⟨h1, h2⟩
      exact ⟨s, by show L (k + 1) l s _ = _; rw [hL, if_neg (by omega)], take_all (l.map c) s h1 (by rw [List.length_map]; exact h2)⟩)
    (by
      rintro k s i hm hi ⟨h1, h2⟩
      have hg : l.getD (i : Int).toNat z = l[i] := by simp [List.getD_eq_getElem?_getD, List.getElem?_eq_getElem hi]
      have hi' : i < (l.map c).length := by simpa using hi
      obtain ⟨b, e, hb⟩ := hE k l[i] (List.getElem_mem hi) hm
      have hb' : mk b = (l.map c)[i] := by rw [hb, List.getElem_map]
      refine .inl ⟨s.set i (l.map c)[i], ⟨by simpa using h1, set_next (l.map c) s i hi' h1 h2⟩, ?_⟩
      show L (k + 1) l s _ = _
      rw [hL, if_pos (by omega), if_pos (by omega), hg, e]
      simp only [Option.bind_some]
      rw [if_pos (by rw [h1]; simp; omega), wrap_up i (by omega), hb']
      rfl)
    k s 0 (by omega) (by omega) ⟨by simpa using hs, by simp⟩
  exact h
theorem g_eqloop {α : Type} (L : Nat → List α → List α → Int → Option Bool) (E : Nat → α → Option Bool) (z : α) (m : Nat) (l : List α)
    (hL : ∀ k i, L (k + 1) l l i = if i < (l.length : Int) then (if 0 ≤ i then (if i < (l.length : Int) then ((E k (l.getD i.toNat z)).bind fun t => (if t = true then L k l l (wrap64 (i + 1)) else some false)) else none) else none) else some true)
    (hE : ∀ k x, x ∈ l → m ≤ k → E k x = some true)
    (hl : l.length ≤ 1048576) (k : Nat) (hk : m + 1048580 < k) : L k l l 0 = some true := by
  obtain ⟨r, h, rfl⟩ := count_loop (fun k (_ : Unit) i => L k l l i) l.length m (fun _ _ => True) (fun r => r = true)
    (by
      rintro k s - -
      exact ⟨true, by show L (k + 1) l l _ = _; rw [hL, if_neg (by omega)], rfl⟩)
    (by
      rintro k s i hm hi -
      have hg : l.getD (i : Int).toNat z = l[i] := by simp [List.getD_eq_getElem?_getD, List.getElem?_eq_getElem hi]
      refine .inl ⟨(), trivial, ?_⟩
      show L (k + 1) l l _ = _
      rw [hL, if_pos (by omega), if_pos (by omega), if_pos (by omega), hg, hE k _ (List.getElem_mem hi) hm]
      simp only [Option.bind_some]
      rw [if_pos trivial, wrap_up i (by omega)])
    k () 0 (by omega) (by omega) trivial
  exact h
theorem g_szStringS (k : Nat) (l : List ByteArray) (a : Int) (h0 : 0 ≤ a) (h1 : a ≤ 1048576) (hk : 1048590 ≤ k) (o : l.length ≤ maxLen ∧ ∀ x_ ∈ l, x_.size ≤ maxLen) : ∃ t, laws_szStringS.f k l a = some t ∧ (t < 0 ∨ (0 ≤ t ∧ t ≤ a ∧ (l.length : Int) ≤ 1048576 ∧ (∀ y ∈ l, (y.size : Int) ≤ 1048576))) := by
  have ol := o.1
  unfold maxLen at ol
  unfold laws_szStringS.f
  rw [wrap64_id (by omega) (by omega)]
  by_cases h : a - (l.length : Int) < 0
  · exact ⟨-1, by rw [if_pos h], .inl (by omega)⟩
  rw [if_neg h]
  obtain ⟨t, e, q⟩ := g_szloop laws_szStringS.l0 (fun _ x a => if wrap64 (a - (x.size : Int)) < 0 then some (-1) else some (wrap64 (a - (x.size : Int)))) ByteArray.empty 0 (fun x => (x.size : Int) ≤ 1048576) l
    (by 
      intro k a i
      rw [laws_szStringS.l0]
      by_cases h : wrap64 (a - ((rdOf ByteArray.empty l i).size : Int)) < 0
      · rw [if_pos h]; unfold rdOf at h; rw [if_pos h]; rfl
      · rw [if_neg h]; unfold rdOf at h ⊢; rw [if_neg h]; simp only [Option.bind_some, if_neg h])
    (by 
      intro k x a hx h0 h1 hm
      have := o.2 x hx
      unfold maxLen at this
      rw [wrap64_id (by omega) (by omega)]
      by_cases h : a - (x.size : Int) < 0
      · exact ⟨-1, by rw [if_pos h], .inl (by omega)⟩
      · exact ⟨_, by rw [if_neg h], .inr ⟨by omega, by omega, by omega⟩⟩)
    (by omega) k (a - (l.length : Int)) (by omega) (by omega) (by omega)
  rcases q with q | ⟨q1, q2, q3⟩
  · exact ⟨t, e, .inl q⟩
  · exact ⟨t, e, .inr ⟨q1, by omega, by omega, q3⟩⟩
theorem g_szPut (k : Nat) (a0_0 : Int) (a0_1 : ByteArray) (a : Int) (h0 : 0 ≤ a) (h1 : a ≤ 1048576) (hk : 0 ≤ k) (o_a0_1 : a0_1.size ≤ maxLen) : ∃ t, laws_szPut.f a0_0 a0_1 a = some t ∧ (t < 0 ∨ (0 ≤ t ∧ t ≤ a ∧ (a0_1.size : Int) ≤ 1048576)) := by
  have p_a0_1 := o_a0_1
  unfold maxLen at p_a0_1
  unfold laws_szPut.f
  rw [wrap64_id (a := a - (a0_1.size : Int)) (by omega) (by omega)]
  by_cases c0 : a - (a0_1.size : Int) < 0
  · exact ⟨-1, by rw [if_pos c0], .inl (by omega)⟩
  rw [if_neg c0]
  exact ⟨_, rfl, .inr ⟨by omega, by omega, by omega⟩⟩
def QS79 (x : S79) : Prop := (x.f1.size : Int) ≤ 1048576
theorem g_szPutS (k : Nat) (l : List (S79)) (a : Int) (h0 : 0 ≤ a) (h1 : a ≤ 1048576) (hk : 1048590 ≤ k) (o : l.length ≤ maxLen ∧ ∀ x_ ∈ l, okS79 x_) : ∃ t, laws_szPutS.f k l a = some t ∧ (t < 0 ∨ (0 ≤ t ∧ t ≤ a ∧ (l.length : Int) ≤ 1048576 ∧ (∀ y ∈ l, QS79 y))) := by
  have ol := o.1
  unfold maxLen at ol
  unfold laws_szPutS.f
  rw [wrap64_id (by omega) (by omega)]
  by_cases h : a - (l.length : Int) < 0
  · exact ⟨-1, by rw [if_pos h], .inl (by omega)⟩
  rw [if_neg h]
  obtain ⟨t, e, q⟩ := g_szloop laws_szPutS.l0 (fun k x a => laws_szPut.f x.f0 x.f1 a) z79 0 (QS79) l
    (by intro k a i; rw [laws_szPutS.l0]; rfl)
    (by intro k x a hx h0 h1 hm; obtain ⟨o0, o1⟩ := o.2 x hx; exact g_szPut k x.f0 x.f1 a h0 h1 hm o1)
    (by omega) k (a - (l.length : Int)) (by omega) (by omega) (by omega)
  rcases q with q | ⟨q1, q2, q3⟩
  · exact ⟨t, e, .inl q⟩
  · exact ⟨t, e, .inr ⟨q1, by omega, by omega, q3⟩⟩
theorem g_szDisk (k : Nat) (l0_0 : List ByteArray) (l0_1 : List (S79)) (a0_2 : Int) (a0_3 : Bool) (a : Int) (h0 : 0 ≤ a) (h1 : a ≤ 1048576) (hk : 1048590 ≤ k) (o_l0_0 : l0_0.length ≤ maxLen ∧ ∀ x_ ∈ l0_0, x_.size ≤ maxLen) (o_l0_1 : l0_1.length ≤ maxLen ∧ ∀ x_ ∈ l0_1, okS79 x_) : ∃ t, laws_szDisk.f k l0_0 l0_1 a0_2 a0_3 a = some t ∧ (t < 0 ∨ (0 ≤ t ∧ t ≤ a ∧ (l0_0.length : Int) ≤ 1048576 ∧ (∀ y ∈ l0_0, (y.size : Int) ≤ 1048576) ∧ (l0_1.length : Int) ≤ 1048576 ∧ (∀ y ∈ l0_1, QS79 y))) := by
  have p_l0_0 := o_l0_0.1
  unfold maxLen at p_l0_0
  have p_l0_1 := o_l0_1.1
  unfold maxLen at p_l0_1
  unfold laws_szDisk.f
  obtain ⟨t0, e0, q0⟩ := g_szStringS k l0_0 a (by omega) (by omega) (by omega) o_l0_0
  rw [e0]
  simp only [Option.bind_some]
  rcases q0 with q0 | ⟨r0, s0, q0_l0_0_0, q0_l0_0_1⟩
  · exact ⟨-1, by rw [if_pos q0], .inl (by omega)⟩
  rw [if_neg (show ¬ t0 < 0 by omega)]
  obtain ⟨t1, e1, q1⟩ := g_szPutS k l0_1 t0 (by omega) (by omega) (by omega) o_l0_1
  rw [e1]
  simp only [Option.bind_some]
  rcases q1 with q1 | ⟨r1, s1, q1_l0_1_0, q1_l0_1_1⟩
  · exact ⟨-1, by rw [if_pos q1], .inl (by omega)⟩
  rw [if_neg (show ¬ t1 < 0 by omega)]
  exact ⟨_, rfl, .inr ⟨by omega, by omega, q0_l0_0_0, q0_l0_0_1, q1_l0_1_0, q1_l0_1_1⟩⟩
theorem g_szPage (k : Nat) (a0_0 : Int) (a0_1 : ByteArray) (a : Int) (h0 : 0 ≤ a) (h1 : a ≤ 1048576) (hk : 0 ≤ k) (o_a0_1 : a0_1.size ≤ maxLen) : ∃ t, laws_szPage.f a0_0 a0_1 a = some t ∧ (t < 0 ∨ (0 ≤ t ∧ t ≤ a ∧ (a0_1.size : Int) ≤ 1048576)) := by
  have p_a0_1 := o_a0_1
  unfold maxLen at p_a0_1
  unfold laws_szPage.f
  rw [wrap64_id (a := a - (a0_1.size : Int)) (by omega) (by omega)]
  by_cases c0 : a - (a0_1.size : Int) < 0
  · exact ⟨-1, by rw [if_pos c0], .inl (by omega)⟩
  rw [if_neg c0]
  exact ⟨_, rfl, .inr ⟨by omega, by omega, by omega⟩⟩
def QS92 (x : S92) : Prop := (x.f1.size : Int) ≤ 1048576
theorem g_szPageS (k : Nat) (l : List (S92)) (a : Int) (h0 : 0 ≤ a) (h1 : a ≤ 1048576) (hk : 1048590 ≤ k) (o : l.length ≤ maxLen ∧ ∀ x_ ∈ l, okS92 x_) : ∃ t, laws_szPageS.f k l a = some t ∧ (t < 0 ∨ (0 ≤ t ∧ t ≤ a ∧ (l.length : Int) ≤ 1048576 ∧ (∀ y ∈ l, QS92 y))) := by
  have ol := o.1
  unfold maxLen at ol
  unfold laws_szPageS.f
  rw [wrap64_id (by omega) (by omega)]
  by_cases h : a - (l.length : Int) < 0
  · exact ⟨-1, by rw [if_pos h], .inl (by omega)⟩
  rw [if_neg h]
  obtain ⟨t, e, q⟩ := g_szloop laws_szPageS.l0 (fun k x a => laws_szPage.f x.f0 x.f1 a) z92 0 (QS92) l
    (by intro k a i; rw [laws_szPageS.l0]; rfl)
    (by intro k x a hx h0 h1 hm; obtain ⟨o0, o1⟩ := o.2 x hx; exact g_szPage k x.f0 x.f1 a h0 h1 hm o1)
    (by omega) k (a - (l.length : Int)) (by omega) (by omega) (by omega)
  rcases q with q | ⟨q1, q2, q3⟩
  · exact ⟨t, e, .inl q⟩
  · exact ⟨t, e, .inr ⟨q1, by omega, by omega, q3⟩⟩
theorem g_szPager (k : Nat) (l0_0 : List ByteArray) (l0_1 : List (S79)) (a0_2 : Int) (a0_3 : Bool) (a0_4 : Int) (a0_5 : Int) (a0_6 : Int) (a0_7 : Int) (a0_8 : Int) (a0_9 : Int) (l0_10 : List (S92)) (l0_11 : List (S92)) (a : Int) (h0 : 0 ≤ a) (h1 : a ≤ 1048576) (hk : 1048590 ≤ k) (o_l0_0 : l0_0.length ≤ maxLen ∧ ∀ x_ ∈ l0_0, x_.size ≤ maxLen) (o_l0_1 : l0_1.length ≤ maxLen ∧ ∀ x_ ∈ l0_1, okS79 x_) (o_l0_10 : l0_10.length ≤ maxLen ∧ ∀ x_ ∈ l0_10, okS92 x_) (o_l0_11 : l0_11.length ≤ maxLen ∧ ∀ x_ ∈ l0_11, okS92 x_) : ∃ t, laws_szPager.f k l0_0 l0_1 a0_2 a0_3 a0_4 a0_5 a0_6 a0_7 a0_8 a0_9 l0_10 l0_11 a = some t ∧ (t < 0 ∨ (0 ≤ t ∧ t ≤ a ∧ (l0_0.length : Int) ≤ 1048576 ∧ (∀ y ∈ l0_0, (y.size : Int) ≤ 1048576) ∧ (l0_1.length : Int) ≤ 1048576 ∧ (∀ y ∈ l0_1, QS79 y) ∧ (l0_10.length : Int) ≤ 1048576 ∧ (∀ y ∈ l0_10, QS92 y) ∧ (l0_11.length : Int) ≤ 1048576 ∧ (∀ y ∈ l0_11, QS92 y))) := by
  have p_l0_0 := o_l0_0.1
  unfold maxLen at p_l0_0
  have p_l0_1 := o_l0_1.1
  unfold maxLen at p_l0_1
  have p_l0_10 := o_l0_10.1
  unfold maxLen at p_l0_10
  have p_l0_11 := o_l0_11.1
  unfold maxLen at p_l0_11
  unfold laws_szPager.f
  obtain ⟨t0, e0, q0⟩ := g_szDisk k l0_0 l0_1 a0_2 a0_3 a (by omega) (by omega) (by omega) o_l0_0 o_l0_1
  rw [e0]
  simp only [Option.bind_some]
  rcases q0 with q0 | ⟨r0, s0, q0_l0_0_0, q0_l0_0_1, q0_l0_1_0, q0_l0_1_1⟩
  · exact ⟨-1, by rw [if_pos q0], .inl (by omega)⟩
  rw [if_neg (show ¬ t0 < 0 by omega)]
  obtain ⟨t1, e1, q1⟩ := g_szPageS k l0_10 t0 (by omega) (by omega) (by omega) o_l0_10
  rw [e1]
  simp only [Option.bind_some]
  rcases q1 with q1 | ⟨r1, s1, q1_l0_10_0, q1_l0_10_1⟩
  · exact ⟨-1, by rw [if_pos q1], .inl (by omega)⟩
  rw [if_neg (show ¬ t1 < 0 by omega)]
  obtain ⟨t2, e2, q2⟩ := g_szPageS k l0_11 t1 (by omega) (by omega) (by omega) o_l0_11
  rw [e2]
  simp only [Option.bind_some]
  rcases q2 with q2 | ⟨r2, s2, q2_l0_11_0, q2_l0_11_1⟩
  · exact ⟨-1, by rw [if_pos q2], .inl (by omega)⟩
  rw [if_neg (show ¬ t2 < 0 by omega)]
  exact ⟨_, rfl, .inr ⟨by omega, by omega, q0_l0_0_0, q0_l0_0_1, q0_l0_1_0, q0_l0_1_1, q1_l0_10_0, q1_l0_10_1, q2_l0_11_0, q2_l0_11_1⟩⟩
theorem g_toStringS (k : Nat) (l : List ByteArray) (hk : 1048590 ≤ k) (o1 : (l.length : Int) ≤ 1048576) (o2 : (∀ y ∈ l, (y.size : Int) ≤ 1048576)) : laws_toStringS.f k l = some l := by
  unfold laws_toStringS.f
  rw [if_pos (by omega), if_pos (by omega)]
  have h := g_toloop laws_toStringS.l0 (fun _ (x : ByteArray) => some x) (fun b => b) ByteArray.empty id 0 l (by intro k s i; rw [laws_toStringS.l0]; rfl)
    (by intro k x hx hm; exact ⟨_, rfl, rfl⟩)
    (by omega) k (List.replicate ((l.length : Int) : Int).toNat (⟨#[]⟩ : ByteArray)) (by simp) (by omega)
  rwa [List.map_id] at h
theorem g_toPut (k : Nat) (a0_0 : Int) (a0_1 : ByteArray) (hk : 0 ≤ k) (o_a0_1_0 : (a0_1.size : Int) ≤ 1048576) : laws_toPut.f a0_0 a0_1 = some (a0_0, a0_1) := by
  unfold laws_toPut.f
  rfl
def QS58 (x : S58) : Prop := (x.f1.size : Int) ≤ 1048576
def cS79 (x : S79) : S58 := ⟨x.f0, x.f1⟩
theorem qcS79 (x : S79) (h : QS79 x) : QS58 (cS79 x) := h
theorem qmS79 (l : List S79) (h : ∀ y ∈ l, QS79 y) : ∀ y ∈ l.map cS79, QS58 y := by
  intro y hy
  obtain ⟨x, hx, rfl⟩ := List.mem_map.1 hy
  exact qcS79 x (h x hx)
theorem g_toPutS (k : Nat) (l : List (S79)) (hk : 1048590 ≤ k) (o1 : (l.length : Int) ≤ 1048576) (o2 : (∀ y ∈ l, QS79 y)) : laws_toPutS.f k l = some (l.map cS79) := by
  unfold laws_toPutS.f
  rw [if_pos (by omega), if_pos (by omega)]
  have h := g_toloop laws_toPutS.l0 (fun k (x : S79) => laws_toPut.f x.f0 x.f1) (fun b => (⟨b.1, b.2⟩ : S58)) z79 cS79 0 l (by intro k s i; rw [laws_toPutS.l0]; rfl)
    (by intro k x hx hm; obtain q1_0 := o2 x hx; exact ⟨_, g_toPut k x.f0 x.f1 hm q1_0, rfl⟩)
    (by omega) k (List.replicate ((l.length : Int) : Int).toNat z58) (by simp) (by omega)
  exact h
theorem g_toDisk (k : Nat) (l0_0 : List ByteArray) (l0_1 : List (S79)) (a0_2 : Int) (a0_3 : Bool) (hk : 1048590 ≤ k) (o_l0_0_0 : (l0_0.length : Int) ≤ 1048576) (o_l0_0_1 : (∀ y ∈ l0_0, (y.size : Int) ≤ 1048576)) (o_l0_1_0 : (l0_1.length : Int) ≤ 1048576) (o_l0_1_1 : (∀ y ∈ l0_1, QS79 y)) : laws_toDisk.f k l0_0 l0_1 a0_2 a0_3 = some (l0_0, (l0_1.map cS79), a0_2, a0_3) := by
  unfold laws_toDisk.f
  rw [g_toStringS k l0_0 (by omega) o_l0_0_0 o_l0_0_1]
  simp only [Option.bind_some]
  rw [g_toPutS k l0_1 (by omega) o_l0_1_0 o_l0_1_1]
  simp only [Option.bind_some]
theorem g_toSuper (k : Nat) (a0_0 : Int) (a0_1 : Int) (a0_2 : Int) (a0_3 : Int) (hk : 0 ≤ k)  : laws_toSuper.f a0_0 a0_1 a0_2 a0_3 = some (a0_0, a0_1, a0_2, a0_3) := by
  unfold laws_toSuper.f
  rfl
theorem g_toPage (k : Nat) (a0_0 : Int) (a0_1 : ByteArray) (hk : 0 ≤ k) (o_a0_1_0 : (a0_1.size : Int) ≤ 1048576) : laws_toPage.f a0_0 a0_1 = some (a0_0, a0_1) := by
  unfold laws_toPage.f
  rfl
def QS96 (x : S96) : Prop := (x.f1.size : Int) ≤ 1048576
def cS92 (x : S92) : S96 := ⟨x.f0, x.f1⟩
theorem qcS92 (x : S92) (h : QS92 x) : QS96 (cS92 x) := h
theorem qmS92 (l : List S92) (h : ∀ y ∈ l, QS92 y) : ∀ y ∈ l.map cS92, QS96 y := by
  intro y hy
  obtain ⟨x, hx, rfl⟩ := List.mem_map.1 hy
  exact qcS92 x (h x hx)
theorem g_toPageS (k : Nat) (l : List (S92)) (hk : 1048590 ≤ k) (o1 : (l.length : Int) ≤ 1048576) (o2 : (∀ y ∈ l, QS92 y)) : laws_toPageS.f k l = some (l.map cS92) := by
  unfold laws_toPageS.f
  rw [if_pos (by omega), if_pos (by omega)]
  have h := g_toloop laws_toPageS.l0 (fun k (x : S92) => laws_toPage.f x.f0 x.f1) (fun b => (⟨b.1, b.2⟩ : S96)) z92 cS92 0 l (by intro k s i; rw [laws_toPageS.l0]; rfl)
    (by intro k x hx hm; obtain q1_0 := o2 x hx; exact ⟨_, g_toPage k x.f0 x.f1 hm q1_0, rfl⟩)
    (by omega) k (List.replicate ((l.length : Int) : Int).toNat z96) (by simp) (by omega)
  exact h
theorem g_toPager (k : Nat) (l0_0 : List ByteArray) (l0_1 : List (S79)) (a0_2 : Int) (a0_3 : Bool) (a0_4 : Int) (a0_5 : Int) (a0_6 : Int) (a0_7 : Int) (a0_8 : Int) (a0_9 : Int) (l0_10 : List (S92)) (l0_11 : List (S92)) (hk : 1048590 ≤ k) (o_l0_0_0 : (l0_0.length : Int) ≤ 1048576) (o_l0_0_1 : (∀ y ∈ l0_0, (y.size : Int) ≤ 1048576)) (o_l0_1_0 : (l0_1.length : Int) ≤ 1048576) (o_l0_1_1 : (∀ y ∈ l0_1, QS79 y)) (o_l0_10_0 : (l0_10.length : Int) ≤ 1048576) (o_l0_10_1 : (∀ y ∈ l0_10, QS92 y)) (o_l0_11_0 : (l0_11.length : Int) ≤ 1048576) (o_l0_11_1 : (∀ y ∈ l0_11, QS92 y)) : laws_toPager.f k l0_0 l0_1 a0_2 a0_3 a0_4 a0_5 a0_6 a0_7 a0_8 a0_9 l0_10 l0_11 = some (l0_0, (l0_1.map cS79), a0_2, a0_3, a0_4, a0_5, a0_6, a0_7, a0_8, a0_9, (l0_10.map cS92), (l0_11.map cS92)) := by
  unfold laws_toPager.f
  rw [g_toDisk k l0_0 l0_1 a0_2 a0_3 (by omega) o_l0_0_0 o_l0_0_1 o_l0_1_0 o_l0_1_1]
  simp only [Option.bind_some]
  rw [g_toSuper k a0_4 a0_5 a0_6 a0_7 (by omega) ]
  simp only [Option.bind_some]
  rw [g_toPageS k l0_10 (by omega) o_l0_10_0 o_l0_10_1]
  simp only [Option.bind_some]
  rw [g_toPageS k l0_11 (by omega) o_l0_11_0 o_l0_11_1]
  simp only [Option.bind_some]
theorem g_eqStringS (k : Nat) (l : List ByteArray) (hk : 1048590 ≤ k) (o1 : (l.length : Int) ≤ 1048576) (o2 : (∀ y ∈ l, (y.size : Int) ≤ 1048576)) : laws_eqStringS.f k l l = some true := by
  unfold laws_eqStringS.f
  rw [if_pos rfl]
  exact g_eqloop laws_eqStringS.l0 (fun _ (x : ByteArray) => some true) ByteArray.empty 0 l (by intro k i; rw [laws_eqStringS.l0]; simp only [Option.bind_some, bne_self_eq_false, Bool.false_eq_true, if_false, if_true, reduceIte]) (by intro k x hx hm; rfl) (by omega) k (by omega)
theorem g_eqPut (k : Nat) (a0_0 : Int) (a0_1 : ByteArray) (hk : 0 ≤ k)  : laws_eqPut.f a0_0 a0_1 a0_0 a0_1 = some true := by
  unfold laws_eqPut.f
  simp only [Option.bind_some, bne_self_eq_false, Bool.false_eq_true, if_false, if_true, reduceIte]
theorem g_eqPutS (k : Nat) (l : List (S58)) (hk : 1048590 ≤ k) (o1 : (l.length : Int) ≤ 1048576) (o2 : (∀ y ∈ l, QS58 y)) : laws_eqPutS.f k l l = some true := by
  unfold laws_eqPutS.f
  rw [if_pos rfl]
  exact g_eqloop laws_eqPutS.l0 (fun k (x : S58) => laws_eqPut.f x.f0 x.f1 x.f0 x.f1) z58 0 l (by intro k i; rw [laws_eqPutS.l0]; rfl) (by intro k x hx hm; obtain q1_0 := o2 x hx; exact g_eqPut k x.f0 x.f1 hm ) (by omega) k (by omega)
theorem g_eqDisk (k : Nat) (l0_0 : List ByteArray) (l0_1 : List (S58)) (a0_2 : Int) (a0_3 : Bool) (hk : 1048590 ≤ k) (o_l0_0_0 : (l0_0.length : Int) ≤ 1048576) (o_l0_0_1 : (∀ y ∈ l0_0, (y.size : Int) ≤ 1048576)) (o_l0_1_0 : (l0_1.length : Int) ≤ 1048576) (o_l0_1_1 : (∀ y ∈ l0_1, QS58 y)) : laws_eqDisk.f k l0_0 l0_1 a0_2 a0_3 l0_0 l0_1 a0_2 a0_3 = some true := by
  unfold laws_eqDisk.f
  simp only [g_eqStringS k l0_0 (by omega) o_l0_0_0 o_l0_0_1, g_eqPutS k l0_1 (by omega) o_l0_1_0 o_l0_1_1, Option.bind_some, bne_self_eq_false, Bool.false_eq_true, if_false, if_true, reduceIte]
theorem g_eqSuper (k : Nat) (a0_0 : Int) (a0_1 : Int) (a0_2 : Int) (a0_3 : Int) (hk : 0 ≤ k)  : laws_eqSuper.f a0_0 a0_1 a0_2 a0_3 a0_0 a0_1 a0_2 a0_3 = some true := by
  unfold laws_eqSuper.f
  simp only [Option.bind_some, bne_self_eq_false, Bool.false_eq_true, if_false, if_true, reduceIte]
theorem g_eqPage (k : Nat) (a0_0 : Int) (a0_1 : ByteArray) (hk : 0 ≤ k)  : laws_eqPage.f a0_0 a0_1 a0_0 a0_1 = some true := by
  unfold laws_eqPage.f
  simp only [Option.bind_some, bne_self_eq_false, Bool.false_eq_true, if_false, if_true, reduceIte]
theorem g_eqPageS (k : Nat) (l : List (S96)) (hk : 1048590 ≤ k) (o1 : (l.length : Int) ≤ 1048576) (o2 : (∀ y ∈ l, QS96 y)) : laws_eqPageS.f k l l = some true := by
  unfold laws_eqPageS.f
  rw [if_pos rfl]
  exact g_eqloop laws_eqPageS.l0 (fun k (x : S96) => laws_eqPage.f x.f0 x.f1 x.f0 x.f1) z96 0 l (by intro k i; rw [laws_eqPageS.l0]; rfl) (by intro k x hx hm; obtain q1_0 := o2 x hx; exact g_eqPage k x.f0 x.f1 hm ) (by omega) k (by omega)
theorem g_eqPager (k : Nat) (l0_0 : List ByteArray) (l0_1 : List (S58)) (a0_2 : Int) (a0_3 : Bool) (a0_4 : Int) (a0_5 : Int) (a0_6 : Int) (a0_7 : Int) (a0_8 : Int) (a0_9 : Int) (l0_10 : List (S96)) (l0_11 : List (S96)) (hk : 1048590 ≤ k) (o_l0_0_0 : (l0_0.length : Int) ≤ 1048576) (o_l0_0_1 : (∀ y ∈ l0_0, (y.size : Int) ≤ 1048576)) (o_l0_1_0 : (l0_1.length : Int) ≤ 1048576) (o_l0_1_1 : (∀ y ∈ l0_1, QS58 y)) (o_l0_10_0 : (l0_10.length : Int) ≤ 1048576) (o_l0_10_1 : (∀ y ∈ l0_10, QS96 y)) (o_l0_11_0 : (l0_11.length : Int) ≤ 1048576) (o_l0_11_1 : (∀ y ∈ l0_11, QS96 y)) : laws_eqPager.f k l0_0 l0_1 a0_2 a0_3 a0_4 a0_5 a0_6 a0_7 a0_8 a0_9 l0_10 l0_11 l0_0 l0_1 a0_2 a0_3 a0_4 a0_5 a0_6 a0_7 a0_8 a0_9 l0_10 l0_11 = some true := by
  unfold laws_eqPager.f
  simp only [g_eqDisk k l0_0 l0_1 a0_2 a0_3 (by omega) o_l0_0_0 o_l0_0_1 o_l0_1_0 o_l0_1_1, g_eqSuper k a0_4 a0_5 a0_6 a0_7 (by omega) , g_eqPageS k l0_10 (by omega) o_l0_10_0 o_l0_10_1, g_eqPageS k l0_11 (by omega) o_l0_11_0 o_l0_11_1, Option.bind_some, bne_self_eq_false, Bool.false_eq_true, if_false, if_true, reduceIte]
theorem all_loop (L : Nat → Int → Option Bool) (P : Nat → Prop) [DecidablePred P] (n m : Nat) (r : Bool)
    (hend : ∀ k, m ≤ k → L (k + 1) (n : Int) = some r) (hstep : ∀ k (i : Nat), m ≤ k → i < n → L (k + 1) (i : Int) = if P i then L k ((i + 1 : Nat) : Int) else some false) (k : Nat) (hk : n + m < k) :
    L k 0 = some (decide (∀ i, i < n → P i) && r) := by
  obtain ⟨s, h, rfl⟩ := count_loop (fun k (_ : Unit) i => L k i) n m (fun i _ => ∀ j, j < i → P j) (fun s => s = (decide (∀ i, i < n → P i) && r))
    (by
      rintro k s hm h
      exact ⟨r, hend k hm, by simp [decide_eq_true h]⟩)
    (by
      rintro k s i hm hi h
      by_cases hp : P i
      · refine .inl ⟨(), ?_, by show L (k + 1) _ = _; rw [hstep k i hm hi, if_pos hp]⟩
        intro j hj
        by_cases hji : j = i
        · subst hji; exact hp
        · exact h j (by omega)
      · refine .inr ⟨false, by show L (k + 1) _ = _; rw [hstep k i hm hi, if_neg hp], ?_⟩
        have : ¬ ∀ i, i < n → P i := fun h => hp (h i hi)
        simp [this])
    k () 0 (by omega) (by omega) (by simp)
  exact h
def look (P : Nat → Prop) [DecidablePred P] : Nat → Nat → Int
  | 0, _ => -1
  | d + 1, i => if P i then (i : Int) else look P d (i + 1)
theorem look_or (P : Nat → Prop) [DecidablePred P] (d : Nat) : ∀ i, (look P d i = -1 ∧ ∀ j, i ≤ j → j < i + d → ¬ P j) ∨ ∃ j, i ≤ j ∧ j < i + d ∧ look P d i = (j : Int) ∧ P j := by
  induction d with
  | zero => intro i; exact .inl ⟨rfl, fun j h1 h2 => by omega⟩
  | succ d ih =>
    intro i
    by_cases hp : P i
    · exact .inr ⟨i, by omega, by omega, by rw [look, if_pos hp], hp⟩
    · rw [look, if_neg hp]
      rcases ih (i + 1) with ⟨h1, h2⟩ | ⟨j, h1, h2, h3, h4⟩
      · refine .inl ⟨h1, fun j h3 h4 => ?_⟩
        by_cases hji : j = i
        · subst hji; exact hp
        · exact h2 j (by omega) (by omega)
      · exact .inr ⟨j, by omega, by omega, h3, h4⟩
theorem find_loop (L : Nat → Int → Option Int) (P : Nat → Prop) [DecidablePred P] (n m : Nat)
    (hend : ∀ k, m ≤ k → L (k + 1) (n : Int) = some (-1)) (hstep : ∀ k (i : Nat), m ≤ k → i < n → L (k + 1) (i : Int) = if P i then some (i : Int) else L k ((i + 1 : Nat) : Int)) (k : Nat) (hk : n + m < k) :
    L k 0 = some (look P n 0) := by
  have key : ∀ d k i, i + d = n → d + m < k → L k (i : Int) = some (look P d i) := by
    intro d
    induction d with
    | zero =>
      intro k i hi hk
      obtain ⟨k, rfl⟩ : ∃ z, k = z + 1 := ⟨k - 1, by omega⟩
      obtain rfl : i = n := by omega
      exact hend k (by omega)
    | succ d ih =>
      intro k i hi hk
      obtain ⟨k, rfl⟩ : ∃ z, k = z + 1 := ⟨k - 1, by omega⟩
      rw [hstep k i (by omega) (by omega), look]
      by_cases hp : P i
      · rw [if_pos hp, if_pos hp]
      · rw [if_neg hp, if_neg hp]; exact ih k (i + 1) (by omega) (by omega)
  exact key n k 0 (by omega) (by omega)
theorem getD_lt {α : Type} (l : List α) (z : α) (i : Nat) (h : i < l.length) : l.getD (i : Int).toNat z = l[i] := by
  simp [List.getD_eq_getElem?_getD, List.getElem?_eq_getElem h]
theorem flip_ite {α : Type} (c : Prop) [Decidable c] (a b : α) : (if c then b else a) = if ¬ c then a else b := by
  by_cases h : c
  · rw [if_pos h, if_neg (fun h2 => h2 h)]
  · rw [if_neg h, if_pos h]
theorem seq_loop (L : Nat → Int → Option Bool) (P : Nat → Prop) [DecidablePred P] (n : Nat)
    (hend : ∀ k, L (k + 1) (n : Int) = some true) (hstep : ∀ k (i : Nat), i < n → L (k + 1) (i : Int) = if P i then L k ((i + 1 : Nat) : Int) else some false) (k : Nat) (hk : n < k) :
    L k 0 = some (decide (∀ i, i < n → P i)) := by
  rw [all_loop L P n 0 true (fun k _ => hend k) (fun k i _ hi => hstep k i hi) k (by omega), Bool.and_true]
theorem in_eq (a b c : Int) : spec_l00In.f a b c = some (decide (b ≤ a ∧ a ≤ c)) := by
  unfold spec_l00In.f
  by_cases h : a ≥ b
  · rw [if_pos h]
    by_cases h2 : a ≤ c <;> simp [h2] <;> omega
  · rw [if_neg h]; simp; omega
theorem within_eq (a b c : Int) : impl_within.f a b c = some (decide (b ≤ a ∧ a ≤ c)) := by
  unfold impl_within.f
  by_cases h : a ≥ b
  · rw [if_pos h]
    by_cases h2 : a ≤ c <;> simp [h2] <;> omega
  · rw [if_neg h]; simp; omega
def okP (l : List S96) (i : Nat) : Prop := (0 ≤ (rd_T96 l i).f0 ∧ (rd_T96 l i).f0 ≤ 255) ∧ ((rd_T96 l i).f1.size : Int) = 64 ∧ (i = 0 ∨ (rd_T96 l ((i : Int) - 1)).f0 < (rd_T96 l i).f0)
instance (l : List S96) : DecidablePred (okP l) := fun i => by unfold okP; infer_instance
theorem pages_spec (k : Nat) (l : List S96) (hl : l.length ≤ 1048576) (hk : 1048590 ≤ k) : spec_l11Pages.f k l = some (decide (l.length ≤ 256) && decide (∀ i, i < l.length → okP l i)) := by
  unfold spec_l11Pages.f
  by_cases hn : (l.length : Int) > 256
  · have : ¬ l.length ≤ 256 := by omega
    rw [if_pos hn]; simp [this]
  · rw [if_neg hn, all_loop (fun k i => spec_l11Pages.l0 k l i) (okP l) l.length 0 true
      (by intro k _; show spec_l11Pages.l0 (k + 1) l _ = _; rw [spec_l11Pages.l0, if_neg (by omega)])
      (by
        intro k i _ hi
        have h1 : (i : Int) < (l.length : Int) := by omega
        have h0 : (0 : Int) ≤ (i : Int) := by omega
        show spec_l11Pages.l0 (k + 1) l _ = _
        rw [spec_l11Pages.l0]
        simp only [if_pos h1, if_pos h0, in_eq, Option.bind_some, decide_eq_true_eq, wrap_up i (by omega)]
        by_cases hi0 : i = 0
        · subst hi0
          rw [if_neg (show ¬ ((0 : Nat) : Int) > 0 by omega)]
          by_cases ha : 0 ≤ (rd_T96 l ((0 : Nat) : Int)).f0 ∧ (rd_T96 l ((0 : Nat) : Int)).f0 ≤ 255
          · rw [if_pos ha]
            by_cases hb : ((rd_T96 l ((0 : Nat) : Int)).f1.size : Int) = 64
            · rw [if_pos hb, if_pos ⟨ha, hb, .inl rfl⟩]
            · rw [if_neg hb, if_neg (fun h => hb h.2.1)]
          · rw [if_neg ha, if_neg (fun h => ha h.1)]
        · rw [if_pos (show (i : Int) > 0 by omega), wrap64_id (a := (i : Int) - 1) (by omega) (by omega), if_pos (show 0 ≤ (i : Int) - 1 by omega), if_pos (show (i : Int) - 1 < (l.length : Int) by omega)]
          by_cases ha : 0 ≤ (rd_T96 l i).f0 ∧ (rd_T96 l i).f0 ≤ 255
          · rw [if_pos ha]
            by_cases hb : ((rd_T96 l i).f1.size : Int) = 64
            · rw [if_pos hb]
              by_cases hc : (rd_T96 l ((i : Int) - 1)).f0 < (rd_T96 l i).f0
              · rw [if_neg (show ¬ (rd_T96 l ((i : Int) - 1)).f0 ≥ (rd_T96 l i).f0 by omega), if_pos ⟨ha, hb, .inr hc⟩]
              · rw [if_pos (show (rd_T96 l ((i : Int) - 1)).f0 ≥ (rd_T96 l i).f0 by omega), if_neg (fun h => h.2.2.elim hi0 hc)]
            · rw [if_neg hb, if_neg (fun h => hb h.2.1)]
          · rw [if_neg ha, if_neg (fun h => ha h.1)])
      k (by omega)]
    have : l.length ≤ 256 := by omega
    simp [this]
theorem pages_impl (k : Nat) (l : List S96) (hl : l.length ≤ 1048576) (hk : 1048590 ≤ k) : impl_ValidPages.f k l = some (decide (l.length ≤ 256) && decide (∀ i, i < l.length → okP l i)) := by
  unfold impl_ValidPages.f
  rw [all_loop (fun k i => impl_ValidPages.l0 k l l l.length i) (okP l) l.length 0 (decide ((l.length : Int) ≤ 256))
      (by intro k _; show impl_ValidPages.l0 (k + 1) l l _ _ = _; rw [impl_ValidPages.l0, if_neg (by omega)])
      (by
        intro k i _ hi
        have h1 : (i : Int) < (l.length : Int) := by omega
        have h0 : (0 : Int) ≤ (i : Int) := by omega
        show impl_ValidPages.l0 (k + 1) l l _ _ = _
        rw [impl_ValidPages.l0]
        simp only [if_pos h1, if_pos h0, within_eq, impl_isBlock.f, Option.bind_some, decide_eq_true_eq, beq_iff_eq, wrap_up i (by omega)]
        by_cases hi0 : i = 0
        · subst hi0
          rw [if_neg (show ¬ ((0 : Nat) : Int) > 0 by omega)]
          by_cases ha : 0 ≤ (rd_T96 l ((0 : Nat) : Int)).f0 ∧ (rd_T96 l ((0 : Nat) : Int)).f0 ≤ 255
          · rw [if_pos ha]
            by_cases hb : ((rd_T96 l ((0 : Nat) : Int)).f1.size : Int) = 64
            · rw [if_pos hb, if_pos ⟨ha, hb, .inl rfl⟩]
            · rw [if_neg hb, if_neg (fun h => hb h.2.1)]
          · rw [if_neg ha, if_neg (fun h => ha h.1)]
        · rw [if_pos (show (i : Int) > 0 by omega), wrap64_id (a := (i : Int) - 1) (by omega) (by omega), if_pos (show 0 ≤ (i : Int) - 1 by omega), if_pos (show (i : Int) - 1 < (l.length : Int) by omega)]
          by_cases ha : 0 ≤ (rd_T96 l i).f0 ∧ (rd_T96 l i).f0 ≤ 255
          · rw [if_pos ha]
            by_cases hc : (rd_T96 l ((i : Int) - 1)).f0 < (rd_T96 l i).f0
            · rw [if_neg (show ¬ (rd_T96 l i).f0 ≤ (rd_T96 l ((i : Int) - 1)).f0 by omega)]
              by_cases hb : ((rd_T96 l i).f1.size : Int) = 64
              · rw [if_pos hb, if_pos ⟨ha, hb, .inr hc⟩]
              · rw [if_neg hb, if_neg (fun h => hb h.2.1)]
            · rw [if_pos (show (rd_T96 l i).f0 ≤ (rd_T96 l ((i : Int) - 1)).f0 by omega), if_neg (fun h => h.2.2.elim hi0 hc)]
          · rw [if_neg ha, if_neg (fun h => ha h.1)])
      k (by omega)]
  have : decide ((l.length : Int) ≤ 256) = decide (l.length ≤ 256) := by apply decide_eq_decide.2; omega
  rw [this, Bool.and_comm]
theorem superEq (a b c d : Int) (ha : (Lit.int .i64 a).wf = true) : impl_ValidSuper.f a b c d = spec_ValidSuper.f a b c d := by
  have ha := wf64 ha
  unfold impl_ValidSuper.f spec_ValidSuper.f
  simp only [in_eq, within_eq, Option.bind_some, decide_eq_true_eq, mn]
  by_cases h1 : 16 ≤ a ∧ a ≤ 256
  · rw [if_pos h1, if_pos h1, wrap64_id (by omega) (by omega)]
    by_cases h2 : 8 ≤ b ∧ b ≤ 64
    · rw [if_pos h2]
      by_cases h3 : b ≤ a - 4
      · rw [if_pos h3, if_pos (by split <;> omega)]
      · rw [if_neg h3, if_neg (by split <;> omega)]
    · rw [if_neg h2, if_neg (by split <;> omega)]
  · rw [if_neg h1, if_neg h1]
theorem super_some (a b c d : Int) : ∃ v, spec_ValidSuper.f a b c d = some v := by
  unfold spec_ValidSuper.f
  simp only [in_eq, Option.bind_some, decide_eq_true_eq]
  repeat' split
  all_goals exact ⟨_, rfl⟩
def okPut (n : Int) (x : S58) : Prop := (0 ≤ x.f0 ∧ x.f0 ≤ wrap64 (n - 1)) ∧ (x.f1.size : Int) = 64
instance (n : Int) (x : S58) : Decidable (okPut n x) := by unfold okPut; infer_instance
def blk (a : List ByteArray) (i : Nat) : Prop := ((rdOf ByteArray.empty a (i : Int)).size : Int) = 64
instance (a : List ByteArray) : DecidablePred (blk a) := fun i => by unfold blk; infer_instance
theorem sp1 (n : Int) (a : List ByteArray) (l : List S58) (x : Int) (y : Bool) (p4 p5 p6 p7 p8 p9 : Int) (g h : List S96) (hl : l.length ≤ 1048576) (k : Nat) (hk : 1048590 ≤ k) : spec_l09Ok_c48.l1 k n 0 a l x y p4 p5 p6 p7 p8 p9 g h = some (decide (∀ i, i < l.length → okPut n (rd_T58 l (i : Int)))) :=
  seq_loop (fun k i => spec_l09Ok_c48.l1 k n i a l x y p4 p5 p6 p7 p8 p9 g h) (fun i => okPut n (rd_T58 l (i : Int))) l.length
    (by intro k; show spec_l09Ok_c48.l1 (k + 1) n _ a l x y p4 p5 p6 p7 p8 p9 g h = _; rw [spec_l09Ok_c48.l1, if_neg (by omega)])
    (by
      intro k i hi
      show spec_l09Ok_c48.l1 (k + 1) n _ a l x y p4 p5 p6 p7 p8 p9 g h = _
      rw [spec_l09Ok_c48.l1, if_pos (by omega), if_pos (by omega), wrap_up i (by omega), in_eq]
      simp only [Option.bind_some, decide_eq_true_eq]
      generalize rd_T58 l (i : Int) = z
      by_cases h1 : 0 ≤ z.f0 ∧ z.f0 ≤ wrap64 (n - 1)
      · rw [if_pos h1]
        by_cases h2 : (z.f1.size : Int) = 64
        · rw [if_pos h2, if_pos ⟨h1, h2⟩]
        · rw [if_neg h2, if_neg (fun h => h2 h.2)]
      · rw [if_neg h1, if_neg (fun h => h1 h.1)])
    k (by omega)
theorem sp0 (n : Int) (a : List ByteArray) (l : List S58) (x : Int) (y : Bool) (p4 p5 p6 p7 p8 p9 : Int) (g h : List S96) (ha : a.length ≤ 1048576) (hl : l.length ≤ 1048576) (k : Nat) (hk : 3000000 ≤ k) : spec_l09Ok_c48.l0 k n 0 a l x y p4 p5 p6 p7 p8 p9 g h = some (decide (∀ i, i < a.length → blk a i) && decide (∀ i, i < l.length → okPut n (rd_T58 l (i : Int)))) :=
  all_loop (fun k i => spec_l09Ok_c48.l0 k n i a l x y p4 p5 p6 p7 p8 p9 g h) (blk a) a.length 1048590 _
    (by intro k hk; show spec_l09Ok_c48.l0 (k + 1) n _ a l x y p4 p5 p6 p7 p8 p9 g h = _; rw [spec_l09Ok_c48.l0, if_neg (by omega)]; exact sp1 n a l x y p4 p5 p6 p7 p8 p9 g h hl k hk)
    (by
      intro k i _ hi
      show spec_l09Ok_c48.l0 (k + 1) n _ a l x y p4 p5 p6 p7 p8 p9 g h = _
      rw [spec_l09Ok_c48.l0, if_pos (by omega), if_pos (by omega), wrap_up i (by omega)]
      rfl)
    k (by omega)
theorem im1 (a : List ByteArray) (ha : a.length ≤ 1048576) (k : Nat) (hk : 1048590 ≤ k) : slices_ContainsFunc_impl_ValidDisk_1.f k a = some (!decide (∀ i, i < a.length → blk a i)) := by
  unfold slices_ContainsFunc_impl_ValidDisk_1.f slices_IndexFunc_impl_ValidDisk_1.f
  rw [find_loop (fun k i => slices_IndexFunc_impl_ValidDisk_1.l0 k a a.length i) (fun i => ¬ blk a i) a.length 0
    (by intro k _; show slices_IndexFunc_impl_ValidDisk_1.l0 (k + 1) a _ _ = _; rw [slices_IndexFunc_impl_ValidDisk_1.l0, if_neg (by omega)])
    (by
      intro k i _ hi
      show slices_IndexFunc_impl_ValidDisk_1.l0 (k + 1) a _ _ = _
      rw [slices_IndexFunc_impl_ValidDisk_1.l0, if_pos (by omega), if_pos (by omega), if_pos (by omega), wrap_up i (by omega)]
      unfold impl_ValidDisk_1.f impl_isBlock.f
      simp only [Option.bind_some]
      by_cases h : ((rdOf ByteArray.empty a (i : Int)).size : Int) = 64
      · have h2 : blk a i := h
        simp [h, h2]
      · have h2 : ¬ blk a i := h
        simp [h, h2])
    k (by omega)]
  simp only [Option.bind_some]
  rcases look_or (fun i => ¬ blk a i) a.length 0 with ⟨h4, h5⟩ | ⟨j, -, h4, h5, h6⟩
  · rw [h4]
    have h7 : ∀ i, i < a.length → blk a i := fun i hi => Decidable.not_not.1 (h5 i (by omega) (by omega))
    rw [decide_eq_true h7]; rfl
  · rw [h5]
    have h7 : ¬ ∀ i, i < a.length → blk a i := fun h => h6 (h j (by omega))
    have h8 : (j : Int) ≥ 0 := by omega
    rw [decide_eq_false h7]; simp [h8]
theorem im2 (a : List ByteArray) (l : List S58) (x : Int) (y : Bool) (hl : l.length ≤ 1048576) (k : Nat) (hk : 1048590 ≤ k) : slices_ContainsFunc_impl_ValidDisk_2.f k l a l x y = some (!decide (∀ i, i < l.length → okPut (a.length : Int) (rd_T58 l (i : Int)))) := by
  unfold slices_ContainsFunc_impl_ValidDisk_2.f slices_IndexFunc_impl_ValidDisk_2.f
  rw [find_loop (fun k i => slices_IndexFunc_impl_ValidDisk_2.l0 k l l.length i a l x y) (fun i => ¬ okPut (a.length : Int) (rd_T58 l (i : Int))) l.length 0
    (by intro k _; show slices_IndexFunc_impl_ValidDisk_2.l0 (k + 1) l _ _ a l x y = _; rw [slices_IndexFunc_impl_ValidDisk_2.l0, if_neg (by omega)])
    (by
      intro k i _ hi
      show slices_IndexFunc_impl_ValidDisk_2.l0 (k + 1) l _ _ a l x y = _
      rw [slices_IndexFunc_impl_ValidDisk_2.l0, if_pos (by omega), if_pos (by omega), if_pos (by omega), wrap_up i (by omega)]
      unfold impl_ValidDisk_2.f impl_isBlock.f impl_isIndex.f
      simp only [within_eq, Option.bind_some, decide_eq_true_eq]
      generalize rd_T58 l (i : Int) = z
      by_cases h1 : 0 ≤ z.f0 ∧ z.f0 ≤ wrap64 ((a.length : Int) - 1)
      · rw [if_pos h1]
        simp only [Option.bind_some]
        by_cases h2 : (z.f1.size : Int) = 64
        · have h3 : okPut (a.length : Int) z := ⟨h1, h2⟩
          simp [h2, h3]
        · have h3 : ¬ okPut (a.length : Int) z := fun h => h2 h.2
          simp [h2, h3]
      · have h3 : ¬ okPut (a.length : Int) z := fun h => h1 h.1
        rw [if_neg h1]
        simp [h3])
    k (by omega)]
  simp only [Option.bind_some]
  rcases look_or (fun i => ¬ okPut (a.length : Int) (rd_T58 l (i : Int))) l.length 0 with ⟨h4, h5⟩ | ⟨j, -, h4, h5, h6⟩
  · rw [h4]
    have h7 : ∀ i, i < l.length → okPut (a.length : Int) (rd_T58 l (i : Int)) := fun i hi => Decidable.not_not.1 (h5 i (by omega) (by omega))
    rw [decide_eq_true h7]; rfl
  · rw [h5]
    have h7 : ¬ ∀ i, i < l.length → okPut (a.length : Int) (rd_T58 l (i : Int)) := fun h => h6 (h j (by omega))
    have h8 : (j : Int) ≥ 0 := by omega
    rw [decide_eq_false h7]; simp [h8]
theorem disk_ok (a : List ByteArray) (l : List S58) (x : Int) (y : Bool) (p4 p5 p6 p7 p8 p9 : Int) (g h : List S96) (ha : (a.length : Int) ≤ 1048576) (ha2 : ∀ y ∈ a, (y.size : Int) ≤ 1048576) (hl : (l.length : Int) ≤ 1048576) (hl2 : ∀ y ∈ l, QS58 y) (hx : (Lit.int .i64 x).wf = true) :
    ∃ v, ∀ k, 8000000 ≤ k → spec_l09Ok_c48.f k a l x y p4 p5 p6 p7 p8 p9 g h = some v ∧ impl_ValidDisk.f k a l x y = some v := by
  by_cases h1 : 16 ≤ (a.length : Int) ∧ (a.length : Int) ≤ 256
  · by_cases h2 : (l.length : Int) > 600
    · refine ⟨false, fun k hk => ?_⟩
      obtain ⟨k, rfl⟩ : ∃ z, k = z + 1 := ⟨k - 1, by omega⟩
      unfold impl_ValidDisk.f spec_l09Ok_c48.f
      rw [in_eq, within_eq, decide_eq_true h1]
      simp only [Option.bind_some, if_true, if_pos h2]
      rw [spec_l09Ok_c48.j0, impl_ValidDisk.j0]
      exact ⟨rfl, rfl⟩
    · by_cases h3 : -1 ≤ x ∧ x ≤ 100000
      · refine ⟨decide (∀ i, i < a.length → blk a i) && decide (∀ i, i < l.length → okPut (a.length : Int) (rd_T58 l (i : Int))), fun k hk => ?_⟩
        obtain ⟨k, rfl⟩ : ∃ z, k = z + 1 := ⟨k - 1, by omega⟩
        unfold impl_ValidDisk.f spec_l09Ok_c48.f
        rw [in_eq, within_eq, decide_eq_true h1]
        simp only [Option.bind_some, if_true, if_neg h2]
        rw [in_eq, within_eq, decide_eq_true h3]
        simp only [Option.bind_some]
        rw [spec_l09Ok_c48.j0, impl_ValidDisk.j0, sp0 _ a l x y p4 p5 p6 p7 p8 p9 g h (by omega) (by omega) k (by omega), im1 a (by omega) k (by omega), im2 a l x y (by omega) k (by omega)]
        generalize decide (∀ i, i < a.length → blk a i) = p
        generalize decide (∀ i, i < l.length → okPut (a.length : Int) (rd_T58 l (i : Int))) = q
        cases p <;> cases q <;> exact ⟨rfl, rfl⟩
      · refine ⟨false, fun k hk => ?_⟩
        obtain ⟨k, rfl⟩ : ∃ z, k = z + 1 := ⟨k - 1, by omega⟩
        unfold impl_ValidDisk.f spec_l09Ok_c48.f
        rw [in_eq, within_eq, decide_eq_true h1]
        simp only [Option.bind_some, if_true, if_neg h2]
        rw [in_eq, within_eq, decide_eq_false h3]
        simp only [Option.bind_some]
        rw [spec_l09Ok_c48.j0, impl_ValidDisk.j0]
        exact ⟨rfl, rfl⟩
  · refine ⟨false, fun k hk => ?_⟩
    obtain ⟨k, rfl⟩ : ∃ z, k = z + 1 := ⟨k - 1, by omega⟩
    unfold impl_ValidDisk.f spec_l09Ok_c48.f
    rw [in_eq, within_eq, decide_eq_false h1]
    simp only [Option.bind_some, Bool.false_eq_true, if_false]
    rw [spec_l09Ok_c48.j0, impl_ValidDisk.j0]
    exact ⟨rfl, rfl⟩

theorem super_true {a b c d : Int} (h : spec_ValidSuper.f a b c d = some true) : (16 ≤ a ∧ a ≤ 256) ∧ 8 ≤ b ∧ b ≤ 64 := by
  unfold spec_ValidSuper.f at h
  simp only [in_eq, Option.bind_some, decide_eq_true_eq] at h
  by_cases h1 : 16 ≤ a ∧ a ≤ 256
  · rw [if_pos h1] at h
    by_cases h2 : 8 ≤ b ∧ b ≤ 64
    · exact ⟨h1, h2⟩
    · rw [if_neg h2] at h; simp at h
  · rw [if_neg h1] at h; simp at h
def okA (s t : Int) (l : List S96) (i : Nat) : Prop := wrap64 (2 + t) ≤ (rd_T96 l (i : Int)).f0 ∧ (rd_T96 l (i : Int)).f0 ≤ wrap64 (s - 1)
instance (s t : Int) (l : List S96) : DecidablePred (okA s t l) := fun i => by unfold okA; infer_instance
theorem area_spec (s t u v : Int) (l : List S96) (hl : l.length ≤ 1048576) (k : Nat) (hk : 1048590 ≤ k) : spec_l11Within.f k s t u v l = some (decide (∀ i, i < l.length → okA s t l i)) := by
  unfold spec_l11Within.f
  exact seq_loop (fun k i => spec_l11Within.l0 k l i s t u v) (okA s t l) l.length
    (by intro k; show spec_l11Within.l0 (k + 1) l _ s t u v = _; rw [spec_l11Within.l0, if_neg (by omega)])
    (by
      intro k i hi
      show spec_l11Within.l0 (k + 1) l _ s t u v = _
      rw [spec_l11Within.l0, if_pos (by omega), if_pos (by omega), wrap_up i (by omega)]
      unfold spec_l10Area.f
      simp only [in_eq, Option.bind_some, decide_eq_true_eq]
      rfl)
    k (by omega)
theorem area_impl (s t u v : Int) (hv : impl_ValidSuper.f s t u v = some true) (l : List S96) (hl : l.length ≤ 1048576) (k : Nat) (hk : 1048590 ≤ k) : impl_Super_inArea.f k s t u v l = some (decide (∀ i, i < l.length → okA s t l i)) := by
  unfold impl_Super_inArea.f slices_ContainsFunc_impl_Super_inArea_1.f slices_IndexFunc_impl_Super_inArea_1.f
  rw [find_loop (fun k i => slices_IndexFunc_impl_Super_inArea_1.l0 k l l.length i s t u v) (fun i => ¬ okA s t l i) l.length 0
    (by intro k _; show slices_IndexFunc_impl_Super_inArea_1.l0 (k + 1) l _ _ s t u v = _; rw [slices_IndexFunc_impl_Super_inArea_1.l0, if_neg (by omega)])
    (by
      intro k i _ hi
      show slices_IndexFunc_impl_Super_inArea_1.l0 (k + 1) l _ _ s t u v = _
      rw [slices_IndexFunc_impl_Super_inArea_1.l0, if_pos (by omega), if_pos (by omega), if_pos (by omega), wrap_up i (by omega)]
      unfold impl_Super_inArea_1.f impl_AreaBlock.f
      rw [hv]
      simp only [Option.bind_some, if_true, within_eq]
      by_cases h : okA s t l i
      · have h2 : wrap64 (2 + t) ≤ (rd_T96 l (i : Int)).f0 ∧ (rd_T96 l (i : Int)).f0 ≤ wrap64 (s - 1) := h
        rw [decide_eq_true h2, if_neg (by decide), if_neg (fun q => q h)]
      · have h2 : ¬ (wrap64 (2 + t) ≤ (rd_T96 l (i : Int)).f0 ∧ (rd_T96 l (i : Int)).f0 ≤ wrap64 (s - 1)) := h
        rw [decide_eq_false h2, if_pos (by decide), if_pos h])
    k (by omega)]
  simp only [Option.bind_some]
  rcases look_or (fun i => ¬ okA s t l i) l.length 0 with ⟨h4, h5⟩ | ⟨j, -, h4, h5, h6⟩
  · rw [h4]
    have h7 : ∀ i, i < l.length → okA s t l i := fun i hi => Decidable.not_not.1 (h5 i (by omega) (by omega))
    rw [decide_eq_true h7]; rfl
  · rw [h5]
    have h7 : ¬ ∀ i, i < l.length → okA s t l i := fun h => h6 (h j (by omega))
    have h8 : (j : Int) ≥ 0 := by omega
    rw [decide_eq_false h7]; simp [h8]
theorem fits_eq (s t u v n : Int) (hn : 0 ≤ n) (ht : 8 ≤ t) : spec_l12Fits.f s t u v n = impl_Super_fits.f s t u v n := by
  unfold spec_l12Fits.f impl_Super_fits.f spec_l11Blocks.f spec_l11Table.f impl_RecordBlocks.f impl_tableBlocks.f
  simp only [within_eq, Option.bind_some, decide_eq_true_eq]
  by_cases h0 : n = 0
  · subst h0
    rw [if_pos rfl, if_pos (by omega), if_neg (by omega)]
    simp only [Option.bind_some]
    rw [decide_eq_true (by omega)]
  · rw [if_neg h0]
    by_cases h1 : n ≤ 60
    · rw [if_pos h1, if_pos h1, if_pos (by omega)]
      rfl
    · rw [if_neg h1, if_neg h1]
theorem fits_some (s t u v n : Int) : ∃ r, impl_Super_fits.f s t u v n = some r := by
  unfold impl_Super_fits.f impl_RecordBlocks.f impl_tableBlocks.f
  simp only [within_eq, Option.bind_some, decide_eq_true_eq]
  repeat' split
  all_goals exact ⟨_, rfl⟩
theorem both (a : List ByteArray) (l : List S58) (x : Int) (y : Bool) (p4 p5 p6 p7 p8 p9 : Int) (g h : List S96)
    (ha : (a.length : Int) ≤ 1048576) (ha2 : ∀ y ∈ a, (y.size : Int) ≤ 1048576) (hl : (l.length : Int) ≤ 1048576) (hl2 : ∀ y ∈ l, QS58 y) (hx : (Lit.int .i64 x).wf = true)
    (h4 : (Lit.int .i64 p4).wf = true) (h5 : (Lit.int .i64 p5).wf = true) (h6 : (Lit.int .i64 p6).wf = true) (h7 : (Lit.int .i64 p7).wf = true) (h8 : (Lit.int .i64 p8).wf = true) (h9 : (Lit.int .i64 p9).wf = true)
    (hg : (g.length : Int) ≤ 1048576) (hg2 : ∀ y ∈ g, QS96 y) (hh : (h.length : Int) ≤ 1048576) (hh2 : ∀ y ∈ h, QS96 y) :
    ∃ v, ∀ k, 9000000 ≤ k → spec_ValidPager.f k a l x y p4 p5 p6 p7 p8 p9 g h = some v ∧ impl_ValidPager.f k a l x y p4 p5 p6 p7 p8 p9 g h = some v := by
  obtain ⟨d, hd⟩ := disk_ok a l x y p4 p5 p6 p7 p8 p9 g h ha ha2 hl hl2 hx
  obtain ⟨s, hs⟩ := super_some p4 p5 p6 p7
  have hi := (superEq p4 p5 p6 p7 h4).trans hs
  obtain ⟨w, hw⟩ := fits_some p4 p5 p6 p7 (h.length : Int)
  -- what is left when the disk, the superblock and the sum of both hold
  have J : ∀ k, 9000000 ≤ k → s = true → ∀ b : Bool, spec_l12Ok_c48.j0 k b a l x y p4 p5 p6 p7 p8 p9 g h p4 p5 p6 p7 = some (!b && ((decide (p6 ≤ p8 ∧ p8 ≤ 1000000000000) && decide (0 ≤ p9 ∧ p9 ≤ p5)) &&
      ((decide (g.length ≤ 256) && decide (∀ i, i < g.length → okP g i)) && ((decide (h.length ≤ 256) && decide (∀ i, i < h.length → okP h i)) && (decide (∀ i, i < g.length → okA p4 p5 g i) && (decide (∀ i, i < h.length → okA p4 p5 h i) && w)))))) := by
    intro k hk e b
    subst e
    obtain ⟨k, rfl⟩ : ∃ z, k = z + 1 := ⟨k - 1, by omega⟩
    rw [spec_l12Ok_c48.j0, in_eq, in_eq, pages_spec k g (by omega) (by omega), pages_spec k h (by omega) (by omega), area_spec p4 p5 p6 p7 g (by omega) k (by omega), area_spec p4 p5 p6 p7 h (by omega) k (by omega), fits_eq p4 p5 p6 p7 _ (by omega) (super_true hs).2.1, hw]
    generalize decide (p6 ≤ p8 ∧ p8 ≤ 1000000000000) = q1
    generalize decide (0 ≤ p9 ∧ p9 ≤ p5) = q2
    generalize (decide (g.length ≤ 256) && decide (∀ i, i < g.length → okP g i)) = q3
    generalize (decide (h.length ≤ 256) && decide (∀ i, i < h.length → okP h i)) = q4
    generalize decide (∀ i, i < g.length → okA p4 p5 g i) = q5
    generalize decide (∀ i, i < h.length → okA p4 p5 h i) = q6
    cases b <;> cases q1 <;> cases q2 <;> cases q3 <;> cases q4 <;> cases q5 <;> cases q6 <;> rfl
  have I : ∀ k, 9000000 ≤ k → s = true → ∀ b : Bool, impl_ValidPager.j0 k b a l x y p4 p5 p6 p7 p8 p9 g h = some (!b &&
      ((decide (g.length ≤ 256) && decide (∀ i, i < g.length → okP g i)) && ((decide (h.length ≤ 256) && decide (∀ i, i < h.length → okP h i)) && (decide (∀ i, i < g.length → okA p4 p5 g i) && (decide (∀ i, i < h.length → okA p4 p5 h i) && w))))) := by
    intro k hk e b
    subst e
    obtain ⟨k, rfl⟩ : ∃ z, k = z + 1 := ⟨k - 1, by omega⟩
    rw [impl_ValidPager.j0, pages_impl k g (by omega) (by omega), pages_impl k h (by omega) (by omega), area_impl p4 p5 p6 p7 hi g (by omega) k (by omega), area_impl p4 p5 p6 p7 hi h (by omega) k (by omega), hw]
    generalize (decide (g.length ≤ 256) && decide (∀ i, i < g.length → okP g i)) = q3
    generalize (decide (h.length ≤ 256) && decide (∀ i, i < h.length → okP h i)) = q4
    generalize decide (∀ i, i < g.length → okA p4 p5 g i) = q5
    generalize decide (∀ i, i < h.length → okA p4 p5 h i) = q6
    cases b <;> cases q3 <;> cases q4 <;> cases q5 <;> cases q6 <;> rfl
  have J0 : ∀ k, 9000000 ≤ k → spec_l12Ok_c48.j0 k true a l x y p4 p5 p6 p7 p8 p9 g h p4 p5 p6 p7 = some false := by
    intro k hk
    obtain ⟨k, rfl⟩ : ∃ z, k = z + 1 := ⟨k - 1, by omega⟩
    rw [spec_l12Ok_c48.j0, if_pos rfl]
  have I0 : ∀ k, 9000000 ≤ k → impl_ValidPager.j0 k true a l x y p4 p5 p6 p7 p8 p9 g h = some false := by
    intro k hk
    obtain ⟨k, rfl⟩ : ∃ z, k = z + 1 := ⟨k - 1, by omega⟩
    rw [impl_ValidPager.j0, if_pos rfl]
  refine ⟨d && (s && ((!(p4 != (a.length : Int)) && (!(decide ((l.length : Int) > 1)) || y)) && ((decide (p6 ≤ p8 ∧ p8 ≤ 1000000000000) && decide (0 ≤ p9 ∧ p9 ≤ p5)) &&
      ((decide (g.length ≤ 256) && decide (∀ i, i < g.length → okP g i)) && ((decide (h.length ≤ 256) && decide (∀ i, i < h.length → okP h i)) && (decide (∀ i, i < g.length → okA p4 p5 g i) && (decide (∀ i, i < h.length → okA p4 p5 h i) && w))))))), fun k hk => ?_⟩
  unfold spec_ValidPager.f spec_l12Ok_c48.f impl_ValidPager.f impl_superFits.f
  rw [(hd k (by omega)).1, (hd k (by omega)).2, hs, hi]
  simp only [Option.bind_some, within_eq]
  have e1 : (p4 == (a.length : Int)) = !(p4 != (a.length : Int)) := by simp [bne]
  rw [e1]
  generalize (p4 != (a.length : Int)) = c
  cases d with
  | false => simp only [Bool.false_eq_true, if_false, Option.bind_some, J0 k hk, I0 k hk, Bool.false_and]; (first | exact ⟨rfl, rfl⟩ | simp)
  | true =>
    cases s with
    | false =>
      simp only [Bool.false_eq_true, if_false, if_true, Option.bind_some, J0 k hk, I0 k hk, Bool.false_and, Bool.true_and]
      by_cases h1 : (l.length : Int) > 1
      · rw [if_pos h1]; cases y <;> (first | exact ⟨rfl, rfl⟩ | simp)
      · rw [if_neg h1]; (first | exact ⟨rfl, rfl⟩ | simp)
    | true =>
      simp only [Bool.false_eq_true, if_false, if_true, Option.bind_some, J0 k hk, I0 k hk, J k hk rfl, I k hk rfl, Bool.true_and]
      generalize decide (p6 ≤ p8 ∧ p8 ≤ 1000000000000) = q1
      generalize decide (0 ≤ p9 ∧ p9 ≤ p5) = q2
      generalize (decide (g.length ≤ 256) && decide (∀ i, i < g.length → okP g i)) = q3
      generalize (decide (h.length ≤ 256) && decide (∀ i, i < h.length → okP h i)) = q4
      generalize decide (∀ i, i < g.length → okA p4 p5 g i) = q5
      generalize decide (∀ i, i < h.length → okA p4 p5 h i) = q6
      generalize (q3 && (q4 && (q5 && (q6 && w)))) = z
      by_cases h1 : (l.length : Int) > 1
      · rw [decide_eq_true h1, if_pos h1, if_pos h1]; cases y <;> cases c <;> cases q1 <;> cases q2 <;> cases z <;> (first | exact ⟨rfl, rfl⟩ | simp)
      · rw [decide_eq_false h1, if_neg h1, if_neg h1]; cases y <;> cases c <;> cases q1 <;> cases q2 <;> cases z <;> (first | exact ⟨rfl, rfl⟩ | simp)
theorem FnExactValidPager : laws_FnExactValidPager.Pure := by
  intro l0_0 l0_1 a0_2 a0_3 a0_4 a0_5 a0_6 a0_7 a0_8 a0_9 l0_10 l0_11 o_l0_0 o_l0_1 o_a0_2 o_a0_4 o_a0_5 o_a0_6 o_a0_7 o_a0_8 o_a0_9 o_l0_10 o_l0_11
  refine ⟨17000000, ?_⟩
  obtain ⟨t1, e1, h1⟩ := g_szPager 17000000 l0_0 l0_1 a0_2 a0_3 a0_4 a0_5 a0_6 a0_7 a0_8 a0_9 l0_10 l0_11 1048576 (by omega) (by omega) (by omega) o_l0_0 o_l0_1 o_l0_10 o_l0_11
  rcases h1 with h1 | ⟨h1, m1, q_l0_0_0, q_l0_0_1, q_l0_1_0, q_l0_1_1, q_l0_10_0, q_l0_10_1, q_l0_11_0, q_l0_11_1⟩
  · simp only [laws_FnExactValidPager.f, e1, Option.bind_some, if_pos h1]
  have n1 : ¬ t1 < 0 := by omega
  have T1 := fun k (hk : 16000000 ≤ k) => g_toPager k l0_0 l0_1 a0_2 a0_3 a0_4 a0_5 a0_6 a0_7 a0_8 a0_9 l0_10 l0_11 (by omega) q_l0_0_0 q_l0_0_1 q_l0_1_0 q_l0_1_1 q_l0_10_0 q_l0_10_1 q_l0_11_0 q_l0_11_1
  have cl_l0_1 : (((l0_1.map cS79)).length : Int) ≤ 1048576 := by rw [List.length_map]; exact q_l0_1_0
  have cq_l0_1 := qmS79 l0_1 q_l0_1_1
  have cl_l0_10 : (((l0_10.map cS92)).length : Int) ≤ 1048576 := by rw [List.length_map]; exact q_l0_10_0
  have cq_l0_10 := qmS92 l0_10 q_l0_10_1
  have cl_l0_11 : (((l0_11.map cS92)).length : Int) ≤ 1048576 := by rw [List.length_map]; exact q_l0_11_0
  have cq_l0_11 := qmS92 l0_11 q_l0_11_1
  have E1 := fun k (hk : 16000000 ≤ k) => g_eqPager k l0_0 (l0_1.map cS79) a0_2 a0_3 a0_4 a0_5 a0_6 a0_7 a0_8 a0_9 (l0_10.map cS92) (l0_11.map cS92) (by omega) q_l0_0_0 q_l0_0_1 cl_l0_1 cq_l0_1 cl_l0_10 cq_l0_10 cl_l0_11 cq_l0_11
  obtain ⟨v, hv⟩ := both l0_0 (l0_1.map cS79) a0_2 a0_3 a0_4 a0_5 a0_6 a0_7 a0_8 a0_9 (l0_10.map cS92) (l0_11.map cS92) q_l0_0_0 q_l0_0_1 cl_l0_1 cq_l0_1 o_a0_2 o_a0_4 o_a0_5 o_a0_6 o_a0_7 o_a0_8 o_a0_9 cl_l0_10 cq_l0_10 cl_l0_11 cq_l0_11
  have HS := fun k (hk : 16000000 ≤ k) => (hv k (by omega)).1
  have HI := fun k (hk : 16000000 ≤ k) => (hv k (by omega)).2
  simp (disch := omega) only [laws_FnExactValidPager.f, e1, if_neg n1, T1, E1, HS, HI, Option.bind_some, bne_self_eq_false, Bool.false_eq_true, if_false, if_true, reduceIte]

end Go.Proofs.Ytjfahjojihlbgaa.Pure
