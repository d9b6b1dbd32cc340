/- The plain form of FnExactSamePager: for all arguments the answer is true. It holds without a condition. -/
import Derived.Test.YtehldidejgpifaaPFnExactSamePagerx9
import Derived.OpenShut
namespace Go.Proofs.Ytehldidejgpifaa.Pure
open Go Go.RowKit Go.Proofs.Ytehldidejgpifaa.PFnExactSamePager Go.Proofs.YtehldidejgpifaaW.PrintWords Go.Proofs.YtehldidejgpifaaW.PrintLast
set_option linter.unusedVariables false
set_option linter.unusedSimpArgs false

theorem wf64 {a : Int} (h : (Lit.int .i64 a).wf = true) : -9223372036854775808 ≤ a ∧ a ≤ 9223372036854775807 := Go.bounds_i64 h
theorem wrap64_id {a : Int} (h : -9223372036854775808 ≤ a) (h' : a ≤ 9223372036854775807) : wrap64 a = a := by unfold wrap64; omega
theorem count_loop {σ ρ : Type} (L : Nat → σ → Int → Option ρ) (n m : Nat) (I : Nat → σ → Prop) (R : ρ → Prop)
    (hstop : ∀ k s, m ≤ k → I n s → ∃ r, L (k + 1) s (n : Int) = some r ∧ R r)
    (hstep : ∀ k s (i : Nat), m ≤ k → i < n → I i s → (∃ s', I (i + 1) s' ∧ L (k + 1) s (i : Int) = L k s' ((i + 1 : Nat) : Int)) ∨ ∃ r, L (k + 1) s (i : Int) = some r ∧ R r)
    (k : Nat) (s : σ) (i : Nat) (hi : i ≤ n) (hk : n - i + m < k) (h : I i s) : ∃ r, L k s (i : Int) = some r ∧ R r := by
  obtain ⟨d, hd⟩ : ∃ d, d = n - i := ⟨_, rfl⟩
  induction d generalizing k s i with
  | zero =>
    obtain ⟨k, rfl⟩ : ∃ z, k = z + 1 := ⟨k - 1, by omega⟩
    obtain rfl : i = n := by omega
    exact hstop k s (by omega) h
  | succ d ih =>
    obtain ⟨k, rfl⟩ : ∃ z, k = z + 1 := ⟨k - 1, by omega⟩
    rcases hstep k s i (by omega) (by omega) h with ⟨s', h', e⟩ | h'
    · rw [e]; exact ih k s' (i + 1) (by omega) (by omega) h' (by omega)
    · exact h'
theorem w0 : wrap64 0 = 0 := by unfold wrap64; omega
theorem w1 : wrap64 1 = 1 := by unfold wrap64; omega
theorem w2 : wrap64 2 = 2 := by unfold wrap64; omega
theorem w3 : wrap64 3 = 3 := by unfold wrap64; omega
theorem rd_lt (l : List Int) (i : Nat) (h : i < l.length) : rd l (i : Int) = l[i] := by
  simp [rd, List.getD_eq_getElem?_getD, List.getElem?_eq_getElem h]
theorem rds_lt (l : List ByteArray) (i : Nat) (h : i < l.length) : rdOf ByteArray.empty l (i : Int) = l[i] := by
  simp [rdOf, List.getD_eq_getElem?_getD, List.getElem?_eq_getElem h]
theorem wrap_up (i : Nat) (h : i < 1099511627776) : wrap64 ((i : Int) + 1) = ((i + 1 : Nat) : Int) := by unfold wrap64; omega
theorem set_next {α : Type} (l out : List α) (i : Nat) (h : i < l.length) (hl : out.length = l.length) (hp : out.take i = l.take i) : (out.set i l[i]).take (i + 1) = l.take (i + 1) := by
  apply List.ext_getElem?
  intro j
  by_cases hj : j < i + 1
  · rw [List.getElem?_take_of_lt hj, List.getElem?_take_of_lt hj]
    by_cases hji : j = i
    · subst hji; rw [List.getElem?_set_self (by omega), List.getElem?_eq_getElem h]
    · rw [List.getElem?_set_ne (by omega)]
      have := congrArg (fun z => z[j]?) hp
      simpa [List.getElem?_take_of_lt (show j < i by omega)] using this
  · rw [List.getElem?_eq_none (by simp; omega), List.getElem?_eq_none (by simp; omega)]
theorem take_all {α : Type} (l out : List α) (hl : out.length = l.length) (hp : out.take l.length = l.take l.length) : out = l := by
  rwa [List.take_of_length_le (by omega), List.take_length] at hp
theorem g_szloop {α : Type} (L : Nat → List α → Int → Int → Option Int) (E : Nat → α → Int → Option Int) (z : α) (m : Nat) (Q : α → Prop) (l : List α)
    (hL : ∀ k a i, L (k + 1) l a i = if i < (l.length : Int) then (if 0 ≤ i then ((E k (l.getD i.toNat z) a).bind fun t => if t < 0 then some (-1) else L k l t (wrap64 (i + 1))) else none) else some a)
    (hE : ∀ k x a, x ∈ l → 0 ≤ a → a ≤ 1048576 → m ≤ k → ∃ t, E k x a = some t ∧ (t < 0 ∨ (0 ≤ t ∧ t ≤ a ∧ Q x)))
    (hl : l.length ≤ 1048576) (k : Nat) (a : Int) (h0 : 0 ≤ a) (h1 : a ≤ 1048576) (hk : m + 1048580 < k) :
    ∃ t, L k l a 0 = some t ∧ (t < 0 ∨ (0 ≤ t ∧ t ≤ a ∧ ∀ x ∈ l, Q x)) := by
  exact count_loop (fun k s i => L k l s i) l.length m (fun i s => 0 ≤ s ∧ s ≤ a ∧ ∀ x ∈ l.take i, Q x) (fun t => t < 0 ∨ (0 ≤ t ∧ t ≤ a ∧ ∀ x ∈ l, Q x))
    (by
      rintro k s - ⟨h1, h2, h3⟩
      rw [List.take_length] at h3
      exact ⟨s, by show L (k + 1) l s _ = _; rw [hL, if_neg (by omega)], .inr ⟨h1, h2, h3⟩⟩)
    (by
      rintro k s i hm hi ⟨h1, h2, h3⟩
      have hg : l.getD (i : Int).toNat z = l[i] := by simp [List.getD_eq_getElem?_getD, List.getElem?_eq_getElem hi]
      obtain ⟨t, e, ht⟩ := hE k l[i] s (List.getElem_mem hi) h1 (by omega) hm
      rcases ht with ht | ⟨q1, q2, q3⟩
      · refine .inr ⟨-1, ?_, .inl (by omega)⟩
        show L (k + 1) l s _ = _
        rw [hL, if_pos (by omega), if_pos (by omega), hg, e]
        simp only [Option.bind_some]
        rw [if_pos ht]
      · refine .inl ⟨t, ⟨q1, by omega, ?_⟩, ?_⟩
        · intro x hx'
          rw [List.take_succ_eq_append_getElem hi, List.mem_append] at hx'
          rcases hx' with hx' | hx'
          · exact h3 x hx'
          · simp at hx'; subst hx'; exact q3
        · show L (k + 1) l s _ = _
          rw [hL, if_pos (by omega), if_pos (by omega), hg, e]
          simp only [Option.bind_some]
          rw [if_neg (by omega), wrap_up i (by omega)])
    k a 0 (by omega) (by omega) ⟨h0, by omega, by simp⟩
theorem g_toloop {α β γ : Type} (L : Nat → List α → List β → Int → Option (List β)) (E : Nat → α → Option γ) (mk : γ → β) (z : α) (c : α → β) (m : Nat) (l : List α)
    (hL : ∀ k s i, L (k + 1) l s i = if i < (l.length : Int) then (if 0 ≤ i then ((E k (l.getD i.toNat z)).bind fun b => (if i < (s.length : Int) then L k l (s.set i.toNat (mk b)) (wrap64 (i + 1)) else none)) else none) else some s)
    (hE : ∀ k x, x ∈ l → m ≤ k → ∃ b, E k x = some b ∧ mk b = c x)
    (hl : l.length ≤ 1048576) (k : Nat) (s : List β) (hs : s.length = l.length) (hk : m + 1048580 < k) : L k l s 0 = some (l.map c) := by
  obtain ⟨r, h, rfl⟩ := count_loop (fun k s i => L k l s i) l.length m (fun i s => s.length = (l.map c).length ∧ s.take i = (l.map c).take i) (fun r => r = l.map c)
    (by
      rintro k s - ⟨h1, h2⟩
      exact ⟨s, by show L (k + 1) l s _ = _; rw [hL, if_neg (by omega)], take_all (l.map c) s h1 (by rw [List.length_map]; exact h2)⟩)
    (by
      rintro k s i hm hi ⟨h1, h2⟩
      have hg : l.getD (i : Int).toNat z = l[i] := by simp [List.getD_eq_getElem?_getD, List.getElem?_eq_getElem hi]
      have hi' : i < (l.map c).length := by simpa using hi
      obtain ⟨b, e, hb⟩ := hE k l[i] (List.getElem_mem hi) hm
      have hb' : mk b = (l.map c)[i] := by rw [hb, List.getElem_map]
      refine .inl ⟨s.set i (l.map c)[i], ⟨by simpa using h1, set_next (l.map c) s i hi' h1 h2⟩, ?_⟩
      show L (k + 1) l s _ = _
      rw [hL, if_pos (by omega), if_pos (by omega), hg, e]
      simp only [Option.bind_some]
      rw [if_pos (by rw [h1]; simp; omega), wrap_up i (by omega), hb']
      rfl)
    k s 0 (by omega) (by omega) ⟨by simpa using hs, by simp⟩
  exact h
theorem g_eqloop {α : Type} (L : Nat → List α → List α → Int → Option Bool) (E : Nat → α → Option Bool) (z : α) (m : Nat) (l : List α)
    (hL : ∀ k i, L (k + 1) l l i = if i < (l.length : Int) then (if 0 ≤ i then (if i < (l.length : Int) then ((E k (l.getD i.toNat z)).bind fun t => (if t = true then L k l l (wrap64 (i + 1)) else some false)) else none) else none) else some true)
    (hE : ∀ k x, x ∈ l → m ≤ k → E k x = some true)
    (hl : l.length ≤ 1048576) (k : Nat) (hk : m + 1048580 < k) : L k l l 0 = some true := by
  obtain ⟨r, h, rfl⟩ := count_loop (fun k (_ : Unit) i => L k l l i) l.length m (fun _ _ => True) (fun r => r = true)
    (by
      rintro k s - -
      exact ⟨true, by show L (k + 1) l l _ = _; rw [hL, if_neg (by omega)], rfl⟩)
    (by
      rintro k s i hm hi -
      have hg : l.getD (i : Int).toNat z = l[i] := by simp [List.getD_eq_getElem?_getD, List.getElem?_eq_getElem hi]
      refine .inl ⟨(), trivial, ?_⟩
      show L (k + 1) l l _ = _
      rw [hL, if_pos (by omega), if_pos (by omega), if_pos (by omega), hg, hE k _ (List.getElem_mem hi) hm]
      simp only [Option.bind_some]
      rw [if_pos trivial, wrap_up i (by omega)])
    k () 0 (by omega) (by omega) trivial
  exact h
theorem g_szStringS (k : Nat) (l : List ByteArray) (a : Int) (h0 : 0 ≤ a) (h1 : a ≤ 1048576) (hk : 1048590 ≤ k) (o : l.length ≤ maxLen ∧ ∀ x_ ∈ l, x_.size ≤ maxLen) : ∃ t, laws_szStringS.f k l a = some t ∧ (t < 0 ∨ (0 ≤ t ∧ t ≤ a ∧ (l.length : Int) ≤ 1048576 ∧ (∀ y ∈ l, (y.size : Int) ≤ 1048576))) := by
  have ol := o.1
  unfold maxLen at ol
  unfold laws_szStringS.f
  rw [wrap64_id (by omega) (by omega)]
  by_cases h : a - (l.length : Int) < 0
  · exact ⟨-1, by rw [if_pos h], .inl (by omega)⟩
  rw [if_neg h]
  obtain ⟨t, e, q⟩ := g_szloop laws_szStringS.l0 (fun _ x a => if wrap64 (a - (x.size : Int)) < 0 then some (-1) else some (wrap64 (a - (x.size : Int)))) ByteArray.empty 0 (fun x => (x.size : Int) ≤ 1048576) l
    (by 
      intro k a i
      rw [laws_szStringS.l0]
      by_cases h : wrap64 (a - ((rdOf ByteArray.empty l i).size : Int)) < 0
      · rw [if_pos h]; unfold rdOf at h; rw [if_pos h]; rfl
      · rw [if_neg h]; unfold rdOf at h ⊢; rw [if_neg h]; simp only [Option.bind_some, if_neg h])
    (by 
      intro k x a hx h0 h1 hm
      have := o.2 x hx
      unfold maxLen at this
      rw [wrap64_id (by omega) (by omega)]
      by_cases h : a - (x.size : Int) < 0
      · exact ⟨-1, by rw [if_pos h], .inl (by omega)⟩
      · exact ⟨_, by rw [if_neg h], .inr ⟨by omega, by omega, by omega⟩⟩)
    (by omega) k (a - (l.length : Int)) (by omega) (by omega) (by omega)
  rcases q with q | ⟨q1, q2, q3⟩
  · exact ⟨t, e, .inl q⟩
  · exact ⟨t, e, .inr ⟨q1, by omega, by omega, q3⟩⟩
theorem g_szPut (k : Nat) (a0_0 : Int) (a0_1 : ByteArray) (a : Int) (h0 : 0 ≤ a) (h1 : a ≤ 1048576) (hk : 0 ≤ k) (o_a0_1 : a0_1.size ≤ maxLen) : ∃ t, laws_szPut.f a0_0 a0_1 a = some t ∧ (t < 0 ∨ (0 ≤ t ∧ t ≤ a ∧ (a0_1.size : Int) ≤ 1048576)) := by
  have p_a0_1 := o_a0_1
  unfold maxLen at p_a0_1
  unfold laws_szPut.f
  rw [wrap64_id (a := a - (a0_1.size : Int)) (by omega) (by omega)]
  by_cases c0 : a - (a0_1.size : Int) < 0
  · exact ⟨-1, by rw [if_pos c0], .inl (by omega)⟩
  rw [if_neg c0]
  exact ⟨_, rfl, .inr ⟨by omega, by omega, by omega⟩⟩
def QS166 (x : S166) : Prop := (x.f1.size : Int) ≤ 1048576
theorem g_szPutS (k : Nat) (l : List (S166)) (a : Int) (h0 : 0 ≤ a) (h1 : a ≤ 1048576) (hk : 1048590 ≤ k) (o : l.length ≤ maxLen ∧ ∀ x_ ∈ l, okS166 x_) : ∃ t, laws_szPutS.f k l a = some t ∧ (t < 0 ∨ (0 ≤ t ∧ t ≤ a ∧ (l.length : Int) ≤ 1048576 ∧ (∀ y ∈ l, QS166 y))) := by
  have ol := o.1
  unfold maxLen at ol
  unfold laws_szPutS.f
  rw [wrap64_id (by omega) (by omega)]
  by_cases h : a - (l.length : Int) < 0
  · exact ⟨-1, by rw [if_pos h], .inl (by omega)⟩
  rw [if_neg h]
  obtain ⟨t, e, q⟩ := g_szloop laws_szPutS.l0 (fun k x a => laws_szPut.f x.f0 x.f1 a) z166 0 (QS166) l
    (by intro k a i; rw [laws_szPutS.l0]; rfl)
    (by intro k x a hx h0 h1 hm; obtain ⟨o0, o1⟩ := o.2 x hx; exact g_szPut k x.f0 x.f1 a h0 h1 hm o1)
    (by omega) k (a - (l.length : Int)) (by omega) (by omega) (by omega)
  rcases q with q | ⟨q1, q2, q3⟩
  · exact ⟨t, e, .inl q⟩
  · exact ⟨t, e, .inr ⟨q1, by omega, by omega, q3⟩⟩
theorem g_szDisk (k : Nat) (l0_0 : List ByteArray) (l0_1 : List (S166)) (a0_2 : Int) (a0_3 : Bool) (a : Int) (h0 : 0 ≤ a) (h1 : a ≤ 1048576) (hk : 1048590 ≤ k) (o_l0_0 : l0_0.length ≤ maxLen ∧ ∀ x_ ∈ l0_0, x_.size ≤ maxLen) (o_l0_1 : l0_1.length ≤ maxLen ∧ ∀ x_ ∈ l0_1, okS166 x_) : ∃ t, laws_szDisk.f k l0_0 l0_1 a0_2 a0_3 a = some t ∧ (t < 0 ∨ (0 ≤ t ∧ t ≤ a ∧ (l0_0.length : Int) ≤ 1048576 ∧ (∀ y ∈ l0_0, (y.size : Int) ≤ 1048576) ∧ (l0_1.length : Int) ≤ 1048576 ∧ (∀ y ∈ l0_1, QS166 y))) := by
  have p_l0_0 := o_l0_0.1
  unfold maxLen at p_l0_0
  have p_l0_1 := o_l0_1.1
  unfold maxLen at p_l0_1
  unfold laws_szDisk.f
  obtain ⟨t0, e0, q0⟩ := g_szStringS k l0_0 a (by omega) (by omega) (by omega) o_l0_0
  rw [e0]
  simp only [Option.bind_some]
  rcases q0 with q0 | ⟨r0, s0, q0_l0_0_0, q0_l0_0_1⟩
  · exact ⟨-1, by rw [if_pos q0], .inl (by omega)⟩
  rw [if_neg (show ¬ t0 < 0 by omega)]
  obtain ⟨t1, e1, q1⟩ := g_szPutS k l0_1 t0 (by omega) (by omega) (by omega) o_l0_1
  rw [e1]
  simp only [Option.bind_some]
  rcases q1 with q1 | ⟨r1, s1, q1_l0_1_0, q1_l0_1_1⟩
  · exact ⟨-1, by rw [if_pos q1], .inl (by omega)⟩
  rw [if_neg (show ¬ t1 < 0 by omega)]
  exact ⟨_, rfl, .inr ⟨by omega, by omega, q0_l0_0_0, q0_l0_0_1, q1_l0_1_0, q1_l0_1_1⟩⟩
theorem g_szPage (k : Nat) (a0_0 : Int) (a0_1 : ByteArray) (a : Int) (h0 : 0 ≤ a) (h1 : a ≤ 1048576) (hk : 0 ≤ k) (o_a0_1 : a0_1.size ≤ maxLen) : ∃ t, laws_szPage.f a0_0 a0_1 a = some t ∧ (t < 0 ∨ (0 ≤ t ∧ t ≤ a ∧ (a0_1.size : Int) ≤ 1048576)) := by
  have p_a0_1 := o_a0_1
  unfold maxLen at p_a0_1
  unfold laws_szPage.f
  rw [wrap64_id (a := a - (a0_1.size : Int)) (by omega) (by omega)]
  by_cases c0 : a - (a0_1.size : Int) < 0
  · exact ⟨-1, by rw [if_pos c0], .inl (by omega)⟩
  rw [if_neg c0]
  exact ⟨_, rfl, .inr ⟨by omega, by omega, by omega⟩⟩
def QS140 (x : S140) : Prop := (x.f1.size : Int) ≤ 1048576
theorem g_szPageS (k : Nat) (l : List (S140)) (a : Int) (h0 : 0 ≤ a) (h1 : a ≤ 1048576) (hk : 1048590 ≤ k) (o : l.length ≤ maxLen ∧ ∀ x_ ∈ l, okS140 x_) : ∃ t, laws_szPageS.f k l a = some t ∧ (t < 0 ∨ (0 ≤ t ∧ t ≤ a ∧ (l.length : Int) ≤ 1048576 ∧ (∀ y ∈ l, QS140 y))) := by
  have ol := o.1
  unfold maxLen at ol
  unfold laws_szPageS.f
  rw [wrap64_id (by omega) (by omega)]
  by_cases h : a - (l.length : Int) < 0
  · exact ⟨-1, by rw [if_pos h], .inl (by omega)⟩
  rw [if_neg h]
  obtain ⟨t, e, q⟩ := g_szloop laws_szPageS.l0 (fun k x a => laws_szPage.f x.f0 x.f1 a) z140 0 (QS140) l
    (by intro k a i; rw [laws_szPageS.l0]; rfl)
    (by intro k x a hx h0 h1 hm; obtain ⟨o0, o1⟩ := o.2 x hx; exact g_szPage k x.f0 x.f1 a h0 h1 hm o1)
    (by omega) k (a - (l.length : Int)) (by omega) (by omega) (by omega)
  rcases q with q | ⟨q1, q2, q3⟩
  · exact ⟨t, e, .inl q⟩
  · exact ⟨t, e, .inr ⟨q1, by omega, by omega, q3⟩⟩
theorem g_szPager (k : Nat) (l0_0 : List ByteArray) (l0_1 : List (S166)) (a0_2 : Int) (a0_3 : Bool) (a0_4 : Int) (a0_5 : Int) (a0_6 : Int) (a0_7 : Int) (a0_8 : Int) (a0_9 : Int) (l0_10 : List (S140)) (l0_11 : List (S140)) (a : Int) (h0 : 0 ≤ a) (h1 : a ≤ 1048576) (hk : 1048590 ≤ k) (o_l0_0 : l0_0.length ≤ maxLen ∧ ∀ x_ ∈ l0_0, x_.size ≤ maxLen) (o_l0_1 : l0_1.length ≤ maxLen ∧ ∀ x_ ∈ l0_1, okS166 x_) (o_l0_10 : l0_10.length ≤ maxLen ∧ ∀ x_ ∈ l0_10, okS140 x_) (o_l0_11 : l0_11.length ≤ maxLen ∧ ∀ x_ ∈ l0_11, okS140 x_) : ∃ t, laws_szPager.f k l0_0 l0_1 a0_2 a0_3 a0_4 a0_5 a0_6 a0_7 a0_8 a0_9 l0_10 l0_11 a = some t ∧ (t < 0 ∨ (0 ≤ t ∧ t ≤ a ∧ (l0_0.length : Int) ≤ 1048576 ∧ (∀ y ∈ l0_0, (y.size : Int) ≤ 1048576) ∧ (l0_1.length : Int) ≤ 1048576 ∧ (∀ y ∈ l0_1, QS166 y) ∧ (l0_10.length : Int) ≤ 1048576 ∧ (∀ y ∈ l0_10, QS140 y) ∧ (l0_11.length : Int) ≤ 1048576 ∧ (∀ y ∈ l0_11, QS140 y))) := by
  have p_l0_0 := o_l0_0.1
  unfold maxLen at p_l0_0
  have p_l0_1 := o_l0_1.1
  unfold maxLen at p_l0_1
  have p_l0_10 := o_l0_10.1
  unfold maxLen at p_l0_10
  have p_l0_11 := o_l0_11.1
  unfold maxLen at p_l0_11
  unfold laws_szPager.f
  obtain ⟨t0, e0, q0⟩ := g_szDisk k l0_0 l0_1 a0_2 a0_3 a (by omega) (by omega) (by omega) o_l0_0 o_l0_1
  rw [e0]
  simp only [Option.bind_some]
  rcases q0 with q0 | ⟨r0, s0, q0_l0_0_0, q0_l0_0_1, q0_l0_1_0, q0_l0_1_1⟩
  · exact ⟨-1, by rw [if_pos q0], .inl (by omega)⟩
  rw [if_neg (show ¬ t0 < 0 by omega)]
  obtain ⟨t1, e1, q1⟩ := g_szPageS k l0_10 t0 (by omega) (by omega) (by omega) o_l0_10
  rw [e1]
  simp only [Option.bind_some]
  rcases q1 with q1 | ⟨r1, s1, q1_l0_10_0, q1_l0_10_1⟩
  · exact ⟨-1, by rw [if_pos q1], .inl (by omega)⟩
  rw [if_neg (show ¬ t1 < 0 by omega)]
  obtain ⟨t2, e2, q2⟩ := g_szPageS k l0_11 t1 (by omega) (by omega) (by omega) o_l0_11
  rw [e2]
  simp only [Option.bind_some]
  rcases q2 with q2 | ⟨r2, s2, q2_l0_11_0, q2_l0_11_1⟩
  · exact ⟨-1, by rw [if_pos q2], .inl (by omega)⟩
  rw [if_neg (show ¬ t2 < 0 by omega)]
  exact ⟨_, rfl, .inr ⟨by omega, by omega, q0_l0_0_0, q0_l0_0_1, q0_l0_1_0, q0_l0_1_1, q1_l0_10_0, q1_l0_10_1, q2_l0_11_0, q2_l0_11_1⟩⟩
theorem g_toStringS (k : Nat) (l : List ByteArray) (hk : 1048590 ≤ k) (o1 : (l.length : Int) ≤ 1048576) (o2 : (∀ y ∈ l, (y.size : Int) ≤ 1048576)) : laws_toStringS.f k l = some l := by
  unfold laws_toStringS.f
  rw [if_pos (by omega), if_pos (by omega)]
  have h := g_toloop laws_toStringS.l0 (fun _ (x : ByteArray) => some x) (fun b => b) ByteArray.empty id 0 l (by intro k s i; rw [laws_toStringS.l0]; rfl)
    (by intro k x hx hm; exact ⟨_, rfl, rfl⟩)
    (by omega) k (List.replicate ((l.length : Int) : Int).toNat (⟨#[]⟩ : ByteArray)) (by simp) (by omega)
  rwa [List.map_id] at h
theorem g_toPut (k : Nat) (a0_0 : Int) (a0_1 : ByteArray) (hk : 0 ≤ k) (o_a0_1_0 : (a0_1.size : Int) ≤ 1048576) : laws_toPut.f a0_0 a0_1 = some (a0_0, a0_1) := by
  unfold laws_toPut.f
  rfl
def QS131 (x : S131) : Prop := (x.f1.size : Int) ≤ 1048576
def cS166 (x : S166) : S131 := ⟨x.f0, x.f1⟩
theorem qcS166 (x : S166) (h : QS166 x) : QS131 (cS166 x) := h
theorem qmS166 (l : List S166) (h : ∀ y ∈ l, QS166 y) : ∀ y ∈ l.map cS166, QS131 y := by
  intro y hy
  obtain ⟨x, hx, rfl⟩ := List.mem_map.1 hy
  exact qcS166 x (h x hx)
theorem g_toPutS (k : Nat) (l : List (S166)) (hk : 1048590 ≤ k) (o1 : (l.length : Int) ≤ 1048576) (o2 : (∀ y ∈ l, QS166 y)) : laws_toPutS.f k l = some (l.map cS166) := by
  unfold laws_toPutS.f
  rw [if_pos (by omega), if_pos (by omega)]
  have h := g_toloop laws_toPutS.l0 (fun k (x : S166) => laws_toPut.f x.f0 x.f1) (fun b => (⟨b.1, b.2⟩ : S131)) z166 cS166 0 l (by intro k s i; rw [laws_toPutS.l0]; rfl)
    (by intro k x hx hm; obtain q1_0 := o2 x hx; exact ⟨_, g_toPut k x.f0 x.f1 hm q1_0, rfl⟩)
    (by omega) k (List.replicate ((l.length : Int) : Int).toNat z131) (by simp) (by omega)
  exact h
theorem g_toDisk (k : Nat) (l0_0 : List ByteArray) (l0_1 : List (S166)) (a0_2 : Int) (a0_3 : Bool) (hk : 1048590 ≤ k) (o_l0_0_0 : (l0_0.length : Int) ≤ 1048576) (o_l0_0_1 : (∀ y ∈ l0_0, (y.size : Int) ≤ 1048576)) (o_l0_1_0 : (l0_1.length : Int) ≤ 1048576) (o_l0_1_1 : (∀ y ∈ l0_1, QS166 y)) : laws_toDisk.f k l0_0 l0_1 a0_2 a0_3 = some (l0_0, (l0_1.map cS166), a0_2, a0_3) := by
  unfold laws_toDisk.f
  rw [g_toStringS k l0_0 (by omega) o_l0_0_0 o_l0_0_1]
  simp only [Option.bind_some]
  rw [g_toPutS k l0_1 (by omega) o_l0_1_0 o_l0_1_1]
  simp only [Option.bind_some]
theorem g_toSuper (k : Nat) (a0_0 : Int) (a0_1 : Int) (a0_2 : Int) (a0_3 : Int) (hk : 0 ≤ k)  : laws_toSuper.f a0_0 a0_1 a0_2 a0_3 = some (a0_0, a0_1, a0_2, a0_3) := by
  unfold laws_toSuper.f
  rfl
theorem g_toPage (k : Nat) (a0_0 : Int) (a0_1 : ByteArray) (hk : 0 ≤ k) (o_a0_1_0 : (a0_1.size : Int) ≤ 1048576) : laws_toPage.f a0_0 a0_1 = some (a0_0, a0_1) := by
  unfold laws_toPage.f
  rfl
def QS119 (x : S119) : Prop := (x.f1.size : Int) ≤ 1048576
def cS140 (x : S140) : S119 := ⟨x.f0, x.f1⟩
theorem qcS140 (x : S140) (h : QS140 x) : QS119 (cS140 x) := h
theorem qmS140 (l : List S140) (h : ∀ y ∈ l, QS140 y) : ∀ y ∈ l.map cS140, QS119 y := by
  intro y hy
  obtain ⟨x, hx, rfl⟩ := List.mem_map.1 hy
  exact qcS140 x (h x hx)
theorem g_toPageS (k : Nat) (l : List (S140)) (hk : 1048590 ≤ k) (o1 : (l.length : Int) ≤ 1048576) (o2 : (∀ y ∈ l, QS140 y)) : laws_toPageS.f k l = some (l.map cS140) := by
  unfold laws_toPageS.f
  rw [if_pos (by omega), if_pos (by omega)]
  have h := g_toloop laws_toPageS.l0 (fun k (x : S140) => laws_toPage.f x.f0 x.f1) (fun b => (⟨b.1, b.2⟩ : S119)) z140 cS140 0 l (by intro k s i; rw [laws_toPageS.l0]; rfl)
    (by intro k x hx hm; obtain q1_0 := o2 x hx; exact ⟨_, g_toPage k x.f0 x.f1 hm q1_0, rfl⟩)
    (by omega) k (List.replicate ((l.length : Int) : Int).toNat z119) (by simp) (by omega)
  exact h
theorem g_toPager (k : Nat) (l0_0 : List ByteArray) (l0_1 : List (S166)) (a0_2 : Int) (a0_3 : Bool) (a0_4 : Int) (a0_5 : Int) (a0_6 : Int) (a0_7 : Int) (a0_8 : Int) (a0_9 : Int) (l0_10 : List (S140)) (l0_11 : List (S140)) (hk : 1048590 ≤ k) (o_l0_0_0 : (l0_0.length : Int) ≤ 1048576) (o_l0_0_1 : (∀ y ∈ l0_0, (y.size : Int) ≤ 1048576)) (o_l0_1_0 : (l0_1.length : Int) ≤ 1048576) (o_l0_1_1 : (∀ y ∈ l0_1, QS166 y)) (o_l0_10_0 : (l0_10.length : Int) ≤ 1048576) (o_l0_10_1 : (∀ y ∈ l0_10, QS140 y)) (o_l0_11_0 : (l0_11.length : Int) ≤ 1048576) (o_l0_11_1 : (∀ y ∈ l0_11, QS140 y)) : laws_toPager.f k l0_0 l0_1 a0_2 a0_3 a0_4 a0_5 a0_6 a0_7 a0_8 a0_9 l0_10 l0_11 = some (l0_0, (l0_1.map cS166), a0_2, a0_3, a0_4, a0_5, a0_6, a0_7, a0_8, a0_9, (l0_10.map cS140), (l0_11.map cS140)) := by
  unfold laws_toPager.f
  rw [g_toDisk k l0_0 l0_1 a0_2 a0_3 (by omega) o_l0_0_0 o_l0_0_1 o_l0_1_0 o_l0_1_1]
  simp only [Option.bind_some]
  rw [g_toSuper k a0_4 a0_5 a0_6 a0_7 (by omega) ]
  simp only [Option.bind_some]
  rw [g_toPageS k l0_10 (by omega) o_l0_10_0 o_l0_10_1]
  simp only [Option.bind_some]
  rw [g_toPageS k l0_11 (by omega) o_l0_11_0 o_l0_11_1]
  simp only [Option.bind_some]
theorem g_eqStringS (k : Nat) (l : List ByteArray) (hk : 1048590 ≤ k) (o1 : (l.length : Int) ≤ 1048576) (o2 : (∀ y ∈ l, (y.size : Int) ≤ 1048576)) : laws_eqStringS.f k l l = some true := by
  unfold laws_eqStringS.f
  rw [if_pos rfl]
  exact g_eqloop laws_eqStringS.l0 (fun _ (x : ByteArray) => some true) ByteArray.empty 0 l (by intro k i; rw [laws_eqStringS.l0]; simp only [Option.bind_some, bne_self_eq_false, Bool.false_eq_true, if_false, if_true, reduceIte]) (by intro k x hx hm; rfl) (by omega) k (by omega)
theorem g_eqPut (k : Nat) (a0_0 : Int) (a0_1 : ByteArray) (hk : 0 ≤ k)  : laws_eqPut.f a0_0 a0_1 a0_0 a0_1 = some true := by
  unfold laws_eqPut.f
  simp only [Option.bind_some, bne_self_eq_false, Bool.false_eq_true, if_false, if_true, reduceIte]
theorem g_eqPutS (k : Nat) (l : List (S131)) (hk : 1048590 ≤ k) (o1 : (l.length : Int) ≤ 1048576) (o2 : (∀ y ∈ l, QS131 y)) : laws_eqPutS.f k l l = some true := by
  unfold laws_eqPutS.f
  rw [if_pos rfl]
  exact g_eqloop laws_eqPutS.l0 (fun k (x : S131) => laws_eqPut.f x.f0 x.f1 x.f0 x.f1) z131 0 l (by intro k i; rw [laws_eqPutS.l0]; rfl) (by intro k x hx hm; obtain q1_0 := o2 x hx; exact g_eqPut k x.f0 x.f1 hm ) (by omega) k (by omega)
theorem g_eqDisk (k : Nat) (l0_0 : List ByteArray) (l0_1 : List (S131)) (a0_2 : Int) (a0_3 : Bool) (hk : 1048590 ≤ k) (o_l0_0_0 : (l0_0.length : Int) ≤ 1048576) (o_l0_0_1 : (∀ y ∈ l0_0, (y.size : Int) ≤ 1048576)) (o_l0_1_0 : (l0_1.length : Int) ≤ 1048576) (o_l0_1_1 : (∀ y ∈ l0_1, QS131 y)) : laws_eqDisk.f k l0_0 l0_1 a0_2 a0_3 l0_0 l0_1 a0_2 a0_3 = some true := by
  unfold laws_eqDisk.f
  simp only [g_eqStringS k l0_0 (by omega) o_l0_0_0 o_l0_0_1, g_eqPutS k l0_1 (by omega) o_l0_1_0 o_l0_1_1, Option.bind_some, bne_self_eq_false, Bool.false_eq_true, if_false, if_true, reduceIte]
theorem g_eqSuper (k : Nat) (a0_0 : Int) (a0_1 : Int) (a0_2 : Int) (a0_3 : Int) (hk : 0 ≤ k)  : laws_eqSuper.f a0_0 a0_1 a0_2 a0_3 a0_0 a0_1 a0_2 a0_3 = some true := by
  unfold laws_eqSuper.f
  simp only [Option.bind_some, bne_self_eq_false, Bool.false_eq_true, if_false, if_true, reduceIte]
theorem g_eqPage (k : Nat) (a0_0 : Int) (a0_1 : ByteArray) (hk : 0 ≤ k)  : laws_eqPage.f a0_0 a0_1 a0_0 a0_1 = some true := by
  unfold laws_eqPage.f
  simp only [Option.bind_some, bne_self_eq_false, Bool.false_eq_true, if_false, if_true, reduceIte]
theorem g_eqPageS (k : Nat) (l : List (S119)) (hk : 1048590 ≤ k) (o1 : (l.length : Int) ≤ 1048576) (o2 : (∀ y ∈ l, QS119 y)) : laws_eqPageS.f k l l = some true := by
  unfold laws_eqPageS.f
  rw [if_pos rfl]
  exact g_eqloop laws_eqPageS.l0 (fun k (x : S119) => laws_eqPage.f x.f0 x.f1 x.f0 x.f1) z119 0 l (by intro k i; rw [laws_eqPageS.l0]; rfl) (by intro k x hx hm; obtain q1_0 := o2 x hx; exact g_eqPage k x.f0 x.f1 hm ) (by omega) k (by omega)
theorem g_eqPager (k : Nat) (l0_0 : List ByteArray) (l0_1 : List (S131)) (a0_2 : Int) (a0_3 : Bool) (a0_4 : Int) (a0_5 : Int) (a0_6 : Int) (a0_7 : Int) (a0_8 : Int) (a0_9 : Int) (l0_10 : List (S119)) (l0_11 : List (S119)) (hk : 1048590 ≤ k) (o_l0_0_0 : (l0_0.length : Int) ≤ 1048576) (o_l0_0_1 : (∀ y ∈ l0_0, (y.size : Int) ≤ 1048576)) (o_l0_1_0 : (l0_1.length : Int) ≤ 1048576) (o_l0_1_1 : (∀ y ∈ l0_1, QS131 y)) (o_l0_10_0 : (l0_10.length : Int) ≤ 1048576) (o_l0_10_1 : (∀ y ∈ l0_10, QS119 y)) (o_l0_11_0 : (l0_11.length : Int) ≤ 1048576) (o_l0_11_1 : (∀ y ∈ l0_11, QS119 y)) : laws_eqPager.f k l0_0 l0_1 a0_2 a0_3 a0_4 a0_5 a0_6 a0_7 a0_8 a0_9 l0_10 l0_11 l0_0 l0_1 a0_2 a0_3 a0_4 a0_5 a0_6 a0_7 a0_8 a0_9 l0_10 l0_11 = some true := by
  unfold laws_eqPager.f
  simp only [g_eqDisk k l0_0 l0_1 a0_2 a0_3 (by omega) o_l0_0_0 o_l0_0_1 o_l0_1_0 o_l0_1_1, g_eqSuper k a0_4 a0_5 a0_6 a0_7 (by omega) , g_eqPageS k l0_10 (by omega) o_l0_10_0 o_l0_10_1, g_eqPageS k l0_11 (by omega) o_l0_11_0 o_l0_11_1, Option.bind_some, bne_self_eq_false, Bool.false_eq_true, if_false, if_true, reduceIte]
theorem all_loop (L : Nat → Int → Option Bool) (P : Nat → Prop) [DecidablePred P] (n m : Nat) (r : Bool)
    (hend : ∀ k, m ≤ k → L (k + 1) (n : Int) = some r) (hstep : ∀ k (i : Nat), m ≤ k → i < n → L (k + 1) (i : Int) = if P i then L k ((i + 1 : Nat) : Int) else some false) (k : Nat) (hk : n + m < k) :
    L k 0 = some (decide (∀ i, i < n → P i) && r) := by
  obtain ⟨s, h, rfl⟩ := count_loop (fun k (_ : Unit) i => L k i) n m (fun i _ => ∀ j, j < i → P j) (fun s => s = (decide (∀ i, i < n → P i) && r))
    (by
      rintro k s hm h
      exact ⟨r, hend k hm, by simp [decide_eq_true h]⟩)
    (by
      rintro k s i hm hi h
      by_cases hp : P i
      · refine .inl ⟨(), ?_, by show L (k + 1) _ = _; rw [hstep k i hm hi, if_pos hp]⟩
        intro j hj
        by_cases hji : j = i
        · subst hji; exact hp
        · exact h j (by omega)
      · refine .inr ⟨false, by show L (k + 1) _ = _; rw [hstep k i hm hi, if_neg hp], ?_⟩
        have : ¬ ∀ i, i < n → P i := fun h => hp (h i hi)
        simp [this])
    k () 0 (by omega) (by omega) (by simp)
  exact h
def look (P : Nat → Prop) [DecidablePred P] : Nat → Nat → Int
  | 0, _ => -1
  | d + 1, i => if P i then (i : Int) else look P d (i + 1)
theorem look_or (P : Nat → Prop) [DecidablePred P] (d : Nat) : ∀ i, (look P d i = -1 ∧ ∀ j, i ≤ j → j < i + d → ¬ P j) ∨ ∃ j, i ≤ j ∧ j < i + d ∧ look P d i = (j : Int) ∧ P j := by
  induction d with
  | zero => intro i; exact .inl ⟨rfl, fun j h1 h2 => by omega⟩
  | succ d ih =>
    intro i
    by_cases hp : P i
    · exact .inr ⟨i, by omega, by omega, by rw [look, if_pos hp], hp⟩
    · rw [look, if_neg hp]
      rcases ih (i + 1) with ⟨h1, h2⟩ | ⟨j, h1, h2, h3, h4⟩
      · refine .inl ⟨h1, fun j h3 h4 => ?_⟩
        by_cases hji : j = i
        · subst hji; exact hp
        · exact h2 j (by omega) (by omega)
      · exact .inr ⟨j, by omega, by omega, h3, h4⟩
theorem find_loop (L : Nat → Int → Option Int) (P : Nat → Prop) [DecidablePred P] (n m : Nat)
    (hend : ∀ k, m ≤ k → L (k + 1) (n : Int) = some (-1)) (hstep : ∀ k (i : Nat), m ≤ k → i < n → L (k + 1) (i : Int) = if P i then some (i : Int) else L k ((i + 1 : Nat) : Int)) (k : Nat) (hk : n + m < k) :
    L k 0 = some (look P n 0) := by
  have key : ∀ d k i, i + d = n → d + m < k → L k (i : Int) = some (look P d i) := by
    intro d
    induction d with
    | zero =>
      intro k i hi hk
      obtain ⟨k, rfl⟩ : ∃ z, k = z + 1 := ⟨k - 1, by omega⟩
      obtain rfl : i = n := by omega
      exact hend k (by omega)
    | succ d ih =>
      intro k i hi hk
      obtain ⟨k, rfl⟩ : ∃ z, k = z + 1 := ⟨k - 1, by omega⟩
      rw [hstep k i (by omega) (by omega), look]
      by_cases hp : P i
      · rw [if_pos hp, if_pos hp]
      · rw [if_neg hp, if_neg hp]; exact ih k (i + 1) (by omega) (by omega)
  exact key n k 0 (by omega) (by omega)
theorem getD_lt {α : Type} (l : List α) (z : α) (i : Nat) (h : i < l.length) : l.getD (i : Int).toNat z = l[i] := by
  simp [List.getD_eq_getElem?_getD, List.getElem?_eq_getElem h]
theorem flip_ite {α : Type} (c : Prop) [Decidable c] (a b : α) : (if c then b else a) = if ¬ c then a else b := by
  by_cases h : c
  · rw [if_pos h, if_neg (fun h2 => h2 h)]
  · rw [if_neg h, if_pos h]
theorem seq_loop (L : Nat → Int → Option Bool) (P : Nat → Prop) [DecidablePred P] (n : Nat)
    (hend : ∀ k, L (k + 1) (n : Int) = some true) (hstep : ∀ k (i : Nat), i < n → L (k + 1) (i : Int) = if P i then L k ((i + 1 : Nat) : Int) else some false) (k : Nat) (hk : n < k) :
    L k 0 = some (decide (∀ i, i < n → P i)) := by
  rw [all_loop L P n 0 true (fun k _ => hend k) (fun k i _ hi => hstep k i hi) k (by omega), Bool.and_true]
def SameS (a b : List ByteArray) (i : Nat) : Prop := (rdOf ByteArray.empty a (i : Int)).toList = (rdOf ByteArray.empty b (i : Int)).toList
instance (a b : List ByteArray) : DecidablePred (SameS a b) := fun i => by unfold SameS; infer_instance
def neP (x y : S131) : Bool := (!(x.f0 == y.f0) || (!(x.f1.toList == y.f1.toList)))
abbrev A1 (a b : List ByteArray) : Bool := decide (∀ i, i < a.length → SameS a b i)
abbrev A2 (l m : List S131) : Bool := decide (∀ i, i < l.length → ¬ neP (rd_T131 l i) (rd_T131 m i) = true)
theorem sp1 (a : List ByteArray) (l : List S131) (x : Int) (y : Bool) (b : List ByteArray) (m : List S131) (z : Int) (w : Bool) (hl : l.length ≤ 1048576) (hm : l.length = m.length) (k : Nat) (hk : 1048590 ≤ k) :
    spec_SameDisk.l1 k 0 a l x y b m z w = some (A2 l m) :=
  seq_loop (fun k i => spec_SameDisk.l1 k i a l x y b m z w) (fun i => ¬ neP (rd_T131 l i) (rd_T131 m i) = true) l.length
    (by intro k; show spec_SameDisk.l1 (k + 1) _ a l x y b m z w = _; rw [spec_SameDisk.l1, if_neg (by omega)])
    (by
      intro k i hi
      show spec_SameDisk.l1 (k + 1) _ a l x y b m z w = _
      rw [spec_SameDisk.l1, if_pos (by omega), if_pos (by omega), if_pos (by omega), wrap_up i (by omega)]
      exact flip_ite (neP (rd_T131 l i) (rd_T131 m i) = true) _ _)
    k (by omega)
theorem sp0 (a : List ByteArray) (l : List S131) (x : Int) (y : Bool) (b : List ByteArray) (m : List S131) (z : Int) (w : Bool) (ha : a.length ≤ 1048576) (hb : a.length = b.length) (hl : l.length ≤ 1048576) (hm : l.length = m.length) (k : Nat) (hk : 2097190 ≤ k) :
    spec_SameDisk.l0 k 0 a l x y b m z w = some (A1 a b && A2 l m) :=
  all_loop (fun k i => spec_SameDisk.l0 k i a l x y b m z w) (SameS a b) a.length 1048590 (A2 l m)
    (by intro k hk; show spec_SameDisk.l0 (k + 1) _ a l x y b m z w = _; rw [spec_SameDisk.l0, if_neg (by omega)]; exact sp1 a l x y b m z w hl hm k hk)
    (by
      intro k i _ hi
      show spec_SameDisk.l0 (k + 1) _ a l x y b m z w = _
      rw [spec_SameDisk.l0, if_pos (by omega), if_pos (by omega), if_pos (by omega), wrap_up i (by omega)]
      rfl)
    k (by omega)
theorem im0 (a b : List ByteArray) (ha : a.length ≤ 1048576) (hb : a.length = b.length) (k : Nat) (hk : 1048590 ≤ k) : slices_Equal_string_string.l0 k a b a.length 0 = some (A1 a b) :=
  seq_loop (fun k i => slices_Equal_string_string.l0 k a b a.length i) (SameS a b) a.length
    (by intro k; show slices_Equal_string_string.l0 (k + 1) a b _ _ = _; rw [slices_Equal_string_string.l0, if_neg (by omega)])
    (by
      intro k i hi
      show slices_Equal_string_string.l0 (k + 1) a b _ _ = _
      rw [slices_Equal_string_string.l0, if_pos (by omega), if_pos (by omega), if_pos (by omega), if_pos (by omega), wrap_up i (by omega)]
      rfl)
    k (by omega)
theorem im1 (l m : List S131) (hl : l.length ≤ 1048576) (hm : l.length = m.length) (k : Nat) (hk : 1048590 ≤ k) : impl_Put.l0 k l m l.length 0 = some (A2 l m) :=
  seq_loop (fun k i => impl_Put.l0 k l m l.length i) (fun i => ¬ neP (rd_T131 l i) (rd_T131 m i) = true) l.length
    (by intro k; show impl_Put.l0 (k + 1) l m _ _ = _; rw [impl_Put.l0, if_neg (by omega)])
    (by
      intro k i hi
      show impl_Put.l0 (k + 1) l m _ _ = _
      rw [impl_Put.l0, if_pos (by omega), if_pos (by omega), if_pos (by omega), if_pos (by omega), wrap_up i (by omega)]
      exact flip_ite (neP (rd_T131 l i) (rd_T131 m i) = true) _ _)
    k (by omega)
theorem disk (a : List ByteArray) (l : List S131) (x : Int) (y : Bool) (b : List ByteArray) (m : List S131) (z : Int) (w : Bool)
    (ha : (a.length : Int) ≤ 1048576) (ha2 : ∀ y ∈ a, (y.size : Int) ≤ 1048576) (hl : (l.length : Int) ≤ 1048576) (hl2 : ∀ y ∈ l, QS131 y) (hx : (Lit.int .i64 x).wf = true)
    (hb : (b.length : Int) ≤ 1048576) (hb2 : ∀ y ∈ b, (y.size : Int) ≤ 1048576) (hm : (m.length : Int) ≤ 1048576) (hm2 : ∀ y ∈ m, QS131 y) (hz : (Lit.int .i64 z).wf = true) :
    ∃ v, ∀ k, 8000000 ≤ k → spec_SameDisk.f k a l x y b m z w = some v ∧ impl_SameDisk.f k a l x y b m z w = some v := by
  by_cases h1 : a.length = b.length
  · have h1' : (a.length : Int) = (b.length : Int) := by omega
    by_cases h2 : l.length = m.length
    · have h2' : (l.length : Int) = (m.length : Int) := by omega
      refine ⟨decide (x = z) && (y == w) && (A1 a b && A2 l m), fun k hk => ?_⟩
      obtain ⟨k, rfl⟩ : ∃ z, k = z + 1 := ⟨k - 1, by omega⟩
      unfold spec_SameDisk.f impl_SameDisk.f impl_Put.f slices_Equal_string_string.f
      rw [if_pos h1', if_pos h2', if_pos h1', if_pos h2', im0 a b (by omega) h1 _ (by omega), im1 l m (by omega) h2 _ (by omega), spec_SameDisk.j0, spec_SameDisk.j0, sp0 a l x y b m z w (by omega) h1 (by omega) h2 _ (by omega)]
      simp only [Option.bind_some]
      generalize A1 a b = p
      generalize A2 l m = q
      by_cases h3 : x = z
      · simp only [h3, decide_true, if_true]
        cases p <;> cases q <;> cases y <;> cases w <;> exact ⟨rfl, rfl⟩
      · simp only [h3, decide_false, if_false]
        cases p <;> cases q <;> exact ⟨rfl, rfl⟩
    · have h2' : ¬ (l.length : Int) = (m.length : Int) := by omega
      refine ⟨false, fun k hk => ?_⟩
      obtain ⟨k, rfl⟩ : ∃ z, k = z + 1 := ⟨k - 1, by omega⟩
      unfold spec_SameDisk.f impl_SameDisk.f impl_Put.f slices_Equal_string_string.f
      rw [if_pos h1', if_neg h2', if_pos h1', if_neg h2', im0 a b (by omega) h1 _ (by omega), spec_SameDisk.j0]
      simp only [Option.bind_some]
      generalize A1 a b = p
      cases p <;> exact ⟨rfl, rfl⟩
  · have h1' : ¬ (a.length : Int) = (b.length : Int) := by omega
    refine ⟨false, fun k hk => ?_⟩
    obtain ⟨k, rfl⟩ : ∃ z, k = z + 1 := ⟨k - 1, by omega⟩
    unfold spec_SameDisk.f impl_SameDisk.f slices_Equal_string_string.f
    rw [if_neg h1', if_neg h1', spec_SameDisk.j0]
    exact ⟨rfl, rfl⟩

def neQ (x y : S119) : Bool := (!(x.f0 == y.f0) || (!(x.f1.toList == y.f1.toList)))
abbrev A3 (l m : List S119) : Bool := decide (∀ i, i < l.length → ¬ neQ (rd_T119 l i) (rd_T119 m i) = true)
theorem sp3 (l m : List S119) (hl : l.length ≤ 1048576) (hm : l.length = m.length) (k : Nat) (hk : 1048590 ≤ k) : spec_l12SamePages.l0 k l m 0 = some (A3 l m) :=
  seq_loop (fun k i => spec_l12SamePages.l0 k l m i) (fun i => ¬ neQ (rd_T119 l i) (rd_T119 m i) = true) l.length
    (by intro k; show spec_l12SamePages.l0 (k + 1) l m _ = _; rw [spec_l12SamePages.l0, if_neg (by omega)])
    (by
      intro k i hi
      show spec_l12SamePages.l0 (k + 1) l m _ = _
      rw [spec_l12SamePages.l0, if_pos (by omega), if_pos (by omega), if_pos (by omega), wrap_up i (by omega)]
      exact flip_ite (neQ (rd_T119 l i) (rd_T119 m i) = true) _ _)
    k (by omega)
theorem im3 (l m : List S119) (hl : l.length ≤ 1048576) (hm : l.length = m.length) (k : Nat) (hk : 1048590 ≤ k) : impl_Page.l0 k l m l.length 0 = some (A3 l m) :=
  seq_loop (fun k i => impl_Page.l0 k l m l.length i) (fun i => ¬ neQ (rd_T119 l i) (rd_T119 m i) = true) l.length
    (by intro k; show impl_Page.l0 (k + 1) l m _ _ = _; rw [impl_Page.l0, if_neg (by omega)])
    (by
      intro k i hi
      show impl_Page.l0 (k + 1) l m _ _ = _
      rw [impl_Page.l0, if_pos (by omega), if_pos (by omega), if_pos (by omega), if_pos (by omega), wrap_up i (by omega)]
      exact flip_ite (neQ (rd_T119 l i) (rd_T119 m i) = true) _ _)
    k (by omega)
theorem pages (l m : List S119) (hl : (l.length : Int) ≤ 1048576) : ∃ v, ∀ k, 8000000 ≤ k → spec_l12SamePages.f k l m = some v ∧ impl_Page.f k l m = some v := by
  unfold spec_l12SamePages.f impl_Page.f
  by_cases h : (l.length : Int) = (m.length : Int)
  · exact ⟨A3 l m, fun k hk => ⟨by rw [if_pos h]; exact sp3 l m (by omega) (by omega) k (by omega), by rw [if_pos h]; exact im3 l m (by omega) (by omega) k (by omega)⟩⟩
  · exact ⟨false, fun k hk => ⟨by rw [if_neg h], by rw [if_neg h]⟩⟩
theorem both (a : List ByteArray) (l : List S131) (x : Int) (y : Bool) (p4 p5 p6 p7 p8 p9 : Int) (u1 u2 : List S119) (b : List ByteArray) (m : List S131) (z : Int) (w : Bool) (q4 q5 q6 q7 q8 q9 : Int) (t1 t2 : List S119)
    (ha : (a.length : Int) ≤ 1048576) (ha2 : ∀ y ∈ a, (y.size : Int) ≤ 1048576) (hl : (l.length : Int) ≤ 1048576) (hl2 : ∀ y ∈ l, QS131 y) (hx : (Lit.int .i64 x).wf = true)
    (h4 : (Lit.int .i64 p4).wf = true) (h5 : (Lit.int .i64 p5).wf = true) (h6 : (Lit.int .i64 p6).wf = true) (h7 : (Lit.int .i64 p7).wf = true) (h8 : (Lit.int .i64 p8).wf = true) (h9 : (Lit.int .i64 p9).wf = true)
    (hu1 : (u1.length : Int) ≤ 1048576) (hu1q : ∀ y ∈ u1, QS119 y) (hu2 : (u2.length : Int) ≤ 1048576) (hu2q : ∀ y ∈ u2, QS119 y)
    (hb : (b.length : Int) ≤ 1048576) (hb2 : ∀ y ∈ b, (y.size : Int) ≤ 1048576) (hm : (m.length : Int) ≤ 1048576) (hm2 : ∀ y ∈ m, QS131 y) (hz : (Lit.int .i64 z).wf = true)
    (g4 : (Lit.int .i64 q4).wf = true) (g5 : (Lit.int .i64 q5).wf = true) (g6 : (Lit.int .i64 q6).wf = true) (g7 : (Lit.int .i64 q7).wf = true) (g8 : (Lit.int .i64 q8).wf = true) (g9 : (Lit.int .i64 q9).wf = true)
    (ht1 : (t1.length : Int) ≤ 1048576) (ht1q : ∀ y ∈ t1, QS119 y) (ht2 : (t2.length : Int) ≤ 1048576) (ht2q : ∀ y ∈ t2, QS119 y) :
    ∃ v, ∀ k, 8000000 ≤ k → spec_SamePager.f k a l x y p4 p5 p6 p7 p8 p9 u1 u2 b m z w q4 q5 q6 q7 q8 q9 t1 t2 = some v ∧ impl_SamePager.f k a l x y p4 p5 p6 p7 p8 p9 u1 u2 b m z w q4 q5 q6 q7 q8 q9 t1 t2 = some v := by
  obtain ⟨d, hd⟩ := disk a l x y b m z w ha ha2 hl hl2 hx hb hb2 hm hm2 hz
  obtain ⟨e1, he1⟩ := pages u1 t1 hu1
  obtain ⟨e2, he2⟩ := pages u2 t2 hu2
  refine ⟨if d = true then (if (p4 == q4 && (p5 == q5 && (p6 == q6 && (p7 == q7)))) = true then (if p8 = q8 then (if p9 = q9 then (if e1 = true then e2 else false) else false) else false) else false) else false, fun k hk => ?_⟩
  unfold spec_SamePager.f impl_SamePager.f
  rw [(hd k hk).1, (hd k hk).2, (he1 k hk).1, (he1 k hk).2, (he2 k hk).1, (he2 k hk).2]
  simp only [Option.bind_some, apply_ite some, and_self]
theorem FnExactSamePager : laws_FnExactSamePager.Pure := by
  intro l0_0 l0_1 a0_2 a0_3 a0_4 a0_5 a0_6 a0_7 a0_8 a0_9 l0_10 l0_11 l1_0 l1_1 a1_2 a1_3 a1_4 a1_5 a1_6 a1_7 a1_8 a1_9 l1_10 l1_11 o_l0_0 o_l0_1 o_a0_2 o_a0_4 o_a0_5 o_a0_6 o_a0_7 o_a0_8 o_a0_9 o_l0_10 o_l0_11 o_l1_0 o_l1_1 o_a1_2 o_a1_4 o_a1_5 o_a1_6 o_a1_7 o_a1_8 o_a1_9 o_l1_10 o_l1_11
  refine ⟨17000000, ?_⟩
  obtain ⟨t1, e1, h1⟩ := g_szPager 17000000 l0_0 l0_1 a0_2 a0_3 a0_4 a0_5 a0_6 a0_7 a0_8 a0_9 l0_10 l0_11 1048576 (by omega) (by omega) (by omega) o_l0_0 o_l0_1 o_l0_10 o_l0_11
  rcases h1 with h1 | ⟨h1, m1, q_l0_0_0, q_l0_0_1, q_l0_1_0, q_l0_1_1, q_l0_10_0, q_l0_10_1, q_l0_11_0, q_l0_11_1⟩
  · simp only [laws_FnExactSamePager.f, laws_FnExactSamePager.j0, laws_FnExactSamePager.j1, laws_FnExactSamePager.j2, laws_FnExactSamePager.j3, laws_FnExactSamePager.j4, laws_FnExactSamePager.j5, e1, Option.bind_some, if_pos h1]
  have n1 : ¬ t1 < 0 := by omega
  obtain ⟨t2, e2, h2⟩ := g_szPager 16999999 l1_0 l1_1 a1_2 a1_3 a1_4 a1_5 a1_6 a1_7 a1_8 a1_9 l1_10 l1_11 t1 (by omega) (by omega) (by omega) o_l1_0 o_l1_1 o_l1_10 o_l1_11
  rcases h2 with h2 | ⟨h2, m2, q_l1_0_0, q_l1_0_1, q_l1_1_0, q_l1_1_1, q_l1_10_0, q_l1_10_1, q_l1_11_0, q_l1_11_1⟩
  · simp only [laws_FnExactSamePager.f, laws_FnExactSamePager.j0, laws_FnExactSamePager.j1, laws_FnExactSamePager.j2, laws_FnExactSamePager.j3, laws_FnExactSamePager.j4, laws_FnExactSamePager.j5, e1, e2, if_neg n1, Option.bind_some, if_pos h2]
  have n2 : ¬ t2 < 0 := by omega
  have T1 := fun k (hk : 16000000 ≤ k) => g_toPager k l0_0 l0_1 a0_2 a0_3 a0_4 a0_5 a0_6 a0_7 a0_8 a0_9 l0_10 l0_11 (by omega) q_l0_0_0 q_l0_0_1 q_l0_1_0 q_l0_1_1 q_l0_10_0 q_l0_10_1 q_l0_11_0 q_l0_11_1
  have cl_l0_1 : (((l0_1.map cS166)).length : Int) ≤ 1048576 := by rw [List.length_map]; exact q_l0_1_0
  have cq_l0_1 := qmS166 l0_1 q_l0_1_1
  have cl_l0_10 : (((l0_10.map cS140)).length : Int) ≤ 1048576 := by rw [List.length_map]; exact q_l0_10_0
  have cq_l0_10 := qmS140 l0_10 q_l0_10_1
  have cl_l0_11 : (((l0_11.map cS140)).length : Int) ≤ 1048576 := by rw [List.length_map]; exact q_l0_11_0
  have cq_l0_11 := qmS140 l0_11 q_l0_11_1
  have E1 := fun k (hk : 16000000 ≤ k) => g_eqPager k l0_0 (l0_1.map cS166) a0_2 a0_3 a0_4 a0_5 a0_6 a0_7 a0_8 a0_9 (l0_10.map cS140) (l0_11.map cS140) (by omega) q_l0_0_0 q_l0_0_1 cl_l0_1 cq_l0_1 cl_l0_10 cq_l0_10 cl_l0_11 cq_l0_11
  have T2 := fun k (hk : 16000000 ≤ k) => g_toPager k l1_0 l1_1 a1_2 a1_3 a1_4 a1_5 a1_6 a1_7 a1_8 a1_9 l1_10 l1_11 (by omega) q_l1_0_0 q_l1_0_1 q_l1_1_0 q_l1_1_1 q_l1_10_0 q_l1_10_1 q_l1_11_0 q_l1_11_1
  have cl_l1_1 : (((l1_1.map cS166)).length : Int) ≤ 1048576 := by rw [List.length_map]; exact q_l1_1_0
  have cq_l1_1 := qmS166 l1_1 q_l1_1_1
  have cl_l1_10 : (((l1_10.map cS140)).length : Int) ≤ 1048576 := by rw [List.length_map]; exact q_l1_10_0
  have cq_l1_10 := qmS140 l1_10 q_l1_10_1
  have cl_l1_11 : (((l1_11.map cS140)).length : Int) ≤ 1048576 := by rw [List.length_map]; exact q_l1_11_0
  have cq_l1_11 := qmS140 l1_11 q_l1_11_1
  have E2 := fun k (hk : 16000000 ≤ k) => g_eqPager k l1_0 (l1_1.map cS166) a1_2 a1_3 a1_4 a1_5 a1_6 a1_7 a1_8 a1_9 (l1_10.map cS140) (l1_11.map cS140) (by omega) q_l1_0_0 q_l1_0_1 cl_l1_1 cq_l1_1 cl_l1_10 cq_l1_10 cl_l1_11 cq_l1_11
  obtain ⟨v, hv⟩ := both l0_0 (l0_1.map cS166) a0_2 a0_3 a0_4 a0_5 a0_6 a0_7 a0_8 a0_9 (l0_10.map cS140) (l0_11.map cS140) l1_0 (l1_1.map cS166) a1_2 a1_3 a1_4 a1_5 a1_6 a1_7 a1_8 a1_9 (l1_10.map cS140) (l1_11.map cS140) q_l0_0_0 q_l0_0_1 cl_l0_1 cq_l0_1 o_a0_2 o_a0_4 o_a0_5 o_a0_6 o_a0_7 o_a0_8 o_a0_9 cl_l0_10 cq_l0_10 cl_l0_11 cq_l0_11 q_l1_0_0 q_l1_0_1 cl_l1_1 cq_l1_1 o_a1_2 o_a1_4 o_a1_5 o_a1_6 o_a1_7 o_a1_8 o_a1_9 cl_l1_10 cq_l1_10 cl_l1_11 cq_l1_11
  have HS := fun k (hk : 16000000 ≤ k) => (hv k (by omega)).1
  have HI := fun k (hk : 16000000 ≤ k) => (hv k (by omega)).2
  simp (disch := omega) only [laws_FnExactSamePager.f, laws_FnExactSamePager.j0, laws_FnExactSamePager.j1, laws_FnExactSamePager.j2, laws_FnExactSamePager.j3, laws_FnExactSamePager.j4, laws_FnExactSamePager.j5, e1, e2, if_neg n1, if_neg n2, T1, E1, T2, E2, HS, HI, Option.bind_some, bne_self_eq_false, Bool.false_eq_true, if_false, if_true, reduceIte]

end Go.Proofs.Ytehldidejgpifaa.Pure
