/- The plain form of FnExactInBoxes: for all arguments the answer is true. It holds without a condition. -/
import Derived.Test.YtngjbdijimapnaaPFnExactInBoxesx7
import Derived.OpenShut
namespace Go.Proofs.Ytngjbdijimapnaa.Pure
open Go Go.RowKit Go.Proofs.Ytngjbdijimapnaa.PFnExactInBoxes Go.Proofs.YtngjbdijimapnaaW.PrintWords Go.Proofs.YtngjbdijimapnaaW.PrintLast Go.Proofs.YtngjbdijimapnaaW.PrintMore
set_option linter.unusedVariables false
set_option linter.unusedSimpArgs false

theorem wf64 {a : Int} (h : (Lit.int .i64 a).wf = true) : -9223372036854775808 ≤ a ∧ a ≤ 9223372036854775807 := Go.bounds_i64 h
theorem wrap64_id {a : Int} (h : -9223372036854775808 ≤ a) (h' : a ≤ 9223372036854775807) : wrap64 a = a := by unfold wrap64; omega
theorem count_loop {σ ρ : Type} (L : Nat → σ → Int → Option ρ) (n m : Nat) (I : Nat → σ → Prop) (R : ρ → Prop)
    (hstop : ∀ k s, m ≤ k → I n s → ∃ r, L (k + 1) s (n : Int) = some r ∧ R r)
    (hstep : ∀ k s (i : Nat), m ≤ k → i < n → I i s → (∃ s', I (i + 1) s' ∧ L (k + 1) s (i : Int) = L k s' ((i + 1 : Nat) : Int)) ∨ ∃ r, L (k + 1) s (i : Int) = some r ∧ R r)
    (k : Nat) (s : σ) (i : Nat) (hi : i ≤ n) (hk : n - i + m < k) (h : I i s) : ∃ r, L k s (i : Int) = some r ∧ R r := by
  obtain ⟨d, hd⟩ : ∃ d, d = n - i := ⟨_, rfl⟩
  induction d generalizing k s i with
  | zero =>
    obtain ⟨k, rfl⟩ : ∃ z, k = z + 1 := ⟨k - 1, by omega⟩
    obtain rfl : i = n := by omega
    exact hstop k s (by omega) h
  | succ d ih =>
    obtain ⟨k, rfl⟩ : ∃ z, k = z + 1 := ⟨k - 1, by omega⟩
    rcases hstep k s i (by omega) (by omega) h with ⟨s', h', e⟩ | h'
    · rw [e]; exact ih k s' (i + 1) (by omega) (by omega) h' (by omega)
    · exact h'
theorem w0 : wrap64 0 = 0 := by unfold wrap64; omega
theorem w1 : wrap64 1 = 1 := by unfold wrap64; omega
theorem w2 : wrap64 2 = 2 := by unfold wrap64; omega
theorem w3 : wrap64 3 = 3 := by unfold wrap64; omega
theorem rd_lt (l : List Int) (i : Nat) (h : i < l.length) : rd l (i : Int) = l[i] := by
  simp [rd, List.getD_eq_getElem?_getD, List.getElem?_eq_getElem h]
theorem rds_lt (l : List ByteArray) (i : Nat) (h : i < l.length) : rdOf ByteArray.empty l (i : Int) = l[i] := by
  simp [rdOf, List.getD_eq_getElem?_getD, List.getElem?_eq_getElem h]
theorem wrap_up (i : Nat) (h : i < 1099511627776) : wrap64 ((i : Int) + 1) = ((i + 1 : Nat) : Int) := by unfold wrap64; omega
theorem set_next {α : Type} (l out : List α) (i : Nat) (h : i < l.length) (hl : out.length = l.length) (hp : out.take i = l.take i) : (out.set i l[i]).take (i + 1) = l.take (i + 1) := by
  apply List.ext_getElem?
  intro j
  by_cases hj : j < i + 1
  · rw [List.getElem?_take_of_lt hj, List.getElem?_take_of_lt hj]
    by_cases hji : j = i
    · subst hji; rw [List.getElem?_set_self (by omega), List.getElem?_eq_getElem h]
    · rw [List.getElem?_set_ne (by omega)]
      have := congrArg (fun z => z[j]?) hp
      simpa [List.getElem?_take_of_lt (show j < i by omega)] using this
  · rw [List.getElem?_eq_none (by simp; omega), List.getElem?_eq_none (by simp; omega)]
theorem take_all {α : Type} (l out : List α) (hl : out.length = l.length) (hp : out.take l.length = l.take l.length) : out = l := by
  rwa [List.take_of_length_le (by omega), List.take_length] at hp
theorem g_szloop {α : Type} (L : Nat → List α → Int → Int → Option Int) (E : Nat → α → Int → Option Int) (z : α) (m : Nat) (Q : α → Prop) (l : List α)
    (hL : ∀ k a i, L (k + 1) l a i = if i < (l.length : Int) then (if 0 ≤ i then ((E k (l.getD i.toNat z) a).bind fun t => if t < 0 then some (-1) else L k l t (wrap64 (i + 1))) else none) else some a)
    (hE : ∀ k x a, x ∈ l → 0 ≤ a → a ≤ 1048576 → m ≤ k → ∃ t, E k x a = some t ∧ (t < 0 ∨ (0 ≤ t ∧ t ≤ a ∧ Q x)))
    (hl : l.length ≤ 1048576) (k : Nat) (a : Int) (h0 : 0 ≤ a) (h1 : a ≤ 1048576) (hk : m + 1048580 < k) :
    ∃ t, L k l a 0 = some t ∧ (t < 0 ∨ (0 ≤ t ∧ t ≤ a ∧ ∀ x ∈ l, Q x)) := by
  exact count_loop (fun k s i => L k l s i) l.length m (fun i s => 0 ≤ s ∧ s ≤ a ∧ ∀ x ∈ l.take i, Q x) (fun t => t < 0 ∨ (0 ≤ t ∧ t ≤ a ∧ ∀ x ∈ l, Q x))
    (by
      rintro k s - ⟨h1, h2, h3⟩
      rw [List.take_length] at h3
      exact ⟨s, by show L (k + 1) l s _ = _; rw [hL, if_neg (by omega)], .inr ⟨h1, h2, h3⟩⟩)
    (by
      rintro k s i hm hi ⟨h1, h2, h3⟩
      have hg : l.getD (i : Int).toNat z = l[i] := by simp [List.getD_eq_getElem?_getD, List.getElem?_eq_getElem hi]
      obtain ⟨t, e, ht⟩ := hE k l[i] s (List.getElem_mem hi) h1 (by omega) hm
      rcases ht with ht | ⟨q1, q2, q3⟩
      · refine .inr ⟨-1, ?_, .inl (by omega)⟩
        show L (k + 1) l s _ = _
        rw [hL, if_pos (by omega), if_pos (by omega), hg, e]
        simp only [Option.bind_some]
        rw [if_pos ht]
      · refine .inl ⟨t, ⟨q1, by omega, ?_⟩, ?_⟩
        · intro x hx'
          rw [List.take_succ_eq_append_getElem hi, List.mem_append] at hx'
          rcases hx' with hx' | hx'
          · exact h3 x hx'
          · simp at hx'; subst hx'; exact q3
        · show L (k + 1) l s _ = _
          rw [hL, if_pos (by omega), if_pos (by omega), hg, e]
          simp only [Option.bind_some]
          rw [if_neg (by omega), wrap_up i (by omega)])
    k a 0 (by omega) (by omega) ⟨h0, by omega, by simp⟩
theorem g_toloop {α β γ : Type} (L : Nat → List α → List β → Int → Option (List β)) (E : Nat → α → Option γ) (mk : γ → β) (z : α) (c : α → β) (m : Nat) (l : List α)
    (hL : ∀ k s i, L (k + 1) l s i = if i < (l.length : Int) then (if 0 ≤ i then ((E k (l.getD i.toNat z)).bind fun b => (if i < (s.length : Int) then L k l (s.set i.toNat (mk b)) (wrap64 (i + 1)) else none)) else none) else some s)
    (hE : ∀ k x, x ∈ l → m ≤ k → ∃ b, E k x = some b ∧ mk b = c x)
    (hl : l.length ≤ 1048576) (k : Nat) (s : List β) (hs : s.length = l.length) (hk : m + 1048580 < k) : L k l s 0 = some (l.map c) := by
  obtain ⟨r, h, rfl⟩ := count_loop (fun k s i => L k l s i) l.length m (fun i s => s.length = (l.map c).length ∧ s.take i = (l.map c).take i) (fun r => r = l.map c)
    (by
      rintro k s - ⟨h1, h2⟩
      exact ⟨s, by show L (k + 1) l s _ = _; rw [hL, if_neg (by omega)], take_all (l.map c) s h1 (by rw [List.length_map]; exact h2)⟩)
    (by
      rintro k s i hm hi ⟨h1, h2⟩
      have hg : l.getD (i : Int).toNat z = l[i] := by simp [List.getD_eq_getElem?_getD, List.getElem?_eq_getElem hi]
      have hi' : i < (l.map c).length := by simpa using hi
      obtain ⟨b, e, hb⟩ := hE k l[i] (List.getElem_mem hi) hm
      have hb' : mk b = (l.map c)[i] := by rw [hb, List.getElem_map]
      refine .inl ⟨s.set i (l.map c)[i], ⟨by simpa using h1, set_next (l.map c) s i hi' h1 h2⟩, ?_⟩
      show L (k + 1) l s _ = _
      rw [hL, if_pos (by omega), if_pos (by omega), hg, e]
      simp only [Option.bind_some]
      rw [if_pos (by rw [h1]; simp; omega), wrap_up i (by omega), hb']
      rfl)
    k s 0 (by omega) (by omega) ⟨by simpa using hs, by simp⟩
  exact h
theorem g_eqloop {α : Type} (L : Nat → List α → List α → Int → Option Bool) (E : Nat → α → Option Bool) (z : α) (m : Nat) (l : List α)
    (hL : ∀ k i, L (k + 1) l l i = if i < (l.length : Int) then (if 0 ≤ i then (if i < (l.length : Int) then ((E k (l.getD i.toNat z)).bind fun t => (if t = true then L k l l (wrap64 (i + 1)) else some false)) else none) else none) else some true)
    (hE : ∀ k x, x ∈ l → m ≤ k → E k x = some true)
    (hl : l.length ≤ 1048576) (k : Nat) (hk : m + 1048580 < k) : L k l l 0 = some true := by
  obtain ⟨r, h, rfl⟩ := count_loop (fun k (_ : Unit) i => L k l l i) l.length m (fun _ _ => True) (fun r => r = true)
    (by
      rintro k s - -
      exact ⟨true, by show L (k + 1) l l _ = _; rw [hL, if_neg (by omega)], rfl⟩)
    (by
      rintro k s i hm hi -
      have hg : l.getD (i : Int).toNat z = l[i] := by simp [List.getD_eq_getElem?_getD, List.getElem?_eq_getElem hi]
      refine .inl ⟨(), trivial, ?_⟩
      show L (k + 1) l l _ = _
      rw [hL, if_pos (by omega), if_pos (by omega), if_pos (by omega), hg, hE k _ (List.getElem_mem hi) hm]
      simp only [Option.bind_some]
      rw [if_pos trivial, wrap_up i (by omega)])
    k () 0 (by omega) (by omega) trivial
  exact h
theorem g_szInt64S (k : Nat) (l0 : List Int) (a : Int) (h0 : 0 ≤ a) (h1 : a ≤ 1048576) (hk : 0 ≤ k) (o_l0 : l0.length ≤ maxLen ∧ ∀ x_ ∈ l0, (Lit.int .i64 x_).wf = true) : ∃ t, laws_szInt64S.f l0 a = some t ∧ (t < 0 ∨ (0 ≤ t ∧ t ≤ a ∧ (l0.length : Int) ≤ 1048576)) := by
  have p_l0 := o_l0.1
  unfold maxLen at p_l0
  unfold laws_szInt64S.f
  rw [wrap64_id (a := a - (l0.length : Int)) (by omega) (by omega)]
  by_cases c0 : a - (l0.length : Int) < 0
  · exact ⟨-1, by rw [if_pos c0], .inl (by omega)⟩
  rw [if_neg c0]
  exact ⟨_, rfl, .inr ⟨by omega, by omega, by omega⟩⟩
theorem g_szBox (k : Nat) (l0_0 : List Int) (l0_1 : List Int) (a : Int) (h0 : 0 ≤ a) (h1 : a ≤ 1048576) (hk : 0 ≤ k) (o_l0_0 : l0_0.length ≤ maxLen ∧ ∀ x_ ∈ l0_0, (Lit.int .i64 x_).wf = true) (o_l0_1 : l0_1.length ≤ maxLen ∧ ∀ x_ ∈ l0_1, (Lit.int .i64 x_).wf = true) : ∃ t, laws_szBox.f l0_0 l0_1 a = some t ∧ (t < 0 ∨ (0 ≤ t ∧ t ≤ a ∧ (l0_0.length : Int) ≤ 1048576 ∧ (l0_1.length : Int) ≤ 1048576)) := by
  have p_l0_0 := o_l0_0.1
  unfold maxLen at p_l0_0
  have p_l0_1 := o_l0_1.1
  unfold maxLen at p_l0_1
  unfold laws_szBox.f
  obtain ⟨t0, e0, q0⟩ := g_szInt64S k l0_0 a (by omega) (by omega) (by omega) o_l0_0
  rw [e0]
  simp only [Option.bind_some]
  rcases q0 with q0 | ⟨r0, s0, q0_l0_0_0⟩
  · exact ⟨-1, by rw [if_pos q0], .inl (by omega)⟩
  rw [if_neg (show ¬ t0 < 0 by omega)]
  obtain ⟨t1, e1, q1⟩ := g_szInt64S k l0_1 t0 (by omega) (by omega) (by omega) o_l0_1
  rw [e1]
  simp only [Option.bind_some]
  rcases q1 with q1 | ⟨r1, s1, q1_l0_1_0⟩
  · exact ⟨-1, by rw [if_pos q1], .inl (by omega)⟩
  rw [if_neg (show ¬ t1 < 0 by omega)]
  exact ⟨_, rfl, .inr ⟨by omega, by omega, q0_l0_0_0, q1_l0_1_0⟩⟩
def QS68 (x : S68) : Prop := (x.f0.length : Int) ≤ 1048576 ∧ (x.f1.length : Int) ≤ 1048576
theorem g_szBoxS (k : Nat) (l : List (S68)) (a : Int) (h0 : 0 ≤ a) (h1 : a ≤ 1048576) (hk : 1048590 ≤ k) (o : l.length ≤ maxLen ∧ ∀ x_ ∈ l, okS68 x_) : ∃ t, laws_szBoxS.f k l a = some t ∧ (t < 0 ∨ (0 ≤ t ∧ t ≤ a ∧ (l.length : Int) ≤ 1048576 ∧ (∀ y ∈ l, QS68 y))) := by
  have ol := o.1
  unfold maxLen at ol
  unfold laws_szBoxS.f
  rw [wrap64_id (by omega) (by omega)]
  by_cases h : a - (l.length : Int) < 0
  · exact ⟨-1, by rw [if_pos h], .inl (by omega)⟩
  rw [if_neg h]
  obtain ⟨t, e, q⟩ := g_szloop laws_szBoxS.l0 (fun k x a => laws_szBox.f x.f0 x.f1 a) z68 0 (QS68) l
    (by intro k a i; rw [laws_szBoxS.l0]; rfl)
    (by intro k x a hx h0 h1 hm; obtain ⟨o0, o1⟩ := o.2 x hx; exact g_szBox k x.f0 x.f1 a h0 h1 hm o0 o1)
    (by omega) k (a - (l.length : Int)) (by omega) (by omega) (by omega)
  rcases q with q | ⟨q1, q2, q3⟩
  · exact ⟨t, e, .inl q⟩
  · exact ⟨t, e, .inr ⟨q1, by omega, by omega, q3⟩⟩
theorem g_toInt64S (k : Nat) (l : List Int) (hk : 1048590 ≤ k) (o1 : (l.length : Int) ≤ 1048576) : laws_toInt64S.f k l = some l := by
  unfold laws_toInt64S.f
  rw [if_pos (by omega), if_pos (by omega)]
  have h := g_toloop laws_toInt64S.l0 (fun _ (x : Int) => some x) (fun b => b) (0 : Int) id 0 l (by intro k s i; rw [laws_toInt64S.l0]; rfl)
    (by intro k x hx hm; exact ⟨_, rfl, rfl⟩)
    (by omega) k (List.replicate ((l.length : Int) : Int).toNat 0) (by simp) (by omega)
  rwa [List.map_id] at h
theorem g_toBox (k : Nat) (l0_0 : List Int) (l0_1 : List Int) (hk : 1048590 ≤ k) (o_l0_0_0 : (l0_0.length : Int) ≤ 1048576) (o_l0_1_0 : (l0_1.length : Int) ≤ 1048576) : laws_toBox.f k l0_0 l0_1 = some (l0_0, l0_1) := by
  unfold laws_toBox.f
  rw [g_toInt64S k l0_0 (by omega) o_l0_0_0]
  simp only [Option.bind_some]
  rw [g_toInt64S k l0_1 (by omega) o_l0_1_0]
  simp only [Option.bind_some]
def QS41 (x : S41) : Prop := (x.f0.length : Int) ≤ 1048576 ∧ (x.f1.length : Int) ≤ 1048576
def cS68 (x : S68) : S41 := ⟨x.f0, x.f1⟩
theorem qcS68 (x : S68) (h : QS68 x) : QS41 (cS68 x) := h
theorem qmS68 (l : List S68) (h : ∀ y ∈ l, QS68 y) : ∀ y ∈ l.map cS68, QS41 y := by
  intro y hy
  obtain ⟨x, hx, rfl⟩ := List.mem_map.1 hy
  exact qcS68 x (h x hx)
theorem g_toBoxS (k : Nat) (l : List (S68)) (hk : 2097180 ≤ k) (o1 : (l.length : Int) ≤ 1048576) (o2 : (∀ y ∈ l, QS68 y)) : laws_toBoxS.f k l = some (l.map cS68) := by
  unfold laws_toBoxS.f
  rw [if_pos (by omega), if_pos (by omega)]
  have h := g_toloop laws_toBoxS.l0 (fun k (x : S68) => laws_toBox.f k x.f0 x.f1) (fun b => (⟨b.1, b.2⟩ : S41)) z68 cS68 1048590 l (by intro k s i; rw [laws_toBoxS.l0]; rfl)
    (by intro k x hx hm; obtain ⟨q0_0, q1_0⟩ := o2 x hx; exact ⟨_, g_toBox k x.f0 x.f1 hm q0_0 q1_0, rfl⟩)
    (by omega) k (List.replicate ((l.length : Int) : Int).toNat z41) (by simp) (by omega)
  exact h
theorem g_eqInt64S (k : Nat) (l : List Int) (hk : 1048590 ≤ k) (o1 : (l.length : Int) ≤ 1048576) : laws_eqInt64S.f k l l = some true := by
  unfold laws_eqInt64S.f
  rw [if_pos rfl]
  exact g_eqloop laws_eqInt64S.l0 (fun _ (x : Int) => some true) (0 : Int) 0 l (by intro k i; rw [laws_eqInt64S.l0]; simp only [Option.bind_some, bne_self_eq_false, Bool.false_eq_true, if_false, if_true, reduceIte]) (by intro k x hx hm; rfl) (by omega) k (by omega)
theorem g_eqBox (k : Nat) (l0_0 : List Int) (l0_1 : List Int) (hk : 1048590 ≤ k) (o_l0_0_0 : (l0_0.length : Int) ≤ 1048576) (o_l0_1_0 : (l0_1.length : Int) ≤ 1048576) : laws_eqBox.f k l0_0 l0_1 l0_0 l0_1 = some true := by
  unfold laws_eqBox.f
  simp only [g_eqInt64S k l0_0 (by omega) o_l0_0_0, g_eqInt64S k l0_1 (by omega) o_l0_1_0, Option.bind_some, bne_self_eq_false, Bool.false_eq_true, if_false, if_true, reduceIte]
theorem g_eqBoxS (k : Nat) (l : List (S41)) (hk : 2097180 ≤ k) (o1 : (l.length : Int) ≤ 1048576) (o2 : (∀ y ∈ l, QS41 y)) : laws_eqBoxS.f k l l = some true := by
  unfold laws_eqBoxS.f
  rw [if_pos rfl]
  exact g_eqloop laws_eqBoxS.l0 (fun k (x : S41) => laws_eqBox.f k x.f0 x.f1 x.f0 x.f1) z41 1048590 l (by intro k i; rw [laws_eqBoxS.l0]; rfl) (by intro k x hx hm; obtain ⟨q0_0, q1_0⟩ := o2 x hx; exact g_eqBox k x.f0 x.f1 hm q0_0 q1_0) (by omega) k (by omega)
theorem all_loop (L : Nat → Int → Option Bool) (P : Nat → Prop) [DecidablePred P] (n m : Nat) (r : Bool)
    (hend : ∀ k, m ≤ k → L (k + 1) (n : Int) = some r) (hstep : ∀ k (i : Nat), m ≤ k → i < n → L (k + 1) (i : Int) = if P i then L k ((i + 1 : Nat) : Int) else some false) (k : Nat) (hk : n + m < k) :
    L k 0 = some (decide (∀ i, i < n → P i) && r) := by
  obtain ⟨s, h, rfl⟩ := count_loop (fun k (_ : Unit) i => L k i) n m (fun i _ => ∀ j, j < i → P j) (fun s => s = (decide (∀ i, i < n → P i) && r))
    (by
      rintro k s hm h
      exact ⟨r, hend k hm, by simp [decide_eq_true h]⟩)
    (by
      rintro k s i hm hi h
      by_cases hp : P i
      · refine .inl ⟨(), ?_, by show L (k + 1) _ = _; rw [hstep k i hm hi, if_pos hp]⟩
        intro j hj
        by_cases hji : j = i
        · subst hji; exact hp
        · exact h j (by omega)
      · refine .inr ⟨false, by show L (k + 1) _ = _; rw [hstep k i hm hi, if_neg hp], ?_⟩
        have : ¬ ∀ i, i < n → P i := fun h => hp (h i hi)
        simp [this])
    k () 0 (by omega) (by omega) (by simp)
  exact h
def look (P : Nat → Prop) [DecidablePred P] : Nat → Nat → Int
  | 0, _ => -1
  | d + 1, i => if P i then (i : Int) else look P d (i + 1)
theorem look_or (P : Nat → Prop) [DecidablePred P] (d : Nat) : ∀ i, (look P d i = -1 ∧ ∀ j, i ≤ j → j < i + d → ¬ P j) ∨ ∃ j, i ≤ j ∧ j < i + d ∧ look P d i = (j : Int) ∧ P j := by
  induction d with
  | zero => intro i; exact .inl ⟨rfl, fun j h1 h2 => by omega⟩
  | succ d ih =>
    intro i
    by_cases hp : P i
    · exact .inr ⟨i, by omega, by omega, by rw [look, if_pos hp], hp⟩
    · rw [look, if_neg hp]
      rcases ih (i + 1) with ⟨h1, h2⟩ | ⟨j, h1, h2, h3, h4⟩
      · refine .inl ⟨h1, fun j h3 h4 => ?_⟩
        by_cases hji : j = i
        · subst hji; exact hp
        · exact h2 j (by omega) (by omega)
      · exact .inr ⟨j, by omega, by omega, h3, h4⟩
theorem find_loop (L : Nat → Int → Option Int) (P : Nat → Prop) [DecidablePred P] (n m : Nat)
    (hend : ∀ k, m ≤ k → L (k + 1) (n : Int) = some (-1)) (hstep : ∀ k (i : Nat), m ≤ k → i < n → L (k + 1) (i : Int) = if P i then some (i : Int) else L k ((i + 1 : Nat) : Int)) (k : Nat) (hk : n + m < k) :
    L k 0 = some (look P n 0) := by
  have key : ∀ d k i, i + d = n → d + m < k → L k (i : Int) = some (look P d i) := by
    intro d
    induction d with
    | zero =>
      intro k i hi hk
      obtain ⟨k, rfl⟩ : ∃ z, k = z + 1 := ⟨k - 1, by omega⟩
      obtain rfl : i = n := by omega
      exact hend k (by omega)
    | succ d ih =>
      intro k i hi hk
      obtain ⟨k, rfl⟩ : ∃ z, k = z + 1 := ⟨k - 1, by omega⟩
      rw [hstep k i (by omega) (by omega), look]
      by_cases hp : P i
      · rw [if_pos hp, if_pos hp]
      · rw [if_neg hp, if_neg hp]; exact ih k (i + 1) (by omega) (by omega)
  exact key n k 0 (by omega) (by omega)
theorem getD_lt {α : Type} (l : List α) (z : α) (i : Nat) (h : i < l.length) : l.getD (i : Int).toNat z = l[i] := by
  simp [List.getD_eq_getElem?_getD, List.getElem?_eq_getElem h]
theorem flip_ite {α : Type} (c : Prop) [Decidable c] (a b : α) : (if c then b else a) = if ¬ c then a else b := by
  by_cases h : c
  · rw [if_pos h, if_neg (fun h2 => h2 h)]
  · rw [if_neg h, if_pos h]
theorem seq_loop (L : Nat → Int → Option Bool) (P : Nat → Prop) [DecidablePred P] (n : Nat)
    (hend : ∀ k, L (k + 1) (n : Int) = some true) (hstep : ∀ k (i : Nat), i < n → L (k + 1) (i : Int) = if P i then L k ((i + 1 : Nat) : Int) else some false) (k : Nat) (hk : n < k) :
    L k 0 = some (decide (∀ i, i < n → P i)) := by
  rw [all_loop L P n 0 true (fun k _ => hend k) (fun k i _ hi => hstep k i hi) k (by omega), Bool.and_true]
theorem any_loop (L : Nat → Int → Option Bool) (P : Nat → Prop) [DecidablePred P] (n m : Nat)
    (hend : ∀ k, m ≤ k → L (k + 1) (n : Int) = some false) (hstep : ∀ k (i : Nat), m ≤ k → i < n → L (k + 1) (i : Int) = if P i then some true else L k ((i + 1 : Nat) : Int)) (k : Nat) (hk : n + m < k) :
    L k 0 = some (!decide (∀ i, i < n → ¬ P i)) := by
  have h := all_loop (fun k i => (L k i).map (fun b => !b)) (fun i => ¬ P i) n m true
    (by intro k hk; show (L (k + 1) n).map _ = _; rw [hend k hk]; rfl)
    (by
      intro k i hk hi
      show (L (k + 1) i).map _ = _
      rw [hstep k i hk hi]
      by_cases h : P i
      · rw [if_pos h, if_neg (fun h2 => h2 h)]; rfl
      · rw [if_neg h, if_pos h])
    k hk
  rw [Bool.and_true] at h
  have h' : (L k 0).map (fun b => !b) = some (decide (∀ i, i < n → ¬ P i)) := h
  cases hL : L k 0 with
  | none => rw [hL] at h'; cases h'
  | some b =>
    rw [hL] at h'
    have h2 : (!b) = decide (∀ i, i < n → ¬ P i) := Option.some.inj h'
    rw [← h2, Bool.not_not]
theorem in_eq (a b c : Int) : spec_l00In.f a b c = some (decide (b ≤ a ∧ a ≤ c)) := by
  unfold spec_l00In.f
  by_cases h : a ≥ b
  · rw [if_pos h]
    by_cases h2 : a ≤ c <;> simp [h2] <;> omega
  · rw [if_neg h]; simp; omega
def BoxAt (a b : List Int) (i : Nat) : Prop := 0 ≤ rd a i ∧ rd a i < rd b i ∧ rd b i ≤ 40
instance (a b : List Int) (i : Nat) : Decidable (BoxAt a b i) := by unfold BoxAt; infer_instance
def VBox (a b : List Int) : Prop := a.length ≤ 3 ∧ b.length = a.length ∧ ∀ i, i < a.length → BoxAt a b i
instance (a b : List Int) : Decidable (VBox a b) := by unfold VBox; infer_instance
theorem all_step {P : Nat → Prop} {i : Nat} (h : ∀ j, j < i → P j) (hi : P i) : ∀ j, j < i + 1 → P j := fun j hj => by
  by_cases e : j = i
  · subst e; exact hi
  · exact h j (by omega)
theorem box_spec (k : Nat) (a b : List Int) (hk : 10 < k) : spec_l07Box.f k a b = some (decide (VBox a b)) := by
  obtain ⟨k, rfl⟩ : ∃ z, k = z + 1 := ⟨k - 1, by omega⟩
  unfold spec_l07Box.f
  by_cases h3 : (a.length : Int) > 3
  · rw [if_pos h3, spec_l07Box.j0, if_pos rfl]
    have : ¬ VBox a b := fun h => by have := h.1; omega
    simp [this]
  rw [if_neg h3, spec_l07Box.j0]
  by_cases hn : b.length = a.length
  · rw [if_neg (by simp [hn])]
    obtain ⟨r, h, rfl⟩ := count_loop (fun k (_ : Unit) i => spec_l07Box.l0 k i a b) a.length 0 (fun i _ => ∀ j, j < i → BoxAt a b j) (fun r => r = decide (VBox a b))
      (by
        rintro k - - h1
        refine ⟨true, by show spec_l07Box.l0 (k + 1) _ a b = _; rw [spec_l07Box.l0, if_neg (by omega)], ?_⟩
        have : VBox a b := ⟨by omega, hn, h1⟩
        simp [this])
      (by
        rintro k - i - hi h1
        have e : spec_l07Box.l0 (k + 1) (i : Int) a b = if BoxAt a b i then spec_l07Box.l0 k ((i + 1 : Nat) : Int) a b else some false := by
          rw [spec_l07Box.l0, if_pos (by omega), if_pos (by omega), if_pos (by omega), in_eq]
          simp only [Option.bind_some, decide_eq_true_eq, in_eq]
          rw [wrap_up i (by omega)]
          by_cases c1 : 1 ≤ rd b i ∧ rd b i ≤ 40
          · rw [if_pos c1, wrap64_id (by omega) (by omega)]
            by_cases c2 : 0 ≤ rd a i ∧ rd a i ≤ rd b i - 1
            · rw [if_pos c2, if_pos (show BoxAt a b i from ⟨c2.1, by omega, c1.2⟩)]
            · rw [if_neg c2, if_neg (fun h => c2 ⟨h.1, by have := h.2.1; omega⟩)]
          · rw [if_neg c1, if_neg (fun h => c1 ⟨by have := h.1; have := h.2.1; omega, h.2.2⟩)]
        by_cases c : BoxAt a b i
        · exact .inl ⟨(), all_step h1 c, by show spec_l07Box.l0 (k + 1) _ a b = _; rw [e, if_pos c]⟩
        · refine .inr ⟨false, by show spec_l07Box.l0 (k + 1) _ a b = _; rw [e, if_neg c], ?_⟩
          have : ¬ VBox a b := fun h => c (h.2.2 i hi)
          simp [this])
      k () 0 (by omega) (by omega) (fun j hj => by omega)
    exact h
  · rw [if_pos (by simp; omega)]
    have : ¬ VBox a b := fun h => hn h.2.1
    simp [this]
theorem box_impl (k : Nat) (a b : List Int) (hk : 10 < k) : impl_ValidBox.f k a b = some (decide (VBox a b)) := by
  obtain ⟨k, rfl⟩ : ∃ z, k = z + 1 := ⟨k - 1, by omega⟩
  unfold impl_ValidBox.f
  by_cases hn : (a.length : Int) = (b.length : Int)
  · rw [if_pos hn, impl_ValidBox.j0]
    by_cases h3 : (a.length : Int) > 3
    · rw [if_pos (by simpa using h3)]
      have : ¬ VBox a b := fun h => by have := h.1; omega
      simp [this]
    · rw [if_neg (by simpa using h3)]
      obtain ⟨r, h, rfl⟩ := count_loop (fun k (_ : Unit) i => impl_ValidBox.l0 k a (a.length : Int) i a b) a.length 0 (fun i _ => ∀ j, j < i → BoxAt a b j) (fun r => r = decide (VBox a b))
        (by
          rintro k - - h1
          refine ⟨true, by show impl_ValidBox.l0 (k + 1) a _ _ a b = _; rw [impl_ValidBox.l0, if_neg (by omega)], ?_⟩
          have : VBox a b := ⟨by omega, by omega, h1⟩
          simp [this])
        (by
          rintro k - i - hi h1
          have e : impl_ValidBox.l0 (k + 1) a (a.length : Int) (i : Int) a b = if BoxAt a b i then impl_ValidBox.l0 k a (a.length : Int) ((i + 1 : Nat) : Int) a b else some false := by
            rw [impl_ValidBox.l0, if_pos (by omega), if_pos (by omega), if_pos (by omega), wrap_up i (by omega)]
            by_cases c1 : rd a i < 0
            · rw [if_pos c1, if_neg (fun h => by have := h.1; omega)]
            · rw [if_neg c1, if_pos (by omega)]
              by_cases c2 : rd a i ≥ rd b i
              · rw [if_pos c2, if_neg (fun h => by have := h.2.1; omega)]
              · rw [if_neg c2]
                by_cases c3 : rd b i > 40
                · rw [if_pos c3, if_neg (fun h => by have := h.2.2; omega)]
                · rw [if_neg c3, if_pos (show BoxAt a b i from ⟨by omega, by omega, by omega⟩)]
          by_cases c : BoxAt a b i
          · exact .inl ⟨(), all_step h1 c, by show impl_ValidBox.l0 (k + 1) a _ _ a b = _; rw [e, if_pos c]⟩
          · refine .inr ⟨false, by show impl_ValidBox.l0 (k + 1) a _ _ a b = _; rw [e, if_neg c], ?_⟩
            have : ¬ VBox a b := fun h => c (h.2.2 i hi)
            simp [this])
        k () 0 (by omega) (by omega) (fun j hj => by omega)
      exact h
  · rw [if_neg hn, impl_ValidBox.j0, if_pos rfl]
    have : ¬ VBox a b := fun h => by have := h.2.1; omega
    simp [this]
theorem within_eq (a b c : Int) : impl_within.f a b c = some (decide (b ≤ a ∧ a ≤ c)) := by
  unfold impl_within.f
  by_cases h : a ≥ b
  · rw [if_pos h]
    by_cases h2 : a ≤ c <;> simp [h2] <;> omega
  · rw [if_neg h]; simp; omega
def okB (l : List S41) (i : Nat) : Prop := VBox (rd_T41 l i).f0 (rd_T41 l i).f1 ∧ (rd_T41 l i).f0.length = (rd_T41 l 0).f0.length
instance (l : List S41) : DecidablePred (okB l) := fun i => by unfold okB; infer_instance
theorem list_spec (l : List S41) (hl : l.length ≤ 1048576) (k : Nat) (hk : 1048600 ≤ k) : spec_l07List.f k l = some (decide (∀ i, i < l.length → okB l i) && decide ((l.length : Int) ≤ 32)) :=
  all_loop (fun k i => spec_l07List.l0 k l i) (okB l) l.length 11 _
    (by intro k _; show spec_l07List.l0 (k + 1) l _ = _; rw [spec_l07List.l0, if_neg (by omega)])
    (by
      intro k i hk hi
      show spec_l07List.l0 (k + 1) l _ = _
      rw [spec_l07List.l0, if_pos (by omega), if_pos (by omega), box_spec k _ _ (by omega), wrap_up i (by omega)]
      simp only [Option.bind_some, decide_eq_true_eq]
      by_cases h : VBox (rd_T41 l i).f0 (rd_T41 l i).f1
      · rw [if_pos h, if_pos (by omega)]
        by_cases h2 : (rd_T41 l i).f0.length = (rd_T41 l 0).f0.length
        · rw [if_pos (by omega), if_pos ⟨h, h2⟩]
        · rw [if_neg (by omega), if_neg (fun h3 => h2 h3.2)]
      · rw [if_neg h, if_neg (fun h3 => h h3.1)])
    k (by omega)
theorem list_impl (l : List S41) (hl : l.length ≤ 1048576) (k : Nat) (hk : 1048600 ≤ k) : impl_boxesOk.f k l = some (decide (∀ i, i < l.length → okB l i) && decide ((l.length : Int) ≤ 32)) := by
  unfold impl_boxesOk.f slices_ContainsFunc_impl_boxesOk_1.f slices_IndexFunc_impl_boxesOk_1.f
  by_cases hn : (l.length : Int) ≤ 32
  · rw [if_pos hn, find_loop (fun k i => slices_IndexFunc_impl_boxesOk_1.l0 k l l.length i l) (fun i => ¬ okB l i) l.length 11
      (by intro k _; show slices_IndexFunc_impl_boxesOk_1.l0 (k + 1) l _ _ l = _; rw [slices_IndexFunc_impl_boxesOk_1.l0, if_neg (by omega)])
      (by
        intro k i hk hi
        show slices_IndexFunc_impl_boxesOk_1.l0 (k + 1) l _ _ l = _
        rw [slices_IndexFunc_impl_boxesOk_1.l0, if_pos (by omega), if_pos (by omega), if_pos (by omega), wrap_up i (by omega)]
        unfold impl_boxesOk_1.f
        rw [box_impl k _ _ (by omega)]
        simp only [Option.bind_some, decide_eq_true_eq]
        by_cases h : VBox (rd_T41 l i).f0 (rd_T41 l i).f1
        · rw [if_pos h, if_pos (by omega)]
          simp only [Option.bind_some]
          by_cases h2 : (rd_T41 l i).f0.length = (rd_T41 l 0).f0.length
          · have h3 : okB l i := ⟨h, h2⟩
            simp [h2, h3]
          · have h3 : ¬ okB l i := fun h3 => h2 h3.2
            have h4 : ¬ ((rd_T41 l i).f0.length : Int) = ((rd_T41 l 0).f0.length : Int) := by omega
            simp [h4, h3]
        · have h3 : ¬ okB l i := fun h3 => h h3.1
          simp [if_neg h, h3])
      k (by omega)]
    simp only [Option.bind_some, decide_eq_true hn, Bool.and_true]
    rcases look_or (fun i => ¬ okB l i) l.length 0 with ⟨h4, h5⟩ | ⟨j, -, h4, h5, h6⟩
    · rw [h4]
      have h7 : ∀ i, i < l.length → okB l i := fun i hi => Decidable.not_not.1 (h5 i (by omega) (by omega))
      rw [decide_eq_true h7]; rfl
    · rw [h5]
      have h7 : ¬ ∀ i, i < l.length → okB l i := fun h => h6 (h j (by omega))
      have h8 : (j : Int) ≥ 0 := by omega
      rw [decide_eq_false h7]; simp [h8]
  · rw [if_neg hn, decide_eq_false hn, Bool.and_false]
def inB (a b p : List Int) : Prop := ∀ i, i < p.length → (rd a (i : Int) ≤ rd p (i : Int) ∧ rd p (i : Int) ≤ wrap64 (rd b (i : Int) - 1))
instance (a b p : List Int) : Decidable (inB a b p) := by unfold inB; infer_instance
theorem in_spec (a b p : List Int) (hp : p.length ≤ 1048576) (ha : a.length = p.length) (hb : b.length = p.length) (k : Nat) (hk : 1048590 ≤ k) : spec_l07In.f k a b p = some (decide (inB a b p)) := by
  unfold spec_l07In.f
  rw [seq_loop (fun k i => spec_l07In.l0 k p i a b) (fun i => rd a (i : Int) ≤ rd p (i : Int) ∧ rd p (i : Int) ≤ wrap64 (rd b (i : Int) - 1)) p.length
    (by intro k; show spec_l07In.l0 (k + 1) p _ a b = _; rw [spec_l07In.l0, if_neg (by omega)])
    (by
      intro k i hi
      show spec_l07In.l0 (k + 1) p _ a b = _
      rw [spec_l07In.l0, if_pos (by omega), if_pos (by omega), if_pos (by omega), if_pos (by omega), in_eq, wrap_up i (by omega)]
      simp only [Option.bind_some, decide_eq_true_eq])
    k (by omega)]
  rfl
theorem in_impl (a b p : List Int) (hp : p.length ≤ 1048576) (ha : a.length = p.length) (hb : b.length = p.length) (k : Nat) (hk : 1048590 ≤ k) : impl_Box_has.f k a b p = some (decide (inB a b p)) := by
  unfold impl_Box_has.f
  rw [seq_loop (fun k i => impl_Box_has.l0 k p p.length i a b) (fun i => rd a (i : Int) ≤ rd p (i : Int) ∧ rd p (i : Int) ≤ wrap64 (rd b (i : Int) - 1)) p.length
    (by intro k; show impl_Box_has.l0 (k + 1) p _ _ a b = _; rw [impl_Box_has.l0, if_neg (by omega)])
    (by
      intro k i hi
      show impl_Box_has.l0 (k + 1) p _ _ a b = _
      rw [impl_Box_has.l0, if_pos (by omega), if_pos (by omega), if_pos (by omega), if_pos (by omega), if_pos (by omega), within_eq, wrap_up i (by omega)]
      simp only [Option.bind_some, decide_eq_true_eq])
    k (by omega)]
  rfl
def hasP (l : List S41) (p : List Int) (i : Nat) : Prop := (rd_T41 l i).f0.length = p.length ∧ inB (rd_T41 l i).f0 (rd_T41 l i).f1 p
instance (l : List S41) (p : List Int) : DecidablePred (hasP l p) := fun i => by unfold hasP; infer_instance
theorem both (l : List S41) (p : List Int) (hl : (l.length : Int) ≤ 1048576) (hl2 : ∀ y ∈ l, QS41 y) (hp : (p.length : Int) ≤ 1048576) :
    ∃ v, ∀ k, 8000000 ≤ k → spec_InBoxes.f k l p = some v ∧ impl_InBoxes.f k l p = some v := by
  by_cases hok : ∀ i, i < l.length → okB l i
  · by_cases hn : (l.length : Int) ≤ 32
    · refine ⟨!decide (∀ i, i < l.length → ¬ hasP l p i), fun k hk => ⟨?_, ?_⟩⟩
      · unfold spec_InBoxes.f
        rw [list_spec l (by omega) k (by omega), decide_eq_true hok, decide_eq_true hn]
        simp only [Option.bind_some, Bool.and_true, if_true]
        exact any_loop (fun k i => spec_InBoxes.l0 k l p i) (hasP l p) l.length 1048590
          (by intro k _; show spec_InBoxes.l0 (k + 1) l p _ = _; rw [spec_InBoxes.l0, if_neg (by omega)])
          (by
            intro k i hk hi
            show spec_InBoxes.l0 (k + 1) l p _ = _
            rw [spec_InBoxes.l0, if_pos (by omega), if_pos (by omega), wrap_up i (by omega)]
            by_cases h : (rd_T41 l i).f0.length = p.length
            · rw [if_pos (by omega), in_spec _ _ p (by omega) h (by rw [(hok i hi).1.2.1]; exact h) k hk]
              simp only [Option.bind_some, decide_eq_true_eq]
              by_cases h2 : inB (rd_T41 l i).f0 (rd_T41 l i).f1 p
              · rw [if_pos h2, if_pos ⟨h, h2⟩]
              · rw [if_neg h2, if_neg (fun h3 => h2 h3.2)]
            · rw [if_neg (by omega), if_neg (fun h3 => h h3.1)])
          k (by omega)
      · unfold impl_InBoxes.f slices_ContainsFunc_impl_InBoxes_1.f slices_IndexFunc_impl_InBoxes_1.f
        rw [list_impl l (by omega) k (by omega), decide_eq_true hok, decide_eq_true hn]
        simp only [Option.bind_some, Bool.and_true, if_true]
        rw [find_loop (fun k i => slices_IndexFunc_impl_InBoxes_1.l0 k l l.length i p) (hasP l p) l.length 1048590
          (by intro k _; show slices_IndexFunc_impl_InBoxes_1.l0 (k + 1) l _ _ p = _; rw [slices_IndexFunc_impl_InBoxes_1.l0, if_neg (by omega)])
          (by
            intro k i hk hi
            show slices_IndexFunc_impl_InBoxes_1.l0 (k + 1) l _ _ p = _
            rw [slices_IndexFunc_impl_InBoxes_1.l0, if_pos (by omega), if_pos (by omega), if_pos (by omega), wrap_up i (by omega)]
            unfold impl_InBoxes_1.f
            by_cases h : (rd_T41 l i).f0.length = p.length
            · rw [if_pos (by omega), in_impl _ _ p (by omega) h (by rw [(hok i hi).1.2.1]; exact h) k hk]
              simp only [Option.bind_some, decide_eq_true_eq]
              by_cases h2 : inB (rd_T41 l i).f0 (rd_T41 l i).f1 p
              · rw [if_pos h2, if_pos ⟨h, h2⟩]
              · rw [if_neg h2, if_neg (fun h3 => h2 h3.2)]
            · rw [if_neg (by omega), if_neg (fun h3 => h h3.1)]
              rfl)
          k (by omega)]
        simp only [Option.bind_some]
        rcases look_or (hasP l p) l.length 0 with ⟨h4, h5⟩ | ⟨j, -, h4, h5, h6⟩
        · rw [h4]
          have h7 : ∀ i, i < l.length → ¬ hasP l p i := fun i hi => h5 i (by omega) (by omega)
          rw [decide_eq_true h7]; rfl
        · rw [h5]
          have h7 : ¬ ∀ i, i < l.length → ¬ hasP l p i := fun h => h j (by omega) h6
          have h8 : (j : Int) ≥ 0 := by omega
          rw [decide_eq_false h7]; simp [h8]
    · refine ⟨false, fun k hk => ⟨?_, ?_⟩⟩
      · unfold spec_InBoxes.f
        rw [list_spec l (by omega) k (by omega), decide_eq_false hn, Bool.and_false]; rfl
      · unfold impl_InBoxes.f
        rw [list_impl l (by omega) k (by omega), decide_eq_false hn, Bool.and_false]; rfl
  · refine ⟨false, fun k hk => ⟨?_, ?_⟩⟩
    · unfold spec_InBoxes.f
      rw [list_spec l (by omega) k (by omega), decide_eq_false hok, Bool.false_and]; rfl
    · unfold impl_InBoxes.f
      rw [list_impl l (by omega) k (by omega), decide_eq_false hok, Bool.false_and]; rfl
theorem FnExactInBoxes : laws_FnExactInBoxes.Pure := by
  intro l0 l1 o_l0 o_l1
  refine ⟨17000000, ?_⟩
  by_cases g_l1 : (l1.length : Int) > 1048576
  · simp only [laws_FnExactInBoxes.f, if_pos g_l1]
  have q_l1_0 : (l1.length : Int) ≤ 1048576 := by omega
  obtain ⟨t1, e1, h1⟩ := g_szBoxS 17000000 l0 1048576 (by omega) (by omega) (by omega) o_l0
  rcases h1 with h1 | ⟨h1, m1, q_l0_0, q_l0_1⟩
  · simp only [laws_FnExactInBoxes.f, if_neg g_l1, e1, Option.bind_some, if_pos h1]
  have n1 : ¬ t1 < 0 := by omega
  have T1 := fun k (hk : 16000000 ≤ k) => g_toBoxS k l0 (by omega) q_l0_0 q_l0_1
  have cl_l0 : (((l0.map cS68)).length : Int) ≤ 1048576 := by rw [List.length_map]; exact q_l0_0
  have cq_l0 := qmS68 l0 q_l0_1
  have E1 := fun k (hk : 16000000 ≤ k) => g_eqBoxS k (l0.map cS68) (by omega) cl_l0 cq_l0
  have T2 := fun k (hk : 16000000 ≤ k) => g_toInt64S k l1 (by omega) q_l1_0
  have E2 := fun k (hk : 16000000 ≤ k) => g_eqInt64S k l1 (by omega) q_l1_0
  obtain ⟨v, hv⟩ := both (l0.map cS68) l1 cl_l0 cq_l0 q_l1_0
  have HS := fun k (hk : 16000000 ≤ k) => (hv k (by omega)).1
  have HI := fun k (hk : 16000000 ≤ k) => (hv k (by omega)).2
  simp (disch := omega) only [laws_FnExactInBoxes.f, if_neg g_l1, e1, if_neg n1, T1, E1, T2, E2, HS, HI, Option.bind_some, bne_self_eq_false, Bool.false_eq_true, if_false, if_true, reduceIte]

end Go.Proofs.Ytngjbdijimapnaa.Pure
