/- The plain form of FnExactBoundsOf: for all arguments the answer is true. It holds without a condition. -/
import Derived.Test.YtdiaebjbiddefaaPFnExactBoundsOfx8
import Derived.OpenShut
namespace Go.Proofs.Ytdiaebjbiddefaa.Pure
open Go Go.RowKit Go.Proofs.Ytdiaebjbiddefaa.PFnExactBoundsOf Go.Proofs.YtdiaebjbiddefaaW.PrintWords Go.Proofs.YtdiaebjbiddefaaW.PrintLast Go.Proofs.YtdiaebjbiddefaaW.PrintMore
set_option linter.unusedVariables false
set_option linter.unusedSimpArgs false

theorem wrap64_id {a : Int} (h : -9223372036854775808 ≤ a) (h' : a ≤ 9223372036854775807) : wrap64 a = a := by unfold wrap64; omega
theorem count_loop {σ ρ : Type} (L : Nat → σ → Int → Option ρ) (n m : Nat) (I : Nat → σ → Prop) (R : ρ → Prop)
    (hstop : ∀ k s, m ≤ k → I n s → ∃ r, L (k + 1) s (n : Int) = some r ∧ R r)
    (hstep : ∀ k s (i : Nat), m ≤ k → i < n → I i s → (∃ s', I (i + 1) s' ∧ L (k + 1) s (i : Int) = L k s' ((i + 1 : Nat) : Int)) ∨ ∃ r, L (k + 1) s (i : Int) = some r ∧ R r)
    (k : Nat) (s : σ) (i : Nat) (hi : i ≤ n) (hk : n - i + m < k) (h : I i s) : ∃ r, L k s (i : Int) = some r ∧ R r := by
  obtain ⟨d, hd⟩ : ∃ d, d = n - i := ⟨_, rfl⟩
  induction d generalizing k s i with
  | zero =>
    obtain ⟨k, rfl⟩ : ∃ z, k = z + 1 := ⟨k - 1, by omega⟩
    obtain rfl : i = n := by omega
    exact hstop k s (by omega) h
  | succ d ih =>
    obtain ⟨k, rfl⟩ : ∃ z, k = z + 1 := ⟨k - 1, by omega⟩
    rcases hstep k s i (by omega) (by omega) h with ⟨s', h', e⟩ | h'
    · rw [e]; exact ih k s' (i + 1) (by omega) (by omega) h' (by omega)
    · exact h'
theorem wrap_up (i : Nat) (h : i < 1099511627776) : wrap64 ((i : Int) + 1) = ((i + 1 : Nat) : Int) := by unfold wrap64; omega
theorem set_next {α : Type} (l out : List α) (i : Nat) (h : i < l.length) (hl : out.length = l.length) (hp : out.take i = l.take i) : (out.set i l[i]).take (i + 1) = l.take (i + 1) := by
  apply List.ext_getElem?
  intro j
  by_cases hj : j < i + 1
  · rw [List.getElem?_take_of_lt hj, List.getElem?_take_of_lt hj]
    by_cases hji : j = i
    · subst hji; rw [List.getElem?_set_self (by omega), List.getElem?_eq_getElem h]
    · rw [List.getElem?_set_ne (by omega)]
      have := congrArg (fun z => z[j]?) hp
      simpa [List.getElem?_take_of_lt (show j < i by omega)] using this
  · rw [List.getElem?_eq_none (by simp; omega), List.getElem?_eq_none (by simp; omega)]
theorem take_all {α : Type} (l out : List α) (hl : out.length = l.length) (hp : out.take l.length = l.take l.length) : out = l := by
  rwa [List.take_of_length_le (by omega), List.take_length] at hp
theorem g_szloop {α : Type} (L : Nat → List α → Int → Int → Option Int) (E : Nat → α → Int → Option Int) (z : α) (m : Nat) (Q : α → Prop) (l : List α)
    (hL : ∀ k a i, L (k + 1) l a i = if i < (l.length : Int) then (if 0 ≤ i then ((E k (l.getD i.toNat z) a).bind fun t => if t < 0 then some (-1) else L k l t (wrap64 (i + 1))) else none) else some a)
    (hE : ∀ k x a, x ∈ l → 0 ≤ a → a ≤ 1048576 → m ≤ k → ∃ t, E k x a = some t ∧ (t < 0 ∨ (0 ≤ t ∧ t ≤ a ∧ Q x)))
    (hl : l.length ≤ 1048576) (k : Nat) (a : Int) (h0 : 0 ≤ a) (h1 : a ≤ 1048576) (hk : m + 1048580 < k) :
    ∃ t, L k l a 0 = some t ∧ (t < 0 ∨ (0 ≤ t ∧ t ≤ a ∧ ∀ x ∈ l, Q x)) := by
  exact count_loop (fun k s i => L k l s i) l.length m (fun i s => 0 ≤ s ∧ s ≤ a ∧ ∀ x ∈ l.take i, Q x) (fun t => t < 0 ∨ (0 ≤ t ∧ t ≤ a ∧ ∀ x ∈ l, Q x))
    (by
      rintro k s - ⟨h1, h2, h3⟩
      rw [List.take_length] at h3
      exact ⟨s, by show L (k + 1) l s _ = _; rw [hL, if_neg (by omega)], .inr ⟨h1, h2, h3⟩⟩)
    (by
      rintro k s i hm hi ⟨h1, h2, h3⟩
      have hg : l.getD (i : Int).toNat z = l[i] := by simp [List.getD_eq_getElem?_getD, List.getElem?_eq_getElem hi]
      obtain ⟨t, e, ht⟩ := hE k l[i] s (List.getElem_mem hi) h1 (by omega) hm
      rcases ht with ht | ⟨q1, q2, q3⟩
      · refine .inr ⟨-1, ?_, .inl (by omega)⟩
        show L (k + 1) l s _ = _
        rw [hL, if_pos (by omega), if_pos (by omega), hg, e]
        simp only [Option.bind_some]
        rw [if_pos ht]
      · refine .inl ⟨t, ⟨q1, by omega, ?_⟩, ?_⟩
        · intro x hx'
          rw [List.take_succ_eq_append_getElem hi, List.mem_append] at hx'
          rcases hx' with hx' | hx'
          · exact h3 x hx'
          · simp at hx'; subst hx'; exact q3
        · show L (k + 1) l s _ = _
          rw [hL, if_pos (by omega), if_pos (by omega), hg, e]
          simp only [Option.bind_some]
          rw [if_neg (by omega), wrap_up i (by omega)])
    k a 0 (by omega) (by omega) ⟨h0, by omega, by simp⟩
theorem g_toloop {α β γ : Type} (L : Nat → List α → List β → Int → Option (List β)) (E : Nat → α → Option γ) (mk : γ → β) (z : α) (c : α → β) (m : Nat) (l : List α)
    (hL : ∀ k s i, L (k + 1) l s i = if i < (l.length : Int) then (if 0 ≤ i then ((E k (l.getD i.toNat z)).bind fun b => (if i < (s.length : Int) then L k l (s.set i.toNat (mk b)) (wrap64 (i + 1)) else none)) else none) else some s)
    (hE : ∀ k x, x ∈ l → m ≤ k → ∃ b, E k x = some b ∧ mk b = c x)
    (hl : l.length ≤ 1048576) (k : Nat) (s : List β) (hs : s.length = l.length) (hk : m + 1048580 < k) : L k l s 0 = some (l.map c) := by
  obtain ⟨r, h, rfl⟩ := count_loop (fun k s i => L k l s i) l.length m (fun i s => s.length = (l.map c).length ∧ s.take i = (l.map c).take i) (fun r => r = l.map c)
    (by
      rintro k s - ⟨h1, h2⟩
      exact ⟨s, by show L (k + 1) l s _ = _; rw [hL, if_neg (by omega)], take_all (l.map c) s h1 (by rw [List.length_map]; exact h2)⟩)
    (by
      rintro k s i hm hi ⟨h1, h2⟩
      have hg : l.getD (i : Int).toNat z = l[i] := by simp [List.getD_eq_getElem?_getD, List.getElem?_eq_getElem hi]
      have hi' : i < (l.map c).length := by simpa using hi
      obtain ⟨b, e, hb⟩ := hE k l[i] (List.getElem_mem hi) hm
      have hb' : mk b = (l.map c)[i] := by rw [hb, List.getElem_map]
      refine .inl ⟨s.set i (l.map c)[i], ⟨by simpa using h1, set_next (l.map c) s i hi' h1 h2⟩, ?_⟩
      show L (k + 1) l s _ = _
      rw [hL, if_pos (by omega), if_pos (by omega), hg, e]
      simp only [Option.bind_some]
      rw [if_pos (by rw [h1]; simp; omega), wrap_up i (by omega), hb']
      rfl)
    k s 0 (by omega) (by omega) ⟨by simpa using hs, by simp⟩
  exact h
theorem g_eqloop {α : Type} (L : Nat → List α → List α → Int → Option Bool) (E : Nat → α → Option Bool) (z : α) (m : Nat) (l : List α)
    (hL : ∀ k i, L (k + 1) l l i = if i < (l.length : Int) then (if 0 ≤ i then (if i < (l.length : Int) then ((E k (l.getD i.toNat z)).bind fun t => (if t = true then L k l l (wrap64 (i + 1)) else some false)) else none) else none) else some true)
    (hE : ∀ k x, x ∈ l → m ≤ k → E k x = some true)
    (hl : l.length ≤ 1048576) (k : Nat) (hk : m + 1048580 < k) : L k l l 0 = some true := by
  obtain ⟨r, h, rfl⟩ := count_loop (fun k (_ : Unit) i => L k l l i) l.length m (fun _ _ => True) (fun r => r = true)
    (by
      rintro k s - -
      exact ⟨true, by show L (k + 1) l l _ = _; rw [hL, if_neg (by omega)], rfl⟩)
    (by
      rintro k s i hm hi -
      have hg : l.getD (i : Int).toNat z = l[i] := by simp [List.getD_eq_getElem?_getD, List.getElem?_eq_getElem hi]
      refine .inl ⟨(), trivial, ?_⟩
      show L (k + 1) l l _ = _
      rw [hL, if_pos (by omega), if_pos (by omega), if_pos (by omega), hg, hE k _ (List.getElem_mem hi) hm]
      simp only [Option.bind_some]
      rw [if_pos trivial, wrap_up i (by omega)])
    k () 0 (by omega) (by omega) trivial
  exact h
theorem g_szInt64S (k : Nat) (l0 : List Int) (a : Int) (h0 : 0 ≤ a) (h1 : a ≤ 1048576) (hk : 0 ≤ k) (o_l0 : l0.length ≤ maxLen ∧ ∀ x_ ∈ l0, (Lit.int .i64 x_).wf = true) : ∃ t, laws_szInt64S.f l0 a = some t ∧ (t < 0 ∨ (0 ≤ t ∧ t ≤ a ∧ (l0.length : Int) ≤ 1048576)) := by
  have p_l0 := o_l0.1
  unfold maxLen at p_l0
  unfold laws_szInt64S.f
  rw [wrap64_id (a := a - (l0.length : Int)) (by omega) (by omega)]
  by_cases c0 : a - (l0.length : Int) < 0
  · exact ⟨-1, by rw [if_pos c0], .inl (by omega)⟩
  rw [if_neg c0]
  exact ⟨_, rfl, .inr ⟨by omega, by omega, by omega⟩⟩
theorem g_szBox (k : Nat) (l0_0 : List Int) (l0_1 : List Int) (a : Int) (h0 : 0 ≤ a) (h1 : a ≤ 1048576) (hk : 0 ≤ k) (o_l0_0 : l0_0.length ≤ maxLen ∧ ∀ x_ ∈ l0_0, (Lit.int .i64 x_).wf = true) (o_l0_1 : l0_1.length ≤ maxLen ∧ ∀ x_ ∈ l0_1, (Lit.int .i64 x_).wf = true) : ∃ t, laws_szBox.f l0_0 l0_1 a = some t ∧ (t < 0 ∨ (0 ≤ t ∧ t ≤ a ∧ (l0_0.length : Int) ≤ 1048576 ∧ (l0_1.length : Int) ≤ 1048576)) := by
  have p_l0_0 := o_l0_0.1
  unfold maxLen at p_l0_0
  have p_l0_1 := o_l0_1.1
  unfold maxLen at p_l0_1
  unfold laws_szBox.f
  obtain ⟨t0, e0, q0⟩ := g_szInt64S k l0_0 a (by omega) (by omega) (by omega) o_l0_0
  rw [e0]
  simp only [Option.bind_some]
  rcases q0 with q0 | ⟨r0, s0, q0_l0_0_0⟩
  · exact ⟨-1, by rw [if_pos q0], .inl (by omega)⟩
  rw [if_neg (show ¬ t0 < 0 by omega)]
  obtain ⟨t1, e1, q1⟩ := g_szInt64S k l0_1 t0 (by omega) (by omega) (by omega) o_l0_1
  rw [e1]
  simp only [Option.bind_some]
  rcases q1 with q1 | ⟨r1, s1, q1_l0_1_0⟩
  · exact ⟨-1, by rw [if_pos q1], .inl (by omega)⟩
  rw [if_neg (show ¬ t1 < 0 by omega)]
  exact ⟨_, rfl, .inr ⟨by omega, by omega, q0_l0_0_0, q1_l0_1_0⟩⟩
def QS69 (x : S69) : Prop := (x.f0.length : Int) ≤ 1048576 ∧ (x.f1.length : Int) ≤ 1048576
theorem g_szBoxS (k : Nat) (l : List (S69)) (a : Int) (h0 : 0 ≤ a) (h1 : a ≤ 1048576) (hk : 1048590 ≤ k) (o : l.length ≤ maxLen ∧ ∀ x_ ∈ l, okS69 x_) : ∃ t, laws_szBoxS.f k l a = some t ∧ (t < 0 ∨ (0 ≤ t ∧ t ≤ a ∧ (l.length : Int) ≤ 1048576 ∧ (∀ y ∈ l, QS69 y))) := by
  have ol := o.1
  unfold maxLen at ol
  unfold laws_szBoxS.f
  rw [wrap64_id (by omega) (by omega)]
  by_cases h : a - (l.length : Int) < 0
  · exact ⟨-1, by rw [if_pos h], .inl (by omega)⟩
  rw [if_neg h]
  obtain ⟨t, e, q⟩ := g_szloop laws_szBoxS.l0 (fun k x a => laws_szBox.f x.f0 x.f1 a) z69 0 (QS69) l
    (by intro k a i; rw [laws_szBoxS.l0]; rfl)
    (by intro k x a hx h0 h1 hm; obtain ⟨o0, o1⟩ := o.2 x hx; exact g_szBox k x.f0 x.f1 a h0 h1 hm o0 o1)
    (by omega) k (a - (l.length : Int)) (by omega) (by omega) (by omega)
  rcases q with q | ⟨q1, q2, q3⟩
  · exact ⟨t, e, .inl q⟩
  · exact ⟨t, e, .inr ⟨q1, by omega, by omega, q3⟩⟩
theorem g_toInt64S (k : Nat) (l : List Int) (hk : 1048590 ≤ k) (o1 : (l.length : Int) ≤ 1048576) : laws_toInt64S.f k l = some l := by
  unfold laws_toInt64S.f
  rw [if_pos (by omega), if_pos (by omega)]
  have h := g_toloop laws_toInt64S.l0 (fun _ (x : Int) => some x) (fun b => b) (0 : Int) id 0 l (by intro k s i; rw [laws_toInt64S.l0]; rfl)
    (by intro k x hx hm; exact ⟨_, rfl, rfl⟩)
    (by omega) k (List.replicate ((l.length : Int) : Int).toNat 0) (by simp) (by omega)
  rwa [List.map_id] at h
theorem g_toBox (k : Nat) (l0_0 : List Int) (l0_1 : List Int) (hk : 1048590 ≤ k) (o_l0_0_0 : (l0_0.length : Int) ≤ 1048576) (o_l0_1_0 : (l0_1.length : Int) ≤ 1048576) : laws_toBox.f k l0_0 l0_1 = some (l0_0, l0_1) := by
  unfold laws_toBox.f
  rw [g_toInt64S k l0_0 (by omega) o_l0_0_0]
  simp only [Option.bind_some]
  rw [g_toInt64S k l0_1 (by omega) o_l0_1_0]
  simp only [Option.bind_some]
def QS42 (x : S42) : Prop := (x.f0.length : Int) ≤ 1048576 ∧ (x.f1.length : Int) ≤ 1048576
def cS69 (x : S69) : S42 := ⟨x.f0, x.f1⟩
theorem qcS69 (x : S69) (h : QS69 x) : QS42 (cS69 x) := h
theorem qmS69 (l : List S69) (h : ∀ y ∈ l, QS69 y) : ∀ y ∈ l.map cS69, QS42 y := by
  intro y hy
  obtain ⟨x, hx, rfl⟩ := List.mem_map.1 hy
  exact qcS69 x (h x hx)
theorem g_toBoxS (k : Nat) (l : List (S69)) (hk : 2097180 ≤ k) (o1 : (l.length : Int) ≤ 1048576) (o2 : (∀ y ∈ l, QS69 y)) : laws_toBoxS.f k l = some (l.map cS69) := by
  unfold laws_toBoxS.f
  rw [if_pos (by omega), if_pos (by omega)]
  have h := g_toloop laws_toBoxS.l0 (fun k (x : S69) => laws_toBox.f k x.f0 x.f1) (fun b => (⟨b.1, b.2⟩ : S42)) z69 cS69 1048590 l (by intro k s i; rw [laws_toBoxS.l0]; rfl)
    (by intro k x hx hm; obtain ⟨q0_0, q1_0⟩ := o2 x hx; exact ⟨_, g_toBox k x.f0 x.f1 hm q0_0 q1_0, rfl⟩)
    (by omega) k (List.replicate ((l.length : Int) : Int).toNat z42) (by simp) (by omega)
  exact h
theorem g_eqInt64S (k : Nat) (l : List Int) (hk : 1048590 ≤ k) (o1 : (l.length : Int) ≤ 1048576) : laws_eqInt64S.f k l l = some true := by
  unfold laws_eqInt64S.f
  rw [if_pos rfl]
  exact g_eqloop laws_eqInt64S.l0 (fun _ (x : Int) => some true) (0 : Int) 0 l (by intro k i; rw [laws_eqInt64S.l0]; simp only [Option.bind_some, bne_self_eq_false, Bool.false_eq_true, if_false, if_true, reduceIte]) (by intro k x hx hm; rfl) (by omega) k (by omega)
theorem g_eqBox (k : Nat) (l0_0 : List Int) (l0_1 : List Int) (hk : 1048590 ≤ k) (o_l0_0_0 : (l0_0.length : Int) ≤ 1048576) (o_l0_1_0 : (l0_1.length : Int) ≤ 1048576) : laws_eqBox.f k l0_0 l0_1 l0_0 l0_1 = some true := by
  unfold laws_eqBox.f
  simp only [g_eqInt64S k l0_0 (by omega) o_l0_0_0, g_eqInt64S k l0_1 (by omega) o_l0_1_0, Option.bind_some, bne_self_eq_false, Bool.false_eq_true, if_false, if_true, reduceIte]
theorem g_eqBoxS (k : Nat) (l : List (S42)) (hk : 2097180 ≤ k) (o1 : (l.length : Int) ≤ 1048576) (o2 : (∀ y ∈ l, QS42 y)) : laws_eqBoxS.f k l l = some true := by
  unfold laws_eqBoxS.f
  rw [if_pos rfl]
  exact g_eqloop laws_eqBoxS.l0 (fun k (x : S42) => laws_eqBox.f k x.f0 x.f1 x.f0 x.f1) z42 1048590 l (by intro k i; rw [laws_eqBoxS.l0]; rfl) (by intro k x hx hm; obtain ⟨q0_0, q1_0⟩ := o2 x hx; exact g_eqBox k x.f0 x.f1 hm q0_0 q1_0) (by omega) k (by omega)
theorem all_loop (L : Nat → Int → Option Bool) (P : Nat → Prop) [DecidablePred P] (n m : Nat) (r : Bool)
    (hend : ∀ k, m ≤ k → L (k + 1) (n : Int) = some r) (hstep : ∀ k (i : Nat), m ≤ k → i < n → L (k + 1) (i : Int) = if P i then L k ((i + 1 : Nat) : Int) else some false) (k : Nat) (hk : n + m < k) :
    L k 0 = some (decide (∀ i, i < n → P i) && r) := by
  obtain ⟨s, h, rfl⟩ := count_loop (fun k (_ : Unit) i => L k i) n m (fun i _ => ∀ j, j < i → P j) (fun s => s = (decide (∀ i, i < n → P i) && r))
    (by
      rintro k s hm h
      exact ⟨r, hend k hm, by simp [decide_eq_true h]⟩)
    (by
      rintro k s i hm hi h
      by_cases hp : P i
      · refine .inl ⟨(), ?_, by show L (k + 1) _ = _; rw [hstep k i hm hi, if_pos hp]⟩
        intro j hj
        by_cases hji : j = i
        · subst hji; exact hp
        · exact h j (by omega)
      · refine .inr ⟨false, by show L (k + 1) _ = _; rw [hstep k i hm hi, if_neg hp], ?_⟩
        have : ¬ ∀ i, i < n → P i := fun h => hp (h i hi)
        simp [this])
    k () 0 (by omega) (by omega) (by simp)
  exact h
def look (P : Nat → Prop) [DecidablePred P] : Nat → Nat → Int
  | 0, _ => -1
  | d + 1, i => if P i then (i : Int) else look P d (i + 1)
theorem look_or (P : Nat → Prop) [DecidablePred P] (d : Nat) : ∀ i, (look P d i = -1 ∧ ∀ j, i ≤ j → j < i + d → ¬ P j) ∨ ∃ j, i ≤ j ∧ j < i + d ∧ look P d i = (j : Int) ∧ P j := by
  induction d with
  | zero => intro i; exact .inl ⟨rfl, fun j h1 h2 => by omega⟩
  | succ d ih =>
    intro i
    by_cases hp : P i
    · exact .inr ⟨i, by omega, by omega, by rw [look, if_pos hp], hp⟩
    · rw [look, if_neg hp]
      rcases ih (i + 1) with ⟨h1, h2⟩ | ⟨j, h1, h2, h3, h4⟩
      · refine .inl ⟨h1, fun j h3 h4 => ?_⟩
        by_cases hji : j = i
        · subst hji; exact hp
        · exact h2 j (by omega) (by omega)
      · exact .inr ⟨j, by omega, by omega, h3, h4⟩
theorem find_loop (L : Nat → Int → Option Int) (P : Nat → Prop) [DecidablePred P] (n m : Nat)
    (hend : ∀ k, m ≤ k → L (k + 1) (n : Int) = some (-1)) (hstep : ∀ k (i : Nat), m ≤ k → i < n → L (k + 1) (i : Int) = if P i then some (i : Int) else L k ((i + 1 : Nat) : Int)) (k : Nat) (hk : n + m < k) :
    L k 0 = some (look P n 0) := by
  have key : ∀ d k i, i + d = n → d + m < k → L k (i : Int) = some (look P d i) := by
    intro d
    induction d with
    | zero =>
      intro k i hi hk
      obtain ⟨k, rfl⟩ : ∃ z, k = z + 1 := ⟨k - 1, by omega⟩
      obtain rfl : i = n := by omega
      exact hend k (by omega)
    | succ d ih =>
      intro k i hi hk
      obtain ⟨k, rfl⟩ : ∃ z, k = z + 1 := ⟨k - 1, by omega⟩
      rw [hstep k i (by omega) (by omega), look]
      by_cases hp : P i
      · rw [if_pos hp, if_pos hp]
      · rw [if_neg hp, if_neg hp]; exact ih k (i + 1) (by omega) (by omega)
  exact key n k 0 (by omega) (by omega)
theorem in_eq (a b c : Int) : spec_l00In.f a b c = some (decide (b ≤ a ∧ a ≤ c)) := by
  unfold spec_l00In.f
  by_cases h : a ≥ b
  · rw [if_pos h]
    by_cases h2 : a ≤ c <;> simp [h2] <;> omega
  · rw [if_neg h]; simp; omega
def BoxAt (a b : List Int) (i : Nat) : Prop := 0 ≤ rd a i ∧ rd a i < rd b i ∧ rd b i ≤ 40
instance (a b : List Int) (i : Nat) : Decidable (BoxAt a b i) := by unfold BoxAt; infer_instance
def VBox (a b : List Int) : Prop := a.length ≤ 3 ∧ b.length = a.length ∧ ∀ i, i < a.length → BoxAt a b i
instance (a b : List Int) : Decidable (VBox a b) := by unfold VBox; infer_instance
theorem all_step {P : Nat → Prop} {i : Nat} (h : ∀ j, j < i → P j) (hi : P i) : ∀ j, j < i + 1 → P j := fun j hj => by
  by_cases e : j = i
  · subst e; exact hi
  · exact h j (by omega)
theorem box_spec (k : Nat) (a b : List Int) (hk : 10 < k) : spec_l07Box.f k a b = some (decide (VBox a b)) := by
  obtain ⟨k, rfl⟩ : ∃ z, k = z + 1 := ⟨k - 1, by omega⟩
  unfold spec_l07Box.f
  by_cases h3 : (a.length : Int) > 3
  · rw [if_pos h3, spec_l07Box.j0, if_pos rfl]
    have : ¬ VBox a b := fun h => by have := h.1; omega
    simp [this]
  rw [if_neg h3, spec_l07Box.j0]
  by_cases hn : b.length = a.length
  · rw [if_neg (by simp [hn])]
    obtain ⟨r, h, rfl⟩ := count_loop (fun k (_ : Unit) i => spec_l07Box.l0 k i a b) a.length 0 (fun i _ => ∀ j, j < i → BoxAt a b j) (fun r => r = decide (VBox a b))
      (by
        rintro k - - h1
        refine ⟨true, by show spec_l07Box.l0 (k + 1) _ a b = _; rw [spec_l07Box.l0, if_neg (by omega)], ?_⟩
        have : VBox a b := ⟨by omega, hn, h1⟩
        simp [this])
      (by
        rintro k - i - hi h1
        have e : spec_l07Box.l0 (k + 1) (i : Int) a b = if BoxAt a b i then spec_l07Box.l0 k ((i + 1 : Nat) : Int) a b else some false := by
          rw [spec_l07Box.l0, if_pos (by omega), if_pos (by omega), if_pos (by omega), in_eq]
          simp only [Option.bind_some, decide_eq_true_eq, in_eq]
          rw [wrap_up i (by omega)]
          by_cases c1 : 1 ≤ rd b i ∧ rd b i ≤ 40
          · rw [if_pos c1, wrap64_id (by omega) (by omega)]
            by_cases c2 : 0 ≤ rd a i ∧ rd a i ≤ rd b i - 1
            · rw [if_pos c2, if_pos (show BoxAt a b i from ⟨c2.1, by omega, c1.2⟩)]
            · rw [if_neg c2, if_neg (fun h => c2 ⟨h.1, by have := h.2.1; omega⟩)]
          · rw [if_neg c1, if_neg (fun h => c1 ⟨by have := h.1; have := h.2.1; omega, h.2.2⟩)]
        by_cases c : BoxAt a b i
        · exact .inl ⟨(), all_step h1 c, by show spec_l07Box.l0 (k + 1) _ a b = _; rw [e, if_pos c]⟩
        · refine .inr ⟨false, by show spec_l07Box.l0 (k + 1) _ a b = _; rw [e, if_neg c], ?_⟩
          have : ¬ VBox a b := fun h => c (h.2.2 i hi)
          simp [this])
      k () 0 (by omega) (by omega) (fun j hj => by omega)
    exact h
  · rw [if_pos (by simp; omega)]
    have : ¬ VBox a b := fun h => hn h.2.1
    simp [this]
theorem box_impl (k : Nat) (a b : List Int) (hk : 10 < k) : impl_ValidBox.f k a b = some (decide (VBox a b)) := by
  obtain ⟨k, rfl⟩ : ∃ z, k = z + 1 := ⟨k - 1, by omega⟩
  unfold impl_ValidBox.f
  by_cases hn : (a.length : Int) = (b.length : Int)
  · rw [if_pos hn, impl_ValidBox.j0]
    by_cases h3 : (a.length : Int) > 3
    · rw [if_pos (by simpa using h3)]
      have : ¬ VBox a b := fun h => by have := h.1; omega
      simp [this]
    · rw [if_neg (by simpa using h3)]
      obtain ⟨r, h, rfl⟩ := count_loop (fun k (_ : Unit) i => impl_ValidBox.l0 k a (a.length : Int) i a b) a.length 0 (fun i _ => ∀ j, j < i → BoxAt a b j) (fun r => r = decide (VBox a b))
        (by
          rintro k - - h1
          refine ⟨true, by show impl_ValidBox.l0 (k + 1) a _ _ a b = _; rw [impl_ValidBox.l0, if_neg (by omega)], ?_⟩
          have : VBox a b := ⟨by omega, by omega, h1⟩
          simp [this])
        (by
          rintro k - i - hi h1
          have e : impl_ValidBox.l0 (k + 1) a (a.length : Int) (i : Int) a b = if BoxAt a b i then impl_ValidBox.l0 k a (a.length : Int) ((i + 1 : Nat) : Int) a b else some false := by
            rw [impl_ValidBox.l0, if_pos (by omega), if_pos (by omega), if_pos (by omega), wrap_up i (by omega)]
            by_cases c1 : rd a i < 0
            · rw [if_pos c1, if_neg (fun h => by have := h.1; omega)]
            · rw [if_neg c1, if_pos (by omega)]
              by_cases c2 : rd a i ≥ rd b i
              · rw [if_pos c2, if_neg (fun h => by have := h.2.1; omega)]
              · rw [if_neg c2]
                by_cases c3 : rd b i > 40
                · rw [if_pos c3, if_neg (fun h => by have := h.2.2; omega)]
                · rw [if_neg c3, if_pos (show BoxAt a b i from ⟨by omega, by omega, by omega⟩)]
          by_cases c : BoxAt a b i
          · exact .inl ⟨(), all_step h1 c, by show impl_ValidBox.l0 (k + 1) a _ _ a b = _; rw [e, if_pos c]⟩
          · refine .inr ⟨false, by show impl_ValidBox.l0 (k + 1) a _ _ a b = _; rw [e, if_neg c], ?_⟩
            have : ¬ VBox a b := fun h => c (h.2.2 i hi)
            simp [this])
        k () 0 (by omega) (by omega) (fun j hj => by omega)
      exact h
  · rw [if_neg hn, impl_ValidBox.j0, if_pos rfl]
    have : ¬ VBox a b := fun h => by have := h.2.1; omega
    simp [this]
def okB (l : List S42) (i : Nat) : Prop := VBox (rd_T42 l i).f0 (rd_T42 l i).f1 ∧ (rd_T42 l i).f0.length = (rd_T42 l 0).f0.length
instance (l : List S42) : DecidablePred (okB l) := fun i => by unfold okB; infer_instance
theorem list_spec (l : List S42) (hl : l.length ≤ 1048576) (k : Nat) (hk : 1048600 ≤ k) : spec_l07List.f k l = some (decide (∀ i, i < l.length → okB l i) && decide ((l.length : Int) ≤ 32)) :=
  all_loop (fun k i => spec_l07List.l0 k l i) (okB l) l.length 11 _
    (by intro k _; show spec_l07List.l0 (k + 1) l _ = _; rw [spec_l07List.l0, if_neg (by omega)])
    (by
      intro k i hk hi
      show spec_l07List.l0 (k + 1) l _ = _
      rw [spec_l07List.l0, if_pos (by omega), if_pos (by omega), box_spec k _ _ (by omega), wrap_up i (by omega)]
      simp only [Option.bind_some, decide_eq_true_eq]
      by_cases h : VBox (rd_T42 l i).f0 (rd_T42 l i).f1
      · rw [if_pos h, if_pos (by omega)]
        by_cases h2 : (rd_T42 l i).f0.length = (rd_T42 l 0).f0.length
        · rw [if_pos (by omega), if_pos ⟨h, h2⟩]
        · rw [if_neg (by omega), if_neg (fun h3 => h2 h3.2)]
      · rw [if_neg h, if_neg (fun h3 => h h3.1)])
    k (by omega)
theorem list_impl (l : List S42) (hl : l.length ≤ 1048576) (k : Nat) (hk : 1048600 ≤ k) : impl_boxesOk.f k l = some (decide (∀ i, i < l.length → okB l i) && decide ((l.length : Int) ≤ 32)) := by
  unfold impl_boxesOk.f slices_ContainsFunc_impl_boxesOk_1.f slices_IndexFunc_impl_boxesOk_1.f
  by_cases hn : (l.length : Int) ≤ 32
  · rw [if_pos hn, find_loop (fun k i => slices_IndexFunc_impl_boxesOk_1.l0 k l l.length i l) (fun i => ¬ okB l i) l.length 11
      (by intro k _; show slices_IndexFunc_impl_boxesOk_1.l0 (k + 1) l _ _ l = _; rw [slices_IndexFunc_impl_boxesOk_1.l0, if_neg (by omega)])
      (by
        intro k i hk hi
        show slices_IndexFunc_impl_boxesOk_1.l0 (k + 1) l _ _ l = _
        rw [slices_IndexFunc_impl_boxesOk_1.l0, if_pos (by omega), if_pos (by omega), if_pos (by omega), wrap_up i (by omega)]
        unfold impl_boxesOk_1.f
        rw [box_impl k _ _ (by omega)]
        simp only [Option.bind_some, decide_eq_true_eq]
        by_cases h : VBox (rd_T42 l i).f0 (rd_T42 l i).f1
        · rw [if_pos h, if_pos (by omega)]
          simp only [Option.bind_some]
          by_cases h2 : (rd_T42 l i).f0.length = (rd_T42 l 0).f0.length
          · have h3 : okB l i := ⟨h, h2⟩
            simp [h2, h3]
          · have h3 : ¬ okB l i := fun h3 => h2 h3.2
            have h4 : ¬ ((rd_T42 l i).f0.length : Int) = ((rd_T42 l 0).f0.length : Int) := by omega
            simp [h4, h3]
        · have h3 : ¬ okB l i := fun h3 => h h3.1
          simp [if_neg h, h3])
      k (by omega)]
    simp only [Option.bind_some, decide_eq_true hn, Bool.and_true]
    rcases look_or (fun i => ¬ okB l i) l.length 0 with ⟨h4, h5⟩ | ⟨j, -, h4, h5, h6⟩
    · rw [h4]
      have h7 : ∀ i, i < l.length → okB l i := fun i hi => Decidable.not_not.1 (h5 i (by omega) (by omega))
      rw [decide_eq_true h7]; rfl
    · rw [h5]
      have h7 : ¬ ∀ i, i < l.length → okB l i := fun h => h6 (h j (by omega))
      have h8 : (j : Int) ≥ 0 := by omega
      rw [decide_eq_false h7]; simp [h8]
  · rw [if_neg hn, decide_eq_false hn, Bool.and_false]
theorem mark64 (n : Nat) (hn : n ≤ 1048576) : ∀ (d i : Nat) (x : Int) (l : List Int), l.length = n → n - i = d → i ≤ n → 0 ≤ x → x + d ≤ 1099511627776 →
    ∃ r : List Int, r.length = n ∧ (∀ k, d < k → laws_markInt64S.l0 k l x (i : Int) = some (x + d, r)) ∧ (∀ j, j < i → r.getD j 0 = l.getD j 0) ∧ ∀ j, i ≤ j → j < n → r.getD j 0 = x + ((j - i : Nat) : Int) := by
  intro d
  induction d with
  | zero =>
    intro i x l hl hd hi h0 h1
    refine ⟨l, hl, fun k hk => ?_, fun j _ => rfl, fun j h2 h3 => by omega⟩
    obtain ⟨k, rfl⟩ : ∃ m, k = m + 1 := ⟨k - 1, by omega⟩
    rw [laws_markInt64S.l0, if_neg (by omega)]
    simp
  | succ d ih =>
    intro i x l hl hd hi h0 h1
    obtain ⟨r, hr, hk0, hlo, hhi⟩ := ih (i + 1) (x + 1) (l.set i x) (by simpa using hl) (by omega) (by omega) (by omega) (by omega)
    refine ⟨r, hr, fun k hk => ?_, fun j hj => ?_, fun j h2 h3 => ?_⟩
    · obtain ⟨k, rfl⟩ : ∃ m, k = m + 1 := ⟨k - 1, by omega⟩
      rw [laws_markInt64S.l0, if_pos (by omega), if_pos (by omega), wrap64_id (by omega) (by omega), wrap64_id (by omega) (by omega), Int.toNat_natCast, show (i : Int) + 1 = ((i + 1 : Nat) : Int) by omega, hk0 k (by omega)]
      congr 2
      omega
    · rw [hlo j (by omega)]
      simp only [List.getD_eq_getElem?_getD]
      rw [List.getElem?_set_ne (by omega)]
    · by_cases hj : j = i
      · subst hj
        rw [hlo j (by omega)]
        simp only [List.getD_eq_getElem?_getD]
        rw [List.getElem?_set_self (by omega)]
        simp
      · rw [hhi j (by omega) h3]
        omega
theorem held64 (n : Nat) (hn : n ≤ 1048576) (l : List Int) (hl : l.length = n) : ∀ (d i : Nat) (x : Int), n - i = d → i ≤ n → 0 ≤ x → x + d ≤ 1099511627776 → (∀ j, i ≤ j → j < n → l.getD j 0 = x + ((j - i : Nat) : Int)) →
    ∀ k, d < k → laws_heldInt64S.l0 k l x (i : Int) = some (x + d) := by
  intro d
  induction d with
  | zero =>
    intro i x hd hi h0 h1 hm k hk
    obtain ⟨k, rfl⟩ : ∃ m, k = m + 1 := ⟨k - 1, by omega⟩
    rw [laws_heldInt64S.l0, if_neg (by omega)]
    simp
  | succ d ih =>
    intro i x hd hi h0 h1 hm k hk
    obtain ⟨k, rfl⟩ : ∃ m, k = m + 1 := ⟨k - 1, by omega⟩
    have e : rd l (i : Int) = x := by
      have h := hm i (Nat.le_refl _) (by omega)
      rw [Nat.sub_self] at h
      simpa [rd] using h
    rw [laws_heldInt64S.l0, if_pos (by omega), if_pos (by omega), e, if_pos rfl, wrap64_id (by omega) (by omega), wrap64_id (by omega) (by omega), show (i : Int) + 1 = ((i + 1 : Nat) : Int) by omega, ih (i + 1) (x + 1) (by omega) (by omega) (by omega) (by omega) (fun j h2 h3 => by
      rw [hm j (by omega) h3]; omega) k (by omega)]
    congr 1
    omega
/-- a list that has been marked from x on, and what its marks are held against -/
theorem marks64 (l : List Int) (hl : l.length ≤ 1048576) (x : Int) (h0 : 0 ≤ x) (h1 : x ≤ 1073741824) :
    ∃ r : List Int, r.length = l.length ∧ (∀ k, 1048576 < k → laws_markInt64S.f k l x = some (x + l.length, r)) ∧ ∀ k, 1048576 < k → laws_heldInt64S.f k r x = some (x + l.length) := by
  obtain ⟨r, hr, hm, -, hv⟩ := mark64 l.length hl l.length 0 x l rfl (by omega) (by omega) h0 (by omega)
  exact ⟨r, hr, fun k hk => hm k (by omega), fun k hk => held64 l.length hl r hr l.length 0 x (by omega) (by omega) h0 (by omega) (fun j h2 h3 => hv j h2 h3) k (by omega)⟩
theorem clone_eq (l : List Int) (h : l.length ≤ 1048576) : slices_Clone_int64_int64.f l = some l := by
  unfold slices_Clone_int64_int64.f slices_Clone_int64_int64_nn.f
  simp only [Option.bind_some, List.length_nil, List.nil_append]
  rw [if_pos (by omega)]
theorem min_eq (a b : Int) : spec_l00Min.f a b = some (mn b a) := by
  unfold spec_l00Min.f mn
  by_cases h : a < b
  · rw [if_pos h, if_pos h]
  · rw [if_neg h, if_neg h]
theorem mn_comm (a b : Int) : mn a b = mn b a := by
  unfold mn; by_cases h : b < a <;> by_cases h' : a < b <;> simp [h, h'] <;> omega
theorem mx_comm (a b : Int) : mx a b = mx b a := by
  unfold mx; by_cases h : b < a <;> by_cases h' : a < b <;> simp [h, h'] <;> omega
theorem max_eq (a b : Int) : spec_l00Max.f a b = some (mx b a) := by
  unfold spec_l00Max.f mx
  by_cases h : a > b
  · have h' : b < a := h
    simp [h, h']
  · have h' : ¬ b < a := h
    simp [h, h']
/-- one box joined to the bounds -/
def joinJ (b : S42) : Nat → Nat → List Int × List Int → List Int × List Int
  | 0, _, s => s
  | d + 1, j, s => joinJ b d (j + 1) (s.1.set j (mn (rd s.1 (j : Int)) (rd b.f0 (j : Int))), s.2.set j (mx (rd s.2 (j : Int)) (rd b.f1 (j : Int))))
def joinI (l : List S42) (R : Nat) : Nat → Nat → List Int × List Int → List Int × List Int
  | 0, _, s => s
  | d + 1, i, s => joinI l R d (i + 1) (joinJ (rd_T42 l (i : Int)) R 0 s)
theorem joinJ_len (b : S42) : ∀ (d j : Nat) (s : List Int × List Int), (joinJ b d j s).1.length = s.1.length ∧ (joinJ b d j s).2.length = s.2.length
  | 0, _, _ => ⟨rfl, rfl⟩
  | d + 1, j, s => by
    obtain ⟨h1, h2⟩ := joinJ_len b d (j + 1) (s.1.set j (mn (rd s.1 (j : Int)) (rd b.f0 (j : Int))), s.2.set j (mx (rd s.2 (j : Int)) (rd b.f1 (j : Int))))
    unfold joinJ
    exact ⟨by rw [h1, List.length_set], by rw [h2, List.length_set]⟩
theorem joinI_len (l : List S42) (R : Nat) : ∀ (d i : Nat) (s : List Int × List Int), (joinI l R d i s).1.length = s.1.length ∧ (joinI l R d i s).2.length = s.2.length
  | 0, _, _ => ⟨rfl, rfl⟩
  | d + 1, i, s => by
    obtain ⟨h1, h2⟩ := joinI_len l R d (i + 1) (joinJ (rd_T42 l (i : Int)) R 0 s)
    obtain ⟨h3, h4⟩ := joinJ_len (rd_T42 l (i : Int)) R 0 s
    unfold joinI
    exact ⟨by rw [h1, h3], by rw [h2, h4]⟩
theorem specJ (l : List S42) (hl : l.length ≤ 1048576) (R i : Nat) (hR : R ≤ 3) (hi : i < l.length) (h0 : (rd_T42 l (i : Int)).f0.length = R) (h1 : (rd_T42 l (i : Int)).f1.length = R) :
    ∀ (d j k : Nat) (lo hi_ : List Int), j + d = R → lo.length = R → hi_.length = R → spec_BoundsOf.l1 (k + d + 1) l (i : Int) (j : Int) lo hi_ = spec_BoundsOf.l0 k l ((i + 1 : Nat) : Int) (joinJ (rd_T42 l (i : Int)) d j (lo, hi_)).1 (joinJ (rd_T42 l (i : Int)) d j (lo, hi_)).2 := by
  intro d
  induction d with
  | zero =>
    intro j k lo hi_ hj hlo hhi
    rw [spec_BoundsOf.l1, if_neg (by omega), wrap_up i (by omega)]
    rfl
  | succ d ih =>
    intro j k lo hi_ hj hlo hhi
    rw [show k + (d + 1) + 1 = (k + d + 1) + 1 by omega, spec_BoundsOf.l1, if_pos (by omega), if_pos (by omega), if_pos (by omega), if_pos (by omega), if_pos (by omega), min_eq, Option.bind_some, if_pos (by omega), if_pos (by omega), max_eq, Option.bind_some, wrap_up j (by omega), ih (j + 1) k _ _ (by omega) (by rw [List.length_set]; exact hlo) (by rw [List.length_set]; exact hhi), mn_comm, mx_comm]
    rfl
theorem implJ (l : List S42) (hl : l.length ≤ 1048576) (R i : Nat) (hR : R ≤ 3) (hi : i < l.length) (h0 : (rd_T42 l (i : Int)).f0.length = R) (h1 : (rd_T42 l (i : Int)).f1.length = R) :
    ∀ (d j k : Nat) (lo hi_ : List Int), j + d = R → lo.length = R → hi_.length = R → impl_BoundsOf.l1 (k + d + 1) l (l.length : Int) (i : Int) (R : Int) (j : Int) lo hi_ (rd_T42 l (i : Int)).f0 (rd_T42 l (i : Int)).f1 = impl_BoundsOf.l0 k l (l.length : Int) ((i + 1 : Nat) : Int) (joinJ (rd_T42 l (i : Int)) d j (lo, hi_)).1 (joinJ (rd_T42 l (i : Int)) d j (lo, hi_)).2 := by
  intro d
  induction d with
  | zero =>
    intro j k lo hi_ hj hlo hhi
    rw [impl_BoundsOf.l1, if_neg (by omega), wrap_up i (by omega)]
    rfl
  | succ d ih =>
    intro j k lo hi_ hj hlo hhi
    rw [show k + (d + 1) + 1 = (k + d + 1) + 1 by omega, impl_BoundsOf.l1, if_pos (by omega), if_pos (by omega), if_pos (by omega), if_pos (by omega), if_pos (by omega), if_pos (by omega), wrap_up j (by omega), ih (j + 1) k _ _ (by omega) (by rw [List.length_set]; exact hlo) (by rw [List.length_set]; exact hhi)]
    rfl
theorem specI (l : List S42) (hl : l.length ≤ 32) (R : Nat) (hR : R ≤ 3) (hb : ∀ i, i < l.length → (rd_T42 l (i : Int)).f0.length = R ∧ (rd_T42 l (i : Int)).f1.length = R) :
    ∀ (d i k : Nat) (lo hi_ : List Int), i + d = l.length → 10 * d + 10 ≤ k → lo.length = R → hi_.length = R → spec_BoundsOf.l0 k l (i : Int) lo hi_ = some ((joinI l R d i (lo, hi_)).1, (joinI l R d i (lo, hi_)).2, true) := by
  intro d
  induction d with
  | zero =>
    intro i k lo hi_ hi hk hlo hhi
    obtain ⟨k, rfl⟩ : ∃ z, k = z + 1 := ⟨k - 1, by omega⟩
    rw [spec_BoundsOf.l0, if_neg (by omega)]
    rfl
  | succ d ih =>
    intro i k lo hi_ hi hk hlo hhi
    obtain ⟨k, rfl⟩ : ∃ z, k = z + R + 1 + 1 := ⟨k - R - 2, by omega⟩
    obtain ⟨h0, h1⟩ := hb i (by omega)
    obtain ⟨l1, l2⟩ := joinJ_len (rd_T42 l (i : Int)) R 0 (lo, hi_)
    rw [spec_BoundsOf.l0, if_pos (by omega), show (0 : Int) = ((0 : Nat) : Int) from rfl, specJ l (by omega) R i hR (by omega) h0 h1 R 0 k lo hi_ (by omega) hlo hhi, ih (i + 1) k _ _ (by omega) (by omega) (by rw [l1]; exact hlo) (by rw [l2]; exact hhi)]
    rfl
theorem implI (l : List S42) (hl : l.length ≤ 32) (R : Nat) (hR : R ≤ 3) (hb : ∀ i, i < l.length → (rd_T42 l (i : Int)).f0.length = R ∧ (rd_T42 l (i : Int)).f1.length = R) :
    ∀ (d i k : Nat) (lo hi_ : List Int), i + d = l.length → 10 * d + 10 ≤ k → lo.length = R → hi_.length = R → impl_BoundsOf.l0 k l (l.length : Int) (i : Int) lo hi_ = some ((joinI l R d i (lo, hi_)).1, (joinI l R d i (lo, hi_)).2, true) := by
  intro d
  induction d with
  | zero =>
    intro i k lo hi_ hi hk hlo hhi
    obtain ⟨k, rfl⟩ : ∃ z, k = z + 1 := ⟨k - 1, by omega⟩
    rw [impl_BoundsOf.l0, if_neg (by omega)]
    rfl
  | succ d ih =>
    intro i k lo hi_ hi hk hlo hhi
    obtain ⟨k, rfl⟩ : ∃ z, k = z + R + 1 + 1 := ⟨k - R - 2, by omega⟩
    obtain ⟨h0, h1⟩ := hb i (by omega)
    obtain ⟨l1, l2⟩ := joinJ_len (rd_T42 l (i : Int)) R 0 (lo, hi_)
    rw [impl_BoundsOf.l0, if_pos (by omega), if_pos (by omega), if_pos (by omega), h0, show (0 : Int) = ((0 : Nat) : Int) from rfl, implJ l (by omega) R i hR (by omega) h0 h1 R 0 k lo hi_ (by omega) hlo hhi, ih (i + 1) k _ _ (by omega) (by omega) (by rw [l1]; exact hlo) (by rw [l2]; exact hhi)]
    rfl
theorem own_eq (l : List Int) (h : l.length ≤ 1048576) : spec_l00Own.f l = some l := by
  unfold spec_l00Own.f
  simp only [Option.bind_some, List.length_nil, List.nil_append]
  rw [if_pos (by omega)]
theorem both (l : List S42) (hl : (l.length : Int) ≤ 1048576) : ∃ (a b : List Int) (o : Bool), (a.length ≤ 3 ∧ b.length ≤ 3) ∧ ∀ k, 1048700 ≤ k → spec_BoundsOf.f k l = some (a, b, o) ∧ impl_BoundsOf.f k l = some (a, b, o) := by
  by_cases hv : (∀ i, i < l.length → okB l i) ∧ (l.length : Int) ≤ 32
  · have e : (decide (∀ i, i < l.length → okB l i) && decide ((l.length : Int) ≤ 32)) = true := by rw [decide_eq_true hv.1, decide_eq_true hv.2]; rfl
    by_cases h0 : l.length = 0
    · refine ⟨[], [], false, by simp, fun k hk => ?_⟩
      obtain ⟨k, rfl⟩ : ∃ z, k = z + 1 := ⟨k - 1, by omega⟩
      have hn : ((l.length : Int) == 0) = true := beq_iff_eq.mpr (by omega)
      constructor
      · unfold spec_BoundsOf.f
        rw [list_spec l (by omega) (k + 1) (by omega), e, hn]
        rfl
      · unfold impl_BoundsOf.f
        rw [list_impl l (by omega) (k + 1) (by omega), e, hn]
        rfl
    · have hn : ((l.length : Int) == 0) = false := beq_eq_false_iff_ne.mpr (by omega)
      have hb : ∀ i, i < l.length → (rd_T42 l (i : Int)).f0.length = (rd_T42 l ((0 : Nat) : Int)).f0.length ∧ (rd_T42 l (i : Int)).f1.length = (rd_T42 l ((0 : Nat) : Int)).f0.length := fun i hi => by
        have h1 := hv.1 i hi
        exact ⟨h1.2, by rw [h1.1.2.1]; exact h1.2⟩
      have hR : (rd_T42 l ((0 : Nat) : Int)).f0.length ≤ 3 := (hv.1 0 (by omega)).1.1
      have hR1 := (hb 0 (by omega)).2
      obtain ⟨l1, l2⟩ := joinI_len l (rd_T42 l ((0 : Nat) : Int)).f0.length l.length 0 ((rd_T42 l ((0 : Nat) : Int)).f0, (rd_T42 l ((0 : Nat) : Int)).f1)
      refine ⟨_, _, true, ⟨by rw [l1]; exact hR, by rw [l2]; show (rd_T42 l ((0 : Nat) : Int)).f1.length ≤ 3; omega⟩, fun k hk => ?_⟩
      obtain ⟨k, rfl⟩ : ∃ z, k = z + 1 := ⟨k - 1, by omega⟩
      constructor
      · unfold spec_BoundsOf.f
        rw [list_spec l (by omega) (k + 1) (by omega), e, hn]
        simp only [Option.bind_some, if_true]
        rw [spec_BoundsOf.j0, if_neg (by decide), if_pos (by omega), show (0 : Int) = ((0 : Nat) : Int) from rfl, own_eq _ (by omega), own_eq _ (by omega)]
        simp only [Option.bind_some]
        exact specI l (by omega) _ hR hb l.length 0 k _ _ (by omega) (by omega) rfl hR1
      · unfold impl_BoundsOf.f
        rw [list_impl l (by omega) (k + 1) (by omega), e, hn]
        simp only [Option.bind_some, if_true]
        rw [impl_BoundsOf.j0, if_neg (by decide), if_pos (by omega), show (0 : Int) = ((0 : Nat) : Int) from rfl, clone_eq _ (by omega), clone_eq _ (by omega)]
        simp only [Option.bind_some]
        exact implI l (by omega) _ hR hb l.length 0 k _ _ (by omega) (by omega) rfl hR1
  · have e : (decide (∀ i, i < l.length → okB l i) && decide ((l.length : Int) ≤ 32)) = false := by
      by_cases h1 : ∀ i, i < l.length → okB l i
      · rw [decide_eq_false (fun h2 => hv ⟨h1, h2⟩), Bool.and_false]
      · rw [decide_eq_false h1, Bool.false_and]
    refine ⟨[], [], false, by simp, fun k hk => ?_⟩
    obtain ⟨k, rfl⟩ : ∃ z, k = z + 1 := ⟨k - 1, by omega⟩
    constructor
    · unfold spec_BoundsOf.f
      rw [list_spec l (by omega) (k + 1) (by omega), e]
      rfl
    · unfold impl_BoundsOf.f
      rw [list_impl l (by omega) (k + 1) (by omega), e]
      rfl
/-! marks of the argument -/
theorem markV (n : Nat) (hn : n ≤ 1048576) : ∀ (d i : Nat) (x : Int) (l : List Int), l.length = n → n - i = d → i ≤ n → 0 ≤ x → x + d ≤ 1152921504606846976 →
    ∃ r : List Int, ∀ k, d < k → laws_markInt64S.l0 k l x (i : Int) = some (x + d, r) := by
  intro d
  induction d with
  | zero =>
    intro i x l hl hd hi h0 h1
    refine ⟨l, fun k hk => ?_⟩
    obtain ⟨k, rfl⟩ : ∃ m, k = m + 1 := ⟨k - 1, by omega⟩
    rw [laws_markInt64S.l0, if_neg (by omega)]
    simp
  | succ d ih =>
    intro i x l hl hd hi h0 h1
    obtain ⟨r, hk0⟩ := ih (i + 1) (x + 1) (l.set i x) (by simpa using hl) (by omega) (by omega) (by omega) (by omega)
    refine ⟨r, fun k hk => ?_⟩
    obtain ⟨k, rfl⟩ : ∃ m, k = m + 1 := ⟨k - 1, by omega⟩
    rw [laws_markInt64S.l0, if_pos (by omega), if_pos (by omega), wrap64_id (by omega) (by omega), wrap64_id (by omega) (by omega), Int.toNat_natCast, show (i : Int) + 1 = ((i + 1 : Nat) : Int) by omega, hk0 k (by omega)]
    congr 2
    omega
theorem markF (l : List Int) (hl : l.length ≤ 1048576) (x : Int) (h0 : 0 ≤ x) (h1 : x ≤ 1125899906842624) : ∃ r : List Int, ∀ k, 1048590 ≤ k → laws_markInt64S.f k l x = some (x + l.length, r) := by
  obtain ⟨r, hr⟩ := markV l.length hl l.length 0 x l rfl (by omega) (by omega) h0 (by omega)
  exact ⟨r, fun k hk => hr k (by omega)⟩
theorem rdT_lt (l : List S42) (i : Nat) (h : i < l.length) : rd_T42 l (i : Int) = l[i] := by
  simp [rd_T42, h]
theorem markB (n : Nat) (hn : n ≤ 1048576) : ∀ (d i : Nat) (x : Int) (l : List S42), l.length = n → i + d = n → 0 ≤ x → x + 2097152 * (d : Int) ≤ 1125899906842624 → (∀ j, i ≤ j → j < n → QS42 (rd_T42 l (j : Int))) →
    ∃ (t : Int) (r : List S42), 0 ≤ t ∧ ∀ k, 1048600 + d < k → laws_markBoxS.l0 k l x (i : Int) = some (t, r) := by
  intro d
  induction d with
  | zero =>
    intro i x l hl hi h0 h1 hq
    refine ⟨x, l, h0, fun k hk => ?_⟩
    obtain ⟨k, rfl⟩ : ∃ m, k = m + 1 := ⟨k - 1, by omega⟩
    rw [laws_markBoxS.l0, if_neg (by omega)]
  | succ d ih =>
    intro i x l hl hi h0 h1 hq
    obtain ⟨q0, q1⟩ := hq i (by omega) (by omega)
    obtain ⟨r0, m0⟩ := markF (rd_T42 l (i : Int)).f0 (by omega) x h0 (by omega)
    obtain ⟨r1, m1⟩ := markF (rd_T42 l (i : Int)).f1 (by omega) (x + (rd_T42 l (i : Int)).f0.length) (by omega) (by omega)
    obtain ⟨t, r, ht, hk0⟩ := ih (i + 1) (x + (rd_T42 l (i : Int)).f0.length + (rd_T42 l (i : Int)).f1.length) (l.set i ⟨r0, r1⟩) (by rw [List.length_set]; exact hl) (by omega) (by omega) (by omega) (fun j h2 h3 => by
      have h4 := hq j (by omega) h3
      rw [rdT_lt l j (by omega)] at h4
      rw [rdT_lt _ j (by rw [List.length_set]; omega), List.getElem_set_ne (by omega)]
      exact h4)
    refine ⟨t, r, ht, fun k hk => ?_⟩
    obtain ⟨k, rfl⟩ : ∃ m, k = m + 1 := ⟨k - 1, by omega⟩
    rw [laws_markBoxS.l0, if_pos (by omega), if_pos (by omega), m0 k (by omega)]
    simp only [Option.bind_some]
    rw [m1 k (by omega)]
    simp only [Option.bind_some]
    rw [Int.toNat_natCast, wrap_up i (by omega)]
    exact hk0 k (by omega)
theorem markBF (l : List S42) (hl : (l.length : Int) ≤ 1048576) (hq : ∀ y ∈ l, QS42 y) : ∃ t : Int, 0 ≤ t ∧ ∀ k, 2097200 ≤ k → laws_markBoxS.f k l 1 = some t := by
  obtain ⟨t, r, ht, h⟩ := markB l.length (by omega) l.length 0 1 l rfl (by omega) (by omega) (by omega) (fun j _ hj => by rw [rdT_lt l j hj]; exact hq _ (List.getElem_mem _))
  refine ⟨t, ht, fun k hk => ?_⟩
  unfold laws_markBoxS.f laws_markBoxS.g
  rw [show laws_markBoxS.l0 k l 1 0 = _ from h k (by omega)]
  rfl
theorem marks_box (a b : List Int) (ha : a.length ≤ 3) (hb : b.length ≤ 3) :
    ∃ (t : Int) (a' b' : List Int), 0 ≤ t ∧ (∀ k, 1048600 ≤ k → laws_markBox.f k a b 1 = some (t, a', b')) ∧ ∀ k, 1048600 ≤ k → laws_heldBox.f k a' b' 1 = some t := by
  obtain ⟨r1, -, m1, n1⟩ := marks64 a (by omega) 1 (by omega) (by omega)
  obtain ⟨r2, -, m2, n2⟩ := marks64 b (by omega) (1 + a.length) (by omega) (by omega)
  refine ⟨1 + a.length + b.length, r1, r2, by omega, fun k hk => ?_, fun k hk => ?_⟩
  · unfold laws_markBox.f
    rw [m1 k (by omega)]
    simp only [Option.bind_some]
    rw [m2 k (by omega)]
    rfl
  · unfold laws_heldBox.f
    rw [n1 k (by omega)]
    simp only [Option.bind_some]
    rw [if_neg (by omega), n2 k (by omega)]
    simp only [Option.bind_some]
    rw [if_neg (by omega)]
theorem FnExactBoundsOf : laws_FnExactBoundsOf.Pure := by
  intro l0 o0
  obtain ⟨t, hs, h⟩ := g_szBoxS 5000010 l0 1048576 (by omega) (by omega) (by omega) o0
  refine ⟨5000010, ?_⟩
  unfold laws_FnExactBoundsOf.f
  rw [hs]
  simp only [Option.bind_some]
  rcases h with h | ⟨h0, -, hl, hq⟩
  · rw [if_pos h]
  have hl' : ((l0.map cS69).length : Int) ≤ 1048576 := by rw [List.length_map]; exact hl
  have hq' := qmS69 l0 hq
  obtain ⟨a, b, o, ⟨ha, hb⟩, hv⟩ := both (l0.map cS69) hl'
  obtain ⟨m, hm0, hm⟩ := markBF (l0.map cS69) hl' hq'
  obtain ⟨n, a', b', hn0, hn, hh⟩ := marks_box a b ha hb
  have TT := fun k (hk : 3000000 ≤ k) => g_toBoxS k l0 (by omega) hl hq
  have EB := fun k (hk : 3000000 ≤ k) => g_eqBox k a b (by omega) (by omega) (by omega)
  have ES := fun k (hk : 3000000 ≤ k) => g_eqBoxS k (l0.map cS69) (by omega) hl' hq'
  rw [if_neg (by omega), TT _ (by omega)]
  simp only [Option.bind_some]
  rw [(hv _ (by omega)).1, (hv _ (by omega)).2]
  simp only [Option.bind_some]
  rw [EB _ (by omega)]
  simp only [Option.bind_some, if_true, bne_self_eq_false]
  rw [laws_FnExactBoundsOf.j0, if_neg (by decide), TT _ (by omega)]
  simp only [Option.bind_some]
  rw [ES _ (by omega)]
  simp only [Option.bind_some, if_true]
  rw [hm _ (by omega)]
  simp only [Option.bind_some]
  rw [if_neg (by omega), EB _ (by omega)]
  simp only [Option.bind_some, if_true, bne_self_eq_false]
  rw [laws_FnExactBoundsOf.j1, if_neg (by decide), hn _ (by omega)]
  simp only [Option.bind_some]
  rw [hh _ (by omega)]
  simp only [Option.bind_some]
  rw [if_neg (by omega), if_pos trivial, TT _ (by omega)]
  simp only [Option.bind_some]
  rw [(hv _ (by omega)).2]
  simp only [Option.bind_some]
  rw [EB _ (by omega)]
  simp only [Option.bind_some, if_true, bne_self_eq_false]
  rw [laws_FnExactBoundsOf.j2, if_neg (by decide), hh _ (by omega)]
  simp only [Option.bind_some]
  rw [if_neg (by omega), if_pos trivial]

end Go.Proofs.Ytdiaebjbiddefaa.Pure
