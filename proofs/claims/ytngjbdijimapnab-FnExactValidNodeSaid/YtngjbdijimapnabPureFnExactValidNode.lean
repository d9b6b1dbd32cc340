/- The plain form of FnExactValidNode: for all arguments the answer is true. It holds without a condition. -/
import Derived.Test.YtngjbdijimapnabPFnExactValidNodex5
import Derived.OpenShut
namespace Go.Proofs.Ytngjbdijimapnab.Pure
open Go Go.RowKit Go.Proofs.Ytngjbdijimapnab.PFnExactValidNode Go.Proofs.YtngjbdijimapnabW.PrintWords Go.Proofs.YtngjbdijimapnabW.PrintLast Go.Proofs.YtngjbdijimapnabW.PrintMore
set_option linter.unusedVariables false
set_option linter.unusedSimpArgs false

theorem wf64 {a : Int} (h : (Lit.int .i64 a).wf = true) : -9223372036854775808 ≤ a ∧ a ≤ 9223372036854775807 := Go.bounds_i64 h
theorem wrap64_id {a : Int} (h : -9223372036854775808 ≤ a) (h' : a ≤ 9223372036854775807) : wrap64 a = a := by unfold wrap64; omega
theorem count_loop {σ ρ : Type} (L : Nat → σ → Int → Option ρ) (n m : Nat) (I : Nat → σ → Prop) (R : ρ → Prop)
    (hstop : ∀ k s, m ≤ k → I n s → ∃ r, L (k + 1) s (n : Int) = some r ∧ R r)
    (hstep : ∀ k s (i : Nat), m ≤ k → i < n → I i s → (∃ s', I (i + 1) s' ∧ L (k + 1) s (i : Int) = L k s' ((i + 1 : Nat) : Int)) ∨ ∃ r, L (k + 1) s (i : Int) = some r ∧ R r)
    (k : Nat) (s : σ) (i : Nat) (hi : i ≤ n) (hk : n - i + m < k) (h : I i s) : ∃ r, L k s (i : Int) = some r ∧ R r := by
  obtain ⟨d, hd⟩ : ∃ d, d = n - i := ⟨_, rfl⟩
  induction d generalizing k s i with
  | zero =>
    obtain ⟨k, rfl⟩ : ∃ z, k = z + 1 := ⟨k - 1, by omega⟩
    obtain rfl : i = n := by omega
    exact hstop k s (by omega) h
  | succ d ih =>
    obtain ⟨k, rfl⟩ : ∃ z, k = z + 1 := ⟨k - 1, by omega⟩
    rcases hstep k s i (by omega) (by omega) h with ⟨s', h', e⟩ | h'
    · rw [e]; exact ih k s' (i + 1) (by omega) (by omega) h' (by omega)
    · exact h'
theorem w0 : wrap64 0 = 0 := by unfold wrap64; omega
theorem w1 : wrap64 1 = 1 := by unfold wrap64; omega
theorem w2 : wrap64 2 = 2 := by unfold wrap64; omega
theorem w3 : wrap64 3 = 3 := by unfold wrap64; omega
theorem rd_lt (l : List Int) (i : Nat) (h : i < l.length) : rd l (i : Int) = l[i] := by
  simp [rd, List.getD_eq_getElem?_getD, List.getElem?_eq_getElem h]
theorem rds_lt (l : List ByteArray) (i : Nat) (h : i < l.length) : rdOf ByteArray.empty l (i : Int) = l[i] := by
  simp [rdOf, List.getD_eq_getElem?_getD, List.getElem?_eq_getElem h]
theorem wrap_up (i : Nat) (h : i < 1099511627776) : wrap64 ((i : Int) + 1) = ((i + 1 : Nat) : Int) := by unfold wrap64; omega
theorem set_next {α : Type} (l out : List α) (i : Nat) (h : i < l.length) (hl : out.length = l.length) (hp : out.take i = l.take i) : (out.set i l[i]).take (i + 1) = l.take (i + 1) := by
  apply List.ext_getElem?
  intro j
  by_cases hj : j < i + 1
  · rw [List.getElem?_take_of_lt hj, List.getElem?_take_of_lt hj]
    by_cases hji : j = i
    · subst hji; rw [List.getElem?_set_self (by omega), List.getElem?_eq_getElem h]
    · rw [List.getElem?_set_ne (by omega)]
      have := congrArg (fun z => z[j]?) hp
      simpa [List.getElem?_take_of_lt (show j < i by omega)] using this
  · rw [List.getElem?_eq_none (by simp; omega), List.getElem?_eq_none (by simp; omega)]
theorem take_all {α : Type} (l out : List α) (hl : out.length = l.length) (hp : out.take l.length = l.take l.length) : out = l := by
  rwa [List.take_of_length_le (by omega), List.take_length] at hp
theorem all_loop (L : Nat → Int → Option Bool) (P : Nat → Prop) [DecidablePred P] (n m : Nat) (r : Bool)
    (hend : ∀ k, m ≤ k → L (k + 1) (n : Int) = some r) (hstep : ∀ k (i : Nat), m ≤ k → i < n → L (k + 1) (i : Int) = if P i then L k ((i + 1 : Nat) : Int) else some false) (k : Nat) (hk : n + m < k) :
    L k 0 = some (decide (∀ i, i < n → P i) && r) := by
  obtain ⟨s, h, rfl⟩ := count_loop (fun k (_ : Unit) i => L k i) n m (fun i _ => ∀ j, j < i → P j) (fun s => s = (decide (∀ i, i < n → P i) && r))
    (by
      rintro k s hm h
      exact ⟨r, hend k hm, by simp [decide_eq_true h]⟩)
    (by
      rintro k s i hm hi h
      by_cases hp : P i
      · refine .inl ⟨(), ?_, by show L (k + 1) _ = _; rw [hstep k i hm hi, if_pos hp]⟩
        intro j hj
        by_cases hji : j = i
        · subst hji; exact hp
        · exact h j (by omega)
      · refine .inr ⟨false, by show L (k + 1) _ = _; rw [hstep k i hm hi, if_neg hp], ?_⟩
        have : ¬ ∀ i, i < n → P i := fun h => hp (h i hi)
        simp [this])
    k () 0 (by omega) (by omega) (by simp)
  exact h
def look (P : Nat → Prop) [DecidablePred P] : Nat → Nat → Int
  | 0, _ => -1
  | d + 1, i => if P i then (i : Int) else look P d (i + 1)
theorem look_or (P : Nat → Prop) [DecidablePred P] (d : Nat) : ∀ i, (look P d i = -1 ∧ ∀ j, i ≤ j → j < i + d → ¬ P j) ∨ ∃ j, i ≤ j ∧ j < i + d ∧ look P d i = (j : Int) ∧ P j := by
  induction d with
  | zero => intro i; exact .inl ⟨rfl, fun j h1 h2 => by omega⟩
  | succ d ih =>
    intro i
    by_cases hp : P i
    · exact .inr ⟨i, by omega, by omega, by rw [look, if_pos hp], hp⟩
    · rw [look, if_neg hp]
      rcases ih (i + 1) with ⟨h1, h2⟩ | ⟨j, h1, h2, h3, h4⟩
      · refine .inl ⟨h1, fun j h3 h4 => ?_⟩
        by_cases hji : j = i
        · subst hji; exact hp
        · exact h2 j (by omega) (by omega)
      · exact .inr ⟨j, by omega, by omega, h3, h4⟩
theorem find_loop (L : Nat → Int → Option Int) (P : Nat → Prop) [DecidablePred P] (n m : Nat)
    (hend : ∀ k, m ≤ k → L (k + 1) (n : Int) = some (-1)) (hstep : ∀ k (i : Nat), m ≤ k → i < n → L (k + 1) (i : Int) = if P i then some (i : Int) else L k ((i + 1 : Nat) : Int)) (k : Nat) (hk : n + m < k) :
    L k 0 = some (look P n 0) := by
  have key : ∀ d k i, i + d = n → d + m < k → L k (i : Int) = some (look P d i) := by
    intro d
    induction d with
    | zero =>
      intro k i hi hk
      obtain ⟨k, rfl⟩ : ∃ z, k = z + 1 := ⟨k - 1, by omega⟩
      obtain rfl : i = n := by omega
      exact hend k (by omega)
    | succ d ih =>
      intro k i hi hk
      obtain ⟨k, rfl⟩ : ∃ z, k = z + 1 := ⟨k - 1, by omega⟩
      rw [hstep k i (by omega) (by omega), look]
      by_cases hp : P i
      · rw [if_pos hp, if_pos hp]
      · rw [if_neg hp, if_neg hp]; exact ih k (i + 1) (by omega) (by omega)
  exact key n k 0 (by omega) (by omega)
theorem getD_lt {α : Type} (l : List α) (z : α) (i : Nat) (h : i < l.length) : l.getD (i : Int).toNat z = l[i] := by
  simp [List.getD_eq_getElem?_getD, List.getElem?_eq_getElem h]
theorem flip_ite {α : Type} (c : Prop) [Decidable c] (a b : α) : (if c then b else a) = if ¬ c then a else b := by
  by_cases h : c
  · rw [if_pos h, if_neg (fun h2 => h2 h)]
  · rw [if_neg h, if_pos h]
theorem seq_loop (L : Nat → Int → Option Bool) (P : Nat → Prop) [DecidablePred P] (n : Nat)
    (hend : ∀ k, L (k + 1) (n : Int) = some true) (hstep : ∀ k (i : Nat), i < n → L (k + 1) (i : Int) = if P i then L k ((i + 1 : Nat) : Int) else some false) (k : Nat) (hk : n < k) :
    L k 0 = some (decide (∀ i, i < n → P i)) := by
  rw [all_loop L P n 0 true (fun k _ => hend k) (fun k i _ hi => hstep k i hi) k (by omega), Bool.and_true]
theorem in_eq (a b c : Int) : spec_l00In.f a b c = some (decide (b ≤ a ∧ a ≤ c)) := by
  unfold spec_l00In.f
  by_cases h : a ≥ b
  · rw [if_pos h]
    by_cases h2 : a ≤ c <;> simp [h2] <;> omega
  · rw [if_neg h]; simp; omega
theorem within_eq (a b c : Int) : impl_within.f a b c = some (decide (b ≤ a ∧ a ≤ c)) := by
  unfold impl_within.f
  by_cases h : a ≥ b
  · rw [if_pos h]
    by_cases h2 : a ≤ c <;> simp [h2] <;> omega
  · rw [if_neg h]; simp; omega
theorem g_szloop {α : Type} (L : Nat → List α → Int → Int → Option Int) (E : Nat → α → Int → Option Int) (z : α) (m : Nat) (Q : α → Prop) (l : List α)
    (hL : ∀ k a i, L (k + 1) l a i = if i < (l.length : Int) then (if 0 ≤ i then ((E k (l.getD i.toNat z) a).bind fun t => if t < 0 then some (-1) else L k l t (wrap64 (i + 1))) else none) else some a)
    (hE : ∀ k x a, x ∈ l → 0 ≤ a → a ≤ 1048576 → m ≤ k → ∃ t, E k x a = some t ∧ (t < 0 ∨ (0 ≤ t ∧ t ≤ a ∧ Q x)))
    (hl : l.length ≤ 1048576) (k : Nat) (a : Int) (h0 : 0 ≤ a) (h1 : a ≤ 1048576) (hk : m + 1048580 < k) :
    ∃ t, L k l a 0 = some t ∧ (t < 0 ∨ (0 ≤ t ∧ t ≤ a ∧ ∀ x ∈ l, Q x)) := by
  exact count_loop (fun k s i => L k l s i) l.length m (fun i s => 0 ≤ s ∧ s ≤ a ∧ ∀ x ∈ l.take i, Q x) (fun t => t < 0 ∨ (0 ≤ t ∧ t ≤ a ∧ ∀ x ∈ l, Q x))
    (by
      rintro k s - ⟨h1, h2, h3⟩
      rw [List.take_length] at h3
      exact ⟨s, by show L (k + 1) l s _ = _; rw [hL, if_neg (by omega)], .inr ⟨h1, h2, h3⟩⟩)
    (by
      rintro k s i hm hi ⟨h1, h2, h3⟩
      have hg : l.getD (i : Int).toNat z = l[i] := by simp [List.getD_eq_getElem?_getD, List.getElem?_eq_getElem hi]
      obtain ⟨t, e, ht⟩ := hE k l[i] s (List.getElem_mem hi) h1 (by omega) hm
      rcases ht with ht | ⟨q1, q2, q3⟩
      · refine .inr ⟨-1, ?_, .inl (by omega)⟩
        show L (k + 1) l s _ = _
        rw [hL, if_pos (by omega), if_pos (by omega), hg, e]
        simp only [Option.bind_some]
        rw [if_pos ht]
      · refine .inl ⟨t, ⟨q1, by omega, ?_⟩, ?_⟩
        · intro x hx'
          rw [List.take_succ_eq_append_getElem hi, List.mem_append] at hx'
          rcases hx' with hx' | hx'
          · exact h3 x hx'
          · simp at hx'; subst hx'; exact q3
        · show L (k + 1) l s _ = _
          rw [hL, if_pos (by omega), if_pos (by omega), hg, e]
          simp only [Option.bind_some]
          rw [if_neg (by omega), wrap_up i (by omega)])
    k a 0 (by omega) (by omega) ⟨h0, by omega, by simp⟩
theorem g_toloop {α β γ : Type} (L : Nat → List α → List β → Int → Option (List β)) (E : Nat → α → Option γ) (mk : γ → β) (z : α) (c : α → β) (m : Nat) (l : List α)
    (hL : ∀ k s i, L (k + 1) l s i = if i < (l.length : Int) then (if 0 ≤ i then ((E k (l.getD i.toNat z)).bind fun b => (if i < (s.length : Int) then L k l (s.set i.toNat (mk b)) (wrap64 (i + 1)) else none)) else none) else some s)
    (hE : ∀ k x, x ∈ l → m ≤ k → ∃ b, E k x = some b ∧ mk b = c x)
    (hl : l.length ≤ 1048576) (k : Nat) (s : List β) (hs : s.length = l.length) (hk : m + 1048580 < k) : L k l s 0 = some (l.map c) := by
  obtain ⟨r, h, rfl⟩ := count_loop (fun k s i => L k l s i) l.length m (fun i s => s.length = (l.map c).length ∧ s.take i = (l.map c).take i) (fun r => r = l.map c)
    (by
      rintro k s - ⟨h1, h2⟩
      exact ⟨s, by show L (k + 1) l s _ = _; rw [hL, if_neg (by omega)], take_all (l.map c) s h1 (by rw [List.length_map]; exact h2)⟩)
    (by
      rintro k s i hm hi ⟨h1, h2⟩
      have hg : l.getD (i : Int).toNat z = l[i] := by simp [List.getD_eq_getElem?_getD, List.getElem?_eq_getElem hi]
      have hi' : i < (l.map c).length := by simpa using hi
      obtain ⟨b, e, hb⟩ := hE k l[i] (List.getElem_mem hi) hm
      have hb' : mk b = (l.map c)[i] := by rw [hb, List.getElem_map]
      refine .inl ⟨s.set i (l.map c)[i], ⟨by simpa using h1, set_next (l.map c) s i hi' h1 h2⟩, ?_⟩
      show L (k + 1) l s _ = _
      rw [hL, if_pos (by omega), if_pos (by omega), hg, e]
      simp only [Option.bind_some]
      rw [if_pos (by rw [h1]; simp; omega), wrap_up i (by omega), hb']
      rfl)
    k s 0 (by omega) (by omega) ⟨by simpa using hs, by simp⟩
  exact h
theorem g_eqloop {α : Type} (L : Nat → List α → List α → Int → Option Bool) (E : Nat → α → Option Bool) (z : α) (m : Nat) (l : List α)
    (hL : ∀ k i, L (k + 1) l l i = if i < (l.length : Int) then (if 0 ≤ i then (if i < (l.length : Int) then ((E k (l.getD i.toNat z)).bind fun t => (if t = true then L k l l (wrap64 (i + 1)) else some false)) else none) else none) else some true)
    (hE : ∀ k x, x ∈ l → m ≤ k → E k x = some true)
    (hl : l.length ≤ 1048576) (k : Nat) (hk : m + 1048580 < k) : L k l l 0 = some true := by
  obtain ⟨r, h, rfl⟩ := count_loop (fun k (_ : Unit) i => L k l l i) l.length m (fun _ _ => True) (fun r => r = true)
    (by
      rintro k s - -
      exact ⟨true, by show L (k + 1) l l _ = _; rw [hL, if_neg (by omega)], rfl⟩)
    (by
      rintro k s i hm hi -
      have hg : l.getD (i : Int).toNat z = l[i] := by simp [List.getD_eq_getElem?_getD, List.getElem?_eq_getElem hi]
      refine .inl ⟨(), trivial, ?_⟩
      show L (k + 1) l l _ = _
      rw [hL, if_pos (by omega), if_pos (by omega), if_pos (by omega), hg, hE k _ (List.getElem_mem hi) hm]
      simp only [Option.bind_some]
      rw [if_pos trivial, wrap_up i (by omega)])
    k () 0 (by omega) (by omega) trivial
  exact h
def QS140 (x : S140) : Prop := True
theorem g_szChunkS (k : Nat) (l0 : List (S140)) (a : Int) (h0 : 0 ≤ a) (h1 : a ≤ 1048576) (hk : 0 ≤ k) (o_l0 : l0.length ≤ maxLen ∧ ∀ x_ ∈ l0, okS140 x_) : ∃ t, laws_szChunkS.f l0 a = some t ∧ (t < 0 ∨ (0 ≤ t ∧ t ≤ a ∧ (l0.length : Int) ≤ 1048576 ∧ (∀ y ∈ l0, QS140 y))) := by
  have p_l0 := o_l0.1
  unfold maxLen at p_l0
  unfold laws_szChunkS.f
  rw [wrap64_id (a := a - (l0.length : Int)) (by omega) (by omega)]
  by_cases c0 : a - (l0.length : Int) < 0
  · exact ⟨-1, by rw [if_pos c0], .inl (by omega)⟩
  rw [if_neg c0]
  exact ⟨_, rfl, .inr ⟨by omega, by omega, by omega, fun _ _ => trivial⟩⟩
theorem g_szInt64S (k : Nat) (l0 : List Int) (a : Int) (h0 : 0 ≤ a) (h1 : a ≤ 1048576) (hk : 0 ≤ k) (o_l0 : l0.length ≤ maxLen ∧ ∀ x_ ∈ l0, (Lit.int .i64 x_).wf = true) : ∃ t, laws_szInt64S.f l0 a = some t ∧ (t < 0 ∨ (0 ≤ t ∧ t ≤ a ∧ (l0.length : Int) ≤ 1048576)) := by
  have p_l0 := o_l0.1
  unfold maxLen at p_l0
  unfold laws_szInt64S.f
  rw [wrap64_id (a := a - (l0.length : Int)) (by omega) (by omega)]
  by_cases c0 : a - (l0.length : Int) < 0
  · exact ⟨-1, by rw [if_pos c0], .inl (by omega)⟩
  rw [if_neg c0]
  exact ⟨_, rfl, .inr ⟨by omega, by omega, by omega⟩⟩
theorem g_szNode (k : Nat) (a0_0 : Bool) (l0_1 : List (S140)) (l0_2 : List Int) (l0_3 : List Int) (a : Int) (h0 : 0 ≤ a) (h1 : a ≤ 1048576) (hk : 0 ≤ k) (o_l0_1 : l0_1.length ≤ maxLen ∧ ∀ x_ ∈ l0_1, okS140 x_) (o_l0_2 : l0_2.length ≤ maxLen ∧ ∀ x_ ∈ l0_2, (Lit.int .i64 x_).wf = true) (o_l0_3 : l0_3.length ≤ maxLen ∧ ∀ x_ ∈ l0_3, (Lit.int .i64 x_).wf = true) : ∃ t, laws_szNode.f a0_0 l0_1 l0_2 l0_3 a = some t ∧ (t < 0 ∨ (0 ≤ t ∧ t ≤ a ∧ (l0_1.length : Int) ≤ 1048576 ∧ (∀ y ∈ l0_1, QS140 y) ∧ (l0_2.length : Int) ≤ 1048576 ∧ (l0_3.length : Int) ≤ 1048576)) := by
  have p_l0_1 := o_l0_1.1
  unfold maxLen at p_l0_1
  have p_l0_2 := o_l0_2.1
  unfold maxLen at p_l0_2
  have p_l0_3 := o_l0_3.1
  unfold maxLen at p_l0_3
  unfold laws_szNode.f
  obtain ⟨t0, e0, q0⟩ := g_szChunkS k l0_1 a (by omega) (by omega) (by omega) o_l0_1
  rw [e0]
  simp only [Option.bind_some]
  rcases q0 with q0 | ⟨r0, s0, q0_l0_1_0, q0_l0_1_1⟩
  · exact ⟨-1, by rw [if_pos q0], .inl (by omega)⟩
  rw [if_neg (show ¬ t0 < 0 by omega)]
  obtain ⟨t1, e1, q1⟩ := g_szInt64S k l0_2 t0 (by omega) (by omega) (by omega) o_l0_2
  rw [e1]
  simp only [Option.bind_some]
  rcases q1 with q1 | ⟨r1, s1, q1_l0_2_0⟩
  · exact ⟨-1, by rw [if_pos q1], .inl (by omega)⟩
  rw [if_neg (show ¬ t1 < 0 by omega)]
  obtain ⟨t2, e2, q2⟩ := g_szInt64S k l0_3 t1 (by omega) (by omega) (by omega) o_l0_3
  rw [e2]
  simp only [Option.bind_some]
  rcases q2 with q2 | ⟨r2, s2, q2_l0_3_0⟩
  · exact ⟨-1, by rw [if_pos q2], .inl (by omega)⟩
  rw [if_neg (show ¬ t2 < 0 by omega)]
  exact ⟨_, rfl, .inr ⟨by omega, by omega, q0_l0_1_0, q0_l0_1_1, q1_l0_2_0, q2_l0_3_0⟩⟩
theorem g_toChunk (k : Nat) (a0_0 : Int) (a0_1 : Int) (a0_2 : Int) (a0_3 : Int) (hk : 0 ≤ k)  : laws_toChunk.f a0_0 a0_1 a0_2 a0_3 = some (a0_0, a0_1, a0_2, a0_3) := by
  unfold laws_toChunk.f
  rfl
def QS117 (x : S117) : Prop := True
def cS140 (x : S140) : S117 := ⟨x.f0, x.f1, x.f2, x.f3⟩
theorem qcS140 (x : S140) (h : QS140 x) : QS117 (cS140 x) := h
theorem qmS140 (l : List S140) (h : ∀ y ∈ l, QS140 y) : ∀ y ∈ l.map cS140, QS117 y := by
  intro y hy
  obtain ⟨x, hx, rfl⟩ := List.mem_map.1 hy
  exact qcS140 x (h x hx)
theorem g_toChunkS (k : Nat) (l : List (S140)) (hk : 1048590 ≤ k) (o1 : (l.length : Int) ≤ 1048576) (o2 : (∀ y ∈ l, QS140 y)) : laws_toChunkS.f k l = some (l.map cS140) := by
  unfold laws_toChunkS.f
  rw [if_pos (by omega), if_pos (by omega)]
  have h := g_toloop laws_toChunkS.l0 (fun k (x : S140) => laws_toChunk.f x.f0 x.f1 x.f2 x.f3) (fun b => (⟨b.1, b.2.1, b.2.2.1, b.2.2.2⟩ : S117)) z140 cS140 0 l (by intro k s i; rw [laws_toChunkS.l0]; rfl)
    (by intro k x hx hm; exact ⟨_, g_toChunk k x.f0 x.f1 x.f2 x.f3 hm , rfl⟩)
    (by omega) k (List.replicate ((l.length : Int) : Int).toNat z117) (by simp) (by omega)
  exact h
theorem g_toInt64S (k : Nat) (l : List Int) (hk : 1048590 ≤ k) (o1 : (l.length : Int) ≤ 1048576) : laws_toInt64S.f k l = some l := by
  unfold laws_toInt64S.f
  rw [if_pos (by omega), if_pos (by omega)]
  have h := g_toloop laws_toInt64S.l0 (fun _ (x : Int) => some x) (fun b => b) (0 : Int) id 0 l (by intro k s i; rw [laws_toInt64S.l0]; rfl)
    (by intro k x hx hm; exact ⟨_, rfl, rfl⟩)
    (by omega) k (List.replicate ((l.length : Int) : Int).toNat 0) (by simp) (by omega)
  rwa [List.map_id] at h
theorem g_toNode (k : Nat) (a0_0 : Bool) (l0_1 : List (S140)) (l0_2 : List Int) (l0_3 : List Int) (hk : 1048590 ≤ k) (o_l0_1_0 : (l0_1.length : Int) ≤ 1048576) (o_l0_1_1 : (∀ y ∈ l0_1, QS140 y)) (o_l0_2_0 : (l0_2.length : Int) ≤ 1048576) (o_l0_3_0 : (l0_3.length : Int) ≤ 1048576) : laws_toNode.f k a0_0 l0_1 l0_2 l0_3 = some (a0_0, (l0_1.map cS140), l0_2, l0_3) := by
  unfold laws_toNode.f
  rw [g_toChunkS k l0_1 (by omega) o_l0_1_0 o_l0_1_1]
  simp only [Option.bind_some]
  rw [g_toInt64S k l0_2 (by omega) o_l0_2_0]
  simp only [Option.bind_some]
  rw [g_toInt64S k l0_3 (by omega) o_l0_3_0]
  simp only [Option.bind_some]
theorem g_eqChunk (k : Nat) (a0_0 : Int) (a0_1 : Int) (a0_2 : Int) (a0_3 : Int) (hk : 0 ≤ k)  : laws_eqChunk.f a0_0 a0_1 a0_2 a0_3 a0_0 a0_1 a0_2 a0_3 = some true := by
  unfold laws_eqChunk.f
  simp only [Option.bind_some, bne_self_eq_false, Bool.false_eq_true, if_false, if_true, reduceIte]
theorem g_eqChunkS (k : Nat) (l : List (S117)) (hk : 1048590 ≤ k) (o1 : (l.length : Int) ≤ 1048576) (o2 : (∀ y ∈ l, QS117 y)) : laws_eqChunkS.f k l l = some true := by
  unfold laws_eqChunkS.f
  rw [if_pos rfl]
  exact g_eqloop laws_eqChunkS.l0 (fun k (x : S117) => laws_eqChunk.f x.f0 x.f1 x.f2 x.f3 x.f0 x.f1 x.f2 x.f3) z117 0 l (by intro k i; rw [laws_eqChunkS.l0]; rfl) (by intro k x hx hm; exact g_eqChunk k x.f0 x.f1 x.f2 x.f3 hm ) (by omega) k (by omega)
theorem g_eqInt64S (k : Nat) (l : List Int) (hk : 1048590 ≤ k) (o1 : (l.length : Int) ≤ 1048576) : laws_eqInt64S.f k l l = some true := by
  unfold laws_eqInt64S.f
  rw [if_pos rfl]
  exact g_eqloop laws_eqInt64S.l0 (fun _ (x : Int) => some true) (0 : Int) 0 l (by intro k i; rw [laws_eqInt64S.l0]; simp only [Option.bind_some, bne_self_eq_false, Bool.false_eq_true, if_false, if_true, reduceIte]) (by intro k x hx hm; rfl) (by omega) k (by omega)
theorem g_eqNode (k : Nat) (a0_0 : Bool) (l0_1 : List (S117)) (l0_2 : List Int) (l0_3 : List Int) (hk : 1048590 ≤ k) (o_l0_1_0 : (l0_1.length : Int) ≤ 1048576) (o_l0_1_1 : (∀ y ∈ l0_1, QS117 y)) (o_l0_2_0 : (l0_2.length : Int) ≤ 1048576) (o_l0_3_0 : (l0_3.length : Int) ≤ 1048576) : laws_eqNode.f k a0_0 l0_1 l0_2 l0_3 a0_0 l0_1 l0_2 l0_3 = some true := by
  unfold laws_eqNode.f
  simp only [g_eqChunkS k l0_1 (by omega) o_l0_1_0 o_l0_1_1, g_eqInt64S k l0_2 (by omega) o_l0_2_0, g_eqInt64S k l0_3 (by omega) o_l0_3_0, Option.bind_some, bne_self_eq_false, Bool.false_eq_true, if_false, if_true, reduceIte]
def okC (x : S117) : Prop := (0 ≤ x.f0 ∧ x.f0 ≤ 65535) ∧ (1 ≤ x.f1 ∧ x.f1 ≤ 255) ∧ (0 ≤ x.f2 ∧ x.f2 ≤ 65535) ∧ (0 ≤ x.f3 ∧ x.f3 ≤ 255)
instance (x : S117) : Decidable (okC x) := by unfold okC; infer_instance
theorem chunk_spec (x : S117) : spec_l15Chunk.f x.f0 x.f1 x.f2 x.f3 = some (decide (okC x)) := by
  unfold spec_l15Chunk.f okC
  simp only [in_eq, Option.bind_some, decide_eq_true_eq]
  by_cases h1 : 0 ≤ x.f0 ∧ x.f0 ≤ 65535
  · by_cases h2 : 1 ≤ x.f1 ∧ x.f1 ≤ 255
    · by_cases h3 : 0 ≤ x.f2 ∧ x.f2 ≤ 65535
      · simp only [h1, h2, h3, and_self, if_true, true_and]
      · simp [h1, h2, h3]
    · simp [h1, h2]
  · simp [h1]
theorem chunk_impl (x : S117) : impl_chunkOk.f x.f0 x.f1 x.f2 x.f3 = some (decide (okC x)) := by
  unfold impl_chunkOk.f okC
  simp only [within_eq, Option.bind_some, decide_eq_true_eq]
  by_cases h1 : 0 ≤ x.f0 ∧ x.f0 ≤ 65535
  · by_cases h2 : 1 ≤ x.f1 ∧ x.f1 ≤ 255
    · by_cases h3 : 0 ≤ x.f2 ∧ x.f2 ≤ 65535
      · simp only [h1, h2, h3, and_self, if_true, true_and]
      · simp [h1, h2, h3]
    · simp [h1, h2]
  · simp [h1]
/-- the chunks of a leaf: each is well formed, and their keys rise -/
def okL (l : List S117) (i : Nat) : Prop := okC (rd_T117 l (i : Int)) ∧ (i = 0 ∨ (rd_T117 l ((i : Int) - 1)).f0 < (rd_T117 l (i : Int)).f0)
instance (l : List S117) (i : Nat) : Decidable (okL l i) := by unfold okL; infer_instance
def okLeaf (l : List S117) (ks cs : List Int) : Prop := (∀ i, i < l.length → okL l i) ∧ l.length ≤ 8 ∧ ks.length = 0 ∧ cs.length = 0
instance (l : List S117) (ks cs : List Int) : Decidable (okLeaf l ks cs) := by unfold okLeaf; infer_instance
theorem leaf_spec (b : Bool) (l : List S117) (ks cs : List Int) (hl : l.length ≤ 1048576) : ∀ (d k i : Nat), i + d = l.length → 2 * d + 10 ≤ k → (∀ j, j < i → okL l j) →
    spec_l15Node.l0 k i b l ks cs = some (decide (okLeaf l ks cs)) := by
  intro d
  induction d with
  | zero =>
    intro k i hi hk hp
    obtain ⟨k, rfl⟩ : ∃ z, k = z + 2 := ⟨k - 2, by omega⟩
    rw [spec_l15Node.l0, if_neg (by omega), spec_l15Node.j1, if_neg (by simp)]
    have ha : ∀ i, i < l.length → okL l i := fun j hj => hp j (by omega)
    by_cases h1 : l.length ≤ 8
    · rw [if_pos (by omega)]
      by_cases h2 : ks.length = 0
      · rw [if_pos (by omega)]
        congr 1
        by_cases h3 : cs.length = 0
        · rw [decide_eq_true (show okLeaf l ks cs from ⟨ha, h1, h2, h3⟩)]; simp; exact List.length_eq_zero_iff.1 h3
        · rw [decide_eq_false (fun h => h3 h.2.2.2)]; simp; exact fun h => h3 (by rw [h]; rfl)
      · rw [if_neg (by omega), decide_eq_false (fun h => h2 h.2.2.1)]
    · rw [if_neg (by omega), decide_eq_false (fun h => h1 h.2.1)]
  | succ d ih =>
    intro k i hi hk hp
    obtain ⟨k, rfl⟩ : ∃ z, k = z + 2 := ⟨k - 2, by omega⟩
    rw [spec_l15Node.l0, if_pos (by omega), spec_l15Node.j1]
    by_cases h8 : i ≤ 8
    · have hi' : (i : Int) < (l.length : Int) := by omega
      have hi0 : (0 : Int) ≤ (i : Int) := by omega
      rw [if_pos (by simp; omega), if_pos hi0, if_pos hi', chunk_spec, wrap_up i (by omega)]
      simp only [Option.bind_some, decide_eq_true_eq]
      by_cases hc : okC (rd_T117 l (i : Int))
      · rw [if_pos hc]
        by_cases hz : i = 0
        · subst hz
          rw [if_neg (by omega)]
          refine ih k 1 (by omega) (by omega) ?_
          intro j hj
          obtain rfl : j = 0 := by omega
          exact ⟨hc, .inl rfl⟩
        · rw [if_pos (by omega), wrap64_id (a := (i : Int) - 1) (by omega) (by omega), if_pos (show 0 ≤ (i : Int) - 1 by omega), if_pos (show (i : Int) - 1 < (l.length : Int) by omega)]
          by_cases hr : (rd_T117 l ((i : Int) - 1)).f0 < (rd_T117 l (i : Int)).f0
          · rw [if_neg (show ¬ (rd_T117 l ((i : Int) - 1)).f0 ≥ (rd_T117 l (i : Int)).f0 by omega)]
            refine ih k (i + 1) (by omega) (by omega) ?_
            intro j hj
            by_cases hji : j = i
            · subst hji; exact ⟨hc, .inr hr⟩
            · exact hp j (by omega)
          · rw [if_pos (show (rd_T117 l ((i : Int) - 1)).f0 ≥ (rd_T117 l (i : Int)).f0 by omega), decide_eq_false]
            intro h
            rcases (h.1 i (by omega)).2 with h | h
            · exact hz h
            · exact hr h
      · rw [if_neg hc, decide_eq_false]
        intro h
        exact hc (h.1 i (by omega)).1
    · rw [if_neg (by simp; omega), if_neg (by omega), decide_eq_false]
      intro h
      have := h.2.1
      omega
/-- keys that rise -/
def riseI (l : List Int) (i : Nat) : Prop := i = 0 ∨ rd l ((i : Int) - 1) < rd l (i : Int)
instance (l : List Int) (i : Nat) : Decidable (riseI l i) := by unfold riseI; infer_instance
def inI (l : List Int) (a b : Int) (i : Nat) : Prop := a ≤ rd l (i : Int) ∧ rd l (i : Int) ≤ b
instance (l : List Int) (a b : Int) (i : Nat) : Decidable (inI l a b i) := by unfold inI; infer_instance
theorem rises_spec (l : List Int) (a b : Int) (hl : l.length ≤ 1048576) (k : Nat) (hk : 1048590 ≤ k) : spec_l00Rises.f k l a b = some (decide (∀ i, i < l.length → inI l a b i ∧ riseI l i)) :=
  seq_loop (fun k i => spec_l00Rises.l0 k l a b i) (fun i => inI l a b i ∧ riseI l i) l.length
    (by intro k; show spec_l00Rises.l0 (k + 1) l a b _ = _; rw [spec_l00Rises.l0, if_neg (by omega)])
    (by
      intro k i hi
      show spec_l00Rises.l0 (k + 1) l a b _ = _
      rw [spec_l00Rises.l0, if_pos (by omega), if_pos (by omega), wrap_up i (by omega), in_eq]
      simp only [Option.bind_some, decide_eq_true_eq]
      by_cases hc : a ≤ rd l (i : Int) ∧ rd l (i : Int) ≤ b
      · rw [if_pos hc]
        by_cases hz : i = 0
        · subst hz
          rw [if_neg (by omega), if_pos ⟨hc, .inl rfl⟩]
        · rw [if_pos (by omega), wrap64_id (a := (i : Int) - 1) (by omega) (by omega), if_pos (show 0 ≤ (i : Int) - 1 by omega), if_pos (show (i : Int) - 1 < (l.length : Int) by omega)]
          by_cases hr : rd l ((i : Int) - 1) < rd l (i : Int)
          · rw [if_neg (show ¬ rd l ((i : Int) - 1) ≥ rd l (i : Int) by omega), if_pos ⟨hc, .inr hr⟩]
          · rw [if_pos (show rd l ((i : Int) - 1) ≥ rd l (i : Int) by omega), if_neg (fun h => h.2.elim hz hr)]
      · rw [if_neg hc, if_neg (fun h => hc h.1)])
    k (by omega)
theorem incr_loop (l : List Int) (hl : l.length ≤ 1048576) : ∀ (d k i : Nat), i + d = l.length → d < k → 1 ≤ i → (∀ j, j < i → riseI l j) → impl_increasing.l0 k l i = some (decide (∀ j, j < l.length → riseI l j)) := by
  intro d
  induction d with
  | zero =>
    intro k i hi hk h1 hp
    obtain ⟨k, rfl⟩ : ∃ z, k = z + 1 := ⟨k - 1, by omega⟩
    rw [impl_increasing.l0, if_neg (by omega), decide_eq_true]
    intro j hj
    exact hp j (by omega)
  | succ d ih =>
    intro k i hi hk h1 hp
    obtain ⟨k, rfl⟩ : ∃ z, k = z + 1 := ⟨k - 1, by omega⟩
    rw [impl_increasing.l0, if_pos (by omega), if_pos (by omega), wrap64_id (a := (i : Int) - 1) (by omega) (by omega), if_pos (show 0 ≤ (i : Int) - 1 by omega), if_pos (show (i : Int) - 1 < (l.length : Int) by omega), wrap_up i (by omega)]
    by_cases hr : rd l ((i : Int) - 1) < rd l (i : Int)
    · rw [if_neg (show ¬ rd l (i : Int) ≤ rd l ((i : Int) - 1) by omega)]
      refine ih k (i + 1) (by omega) (by omega) (by omega) ?_
      intro j hj
      by_cases hji : j = i
      · subst hji; exact .inr hr
      · exact hp j (by omega)
    · rw [if_pos (show rd l (i : Int) ≤ rd l ((i : Int) - 1) by omega), decide_eq_false]
      intro h
      rcases h i (by omega) with h | h
      · omega
      · exact hr h
theorem incr_impl (l : List Int) (hl : l.length ≤ 1048576) (k : Nat) (hk : 1048590 ≤ k) : impl_increasing.f k l = some (decide (∀ j, j < l.length → riseI l j)) := by
  unfold impl_increasing.f
  by_cases h : l.length = 0
  · obtain ⟨k, rfl⟩ : ∃ z, k = z + 1 := ⟨k - 1, by omega⟩
    rw [impl_increasing.l0, if_neg (by omega), decide_eq_true]
    intro j hj; omega
  · refine incr_loop l hl (l.length - 1) k 1 (by omega) (by omega) (by omega) ?_
    intro j hj
    exact .inl (by omega)
theorem within_all (l : List Int) (a b : Int) (hl : l.length ≤ 1048576) (k : Nat) (hk : 1048590 ≤ k) : impl_allWithin.f k l a b = some (decide (∀ i, i < l.length → inI l a b i)) := by
  unfold impl_allWithin.f slices_ContainsFunc_impl_allWithin_1.f slices_IndexFunc_impl_allWithin_1.f
  rw [find_loop (fun k i => slices_IndexFunc_impl_allWithin_1.l0 k l l.length i a b) (fun i => ¬ inI l a b i) l.length 0
    (by intro k _; show slices_IndexFunc_impl_allWithin_1.l0 (k + 1) l _ _ a b = _; rw [slices_IndexFunc_impl_allWithin_1.l0, if_neg (by omega)])
    (by
      intro k i _ hi
      show slices_IndexFunc_impl_allWithin_1.l0 (k + 1) l _ _ a b = _
      rw [slices_IndexFunc_impl_allWithin_1.l0, if_pos (by omega), if_pos (by omega), if_pos (by omega), wrap_up i (by omega)]
      simp only [impl_allWithin_1.f, within_eq, Option.bind_some]
      by_cases h : a ≤ rd l (i : Int) ∧ rd l (i : Int) ≤ b
      · have h2 : inI l a b i := h
        simp [h, h2]
      · have h2 : ¬ inI l a b i := h
        rw [decide_eq_false h]
        simp [h2])
    k (by omega)]
  simp only [Option.bind_some]
  rcases look_or (fun i => ¬ inI l a b i) l.length 0 with ⟨h4, h5⟩ | ⟨j, -, h4, h5, h6⟩
  · rw [h4]
    have h7 : ∀ i, i < l.length → inI l a b i := fun i hi => Decidable.not_not.1 (h5 i (by omega) (by omega))
    rw [decide_eq_true h7]; rfl
  · rw [h5]
    have h7 : ¬ ∀ i, i < l.length → inI l a b i := fun h => h6 (h j (by omega))
    have h8 : (j : Int) ≥ 0 := by omega
    rw [decide_eq_false h7]; simp [h8]
theorem keys_impl (l : List S117) (hl : l.length ≤ 1048576) (k : Nat) (hk : 1048590 ≤ k) : impl_keysOf.f k l = some (l.map S117.f0) := by
  unfold impl_keysOf.f
  obtain ⟨r, h, rfl⟩ := count_loop (fun k s i => impl_keysOf.l0 k s l l.length i) l.length 0 (fun i s => s = (l.take i).map S117.f0) (fun r => r = l.map S117.f0)
    (by
      rintro k s - rfl
      exact ⟨_, by show impl_keysOf.l0 (k + 1) _ l _ _ = _; rw [impl_keysOf.l0, if_neg (by omega)], by rw [List.take_length]⟩)
    (by
      rintro k s i - hi rfl
      refine .inl ⟨(l.take (i + 1)).map S117.f0, rfl, ?_⟩
      show impl_keysOf.l0 (k + 1) _ l _ _ = _
      have hg : rd_T117 l (i : Int) = l[i] := getD_lt l z117 i hi
      rw [impl_keysOf.l0, if_pos (by omega), if_pos (by omega), if_pos (by omega), if_pos (by rw [List.length_map, List.length_take]; omega), wrap_up i (by omega), hg, List.take_succ_eq_append_getElem hi, List.map_append]
      rfl)
    k ([] : List Int) 0 (by omega) (by omega) rfl
  exact h
theorem rise_keys (l : List S117) (i : Nat) (hi : i < l.length) : riseI (l.map S117.f0) i ↔ (i = 0 ∨ (rd_T117 l ((i : Int) - 1)).f0 < (rd_T117 l (i : Int)).f0) := by
  unfold riseI
  by_cases hz : i = 0
  · simp [hz]
  · have h1 : rd (l.map S117.f0) (i : Int) = (rd_T117 l (i : Int)).f0 := by
      rw [rd_lt _ i (by rw [List.length_map]; exact hi), List.getElem_map]
      rw [show rd_T117 l (i : Int) = l[i] from getD_lt l z117 i hi]
    have h2 : rd (l.map S117.f0) ((i : Int) - 1) = (rd_T117 l ((i : Int) - 1)).f0 := by
      have e : (i : Int) - 1 = ((i - 1 : Nat) : Int) := by omega
      rw [e, rd_lt _ (i - 1) (by rw [List.length_map]; omega), List.getElem_map]
      rw [show rd_T117 l ((i - 1 : Nat) : Int) = l[i - 1] from getD_lt l z117 (i - 1) (by omega)]
    rw [h1, h2]
theorem chunks_impl (l : List S117) (hl : l.length ≤ 1048576) (k : Nat) (hk : 1048590 ≤ k) : slices_ContainsFunc_impl_ValidNode_1.f k l = some (!decide (∀ i, i < l.length → okC (rd_T117 l (i : Int)))) := by
  unfold slices_ContainsFunc_impl_ValidNode_1.f slices_IndexFunc_impl_ValidNode_1.f
  rw [find_loop (fun k i => slices_IndexFunc_impl_ValidNode_1.l0 k l l.length i) (fun i => ¬ okC (rd_T117 l (i : Int))) l.length 0
    (by intro k _; show slices_IndexFunc_impl_ValidNode_1.l0 (k + 1) l _ _ = _; rw [slices_IndexFunc_impl_ValidNode_1.l0, if_neg (by omega)])
    (by
      intro k i _ hi
      show slices_IndexFunc_impl_ValidNode_1.l0 (k + 1) l _ _ = _
      rw [slices_IndexFunc_impl_ValidNode_1.l0, if_pos (by omega), if_pos (by omega), if_pos (by omega), wrap_up i (by omega)]
      simp only [impl_ValidNode_1.f, chunk_impl, Option.bind_some]
      by_cases h : okC (rd_T117 l (i : Int)) <;> simp [h])
    k (by omega)]
  simp only [Option.bind_some]
  rcases look_or (fun i => ¬ okC (rd_T117 l (i : Int))) l.length 0 with ⟨h4, h5⟩ | ⟨j, -, h4, h5, h6⟩
  · rw [h4]
    have h7 : ∀ i, i < l.length → okC (rd_T117 l (i : Int)) := fun i hi => Decidable.not_not.1 (h5 i (by omega) (by omega))
    rw [decide_eq_true h7]; rfl
  · rw [h5]
    have h7 : ¬ ∀ i, i < l.length → okC (rd_T117 l (i : Int)) := fun h => h6 (h j (by omega))
    have h8 : (j : Int) ≥ 0 := by omega
    rw [decide_eq_false h7]; simp [h8]
theorem childs_spec (b : Bool) (l : List S117) (ks cs : List Int) (hl : cs.length ≤ 1048576) (k : Nat) (hk : 1048590 ≤ k) : spec_l15Node.l1 k 0 b l ks cs = some (decide (∀ i, i < cs.length → inI cs 1 255 i)) :=
  seq_loop (fun k i => spec_l15Node.l1 k i b l ks cs) (fun i => inI cs 1 255 i) cs.length
    (by intro k; show spec_l15Node.l1 (k + 1) _ b l ks cs = _; rw [spec_l15Node.l1, if_neg (by omega)])
    (by
      intro k i hi
      show spec_l15Node.l1 (k + 1) _ b l ks cs = _
      rw [spec_l15Node.l1, if_pos (by omega), if_pos (by omega), wrap_up i (by omega), in_eq]
      simp only [Option.bind_some, decide_eq_true_eq]
      rfl)
    k (by omega)
def okInner (l : List S117) (ks cs : List Int) : Prop := (1 ≤ ks.length ∧ ks.length ≤ 7) ∧ cs.length = ks.length + 1 ∧ l.length = 0 ∧ ((∀ i, i < ks.length → inI ks 0 65535 i ∧ riseI ks i) ∧ ∀ i, i < cs.length → inI cs 1 255 i)
instance (l : List S117) (ks cs : List Int) : Decidable (okInner l ks cs) := by unfold okInner; infer_instance
theorem both (b : Bool) (l : List S117) (ks cs : List Int) (hl : (l.length : Int) ≤ 1048576) (hl2 : ∀ y ∈ l, QS117 y) (hk1 : (ks.length : Int) ≤ 1048576) (hc1 : (cs.length : Int) ≤ 1048576) :
    ∃ v, ∀ k, 8000000 ≤ k → spec_ValidNode.f k b l ks cs = some v ∧ impl_ValidNode.f k b l ks cs = some v := by
  cases b with
  | true =>
    refine ⟨decide (okLeaf l ks cs), fun k hk => ⟨?_, ?_⟩⟩
    · unfold spec_ValidNode.f spec_l15Node.f
      have h0 : spec_l15Node.l0 k 0 true l ks cs = some (decide (okLeaf l ks cs)) := leaf_spec true l ks cs (by omega) l.length k 0 (by omega) (by omega) (by intro j hj; omega)
      rw [if_pos rfl, h0]
      rfl
    · unfold impl_ValidNode.f
      rw [if_pos rfl]
      by_cases h1 : ks.length = 0
      · rw [if_pos (by omega)]
        by_cases h2 : cs.length = 0
        · rw [if_pos (by omega)]
          by_cases h3 : l.length ≤ 8
          · rw [if_pos (by omega), keys_impl l (by omega) k (by omega)]
            simp only [Option.bind_some]
            rw [incr_impl _ (by rw [List.length_map]; omega) k (by omega), chunks_impl l (by omega) k (by omega)]
            simp only [Option.bind_some, decide_eq_true_eq, Bool.not_not]
            by_cases h4 : ∀ j, j < (l.map S117.f0).length → riseI (l.map S117.f0) j
            · rw [if_pos h4]
              congr 1
              apply decide_eq_decide.2
              rw [List.length_map] at h4
              constructor
              · intro h5
                exact ⟨fun i hi => ⟨h5 i hi, (rise_keys l i hi).1 (h4 i hi)⟩, h3, h1, h2⟩
              · intro h5 i hi
                exact (h5.1 i hi).1
            · rw [if_neg h4, decide_eq_false]
              intro h5
              apply h4
              intro j hj
              rw [List.length_map] at hj
              exact (rise_keys l j hj).2 (h5.1 j hj).2
          · rw [if_neg (by omega), decide_eq_false (fun h => h3 h.2.1)]
        · rw [if_neg (by omega), decide_eq_false (fun h => h2 h.2.2.2)]
      · rw [if_neg (by omega), decide_eq_false (fun h => h1 h.2.2.1)]
  | false =>
    refine ⟨decide (okInner l ks cs), fun k hk => ⟨?_, ?_⟩⟩
    · obtain ⟨k, rfl⟩ : ∃ z, k = z + 1 := ⟨k - 1, by omega⟩
      unfold spec_ValidNode.f spec_l15Node.f
      rw [if_neg (by simp), in_eq, wrap64_id (a := (ks.length : Int) + 1) (by omega) (by omega)]
      simp only [Option.bind_some, decide_eq_true_eq]
      by_cases h1 : 1 ≤ ks.length ∧ ks.length ≤ 7
      · rw [if_pos (show 1 ≤ (ks.length : Int) ∧ (ks.length : Int) ≤ 7 by omega)]
        by_cases h2 : cs.length = ks.length + 1
        · rw [if_pos (show (cs.length : Int) = (ks.length : Int) + 1 by omega)]
          by_cases h3 : l.length = 0
          · rw [if_pos (show (l.length : Int) = 0 by omega), rises_spec ks 0 65535 (by omega) _ (by omega)]
            simp only [Option.bind_some]
            rw [spec_l15Node.j2]
            by_cases h4 : ∀ i, i < ks.length → inI ks 0 65535 i ∧ riseI ks i
            · rw [decide_eq_true h4, if_neg (by simp), childs_spec false l ks cs (by omega) k (by omega)]
              simp only [Option.bind_some]
              congr 1
              apply decide_eq_decide.2
              exact ⟨fun h => ⟨h1, h2, h3, h4, h⟩, fun h => h.2.2.2.2⟩
            · rw [decide_eq_false h4, if_pos (by simp), decide_eq_false (fun h => h4 h.2.2.2.1)]
              rfl
          · rw [if_neg (by omega), spec_l15Node.j2, if_pos rfl, decide_eq_false (fun h => h3 h.2.2.1)]
            rfl
        · rw [if_neg (by omega), spec_l15Node.j2, if_pos rfl, decide_eq_false (fun h => h2 h.2.1)]
          rfl
      · rw [if_neg (by omega), spec_l15Node.j2, if_pos rfl, decide_eq_false (fun h => h1 h.1)]
        rfl
    · unfold impl_ValidNode.f
      rw [if_neg (by simp), within_eq, wrap64_id (a := (ks.length : Int) + 1) (by omega) (by omega)]
      simp only [Option.bind_some, decide_eq_true_eq]
      by_cases h3 : l.length = 0
      · rw [if_pos (by omega)]
        by_cases h1 : 1 ≤ ks.length ∧ ks.length ≤ 7
        · rw [if_pos (by omega), incr_impl ks (by omega) k (by omega), within_all ks 0 65535 (by omega) k (by omega), within_all cs 1 255 (by omega) k (by omega)]
          simp only [Option.bind_some, decide_eq_true_eq]
          by_cases h4 : ∀ i, i < ks.length → riseI ks i
          · rw [if_pos h4]
            by_cases h5 : ∀ i, i < ks.length → inI ks 0 65535 i
            · rw [if_pos h5]
              by_cases h2 : cs.length = ks.length + 1
              · rw [if_pos (by omega)]
                congr 1
                apply decide_eq_decide.2
                exact ⟨fun h => ⟨h1, h2, h3, fun i hi => ⟨h5 i hi, h4 i hi⟩, h⟩, fun h => h.2.2.2.2⟩
              · rw [if_neg (by omega), decide_eq_false (fun h => h2 h.2.1)]
            · rw [if_neg h5, decide_eq_false (fun h => h5 (fun i hi => (h.2.2.2.1 i hi).1))]
          · rw [if_neg h4, decide_eq_false (fun h => h4 (fun i hi => (h.2.2.2.1 i hi).2))]
        · rw [if_neg (by omega), decide_eq_false (fun h => h1 h.1)]
      · rw [if_neg (by omega), decide_eq_false (fun h => h3 h.2.2.1)]
theorem FnExactValidNode : laws_FnExactValidNode.Pure := by
  intro a0_0 l0_1 l0_2 l0_3 o_l0_1 o_l0_2 o_l0_3
  refine ⟨9000000, ?_⟩
  obtain ⟨t1, e1, h1⟩ := g_szNode 9000000 a0_0 l0_1 l0_2 l0_3 1048576 (by omega) (by omega) (by omega) o_l0_1 o_l0_2 o_l0_3
  rcases h1 with h1 | ⟨h1, m1, q_l0_1_0, q_l0_1_1, q_l0_2_0, q_l0_3_0⟩
  · simp only [laws_FnExactValidNode.f, e1, Option.bind_some, if_pos h1]
  have n1 : ¬ t1 < 0 := by omega
  have T1 := fun k (hk : 8000000 ≤ k) => g_toNode k a0_0 l0_1 l0_2 l0_3 (by omega) q_l0_1_0 q_l0_1_1 q_l0_2_0 q_l0_3_0
  have cl_l0_1 : (((l0_1.map cS140)).length : Int) ≤ 1048576 := by rw [List.length_map]; exact q_l0_1_0
  have cq_l0_1 := qmS140 l0_1 q_l0_1_1
  have E1 := fun k (hk : 8000000 ≤ k) => g_eqNode k a0_0 (l0_1.map cS140) l0_2 l0_3 (by omega) cl_l0_1 cq_l0_1 q_l0_2_0 q_l0_3_0
  obtain ⟨v, hv⟩ := both a0_0 (l0_1.map cS140) l0_2 l0_3 cl_l0_1 cq_l0_1 q_l0_2_0 q_l0_3_0
  have HS := fun k (hk : 8000000 ≤ k) => (hv k hk).1
  have HI := fun k (hk : 8000000 ≤ k) => (hv k hk).2
  simp (disch := omega) only [laws_FnExactValidNode.f, e1, if_neg n1, T1, E1, HS, HI, Option.bind_some, bne_self_eq_false, Bool.false_eq_true, if_false, if_true, reduceIte]

end Go.Proofs.Ytngjbdijimapnab.Pure
