/- The plain form of FnExactRangeOf: for all arguments the answer is true. It holds without a condition. -/
import Derived.Test.YtehldidejgpifaaPFnExactRangeOfx11
import Derived.OpenShut
namespace Go.Proofs.Ytehldidejgpifaa.Pure
open Go Go.RowKit Go.Proofs.Ytehldidejgpifaa.PFnExactRangeOf Go.Proofs.YtehldidejgpifaaW.PrintWords Go.Proofs.YtehldidejgpifaaW.PrintLast
set_option linter.unusedVariables false
set_option linter.unusedSimpArgs false

theorem wf64 {a : Int} (h : (Lit.int .i64 a).wf = true) : -9223372036854775808 ≤ a ∧ a ≤ 9223372036854775807 := Go.bounds_i64 h
theorem wrap64_id {a : Int} (h : -9223372036854775808 ≤ a) (h' : a ≤ 9223372036854775807) : wrap64 a = a := by unfold wrap64; omega
theorem count_loop {σ ρ : Type} (L : Nat → σ → Int → Option ρ) (n m : Nat) (I : Nat → σ → Prop) (R : ρ → Prop)
    (hstop : ∀ k s, m ≤ k → I n s → ∃ r, L (k + 1) s (n : Int) = some r ∧ R r)
    (hstep : ∀ k s (i : Nat), m ≤ k → i < n → I i s → (∃ s', I (i + 1) s' ∧ L (k + 1) s (i : Int) = L k s' ((i + 1 : Nat) : Int)) ∨ ∃ r, L (k + 1) s (i : Int) = some r ∧ R r)
    (k : Nat) (s : σ) (i : Nat) (hi : i ≤ n) (hk : n - i + m < k) (h : I i s) : ∃ r, L k s (i : Int) = some r ∧ R r := by
  obtain ⟨d, hd⟩ : ∃ d, d = n - i := ⟨_, rfl⟩
  induction d generalizing k s i with
  | zero =>
    obtain ⟨k, rfl⟩ : ∃ z, k = z + 1 := ⟨k - 1, by omega⟩
    obtain rfl : i = n := by omega
    exact hstop k s (by omega) h
  | succ d ih =>
    obtain ⟨k, rfl⟩ : ∃ z, k = z + 1 := ⟨k - 1, by omega⟩
    rcases hstep k s i (by omega) (by omega) h with ⟨s', h', e⟩ | h'
    · rw [e]; exact ih k s' (i + 1) (by omega) (by omega) h' (by omega)
    · exact h'
theorem w0 : wrap64 0 = 0 := by unfold wrap64; omega
theorem w1 : wrap64 1 = 1 := by unfold wrap64; omega
theorem w2 : wrap64 2 = 2 := by unfold wrap64; omega
theorem w3 : wrap64 3 = 3 := by unfold wrap64; omega
theorem rd_lt (l : List Int) (i : Nat) (h : i < l.length) : rd l (i : Int) = l[i] := by
  simp [rd, List.getD_eq_getElem?_getD, List.getElem?_eq_getElem h]
theorem rds_lt (l : List ByteArray) (i : Nat) (h : i < l.length) : rdOf ByteArray.empty l (i : Int) = l[i] := by
  simp [rdOf, List.getD_eq_getElem?_getD, List.getElem?_eq_getElem h]
theorem wrap_up (i : Nat) (h : i < 1099511627776) : wrap64 ((i : Int) + 1) = ((i + 1 : Nat) : Int) := by unfold wrap64; omega
theorem set_next {α : Type} (l out : List α) (i : Nat) (h : i < l.length) (hl : out.length = l.length) (hp : out.take i = l.take i) : (out.set i l[i]).take (i + 1) = l.take (i + 1) := by
  apply List.ext_getElem?
  intro j
  by_cases hj : j < i + 1
  · rw [List.getElem?_take_of_lt hj, List.getElem?_take_of_lt hj]
    by_cases hji : j = i
    · subst hji; rw [List.getElem?_set_self (by omega), List.getElem?_eq_getElem h]
    · rw [List.getElem?_set_ne (by omega)]
      have := congrArg (fun z => z[j]?) hp
      simpa [List.getElem?_take_of_lt (show j < i by omega)] using this
  · rw [List.getElem?_eq_none (by simp; omega), List.getElem?_eq_none (by simp; omega)]
theorem take_all {α : Type} (l out : List α) (hl : out.length = l.length) (hp : out.take l.length = l.take l.length) : out = l := by
  rwa [List.take_of_length_le (by omega), List.take_length] at hp
theorem g_szloop {α : Type} (L : Nat → List α → Int → Int → Option Int) (E : Nat → α → Int → Option Int) (z : α) (m : Nat) (Q : α → Prop) (l : List α)
    (hL : ∀ k a i, L (k + 1) l a i = if i < (l.length : Int) then (if 0 ≤ i then ((E k (l.getD i.toNat z) a).bind fun t => if t < 0 then some (-1) else L k l t (wrap64 (i + 1))) else none) else some a)
    (hE : ∀ k x a, x ∈ l → 0 ≤ a → a ≤ 1048576 → m ≤ k → ∃ t, E k x a = some t ∧ (t < 0 ∨ (0 ≤ t ∧ t ≤ a ∧ Q x)))
    (hl : l.length ≤ 1048576) (k : Nat) (a : Int) (h0 : 0 ≤ a) (h1 : a ≤ 1048576) (hk : m + 1048580 < k) :
    ∃ t, L k l a 0 = some t ∧ (t < 0 ∨ (0 ≤ t ∧ t ≤ a ∧ ∀ x ∈ l, Q x)) := by
  exact count_loop (fun k s i => L k l s i) l.length m (fun i s => 0 ≤ s ∧ s ≤ a ∧ ∀ x ∈ l.take i, Q x) (fun t => t < 0 ∨ (0 ≤ t ∧ t ≤ a ∧ ∀ x ∈ l, Q x))
    (by
      rintro k s - ⟨h1, h2, h3⟩
      rw [List.take_length] at h3
      exact ⟨s, by show L (k + 1) l s _ = _; rw [hL, if_neg (by omega)], .inr ⟨h1, h2, h3⟩⟩)
    (by
      rintro k s i hm hi ⟨h1, h2, h3⟩
      have hg : l.getD (i : Int).toNat z = l[i] := by simp [List.getD_eq_getElem?_getD, List.getElem?_eq_getElem hi]
      obtain ⟨t, e, ht⟩ := hE k l[i] s (List.getElem_mem hi) h1 (by omega) hm
      rcases ht with ht | ⟨q1, q2, q3⟩
      · refine .inr ⟨-1, ?_, .inl (by omega)⟩
        show L (k + 1) l s _ = _
        rw [hL, if_pos (by omega), if_pos (by omega), hg, e]
        simp only [Option.bind_some]
        rw [if_pos ht]
      · refine .inl ⟨t, ⟨q1, by omega, ?_⟩, ?_⟩
        · intro x hx'
          rw [List.take_succ_eq_append_getElem hi, List.mem_append] at hx'
          rcases hx' with hx' | hx'
          · exact h3 x hx'
          · simp at hx'; subst hx'; exact q3
        · show L (k + 1) l s _ = _
          rw [hL, if_pos (by omega), if_pos (by omega), hg, e]
          simp only [Option.bind_some]
          rw [if_neg (by omega), wrap_up i (by omega)])
    k a 0 (by omega) (by omega) ⟨h0, by omega, by simp⟩
theorem g_toloop {α β γ : Type} (L : Nat → List α → List β → Int → Option (List β)) (E : Nat → α → Option γ) (mk : γ → β) (z : α) (c : α → β) (m : Nat) (l : List α)
    (hL : ∀ k s i, L (k + 1) l s i = if i < (l.length : Int) then (if 0 ≤ i then ((E k (l.getD i.toNat z)).bind fun b => (if i < (s.length : Int) then L k l (s.set i.toNat (mk b)) (wrap64 (i + 1)) else none)) else none) else some s)
    (hE : ∀ k x, x ∈ l → m ≤ k → ∃ b, E k x = some b ∧ mk b = c x)
    (hl : l.length ≤ 1048576) (k : Nat) (s : List β) (hs : s.length = l.length) (hk : m + 1048580 < k) : L k l s 0 = some (l.map c) := by
  obtain ⟨r, h, rfl⟩ := count_loop (fun k s i => L k l s i) l.length m (fun i s => s.length = (l.map c).length ∧ s.take i = (l.map c).take i) (fun r => r = l.map c)
    (by
      rintro k s - ⟨h1, h2⟩
      exact ⟨s, by show L (k + 1) l s _ = _; rw [hL, if_neg (by omega)], take_all (l.map c) s h1 (by rw [List.length_map]; exact h2)⟩)
    (by
      rintro k s i hm hi ⟨h1, h2⟩
      have hg : l.getD (i : Int).toNat z = l[i] := by simp [List.getD_eq_getElem?_getD, List.getElem?_eq_getElem hi]
      have hi' : i < (l.map c).length := by simpa using hi
      obtain ⟨b, e, hb⟩ := hE k l[i] (List.getElem_mem hi) hm
      have hb' : mk b = (l.map c)[i] := by rw [hb, List.getElem_map]
      refine .inl ⟨s.set i (l.map c)[i], ⟨by simpa using h1, set_next (l.map c) s i hi' h1 h2⟩, ?_⟩
      show L (k + 1) l s _ = _
      rw [hL, if_pos (by omega), if_pos (by omega), hg, e]
      simp only [Option.bind_some]
      rw [if_pos (by rw [h1]; simp; omega), wrap_up i (by omega), hb']
      rfl)
    k s 0 (by omega) (by omega) ⟨by simpa using hs, by simp⟩
  exact h
theorem g_eqloop {α : Type} (L : Nat → List α → List α → Int → Option Bool) (E : Nat → α → Option Bool) (z : α) (m : Nat) (l : List α)
    (hL : ∀ k i, L (k + 1) l l i = if i < (l.length : Int) then (if 0 ≤ i then (if i < (l.length : Int) then ((E k (l.getD i.toNat z)).bind fun t => (if t = true then L k l l (wrap64 (i + 1)) else some false)) else none) else none) else some true)
    (hE : ∀ k x, x ∈ l → m ≤ k → E k x = some true)
    (hl : l.length ≤ 1048576) (k : Nat) (hk : m + 1048580 < k) : L k l l 0 = some true := by
  obtain ⟨r, h, rfl⟩ := count_loop (fun k (_ : Unit) i => L k l l i) l.length m (fun _ _ => True) (fun r => r = true)
    (by
      rintro k s - -
      exact ⟨true, by show L (k + 1) l l _ = _; rw [hL, if_neg (by omega)], rfl⟩)
    (by
      rintro k s i hm hi -
      have hg : l.getD (i : Int).toNat z = l[i] := by simp [List.getD_eq_getElem?_getD, List.getElem?_eq_getElem hi]
      refine .inl ⟨(), trivial, ?_⟩
      show L (k + 1) l l _ = _
      rw [hL, if_pos (by omega), if_pos (by omega), if_pos (by omega), hg, hE k _ (List.getElem_mem hi) hm]
      simp only [Option.bind_some]
      rw [if_pos trivial, wrap_up i (by omega)])
    k () 0 (by omega) (by omega) trivial
  exact h
theorem g_toInt64S (k : Nat) (l : List Int) (hk : 1048590 ≤ k) (o1 : (l.length : Int) ≤ 1048576) : laws_toInt64S.f k l = some l := by
  unfold laws_toInt64S.f
  rw [if_pos (by omega), if_pos (by omega)]
  have h := g_toloop laws_toInt64S.l0 (fun _ (x : Int) => some x) (fun b => b) (0 : Int) id 0 l (by intro k s i; rw [laws_toInt64S.l0]; rfl)
    (by intro k x hx hm; exact ⟨_, rfl, rfl⟩)
    (by omega) k (List.replicate ((l.length : Int) : Int).toNat 0) (by simp) (by omega)
  rwa [List.map_id] at h
theorem g_eqInt64S (k : Nat) (l : List Int) (hk : 1048590 ≤ k) (o1 : (l.length : Int) ≤ 1048576) : laws_eqInt64S.f k l l = some true := by
  unfold laws_eqInt64S.f
  rw [if_pos rfl]
  exact g_eqloop laws_eqInt64S.l0 (fun _ (x : Int) => some true) (0 : Int) 0 l (by intro k i; rw [laws_eqInt64S.l0]; simp only [Option.bind_some, bne_self_eq_false, Bool.false_eq_true, if_false, if_true, reduceIte]) (by intro k x hx hm; rfl) (by omega) k (by omega)
theorem g_eqPoint (k : Nat) (l0_0 : List Int) (hk : 1048590 ≤ k) (o_l0_0_0 : (l0_0.length : Int) ≤ 1048576) : laws_eqPoint.f k l0_0 l0_0 = some true := by
  unfold laws_eqPoint.f
  simp only [g_eqInt64S k l0_0 (by omega) o_l0_0_0, Option.bind_some, bne_self_eq_false, Bool.false_eq_true, if_false, if_true, reduceIte]
def QS137 (x : S137) : Prop := (x.f0.length : Int) ≤ 1048576
theorem g_eqPointS (k : Nat) (l : List (S137)) (hk : 2097180 ≤ k) (o1 : (l.length : Int) ≤ 1048576) (o2 : (∀ y ∈ l, QS137 y)) : laws_eqPointS.f k l l = some true := by
  unfold laws_eqPointS.f
  rw [if_pos rfl]
  exact g_eqloop laws_eqPointS.l0 (fun k (x : S137) => laws_eqPoint.f k x.f0 x.f0) z137 1048590 l (by intro k i; rw [laws_eqPointS.l0]; rfl) (by intro k x hx hm; obtain q0_0 := o2 x hx; exact g_eqPoint k x.f0 hm q0_0) (by omega) k (by omega)
theorem g_eqSelection (k : Nat) (a0_0 : Int) (l0_1 : List Int) (l0_2 : List Int) (l0_3 : List Int) (l0_4 : List Int) (l0_5 : List (S137)) (hk : 2097180 ≤ k) (o_l0_1_0 : (l0_1.length : Int) ≤ 1048576) (o_l0_2_0 : (l0_2.length : Int) ≤ 1048576) (o_l0_3_0 : (l0_3.length : Int) ≤ 1048576) (o_l0_4_0 : (l0_4.length : Int) ≤ 1048576) (o_l0_5_0 : (l0_5.length : Int) ≤ 1048576) (o_l0_5_1 : (∀ y ∈ l0_5, QS137 y)) : laws_eqSelection.f k a0_0 l0_1 l0_2 l0_3 l0_4 l0_5 a0_0 l0_1 l0_2 l0_3 l0_4 l0_5 = some true := by
  unfold laws_eqSelection.f
  simp only [g_eqInt64S k l0_1 (by omega) o_l0_1_0, g_eqInt64S k l0_2 (by omega) o_l0_2_0, g_eqInt64S k l0_3 (by omega) o_l0_3_0, g_eqInt64S k l0_4 (by omega) o_l0_4_0, g_eqPointS k l0_5 (by omega) o_l0_5_0 o_l0_5_1, Option.bind_some, bne_self_eq_false, Bool.false_eq_true, if_false, if_true, reduceIte]
theorem all_loop (L : Nat → Int → Option Bool) (P : Nat → Prop) [DecidablePred P] (n m : Nat) (r : Bool)
    (hend : ∀ k, m ≤ k → L (k + 1) (n : Int) = some r) (hstep : ∀ k (i : Nat), m ≤ k → i < n → L (k + 1) (i : Int) = if P i then L k ((i + 1 : Nat) : Int) else some false) (k : Nat) (hk : n + m < k) :
    L k 0 = some (decide (∀ i, i < n → P i) && r) := by
  obtain ⟨s, h, rfl⟩ := count_loop (fun k (_ : Unit) i => L k i) n m (fun i _ => ∀ j, j < i → P j) (fun s => s = (decide (∀ i, i < n → P i) && r))
    (by
      rintro k s hm h
      exact ⟨r, hend k hm, by simp [decide_eq_true h]⟩)
    (by
      rintro k s i hm hi h
      by_cases hp : P i
      · refine .inl ⟨(), ?_, by show L (k + 1) _ = _; rw [hstep k i hm hi, if_pos hp]⟩
        intro j hj
        by_cases hji : j = i
        · subst hji; exact hp
        · exact h j (by omega)
      · refine .inr ⟨false, by show L (k + 1) _ = _; rw [hstep k i hm hi, if_neg hp], ?_⟩
        have : ¬ ∀ i, i < n → P i := fun h => hp (h i hi)
        simp [this])
    k () 0 (by omega) (by omega) (by simp)
  exact h
def look (P : Nat → Prop) [DecidablePred P] : Nat → Nat → Int
  | 0, _ => -1
  | d + 1, i => if P i then (i : Int) else look P d (i + 1)
theorem look_or (P : Nat → Prop) [DecidablePred P] (d : Nat) : ∀ i, (look P d i = -1 ∧ ∀ j, i ≤ j → j < i + d → ¬ P j) ∨ ∃ j, i ≤ j ∧ j < i + d ∧ look P d i = (j : Int) ∧ P j := by
  induction d with
  | zero => intro i; exact .inl ⟨rfl, fun j h1 h2 => by omega⟩
  | succ d ih =>
    intro i
    by_cases hp : P i
    · exact .inr ⟨i, by omega, by omega, by rw [look, if_pos hp], hp⟩
    · rw [look, if_neg hp]
      rcases ih (i + 1) with ⟨h1, h2⟩ | ⟨j, h1, h2, h3, h4⟩
      · refine .inl ⟨h1, fun j h3 h4 => ?_⟩
        by_cases hji : j = i
        · subst hji; exact hp
        · exact h2 j (by omega) (by omega)
      · exact .inr ⟨j, by omega, by omega, h3, h4⟩
theorem find_loop (L : Nat → Int → Option Int) (P : Nat → Prop) [DecidablePred P] (n m : Nat)
    (hend : ∀ k, m ≤ k → L (k + 1) (n : Int) = some (-1)) (hstep : ∀ k (i : Nat), m ≤ k → i < n → L (k + 1) (i : Int) = if P i then some (i : Int) else L k ((i + 1 : Nat) : Int)) (k : Nat) (hk : n + m < k) :
    L k 0 = some (look P n 0) := by
  have key : ∀ d k i, i + d = n → d + m < k → L k (i : Int) = some (look P d i) := by
    intro d
    induction d with
    | zero =>
      intro k i hi hk
      obtain ⟨k, rfl⟩ : ∃ z, k = z + 1 := ⟨k - 1, by omega⟩
      obtain rfl : i = n := by omega
      exact hend k (by omega)
    | succ d ih =>
      intro k i hi hk
      obtain ⟨k, rfl⟩ : ∃ z, k = z + 1 := ⟨k - 1, by omega⟩
      rw [hstep k i (by omega) (by omega), look]
      by_cases hp : P i
      · rw [if_pos hp, if_pos hp]
      · rw [if_neg hp, if_neg hp]; exact ih k (i + 1) (by omega) (by omega)
  exact key n k 0 (by omega) (by omega)
theorem getD_lt {α : Type} (l : List α) (z : α) (i : Nat) (h : i < l.length) : l.getD (i : Int).toNat z = l[i] := by
  simp [List.getD_eq_getElem?_getD, List.getElem?_eq_getElem h]
theorem flip_ite {α : Type} (c : Prop) [Decidable c] (a b : α) : (if c then b else a) = if ¬ c then a else b := by
  by_cases h : c
  · rw [if_pos h, if_neg (fun h2 => h2 h)]
  · rw [if_neg h, if_pos h]
theorem seq_loop (L : Nat → Int → Option Bool) (P : Nat → Prop) [DecidablePred P] (n : Nat)
    (hend : ∀ k, L (k + 1) (n : Int) = some true) (hstep : ∀ k (i : Nat), i < n → L (k + 1) (i : Int) = if P i then L k ((i + 1 : Nat) : Int) else some false) (k : Nat) (hk : n < k) :
    L k 0 = some (decide (∀ i, i < n → P i)) := by
  rw [all_loop L P n 0 true (fun k _ => hend k) (fun k i _ hi => hstep k i hi) k (by omega), Bool.and_true]
theorem up_ {α : Type} (f : Nat → Option α) (hm : ∀ k, LeO (f k) (f (k + 1))) (k0 : Nat) (v : α) (h : f k0 = some v) (k : Nat) (hk : k0 ≤ k) : f k = some v := by
  obtain ⟨d, rfl⟩ : ∃ d, k = k0 + d := ⟨k - k0, by omega⟩
  clear hk
  induction d with
  | zero => exact h
  | succ d ih => exact hm _ _ ih
theorem in_eq (a b c : Int) : spec_l00In.f a b c = some (decide (b ≤ a ∧ a ≤ c)) := by
  unfold spec_l00In.f
  by_cases h : a ≥ b
  · rw [if_pos h]
    by_cases h2 : a ≤ c <;> simp [h2] <;> omega
  · rw [if_neg h]; simp; omega
instance decBetween (i n : Nat) (P : Nat → Prop) [DecidablePred P] : Decidable (∀ j, i ≤ j → j < n → P j) := decidable_of_iff (∀ j, j < n → i ≤ j → P j) ⟨fun h j h1 h2 => h j h2 h1, fun h j h1 h2 => h j h2 h1⟩
/-- one dimension of a slab -/
def okD (l1 l2 l3 l4 : List Int) (i : Nat) : Prop := (0 ≤ rd l1 i ∧ rd l1 i ≤ 40) ∧ (1 ≤ rd l3 i ∧ rd l3 i ≤ 40) ∧ (1 ≤ rd l4 i ∧ rd l4 i ≤ 40) ∧ (rd l4 i ≤ rd l2 i ∧ rd l2 i ≤ 40) ∧ rd l1 i + (rd l3 i - 1) * rd l2 i + rd l4 i ≤ 40
instance (l1 l2 l3 l4 : List Int) (i : Nat) : Decidable (okD l1 l2 l3 l4 i) := by unfold okD; infer_instance
theorem end_val (a : Int) (l1 l2 l3 l4 : List Int) (ps : List S137) (i : Nat) (h1 : i < l1.length) (h2 : i < l2.length) (h3 : i < l3.length) (h4 : i < l4.length)
    (q1 : 0 ≤ rd l1 i ∧ rd l1 i ≤ 40) (q3 : 1 ≤ rd l3 i ∧ rd l3 i ≤ 40) (q4 : 1 ≤ rd l4 i ∧ rd l4 i ≤ 40) (q2 : rd l4 i ≤ rd l2 i ∧ rd l2 i ≤ 40) :
    spec_l06End.f a l1 l2 l3 l4 ps i = some (rd l1 i + (rd l3 i - 1) * rd l2 i + rd l4 i) := by
  unfold spec_l06End.f
  rw [if_pos (by omega), if_pos (by omega), if_pos (by omega), if_pos (by omega), if_pos (by omega)]
  have hm : 0 ≤ (rd l3 i - 1) * rd l2 i := Int.mul_nonneg (by omega) (by omega)
  have hM : (rd l3 i - 1) * rd l2 i ≤ 40 * 40 := Int.mul_le_mul (by omega) (by omega) (by omega) (by omega)
  rw [wrap64_id (a := rd l3 i - 1) (by omega) (by omega), wrap64_id (a := (rd l3 i - 1) * rd l2 i) (by omega) (by omega), wrap64_id (a := rd l1 i + (rd l3 i - 1) * rd l2 i) (by omega) (by omega), wrap64_id (by omega) (by omega)]
theorem slab_spec (a : Int) (l1 l2 l3 l4 : List Int) (ps : List S137) (n : Nat) (hn : n ≤ 3) (h1 : l1.length = n) (h2 : l2.length = n) (h3 : l3.length = n) (h4 : l4.length = n) : ∀ (d k i : Nat), i + d = n → 2 * d < k →
    spec_l06Slab.l0 k n i a l1 l2 l3 l4 ps = some (decide (∀ j, i ≤ j → j < n → okD l1 l2 l3 l4 j)) := by
  intro d
  induction d with
  | zero =>
    intro k i hi hk
    obtain ⟨k, rfl⟩ : ∃ z, k = z + 1 := ⟨k - 1, by omega⟩
    rw [spec_l06Slab.l0, if_neg (by omega), decide_eq_true]
    intro j hj hj2; omega
  | succ d ih =>
    intro k i hi hk
    obtain ⟨k, rfl⟩ : ∃ z, k = z + 2 := ⟨k - 2, by omega⟩
    have no : ∀ (h : ¬ okD l1 l2 l3 l4 i), decide (∀ j, i ≤ j → j < n → okD l1 l2 l3 l4 j) = false := fun h => decide_eq_false (fun h' => h (h' i (by omega) (by omega)))
    rw [spec_l06Slab.l0, if_pos (by omega), if_pos (by omega), if_pos (by omega), in_eq]
    simp only [Option.bind_some, decide_eq_true_eq]
    by_cases q1 : 0 ≤ rd l1 i ∧ rd l1 i ≤ 40
    · rw [if_pos q1, if_pos (by omega), in_eq]
      simp only [Option.bind_some, decide_eq_true_eq]
      by_cases q3 : 1 ≤ rd l3 i ∧ rd l3 i ≤ 40
      · rw [if_pos q3, if_pos (by omega), in_eq]
        simp only [Option.bind_some, decide_eq_true_eq]
        by_cases q4 : 1 ≤ rd l4 i ∧ rd l4 i ≤ 40
        · rw [if_pos q4, if_pos (by omega), in_eq]
          simp only [Option.bind_some, decide_eq_true_eq]
          by_cases q2 : rd l4 i ≤ rd l2 i ∧ rd l2 i ≤ 40
          · rw [if_pos q2, end_val a l1 l2 l3 l4 ps i (by omega) (by omega) (by omega) (by omega) q1 q3 q4 q2]
            simp only [Option.bind_some]
            by_cases q5 : rd l1 i + (rd l3 i - 1) * rd l2 i + rd l4 i > 40
            · rw [if_pos q5, no (fun h => by have := h.2.2.2.2; omega)]
            · rw [if_neg q5, wrap_up i (by omega), ih (k + 1) (i + 1) (by omega) (by omega)]
              have hq : okD l1 l2 l3 l4 i := ⟨q1, q3, q4, q2, by omega⟩
              congr 1
              apply decide_eq_decide.2
              constructor
              · intro h j hj hj2
                by_cases hji : j = i
                · subst hji; exact hq
                · exact h j (by omega) hj2
              · intro h j hj hj2
                exact h j (by omega) hj2
          · rw [if_neg q2, no (fun h => q2 h.2.2.2.1)]
        · rw [if_neg q4, no (fun h => q4 h.2.2.1)]
      · rw [if_neg q3, no (fun h => q3 h.2.1)]
    · rw [if_neg q1, no (fun h => q1 h.1)]
def okSlab (l1 l2 l3 l4 : List Int) : Prop := l1.length ≤ 3 ∧ l2.length = l1.length ∧ l3.length = l1.length ∧ l4.length = l1.length ∧ ∀ i, 0 ≤ i → i < l1.length → okD l1 l2 l3 l4 i
instance (l1 l2 l3 l4 : List Int) : Decidable (okSlab l1 l2 l3 l4) := by unfold okSlab; infer_instance
theorem slabF_spec (a : Int) (l1 l2 l3 l4 : List Int) (ps : List S137) (k : Nat) (hk : 100 ≤ k) : spec_l06Slab.f k a l1 l2 l3 l4 ps = some (decide (okSlab l1 l2 l3 l4 ∧ ps.length = 0)) := by
  obtain ⟨k, rfl⟩ : ∃ z, k = z + 2 := ⟨k - 2, by omega⟩
  unfold spec_l06Slab.f
  have no : ∀ (h : ¬ (okSlab l1 l2 l3 l4 ∧ ps.length = 0)), decide (okSlab l1 l2 l3 l4 ∧ ps.length = 0) = false := fun h => decide_eq_false h
  by_cases h3 : l1.length ≤ 3
  · rw [if_neg (by omega)]
    by_cases q2 : l2.length = l1.length
    · rw [if_pos (by omega)]
      by_cases q3 : l3.length = l1.length
      · rw [if_pos (by omega)]
        by_cases q4 : l4.length = l1.length
        · rw [if_pos (by omega), spec_l06Slab.j0]
          by_cases q5 : ps.length = 0
          · have h0 := slab_spec a l1 l2 l3 l4 ps l1.length h3 rfl q2 q3 q4 l1.length (k + 1) 0 (by omega) (by omega)
            rw [if_neg (by rw [decide_eq_true_eq]; omega)]
            rw [show spec_l06Slab.l0 (k + 1) (l1.length : Int) 0 a l1 l2 l3 l4 ps = _ from h0]
            congr 1
            apply decide_eq_decide.2
            exact ⟨fun h => ⟨⟨h3, q2, q3, q4, h⟩, q5⟩, fun h => h.1.2.2.2.2⟩
          · rw [if_pos (by rw [decide_eq_true_eq]; omega), no (fun h => q5 h.2)]
        · rw [if_neg (by omega), spec_l06Slab.j0, if_pos rfl, no (fun h => q4 h.1.2.2.2.1)]
      · rw [if_neg (by omega), spec_l06Slab.j0, if_pos rfl, no (fun h => q3 h.1.2.2.1)]
    · rw [if_neg (by omega), spec_l06Slab.j0, if_pos rfl, no (fun h => q2 h.1.2.1)]
  · rw [if_pos (by omega), spec_l06Slab.j0, if_pos rfl, no (fun h => h3 h.1.1)]
def BoxAt (a b : List Int) (i : Nat) : Prop := 0 ≤ rd a i ∧ rd a i < rd b i ∧ rd b i ≤ 40
instance (a b : List Int) (i : Nat) : Decidable (BoxAt a b i) := by unfold BoxAt; infer_instance
def VBox (a b : List Int) : Prop := a.length ≤ 3 ∧ b.length = a.length ∧ ∀ i, i < a.length → BoxAt a b i
instance (a b : List Int) : Decidable (VBox a b) := by unfold VBox; infer_instance
theorem all_step {P : Nat → Prop} {i : Nat} (h : ∀ j, j < i → P j) (hi : P i) : ∀ j, j < i + 1 → P j := fun j hj => by
  by_cases e : j = i
  · subst e; exact hi
  · exact h j (by omega)
theorem box_impl (k : Nat) (a b : List Int) (hk : 10 < k) : impl_ValidBox.f k a b = some (decide (VBox a b)) := by
  obtain ⟨k, rfl⟩ : ∃ z, k = z + 1 := ⟨k - 1, by omega⟩
  unfold impl_ValidBox.f
  by_cases hn : (a.length : Int) = (b.length : Int)
  · rw [if_pos hn, impl_ValidBox.j0]
    by_cases h3 : (a.length : Int) > 3
    · rw [if_pos (by simpa using h3)]
      have : ¬ VBox a b := fun h => by have := h.1; omega
      simp [this]
    · rw [if_neg (by simpa using h3)]
      obtain ⟨r, h, rfl⟩ := count_loop (fun k (_ : Unit) i => impl_ValidBox.l0 k a (a.length : Int) i a b) a.length 0 (fun i _ => ∀ j, j < i → BoxAt a b j) (fun r => r = decide (VBox a b))
        (by
          rintro k - - h1
          refine ⟨true, by show impl_ValidBox.l0 (k + 1) a _ _ a b = _; rw [impl_ValidBox.l0, if_neg (by omega)], ?_⟩
          have : VBox a b := ⟨by omega, by omega, h1⟩
          simp [this])
        (by
          rintro k - i - hi h1
          have e : impl_ValidBox.l0 (k + 1) a (a.length : Int) (i : Int) a b = if BoxAt a b i then impl_ValidBox.l0 k a (a.length : Int) ((i + 1 : Nat) : Int) a b else some false := by
            rw [impl_ValidBox.l0, if_pos (by omega), if_pos (by omega), if_pos (by omega), wrap_up i (by omega)]
            by_cases c1 : rd a i < 0
            · rw [if_pos c1, if_neg (fun h => by have := h.1; omega)]
            · rw [if_neg c1, if_pos (by omega)]
              by_cases c2 : rd a i ≥ rd b i
              · rw [if_pos c2, if_neg (fun h => by have := h.2.1; omega)]
              · rw [if_neg c2]
                by_cases c3 : rd b i > 40
                · rw [if_pos c3, if_neg (fun h => by have := h.2.2; omega)]
                · rw [if_neg c3, if_pos (show BoxAt a b i from ⟨by omega, by omega, by omega⟩)]
          by_cases c : BoxAt a b i
          · exact .inl ⟨(), all_step h1 c, by show impl_ValidBox.l0 (k + 1) a _ _ a b = _; rw [e, if_pos c]⟩
          · refine .inr ⟨false, by show impl_ValidBox.l0 (k + 1) a _ _ a b = _; rw [e, if_neg c], ?_⟩
            have : ¬ VBox a b := fun h => c (h.2.2 i hi)
            simp [this])
        k () 0 (by omega) (by omega) (fun j hj => by omega)
      exact h
  · rw [if_neg hn, impl_ValidBox.j0, if_pos rfl]
    have : ¬ VBox a b := fun h => by have := h.2.1; omega
    simp [this]
theorem mark64 (n : Nat) (hn : n ≤ 1048576) : ∀ (d i : Nat) (x : Int) (l : List Int), l.length = n → n - i = d → i ≤ n → 0 ≤ x → x + d ≤ 1099511627776 →
    ∃ r : List Int, r.length = n ∧ (∀ k, d < k → laws_markInt64S.l0 k l x (i : Int) = some (x + d, r)) ∧ (∀ j, j < i → r.getD j 0 = l.getD j 0) ∧ ∀ j, i ≤ j → j < n → r.getD j 0 = x + ((j - i : Nat) : Int) := by
  intro d
  induction d with
  | zero =>
    intro i x l hl hd hi h0 h1
    refine ⟨l, hl, fun k hk => ?_, fun j _ => rfl, fun j h2 h3 => by omega⟩
    obtain ⟨k, rfl⟩ : ∃ m, k = m + 1 := ⟨k - 1, by omega⟩
    rw [laws_markInt64S.l0, if_neg (by omega)]
    simp
  | succ d ih =>
    intro i x l hl hd hi h0 h1
    obtain ⟨r, hr, hk0, hlo, hhi⟩ := ih (i + 1) (x + 1) (l.set i x) (by simpa using hl) (by omega) (by omega) (by omega) (by omega)
    refine ⟨r, hr, fun k hk => ?_, fun j hj => ?_, fun j h2 h3 => ?_⟩
    · obtain ⟨k, rfl⟩ : ∃ m, k = m + 1 := ⟨k - 1, by omega⟩
      rw [laws_markInt64S.l0, if_pos (by omega), if_pos (by omega), wrap64_id (by omega) (by omega), wrap64_id (by omega) (by omega), Int.toNat_natCast, show (i : Int) + 1 = ((i + 1 : Nat) : Int) by omega, hk0 k (by omega)]
      congr 2
      omega
    · rw [hlo j (by omega)]
      simp only [List.getD_eq_getElem?_getD]
      rw [List.getElem?_set_ne (by omega)]
    · by_cases hj : j = i
      · subst hj
        rw [hlo j (by omega)]
        simp only [List.getD_eq_getElem?_getD]
        rw [List.getElem?_set_self (by omega)]
        simp
      · rw [hhi j (by omega) h3]
        omega
theorem held64 (n : Nat) (hn : n ≤ 1048576) (l : List Int) (hl : l.length = n) : ∀ (d i : Nat) (x : Int), n - i = d → i ≤ n → 0 ≤ x → x + d ≤ 1099511627776 → (∀ j, i ≤ j → j < n → l.getD j 0 = x + ((j - i : Nat) : Int)) →
    ∀ k, d < k → laws_heldInt64S.l0 k l x (i : Int) = some (x + d) := by
  intro d
  induction d with
  | zero =>
    intro i x hd hi h0 h1 hm k hk
    obtain ⟨k, rfl⟩ : ∃ m, k = m + 1 := ⟨k - 1, by omega⟩
    rw [laws_heldInt64S.l0, if_neg (by omega)]
    simp
  | succ d ih =>
    intro i x hd hi h0 h1 hm k hk
    obtain ⟨k, rfl⟩ : ∃ m, k = m + 1 := ⟨k - 1, by omega⟩
    have e : rd l (i : Int) = x := by
      have h := hm i (Nat.le_refl _) (by omega)
      rw [Nat.sub_self] at h
      simpa [rd] using h
    rw [laws_heldInt64S.l0, if_pos (by omega), if_pos (by omega), e, if_pos rfl, wrap64_id (by omega) (by omega), wrap64_id (by omega) (by omega), show (i : Int) + 1 = ((i + 1 : Nat) : Int) by omega, ih (i + 1) (x + 1) (by omega) (by omega) (by omega) (by omega) (fun j h2 h3 => by
      rw [hm j (by omega) h3]; omega) k (by omega)]
    congr 1
    omega
/-- a list that has been marked from x on, and what its marks are held against -/
theorem marks64 (l : List Int) (hl : l.length ≤ 1048576) (x : Int) (h0 : 0 ≤ x) (h1 : x ≤ 1073741824) :
    ∃ r : List Int, r.length = l.length ∧ (∀ k, 1048576 < k → laws_markInt64S.f k l x = some (x + l.length, r)) ∧ ∀ k, 1048576 < k → laws_heldInt64S.f k r x = some (x + l.length) := by
  obtain ⟨r, hr, hm, -, hv⟩ := mark64 l.length hl l.length 0 x l rfl (by omega) (by omega) h0 (by omega)
  exact ⟨r, hr, fun k hk => hm k (by omega), fun k hk => held64 l.length hl r hr l.length 0 x (by omega) (by omega) h0 (by omega) (fun j h2 h3 => hv j h2 h3) k (by omega)⟩
def st_ (x y : List Int) (n : Nat) : List Int := (List.range n).map fun (j : Nat) => wrap64 (rd y (j : Int) - rd x (j : Int))
def on_ (n : Nat) : List Int := (List.range n).map fun (_ : Nat) => (1 : Int)
theorem st_succ (x y : List Int) (n : Nat) : st_ x y (n + 1) = st_ x y n ++ [wrap64 (rd y (n : Int) - rd x (n : Int))] := by simp [st_, List.range_succ]
theorem on_succ (n : Nat) : on_ (n + 1) = on_ n ++ [1] := by simp [on_, List.range_succ]
theorem st_len (x y : List Int) (n : Nat) : (st_ x y n).length = n := by simp [st_]
theorem on_len (n : Nat) : (on_ n).length = n := by simp [on_]
theorem st_rd (x y : List Int) (n j : Nat) (h : j < n) : rd (st_ x y n) (j : Int) = wrap64 (rd y (j : Int) - rd x (j : Int)) := by
  rw [rd_lt _ j (by rw [st_len]; exact h)]
  simp [st_]
theorem on_rd (n j : Nat) (h : j < n) : rd (on_ n) (j : Int) = 1 := by
  rw [rd_lt _ j (by rw [on_len]; exact h)]
  simp [on_]
theorem own_eq (l : List Int) (h : l.length ≤ 1048576) : spec_l00Own.f l = some l := by
  unfold spec_l00Own.f
  simp only [Option.bind_some, List.length_nil, List.nil_append]
  rw [if_pos (by omega)]
theorem clone_eq (l : List Int) (h : l.length ≤ 1048576) : slices_Clone_int64_int64.f l = some l := by
  unfold slices_Clone_int64_int64.f slices_Clone_int64_int64_nn.f
  simp only [Option.bind_some, List.length_nil, List.nil_append]
  rw [if_pos (by omega)]
theorem srange_loop (x y l : List Int) (n : Nat) (hn : n = min x.length y.length) (hx : x.length ≤ 1048576) : ∀ (d i k : Nat), i + d = n → d < k →
    spec_l06Range.l0 k x y (i : Int) 3 l (st_ x y i) (on_ i) (st_ x y i) = some (3, l, st_ x y n, on_ n, st_ x y n, ([] : List S137)) := by
  intro d
  induction d with
  | zero =>
    intro i k hi hk
    obtain ⟨k, rfl⟩ : ∃ m, k = m + 1 := ⟨k - 1, by omega⟩
    have hi' : i = n := by omega
    subst hi'
    rw [spec_l06Range.l0]
    by_cases h : (i : Int) < (x.length : Int)
    · rw [if_pos h, if_neg (by omega)]
    · rw [if_neg h]
  | succ d ih =>
    intro i k hi hk
    obtain ⟨k, rfl⟩ : ∃ m, k = m + 1 := ⟨k - 1, by omega⟩
    rw [spec_l06Range.l0, if_pos (by omega), if_pos (by omega), if_pos (by omega), if_pos (by rw [st_len]; omega), if_pos (by rw [on_len]; omega), if_pos (by rw [st_len]; omega), wrap_up i (by omega), ← st_succ, ← on_succ]
    exact ih (i + 1) k (by omega) (by omega)
theorem irange_loop (x y l : List Int) (hy : y.length = x.length) (hx : x.length ≤ 1048576) : ∀ (d i k : Nat), i + d = x.length → d < k →
    impl_rangeOf.l0 k x y (x.length : Int) (i : Int) 3 l (st_ x y i) (on_ i) (st_ x y i) = some (3, l, st_ x y x.length, on_ x.length, st_ x y x.length, ([] : List S137)) := by
  intro d
  induction d with
  | zero =>
    intro i k hi hk
    obtain ⟨k, rfl⟩ : ∃ m, k = m + 1 := ⟨k - 1, by omega⟩
    have hi' : i = x.length := by omega
    subst hi'
    rw [impl_rangeOf.l0, if_neg (by omega)]
  | succ d ih =>
    intro i k hi hk
    obtain ⟨k, rfl⟩ : ∃ m, k = m + 1 := ⟨k - 1, by omega⟩
    rw [impl_rangeOf.l0, if_pos (by omega), if_pos (by rw [on_len]; omega), if_pos (by omega), if_pos (by omega), if_pos (by omega), if_pos (by rw [st_len]; omega), if_pos (by rw [st_len]; omega), wrap_up i (by omega), ← st_succ, ← on_succ]
    exact ih (i + 1) k (by omega) (by omega)
def PassAt (x y : List Int) (j : Nat) : Prop := (0 ≤ rd x (j : Int) ∧ rd x (j : Int) ≤ wrap64 (rd y (j : Int) - 1)) ∧ rd y (j : Int) ≤ 40
instance (x y : List Int) (j : Nat) : Decidable (PassAt x y j) := by unfold PassAt; infer_instance
abbrev RT := Int × List Int × List Int × List Int × List Int × List S137 × Bool
abbrev noR : Option RT := some (0, ([] : List Int), ([] : List Int), ([] : List Int), ([] : List Int), ([] : List S137), false)
abbrev yesR (x y : List Int) : Option RT := some (3, x, st_ x y x.length, on_ x.length, st_ x y x.length, ([] : List S137), true)
def okR (x y : List Int) : Prop := y.length = x.length ∧ okSlab x (st_ x y x.length) (on_ x.length) (st_ x y x.length)
instance (x y : List Int) : Decidable (okR x y) := by unfold okR; infer_instance
theorem formed3 (l1 l2 l3 l4 : List Int) (k : Nat) (hk : 200 ≤ k) : spec_l06Formed.f k 3 l1 l2 l3 l4 ([] : List S137) = some (decide (okSlab l1 l2 l3 l4)) := by
  obtain ⟨k, rfl⟩ : ∃ z, k = z + 1 := ⟨k - 1, by omega⟩
  unfold spec_l06Formed.f
  rw [if_neg (by decide), spec_l06Formed.j0, if_neg (by decide), if_pos rfl, slabF_spec 3 l1 l2 l3 l4 [] k (by omega)]
  simp
theorem fin_eq (x y : List Int) (hx : x.length ≤ 1048576) (hy : y.length ≤ 1048576) (i : Int) (k : Nat) (hk : 1048800 ≤ k) : spec_RangeOf.j1 k x y i false = if okR x y then yesR x y else noR := by
  obtain ⟨k, rfl⟩ : ∃ z, k = z + 1 := ⟨k - 1, by omega⟩
  rw [spec_RangeOf.j1, if_neg (by decide)]
  unfold spec_l06Range.f
  rw [own_eq x hx]
  simp only [Option.bind_some]
  have h := srange_loop x y x (min x.length y.length) rfl hx (min x.length y.length) 0 k (by omega) (by omega)
  rw [show spec_l06Range.l0 k x y 0 3 x [] [] [] = _ from h]
  simp only [Option.bind_some]
  by_cases he : y.length = x.length
  · rw [if_pos (by omega), formed3 _ _ _ _ k (by omega)]
    have hm : min x.length y.length = x.length := by omega
    rw [hm]
    simp only [Option.bind_some, decide_eq_true_eq]
    by_cases ho : okSlab x (st_ x y x.length) (on_ x.length) (st_ x y x.length)
    · rw [if_pos ho, if_pos (show okR x y from ⟨he, ho⟩)]
    · rw [if_neg ho, if_neg (fun q : okR x y => ho q.2)]
  · rw [if_neg (by omega), if_neg (fun q : okR x y => he q.1)]
theorem spec_loop (x y : List Int) (hx : x.length ≤ 1048576) (hy : y.length ≤ 1048576) : ∀ (d i k : Nat), i + d = min x.length y.length → 2 * d + 1048802 < k →
    spec_RangeOf.l0 k x y (i : Int) = if (∀ j, i ≤ j → j < min x.length y.length → PassAt x y j) ∧ okR x y then yesR x y else noR := by
  intro d
  induction d with
  | zero =>
    intro i k hi hk
    obtain ⟨k, rfl⟩ : ∃ m, k = m + 1 := ⟨k - 1, by omega⟩
    have e : (if (∀ j, i ≤ j → j < min x.length y.length → PassAt x y j) ∧ okR x y then yesR x y else noR) = if okR x y then yesR x y else noR := by
      by_cases h : okR x y
      · rw [if_pos h, if_pos ⟨fun j h1 h2 => by omega, h⟩]
      · rw [if_neg h, if_neg (fun q => h q.2)]
    rw [e, spec_RangeOf.l0]
    by_cases h : (i : Int) < (x.length : Int)
    · rw [if_pos h, decide_eq_false (by omega), fin_eq x y hx hy _ k (by omega)]
    · rw [if_neg h, fin_eq x y hx hy _ k (by omega)]
  | succ d ih =>
    intro i k hi hk
    obtain ⟨k, rfl⟩ : ∃ m, k = m + 2 := ⟨k - 2, by omega⟩
    rw [spec_RangeOf.l0, if_pos (by omega), decide_eq_true (by omega), spec_RangeOf.j1, if_pos rfl, if_pos (by omega), if_pos (by omega), if_pos (by omega), in_eq]
    simp only [Option.bind_some, decide_eq_true_eq]
    have no : ¬ PassAt x y i → (if (∀ j, i ≤ j → j < min x.length y.length → PassAt x y j) ∧ okR x y then yesR x y else noR) = noR := fun h => if_neg (fun q => h (q.1 i (by omega) (by omega)))
    by_cases h1 : 0 ≤ rd x (i : Int) ∧ rd x (i : Int) ≤ wrap64 (rd y (i : Int) - 1)
    · rw [if_pos h1]
      by_cases h2 : rd y (i : Int) > 40
      · rw [if_pos h2, no (fun q => by have := q.2; omega)]
      · rw [if_neg h2, wrap_up i (by omega), ih (i + 1) k (by omega) (by omega)]
        have hp : PassAt x y i := ⟨h1, by omega⟩
        by_cases h : (∀ j, i + 1 ≤ j → j < min x.length y.length → PassAt x y j) ∧ okR x y
        · rw [if_pos h, if_pos ⟨fun j q1 q2 => by
            by_cases e : j = i
            · subst e; exact hp
            · exact h.1 j (by omega) q2, h.2⟩]
        · rw [if_neg h, if_neg (fun q => h ⟨fun j q1 q2 => q.1 j (by omega) q2, q.2⟩)]
    · rw [if_neg h1, no (fun q => h1 q.1)]
theorem rd_wf (l : List Int) (h : ∀ x ∈ l, (Lit.int .i64 x).wf = true) (j : Nat) (hj : j < l.length) : -9223372036854775808 ≤ rd l (j : Int) ∧ rd l (j : Int) ≤ 9223372036854775807 := by
  rw [rd_lt l j hj]
  have := wf64 (h l[j] (List.getElem_mem hj))
  omega
theorem vbox_iff (x y : List Int) (wx : ∀ a ∈ x, (Lit.int .i64 a).wf = true) (wy : ∀ a ∈ y, (Lit.int .i64 a).wf = true) : ((∀ j, 0 ≤ j → j < min x.length y.length → PassAt x y j) ∧ okR x y) ↔ VBox x y := by
  constructor
  · rintro ⟨h, he, ho⟩
    refine ⟨ho.1, he, fun j hj => ?_⟩
    obtain ⟨⟨p1, p2⟩, p3⟩ := h j (by omega) (by omega)
    obtain ⟨⟨q1, q2⟩, -, ⟨q5, q6⟩, -, q9⟩ := ho.2.2.2.2 j (by omega) hj
    have w := rd_wf y wy j (by omega)
    rw [on_rd _ _ hj, st_rd _ _ _ _ hj] at q9
    rw [st_rd _ _ _ _ hj] at q5 q6
    have e : wrap64 (rd y (j : Int) - rd x (j : Int)) = rd y (j : Int) - rd x (j : Int) := by
      by_cases hw : -9223372036854775808 ≤ rd y (j : Int) - rd x (j : Int)
      · exact wrap64_id (by omega) (by omega)
      · exfalso
        unfold wrap64 at q5 q6
        omega
    rw [e] at q5 q6
    exact ⟨p1, by omega, p3⟩
  · rintro ⟨h1, h2, h3⟩
    have hm : min x.length y.length = x.length := by omega
    rw [hm]
    refine ⟨fun j _ hj => ?_, h2, h1, st_len _ _ _, on_len _, st_len _ _ _, fun j _ hj => ?_⟩
    · obtain ⟨q1, q2, q3⟩ := h3 j hj
      refine ⟨⟨q1, ?_⟩, q3⟩
      rw [wrap64_id (by omega) (by omega)]
      omega
    · obtain ⟨q1, q2, q3⟩ := h3 j hj
      unfold okD
      rw [on_rd _ _ hj, st_rd _ _ _ _ hj, wrap64_id (a := rd y (j : Int) - rd x (j : Int)) (by omega) (by omega)]
      omega
theorem both (x y : List Int) (hx : x.length ≤ 1048576) (hy : y.length ≤ 1048576) (wx : ∀ a ∈ x, (Lit.int .i64 a).wf = true) (wy : ∀ a ∈ y, (Lit.int .i64 a).wf = true) :
    ∃ (a : Int) (l m n p : List Int) (o : Bool), (l.length ≤ 3 ∧ m.length ≤ 3 ∧ n.length ≤ 3 ∧ p.length ≤ 3) ∧ ∀ k, 5000000 ≤ k → spec_RangeOf.f k x y = some (a, l, m, n, p, ([] : List S137), o) ∧ impl_RangeOf.f k x y = some (a, l, m, n, p, ([] : List S137), o) := by
  have hS : ∀ k, 5000000 ≤ k → spec_RangeOf.f k x y = if VBox x y then yesR x y else noR := by
    intro k hk
    unfold spec_RangeOf.f
    have h := spec_loop x y hx hy (min x.length y.length) 0 k (by omega) (by omega)
    rw [show spec_RangeOf.l0 k x y 0 = _ from h]
    by_cases hv : VBox x y
    · rw [if_pos hv, if_pos ((vbox_iff x y wx wy).2 hv)]
    · rw [if_neg hv, if_neg (fun q => hv ((vbox_iff x y wx wy).1 q))]
  have hI : ∀ k, 5000000 ≤ k → impl_RangeOf.f k x y = if VBox x y then yesR x y else noR := by
    intro k hk
    unfold impl_RangeOf.f impl_rangeOf.f
    rw [box_impl k x y (by omega), clone_eq x hx]
    simp only [Option.bind_some, decide_eq_true_eq]
    by_cases hv : VBox x y
    · rw [if_pos hv, if_pos hv]
      have h := irange_loop x y x hv.2.1 hx x.length 0 k (by omega) (by omega)
      rw [show impl_rangeOf.l0 k x y x.length 0 3 x [] [] [] = _ from h]
      rfl
    · rw [if_neg hv, if_neg hv]
  by_cases hv : VBox x y
  · refine ⟨3, x, st_ x y x.length, on_ x.length, st_ x y x.length, true, ⟨hv.1, by rw [st_len]; exact hv.1, by rw [on_len]; exact hv.1, by rw [st_len]; exact hv.1⟩, fun k hk => ?_⟩
    rw [hS k hk, hI k hk, if_pos hv]
    exact ⟨rfl, rfl⟩
  · refine ⟨0, [], [], [], [], false, by simp, fun k hk => ?_⟩
    rw [hS k hk, hI k hk, if_neg hv]
    exact ⟨rfl, rfl⟩
theorem marks_sel (a : Int) (l m n p : List Int) (hl : l.length ≤ 1048576) (hm : m.length ≤ 1048576) (hn : n.length ≤ 1048576) (hp : p.length ≤ 1048576) :
    ∃ (t : Int) (l' m' n' p' : List Int), 0 ≤ t ∧ (∀ k, 1048600 ≤ k → laws_markSelection.f k a l m n p ([] : List S137) 1 = some (t, l', m', n', p')) ∧ ∀ k, 1048600 ≤ k → laws_heldSelection.f k a l' m' n' p' ([] : List S137) 1 = some t := by
  obtain ⟨r1, -, m1, n1⟩ := marks64 l hl 1 (by omega) (by omega)
  obtain ⟨r2, -, m2, n2⟩ := marks64 m hm (1 + l.length) (by omega) (by omega)
  obtain ⟨r3, -, m3, n3⟩ := marks64 n hn (1 + l.length + m.length) (by omega) (by omega)
  obtain ⟨r4, -, m4, n4⟩ := marks64 p hp (1 + l.length + m.length + n.length) (by omega) (by omega)
  refine ⟨1 + l.length + m.length + n.length + p.length, r1, r2, r3, r4, by omega, fun k hk => ?_, fun k hk => ?_⟩
  · unfold laws_markSelection.f
    rw [m1 k (by omega)]
    simp only [Option.bind_some]
    rw [m2 k (by omega)]
    simp only [Option.bind_some]
    rw [m3 k (by omega)]
    simp only [Option.bind_some]
    rw [m4 k (by omega)]
    simp only [Option.bind_some, laws_markPointS.f, List.length_nil, if_true]
  · obtain ⟨k, rfl⟩ : ∃ z, k = z + 1 := ⟨k - 1, by omega⟩
    unfold laws_heldSelection.f laws_heldPointS.f
    rw [n1 _ (by omega)]
    simp only [Option.bind_some]
    rw [if_neg (by omega), n2 _ (by omega)]
    simp only [Option.bind_some]
    rw [if_neg (by omega), n3 _ (by omega)]
    simp only [Option.bind_some]
    rw [if_neg (by omega), n4 _ (by omega)]
    simp only [Option.bind_some]
    rw [if_neg (by omega), laws_heldPointS.l0, if_neg (by simp)]
    simp only [Option.bind_some]
    rw [if_neg (by omega)]
theorem FnExactRangeOf : laws_FnExactRangeOf.Pure := by
  rintro x y ⟨ox, wx⟩ ⟨oy, wy⟩
  by_cases h1 : (x.length : Int) > 1048576
  · exact ⟨0, by unfold laws_FnExactRangeOf.f; rw [if_pos h1]⟩
  by_cases h2 : (y.length : Int) > 1048576
  · exact ⟨0, by unfold laws_FnExactRangeOf.f; rw [if_neg h1, if_pos h2]⟩
  obtain ⟨a, l, m, n, p, o, ⟨hl, hm, hn, hp⟩, hv⟩ := both x y (by omega) (by omega) wx wy
  have TX := fun k (hk : 5000000 ≤ k) => g_toInt64S k x (by omega) (by omega)
  have TY := fun k (hk : 5000000 ≤ k) => g_toInt64S k y (by omega) (by omega)
  have EX := fun k (hk : 5000000 ≤ k) => g_eqInt64S k x (by omega) (by omega)
  have EY := fun k (hk : 5000000 ≤ k) => g_eqInt64S k y (by omega) (by omega)
  have ES := fun k (hk : 5000000 ≤ k) => g_eqSelection k a l m n p ([] : List S137) (by omega) (by omega) (by omega) (by omega) (by omega) (by simp) (by simp)
  obtain ⟨r1, -, M1, -⟩ := marks64 x (by omega) 1 (by omega) (by omega)
  obtain ⟨r2, -, M2, -⟩ := marks64 y (by omega) (1 + x.length) (by omega) (by omega)
  obtain ⟨t, l', m', n', p', ht, M3, N3⟩ := marks_sel a l m n p (by omega) (by omega) (by omega) (by omega)
  refine ⟨5000010, ?_⟩
  unfold laws_FnExactRangeOf.f
  rw [if_neg h1, if_neg h2, TX 5000010 (by omega), TY 5000010 (by omega)]
  simp only [Option.bind_some]
  rw [(hv 5000010 (by omega)).1, (hv 5000010 (by omega)).2]
  simp only [Option.bind_some]
  rw [ES 5000010 (by omega)]
  simp only [Option.bind_some, if_true, bne_self_eq_false]
  rw [laws_FnExactRangeOf.j0, if_neg (by decide), TX 5000009 (by omega)]
  simp only [Option.bind_some]
  rw [EX 5000009 (by omega)]
  simp only [Option.bind_some, if_true]
  rw [TY 5000009 (by omega)]
  simp only [Option.bind_some]
  rw [EY 5000009 (by omega)]
  simp only [Option.bind_some, if_true]
  rw [M1 5000009 (by omega)]
  simp only [Option.bind_some]
  rw [M2 5000009 (by omega)]
  simp only [Option.bind_some]
  rw [if_neg (by omega), ES 5000009 (by omega)]
  simp only [Option.bind_some, if_true, bne_self_eq_false]
  rw [laws_FnExactRangeOf.j1, if_neg (by decide), M3 5000008 (by omega)]
  simp only [Option.bind_some]
  rw [N3 5000008 (by omega)]
  simp only [Option.bind_some]
  rw [if_neg (by omega), if_pos trivial, TX 5000008 (by omega)]
  simp only [Option.bind_some]
  rw [TY 5000008 (by omega)]
  simp only [Option.bind_some]
  rw [(hv 5000008 (by omega)).2]
  simp only [Option.bind_some]
  rw [ES 5000008 (by omega)]
  simp only [Option.bind_some, if_true, bne_self_eq_false]
  rw [laws_FnExactRangeOf.j2, if_neg (by decide), N3 5000007 (by omega)]
  simp only [Option.bind_some]
  rw [if_neg (by omega), if_pos trivial]

end Go.Proofs.Ytehldidejgpifaa.Pure
