/- The plain form of FnExactBoxesOf: for all arguments the answer is true. It holds without a condition. -/
import Derived.Test.YtdiaebjbiddefaaPFnExactBoxesOfx8
import Derived.OpenShut
namespace Go.Proofs.Ytdiaebjbiddefaa.Pure
open Go Go.RowKit Go.Proofs.Ytdiaebjbiddefaa.PFnExactBoxesOf Go.Proofs.YtdiaebjbiddefaaW.PrintWords Go.Proofs.YtdiaebjbiddefaaW.PrintLast
set_option linter.unusedVariables false
set_option linter.unusedSimpArgs false

theorem wrap64_id {a : Int} (h : -9223372036854775808 ≤ a) (h' : a ≤ 9223372036854775807) : wrap64 a = a := by unfold wrap64; omega
theorem count_loop {σ ρ : Type} (L : Nat → σ → Int → Option ρ) (n m : Nat) (I : Nat → σ → Prop) (R : ρ → Prop)
 (hstop : ∀ k s, m ≤ k → I n s → ∃ r, L (k + 1) s (n : Int) = some r ∧ R r)
 (hstep : ∀ k s (i : Nat), m ≤ k → i < n → I i s → (∃ s', I (i + 1) s' ∧ L (k + 1) s (i : Int) = L k s' ((i + 1 : Nat) : Int)) ∨ ∃ r, L (k + 1) s (i : Int) = some r ∧ R r)
 (k : Nat) (s : σ) (i : Nat) (hi : i ≤ n) (hk : n - i + m < k) (h : I i s) : ∃ r, L k s (i : Int) = some r ∧ R r := by
 obtain ⟨d, hd⟩ : ∃ d, d = n - i := ⟨_, rfl⟩
 induction d generalizing k s i with
 | zero =>
  obtain ⟨k, rfl⟩ : ∃ z, k = z + 1 := ⟨k - 1, by omega⟩
  obtain rfl : i = n := by omega
  exact hstop k s (by omega) h
 | succ d ih =>
  obtain ⟨k, rfl⟩ : ∃ z, k = z + 1 := ⟨k - 1, by omega⟩
  rcases hstep k s i (by omega) (by omega) h with ⟨s', h', e⟩ | h'
  · rw [e]; exact ih k s' (i + 1) (by omega) (by omega) h' (by omega)
  · exact h'
theorem w1 : wrap64 1 = 1 := by unfold wrap64; omega
theorem w2 : wrap64 2 = 2 := by unfold wrap64; omega
theorem w3 : wrap64 3 = 3 := by unfold wrap64; omega
theorem rd_lt (l : List Int) (i : Nat) (h : i < l.length) : rd l (i : Int) = l[i] := by
 simp [rd, List.getD_eq_getElem?_getD, List.getElem?_eq_getElem h]
theorem wrap_up (i : Nat) (h : i < 1099511627776) : wrap64 ((i : Int) + 1) = ((i + 1 : Nat) : Int) := by unfold wrap64; omega
theorem set_next {α : Type} (l out : List α) (i : Nat) (h : i < l.length) (hl : out.length = l.length) (hp : out.take i = l.take i) : (out.set i l[i]).take (i + 1) = l.take (i + 1) := by
 apply List.ext_getElem?
 intro j
 by_cases hj : j < i + 1
 ·
  rw [List.getElem?_take_of_lt hj, List.getElem?_take_of_lt hj]
  by_cases hji : j = i
  · subst hji; rw [List.getElem?_set_self (by omega), List.getElem?_eq_getElem h]
  · rw [List.getElem?_set_ne (by omega)]
    have := congrArg (fun z => z[j]?) hp
    simpa [List.getElem?_take_of_lt (show j < i by omega)] using this
 · rw [List.getElem?_eq_none (by simp; omega), List.getElem?_eq_none (by simp; omega)]
theorem take_all {α : Type} (l out : List α) (hl : out.length = l.length) (hp : out.take l.length = l.take l.length) : out = l := by
 rwa [List.take_of_length_le (by omega), List.take_length] at hp
theorem g_szloop {α : Type} (L : Nat → List α → Int → Int → Option Int) (E : Nat → α → Int → Option Int) (z : α) (m : Nat) (Q : α → Prop) (l : List α)
 (hL : ∀ k a i, L (k + 1) l a i = if i < (l.length : Int) then (if 0 ≤ i then ((E k (l.getD i.toNat z) a).bind fun t => if t < 0 then some (-1) else L k l t (wrap64 (i + 1))) else none) else some a)
 (hE : ∀ k x a, x ∈ l → 0 ≤ a → a ≤ 1048576 → m ≤ k → ∃ t, E k x a = some t ∧ (t < 0 ∨ (0 ≤ t ∧ t ≤ a ∧ Q x)))
 (hl : l.length ≤ 1048576) (k : Nat) (a : Int) (h0 : 0 ≤ a) (h1 : a ≤ 1048576) (hk : m + 1048580 < k) :
 ∃ t, L k l a 0 = some t ∧ (t < 0 ∨ (0 ≤ t ∧ t ≤ a ∧ ∀ x ∈ l, Q x)) := by
 exact count_loop (fun k s i => L k l s i) l.length m (fun i s => 0 ≤ s ∧ s ≤ a ∧ ∀ x ∈ l.take i, Q x) (fun t => t < 0 ∨ (0 ≤ t ∧ t ≤ a ∧ ∀ x ∈ l, Q x))
  (by
   rintro k s - ⟨h1, h2, h3⟩
   rw [List.take_length] at h3
   exact ⟨s, by show L (k + 1) l s _ = _; rw [hL, if_neg (by omega)], .inr ⟨h1, h2, h3⟩⟩)
  (by
   rintro k s i hm hi ⟨h1, h2, h3⟩
   have hg : l.getD (i : Int).toNat z = l[i] := by simp [List.getD_eq_getElem?_getD, List.getElem?_eq_getElem hi]
   obtain ⟨t, e, ht⟩ := hE k l[i] s (List.getElem_mem hi) h1 (by omega) hm
   rcases ht with ht | ⟨q1, q2, q3⟩
   · refine .inr ⟨-1, ?_, .inl (by omega)⟩
     show L (k + 1) l s _ = _
     rw [hL, if_pos (by omega), if_pos (by omega), hg, e]
     simp only [Option.bind_some]
     rw [if_pos ht]
   ·
    refine .inl ⟨t, ⟨q1, by omega, ?_⟩, ?_⟩
    · intro x hx'
      rw [List.take_succ_eq_append_getElem hi, List.mem_append] at hx'
      rcases hx' with hx' | hx'
      · exact h3 x hx'
      · simp at hx'; subst hx'; exact q3
    · show L (k + 1) l s _ = _
      rw [hL, if_pos (by omega), if_pos (by omega), hg, e]
      simp only [Option.bind_some]
      rw [if_neg (by omega), wrap_up i (by omega)])
  k a 0 (by omega) (by omega) ⟨h0, by omega, by simp⟩
theorem g_toloop {α β γ : Type} (L : Nat → List α → List β → Int → Option (List β)) (E : Nat → α → Option γ) (mk : γ → β) (z : α) (c : α → β) (m : Nat) (l : List α)
 (hL : ∀ k s i, L (k + 1) l s i = if i < (l.length : Int) then (if 0 ≤ i then ((E k (l.getD i.toNat z)).bind fun b => (if i < (s.length : Int) then L k l (s.set i.toNat (mk b)) (wrap64 (i + 1)) else none)) else none) else some s)
 (hE : ∀ k x, x ∈ l → m ≤ k → ∃ b, E k x = some b ∧ mk b = c x)
 (hl : l.length ≤ 1048576) (k : Nat) (s : List β) (hs : s.length = l.length) (hk : m + 1048580 < k) : L k l s 0 = some (l.map c) := by
 obtain ⟨r, h, rfl⟩ := count_loop (fun k s i => L k l s i) l.length m (fun i s => s.length = (l.map c).length ∧ s.take i = (l.map c).take i) (fun r => r = l.map c)
  (by
   rintro k s - ⟨h1, h2⟩
   exact ⟨s, by show L (k + 1) l s _ = _; rw [hL, if_neg (by omega)], take_all (l.map c) s h1 (by rw [List.length_map]; exact h2)⟩)
  (by
   rintro k s i hm hi ⟨h1, h2⟩
   have hg : l.getD (i : Int).toNat z = l[i] := by simp [List.getD_eq_getElem?_getD, List.getElem?_eq_getElem hi]
   have hi' : i < (l.map c).length := by simpa using hi
   obtain ⟨b, e, hb⟩ := hE k l[i] (List.getElem_mem hi) hm
   have hb' : mk b = (l.map c)[i] := by rw [hb, List.getElem_map]
   refine .inl ⟨s.set i (l.map c)[i], ⟨by simpa using h1, set_next (l.map c) s i hi' h1 h2⟩, ?_⟩
   show L (k + 1) l s _ = _
   rw [hL, if_pos (by omega), if_pos (by omega), hg, e]
   simp only [Option.bind_some]
   rw [if_pos (by rw [h1]; simp; omega), wrap_up i (by omega), hb']
   rfl)
  k s 0 (by omega) (by omega) ⟨by simpa using hs, by simp⟩
 exact h
theorem g_eqloop {α : Type} (L : Nat → List α → List α → Int → Option Bool) (E : Nat → α → Option Bool) (z : α) (m : Nat) (l : List α)
 (hL : ∀ k i, L (k + 1) l l i = if i < (l.length : Int) then (if 0 ≤ i then (if i < (l.length : Int) then ((E k (l.getD i.toNat z)).bind fun t => (if t = true then L k l l (wrap64 (i + 1)) else some false)) else none) else none) else some true)
 (hE : ∀ k x, x ∈ l → m ≤ k → E k x = some true)
 (hl : l.length ≤ 1048576) (k : Nat) (hk : m + 1048580 < k) : L k l l 0 = some true := by
 obtain ⟨r, h, rfl⟩ := count_loop (fun k (_ : Unit) i => L k l l i) l.length m (fun _ _ => True) (fun r => r = true)
  (by
   rintro k s - -
   exact ⟨true, by show L (k + 1) l l _ = _; rw [hL, if_neg (by omega)], rfl⟩)
  (by
   rintro k s i hm hi -
   have hg : l.getD (i : Int).toNat z = l[i] := by simp [List.getD_eq_getElem?_getD, List.getElem?_eq_getElem hi]
   refine .inl ⟨(), trivial, ?_⟩
   show L (k + 1) l l _ = _
   rw [hL, if_pos (by omega), if_pos (by omega), if_pos (by omega), hg, hE k _ (List.getElem_mem hi) hm]
   simp only [Option.bind_some]
   rw [if_pos trivial, wrap_up i (by omega)])
  k () 0 (by omega) (by omega) trivial
 exact h
theorem g_szInt64S (k : Nat) (l0 : List Int) (a : Int) (h0 : 0 ≤ a) (h1 : a ≤ 1048576) (hk : 0 ≤ k) (o_l0 : l0.length ≤ maxLen ∧ ∀ x_ ∈ l0, (Lit.int .i64 x_).wf = true) : ∃ t, laws_szInt64S.f l0 a = some t ∧ (t < 0 ∨ (0 ≤ t ∧ t ≤ a ∧ (l0.length : Int) ≤ 1048576)) := by
 have p_l0 := o_l0.1
 unfold maxLen at p_l0
 unfold laws_szInt64S.f
 rw [wrap64_id (a := a - (l0.length : Int)) (by omega) (by omega)]
 by_cases c0 : a - (l0.length : Int) < 0
 · exact ⟨-1, by rw [if_pos c0], .inl (by omega)⟩
 rw [if_neg c0]
 exact ⟨_, rfl, .inr ⟨by omega, by omega, by omega⟩⟩
theorem g_szPoint (k : Nat) (l0_0 : List Int) (a : Int) (h0 : 0 ≤ a) (h1 : a ≤ 1048576) (hk : 0 ≤ k) (o_l0_0 : l0_0.length ≤ maxLen ∧ ∀ x_ ∈ l0_0, (Lit.int .i64 x_).wf = true) : ∃ t, laws_szPoint.f l0_0 a = some t ∧ (t < 0 ∨ (0 ≤ t ∧ t ≤ a ∧ (l0_0.length : Int) ≤ 1048576)) := by
 have p_l0_0 := o_l0_0.1
 unfold maxLen at p_l0_0
 unfold laws_szPoint.f
 obtain ⟨t0, e0, q0⟩ := g_szInt64S k l0_0 a (by omega) (by omega) (by omega) o_l0_0
 rw [e0]
 simp only [Option.bind_some]
 rcases q0 with q0 | ⟨r0, s0, q0_l0_0_0⟩
 · exact ⟨-1, by rw [if_pos q0], .inl (by omega)⟩
 rw [if_neg (show ¬ t0 < 0 by omega)]
 exact ⟨_, rfl, .inr ⟨by omega, by omega, q0_l0_0_0⟩⟩
def QS107 (x : S107) : Prop := (x.f0.length : Int) ≤ 1048576
theorem g_szPointS (k : Nat) (l : List (S107)) (a : Int) (h0 : 0 ≤ a) (h1 : a ≤ 1048576) (hk : 1048590 ≤ k) (o : l.length ≤ maxLen ∧ ∀ x_ ∈ l, okS107 x_) : ∃ t, laws_szPointS.f k l a = some t ∧ (t < 0 ∨ (0 ≤ t ∧ t ≤ a ∧ (l.length : Int) ≤ 1048576 ∧ (∀ y ∈ l, QS107 y))) := by
 have ol := o.1
 unfold maxLen at ol
 unfold laws_szPointS.f
 rw [wrap64_id (by omega) (by omega)]
 by_cases h : a - (l.length : Int) < 0
 · exact ⟨-1, by rw [if_pos h], .inl (by omega)⟩
 rw [if_neg h]
 obtain ⟨t, e, q⟩ := g_szloop laws_szPointS.l0 (fun k x a => laws_szPoint.f x.f0 a) z107 0 (QS107) l
  (by intro k a i; rw [laws_szPointS.l0]; rfl)
  (by intro k x a hx h0 h1 hm; obtain o0 := o.2 x hx; exact g_szPoint k x.f0 a h0 h1 hm o0)
  (by omega) k (a - (l.length : Int)) (by omega) (by omega) (by omega)
 rcases q with q | ⟨q1, q2, q3⟩
 · exact ⟨t, e, .inl q⟩
 · exact ⟨t, e, .inr ⟨q1, by omega, by omega, q3⟩⟩
theorem g_szSelection (k : Nat) (a0_0 : Int) (l0_1 : List Int) (l0_2 : List Int) (l0_3 : List Int) (l0_4 : List Int) (l0_5 : List (S107)) (a : Int) (h0 : 0 ≤ a) (h1 : a ≤ 1048576) (hk : 1048590 ≤ k) (o_l0_1 : l0_1.length ≤ maxLen ∧ ∀ x_ ∈ l0_1, (Lit.int .i64 x_).wf = true) (o_l0_2 : l0_2.length ≤ maxLen ∧ ∀ x_ ∈ l0_2, (Lit.int .i64 x_).wf = true) (o_l0_3 : l0_3.length ≤ maxLen ∧ ∀ x_ ∈ l0_3, (Lit.int .i64 x_).wf = true) (o_l0_4 : l0_4.length ≤ maxLen ∧ ∀ x_ ∈ l0_4, (Lit.int .i64 x_).wf = true) (o_l0_5 : l0_5.length ≤ maxLen ∧ ∀ x_ ∈ l0_5, okS107 x_) : ∃ t, laws_szSelection.f k a0_0 l0_1 l0_2 l0_3 l0_4 l0_5 a = some t ∧ (t < 0 ∨ (0 ≤ t ∧ t ≤ a ∧ (l0_1.length : Int) ≤ 1048576 ∧ (l0_2.length : Int) ≤ 1048576 ∧ (l0_3.length : Int) ≤ 1048576 ∧ (l0_4.length : Int) ≤ 1048576 ∧ (l0_5.length : Int) ≤ 1048576 ∧ (∀ y ∈ l0_5, QS107 y))) := by
 have p_l0_1 := o_l0_1.1
 unfold maxLen at p_l0_1
 have p_l0_2 := o_l0_2.1
 unfold maxLen at p_l0_2
 have p_l0_3 := o_l0_3.1
 unfold maxLen at p_l0_3
 have p_l0_4 := o_l0_4.1
 unfold maxLen at p_l0_4
 have p_l0_5 := o_l0_5.1
 unfold maxLen at p_l0_5
 unfold laws_szSelection.f
 obtain ⟨t0, e0, q0⟩ := g_szInt64S k l0_1 a (by omega) (by omega) (by omega) o_l0_1
 rw [e0]
 simp only [Option.bind_some]
 rcases q0 with q0 | ⟨r0, s0, q0_l0_1_0⟩
 · exact ⟨-1, by rw [if_pos q0], .inl (by omega)⟩
 rw [if_neg (show ¬ t0 < 0 by omega)]
 obtain ⟨t1, e1, q1⟩ := g_szInt64S k l0_2 t0 (by omega) (by omega) (by omega) o_l0_2
 rw [e1]
 simp only [Option.bind_some]
 rcases q1 with q1 | ⟨r1, s1, q1_l0_2_0⟩
 · exact ⟨-1, by rw [if_pos q1], .inl (by omega)⟩
 rw [if_neg (show ¬ t1 < 0 by omega)]
 obtain ⟨t2, e2, q2⟩ := g_szInt64S k l0_3 t1 (by omega) (by omega) (by omega) o_l0_3
 rw [e2]
 simp only [Option.bind_some]
 rcases q2 with q2 | ⟨r2, s2, q2_l0_3_0⟩
 · exact ⟨-1, by rw [if_pos q2], .inl (by omega)⟩
 rw [if_neg (show ¬ t2 < 0 by omega)]
 obtain ⟨t3, e3, q3⟩ := g_szInt64S k l0_4 t2 (by omega) (by omega) (by omega) o_l0_4
 rw [e3]
 simp only [Option.bind_some]
 rcases q3 with q3 | ⟨r3, s3, q3_l0_4_0⟩
 · exact ⟨-1, by rw [if_pos q3], .inl (by omega)⟩
 rw [if_neg (show ¬ t3 < 0 by omega)]
 obtain ⟨t4, e4, q4⟩ := g_szPointS k l0_5 t3 (by omega) (by omega) (by omega) o_l0_5
 rw [e4]
 simp only [Option.bind_some]
 rcases q4 with q4 | ⟨r4, s4, q4_l0_5_0, q4_l0_5_1⟩
 · exact ⟨-1, by rw [if_pos q4], .inl (by omega)⟩
 rw [if_neg (show ¬ t4 < 0 by omega)]
 exact ⟨_, rfl, .inr ⟨by omega, by omega, q0_l0_1_0, q1_l0_2_0, q2_l0_3_0, q3_l0_4_0, q4_l0_5_0, q4_l0_5_1⟩⟩
theorem g_toInt64S (k : Nat) (l : List Int) (hk : 1048590 ≤ k) (o1 : (l.length : Int) ≤ 1048576) : laws_toInt64S.f k l = some l := by
 unfold laws_toInt64S.f
 rw [if_pos (by omega), if_pos (by omega)]
 have h := g_toloop laws_toInt64S.l0 (fun _ (x : Int) => some x) (fun b => b) (0 : Int) id 0 l (by intro k s i; rw [laws_toInt64S.l0]; rfl)
  (by intro k x hx hm; exact ⟨_, rfl, rfl⟩)
  (by omega) k (List.replicate ((l.length : Int) : Int).toNat 0) (by simp) (by omega)
 rwa [List.map_id] at h
theorem g_toPoint (k : Nat) (l0_0 : List Int) (hk : 1048590 ≤ k) (o_l0_0_0 : (l0_0.length : Int) ≤ 1048576) : laws_toPoint.f k l0_0 = some (l0_0) := by
 unfold laws_toPoint.f
 rw [g_toInt64S k l0_0 (by omega) o_l0_0_0]
 simp only [Option.bind_some]
def QS110 (x : S110) : Prop := (x.f0.length : Int) ≤ 1048576
def cS107 (x : S107) : S110 := ⟨x.f0⟩
theorem qcS107 (x : S107) (h : QS107 x) : QS110 (cS107 x) := h
theorem qmS107 (l : List S107) (h : ∀ y ∈ l, QS107 y) : ∀ y ∈ l.map cS107, QS110 y := by
 intro y hy
 obtain ⟨x, hx, rfl⟩ := List.mem_map.1 hy
 exact qcS107 x (h x hx)
theorem g_toPointS (k : Nat) (l : List (S107)) (hk : 2097180 ≤ k) (o1 : (l.length : Int) ≤ 1048576) (o2 : (∀ y ∈ l, QS107 y)) : laws_toPointS.f k l = some (l.map cS107) := by
 unfold laws_toPointS.f
 rw [if_pos (by omega), if_pos (by omega)]
 have h := g_toloop laws_toPointS.l0 (fun k (x : S107) => laws_toPoint.f k x.f0) (fun b => (⟨b⟩ : S110)) z107 cS107 1048590 l (by intro k s i; rw [laws_toPointS.l0]; rfl)
  (by intro k x hx hm; obtain q0_0 := o2 x hx; exact ⟨_, g_toPoint k x.f0 hm q0_0, rfl⟩)
  (by omega) k (List.replicate ((l.length : Int) : Int).toNat z110) (by simp) (by omega)
 exact h
theorem g_toSelection (k : Nat) (a0_0 : Int) (l0_1 : List Int) (l0_2 : List Int) (l0_3 : List Int) (l0_4 : List Int) (l0_5 : List (S107)) (hk : 2097180 ≤ k) (o_l0_1_0 : (l0_1.length : Int) ≤ 1048576) (o_l0_2_0 : (l0_2.length : Int) ≤ 1048576) (o_l0_3_0 : (l0_3.length : Int) ≤ 1048576) (o_l0_4_0 : (l0_4.length : Int) ≤ 1048576) (o_l0_5_0 : (l0_5.length : Int) ≤ 1048576) (o_l0_5_1 : (∀ y ∈ l0_5, QS107 y)) : laws_toSelection.f k a0_0 l0_1 l0_2 l0_3 l0_4 l0_5 = some (a0_0, l0_1, l0_2, l0_3, l0_4, (l0_5.map cS107)) := by
 unfold laws_toSelection.f
 rw [g_toInt64S k l0_1 (by omega) o_l0_1_0]
 simp only [Option.bind_some]
 rw [g_toInt64S k l0_2 (by omega) o_l0_2_0]
 simp only [Option.bind_some]
 rw [g_toInt64S k l0_3 (by omega) o_l0_3_0]
 simp only [Option.bind_some]
 rw [g_toInt64S k l0_4 (by omega) o_l0_4_0]
 simp only [Option.bind_some]
 rw [g_toPointS k l0_5 (by omega) o_l0_5_0 o_l0_5_1]
 simp only [Option.bind_some]
theorem g_eqInt64S (k : Nat) (l : List Int) (hk : 1048590 ≤ k) (o1 : (l.length : Int) ≤ 1048576) : laws_eqInt64S.f k l l = some true := by
 unfold laws_eqInt64S.f
 rw [if_pos rfl]
 exact g_eqloop laws_eqInt64S.l0 (fun _ (x : Int) => some true) (0 : Int) 0 l (by intro k i; rw [laws_eqInt64S.l0]; simp only [Option.bind_some, bne_self_eq_false, Bool.false_eq_true, if_false, if_true, reduceIte]) (by intro k x hx hm; rfl) (by omega) k (by omega)
theorem g_eqBox (k : Nat) (l0_0 : List Int) (l0_1 : List Int) (hk : 1048590 ≤ k) (o_l0_0_0 : (l0_0.length : Int) ≤ 1048576) (o_l0_1_0 : (l0_1.length : Int) ≤ 1048576) : laws_eqBox.f k l0_0 l0_1 l0_0 l0_1 = some true := by
 unfold laws_eqBox.f
 simp only [g_eqInt64S k l0_0 (by omega) o_l0_0_0, g_eqInt64S k l0_1 (by omega) o_l0_1_0, Option.bind_some, bne_self_eq_false, Bool.false_eq_true, if_false, if_true, reduceIte]
def QS42 (x : S42) : Prop := (x.f0.length : Int) ≤ 1048576 ∧ (x.f1.length : Int) ≤ 1048576
theorem g_eqBoxS (k : Nat) (l : List (S42)) (hk : 2097180 ≤ k) (o1 : (l.length : Int) ≤ 1048576) (o2 : (∀ y ∈ l, QS42 y)) : laws_eqBoxS.f k l l = some true := by
 unfold laws_eqBoxS.f
 rw [if_pos rfl]
 exact g_eqloop laws_eqBoxS.l0 (fun k (x : S42) => laws_eqBox.f k x.f0 x.f1 x.f0 x.f1) z42 1048590 l (by intro k i; rw [laws_eqBoxS.l0]; rfl) (by intro k x hx hm; obtain ⟨q0_0, q1_0⟩ := o2 x hx; exact g_eqBox k x.f0 x.f1 hm q0_0 q1_0) (by omega) k (by omega)
theorem g_eqPoint (k : Nat) (l0_0 : List Int) (hk : 1048590 ≤ k) (o_l0_0_0 : (l0_0.length : Int) ≤ 1048576) : laws_eqPoint.f k l0_0 l0_0 = some true := by
 unfold laws_eqPoint.f
 simp only [g_eqInt64S k l0_0 (by omega) o_l0_0_0, Option.bind_some, bne_self_eq_false, Bool.false_eq_true, if_false, if_true, reduceIte]
theorem g_eqPointS (k : Nat) (l : List (S110)) (hk : 2097180 ≤ k) (o1 : (l.length : Int) ≤ 1048576) (o2 : (∀ y ∈ l, QS110 y)) : laws_eqPointS.f k l l = some true := by
 unfold laws_eqPointS.f
 rw [if_pos rfl]
 exact g_eqloop laws_eqPointS.l0 (fun k (x : S110) => laws_eqPoint.f k x.f0 x.f0) z110 1048590 l (by intro k i; rw [laws_eqPointS.l0]; rfl) (by intro k x hx hm; obtain q0_0 := o2 x hx; exact g_eqPoint k x.f0 hm q0_0) (by omega) k (by omega)
theorem g_eqSelection (k : Nat) (a0_0 : Int) (l0_1 : List Int) (l0_2 : List Int) (l0_3 : List Int) (l0_4 : List Int) (l0_5 : List (S110)) (hk : 2097180 ≤ k) (o_l0_1_0 : (l0_1.length : Int) ≤ 1048576) (o_l0_2_0 : (l0_2.length : Int) ≤ 1048576) (o_l0_3_0 : (l0_3.length : Int) ≤ 1048576) (o_l0_4_0 : (l0_4.length : Int) ≤ 1048576) (o_l0_5_0 : (l0_5.length : Int) ≤ 1048576) (o_l0_5_1 : (∀ y ∈ l0_5, QS110 y)) : laws_eqSelection.f k a0_0 l0_1 l0_2 l0_3 l0_4 l0_5 a0_0 l0_1 l0_2 l0_3 l0_4 l0_5 = some true := by
 unfold laws_eqSelection.f
 simp only [g_eqInt64S k l0_1 (by omega) o_l0_1_0, g_eqInt64S k l0_2 (by omega) o_l0_2_0, g_eqInt64S k l0_3 (by omega) o_l0_3_0, g_eqInt64S k l0_4 (by omega) o_l0_4_0, g_eqPointS k l0_5 (by omega) o_l0_5_0 o_l0_5_1, Option.bind_some, bne_self_eq_false, Bool.false_eq_true, if_false, if_true, reduceIte]
theorem all_loop (L : Nat → Int → Option Bool) (P : Nat → Prop) [DecidablePred P] (n m : Nat) (r : Bool)
 (hend : ∀ k, m ≤ k → L (k + 1) (n : Int) = some r) (hstep : ∀ k (i : Nat), m ≤ k → i < n → L (k + 1) (i : Int) = if P i then L k ((i + 1 : Nat) : Int) else some false) (k : Nat) (hk : n + m < k) :
 L k 0 = some (decide (∀ i, i < n → P i) && r) := by
 obtain ⟨s, h, rfl⟩ := count_loop (fun k (_ : Unit) i => L k i) n m (fun i _ => ∀ j, j < i → P j) (fun s => s = (decide (∀ i, i < n → P i) && r))
  (by
   rintro k s hm h
   exact ⟨r, hend k hm, by simp [decide_eq_true h]⟩)
  (by
   rintro k s i hm hi h
   by_cases hp : P i
   · refine .inl ⟨(), ?_, by show L (k + 1) _ = _; rw [hstep k i hm hi, if_pos hp]⟩
     intro j hj
     by_cases hji : j = i
     · subst hji; exact hp
     · exact h j (by omega)
   · refine .inr ⟨false, by show L (k + 1) _ = _; rw [hstep k i hm hi, if_neg hp], ?_⟩
     have : ¬ ∀ i, i < n → P i := fun h => hp (h i hi)
     simp [this])
  k () 0 (by omega) (by omega) (by simp)
 exact h
def look (P : Nat → Prop) [DecidablePred P] : Nat → Nat → Int
 | 0, _ => -1
 | d + 1, i => if P i then (i : Int) else look P d (i + 1)
theorem look_or (P : Nat → Prop) [DecidablePred P] (d : Nat) : ∀ i, (look P d i = -1 ∧ ∀ j, i ≤ j → j < i + d → ¬ P j) ∨ ∃ j, i ≤ j ∧ j < i + d ∧ look P d i = (j : Int) ∧ P j := by
 induction d with
 | zero => intro i; exact .inl ⟨rfl, fun j h1 h2 => by omega⟩
 | succ d ih =>
  intro i
  by_cases hp : P i
  · exact .inr ⟨i, by omega, by omega, by rw [look, if_pos hp], hp⟩
  ·
   rw [look, if_neg hp]
   rcases ih (i + 1) with ⟨h1, h2⟩ | ⟨j, h1, h2, h3, h4⟩
   · refine .inl ⟨h1, fun j h3 h4 => ?_⟩
     by_cases hji : j = i
     · subst hji; exact hp
     · exact h2 j (by omega) (by omega)
   · exact .inr ⟨j, by omega, by omega, h3, h4⟩
theorem find_loop (L : Nat → Int → Option Int) (P : Nat → Prop) [DecidablePred P] (n m : Nat)
 (hend : ∀ k, m ≤ k → L (k + 1) (n : Int) = some (-1)) (hstep : ∀ k (i : Nat), m ≤ k → i < n → L (k + 1) (i : Int) = if P i then some (i : Int) else L k ((i + 1 : Nat) : Int)) (k : Nat) (hk : n + m < k) :
 L k 0 = some (look P n 0) := by
 have key : ∀ d k i, i + d = n → d + m < k → L k (i : Int) = some (look P d i) := by
  intro d
  induction d with
  | zero =>
   intro k i hi hk
   obtain ⟨k, rfl⟩ : ∃ z, k = z + 1 := ⟨k - 1, by omega⟩
   obtain rfl : i = n := by omega
   exact hend k (by omega)
  | succ d ih =>
   intro k i hi hk
   obtain ⟨k, rfl⟩ : ∃ z, k = z + 1 := ⟨k - 1, by omega⟩
   rw [hstep k i (by omega) (by omega), look]
   by_cases hp : P i
   · rw [if_pos hp, if_pos hp]
   · rw [if_neg hp, if_neg hp]; exact ih k (i + 1) (by omega) (by omega)
 exact key n k 0 (by omega) (by omega)
theorem getD_lt {α : Type} (l : List α) (z : α) (i : Nat) (h : i < l.length) : l.getD (i : Int).toNat z = l[i] := by
 simp [List.getD_eq_getElem?_getD, List.getElem?_eq_getElem h]
theorem seq_loop (L : Nat → Int → Option Bool) (P : Nat → Prop) [DecidablePred P] (n : Nat)
 (hend : ∀ k, L (k + 1) (n : Int) = some true) (hstep : ∀ k (i : Nat), i < n → L (k + 1) (i : Int) = if P i then L k ((i + 1 : Nat) : Int) else some false) (k : Nat) (hk : n < k) :
 L k 0 = some (decide (∀ i, i < n → P i)) := by
 rw [all_loop L P n 0 true (fun k _ => hend k) (fun k i _ hi => hstep k i hi) k (by omega), Bool.and_true]
theorem in_eq (a b c : Int) : spec_l00In.f a b c = some (decide (b ≤ a ∧ a ≤ c)) := by
 unfold spec_l00In.f
 by_cases h : a ≥ b
 · rw [if_pos h]
   by_cases h2 : a ≤ c <;> simp [h2] <;> omega
 · rw [if_neg h]; simp; omega
theorem within_eq (a b c : Int) : impl_within.f a b c = some (decide (b ≤ a ∧ a ≤ c)) := by
 unfold impl_within.f
 by_cases h : a ≥ b
 · rw [if_pos h]
   by_cases h2 : a ≤ c <;> simp [h2] <;> omega
 · rw [if_neg h]; simp; omega
def inI (l : List Int) (a b : Int) (i : Nat) : Prop := a ≤ rd l (i : Int) ∧ rd l (i : Int) ≤ b
instance (l : List Int) (a b : Int) (i : Nat) : Decidable (inI l a b i) := by unfold inI; infer_instance
theorem withinI (l : List Int) (a b : Int) (hl : l.length ≤ 1048576) (k : Nat) (hk : 1048590 ≤ k) : impl_allWithin.f k l a b = some (decide (∀ i, i < l.length → inI l a b i)) := by
 unfold impl_allWithin.f slices_ContainsFunc_impl_allWithin_1.f slices_IndexFunc_impl_allWithin_1.f
 rw [find_loop (fun k i => slices_IndexFunc_impl_allWithin_1.l0 k l l.length i a b) (fun i => ¬ inI l a b i) l.length 0
  (by intro k _; show slices_IndexFunc_impl_allWithin_1.l0 (k + 1) l _ _ a b = _; rw [slices_IndexFunc_impl_allWithin_1.l0, if_neg (by omega)])
  (by
   intro k i _ hi
   show slices_IndexFunc_impl_allWithin_1.l0 (k + 1) l _ _ a b = _
   rw [slices_IndexFunc_impl_allWithin_1.l0, if_pos (by omega), if_pos (by omega), if_pos (by omega), wrap_up i (by omega)]
   simp only [impl_allWithin_1.f, within_eq, Option.bind_some]
   by_cases h : a ≤ rd l (i : Int) ∧ rd l (i : Int) ≤ b
   · have h2 : inI l a b i := h
     simp [h, h2]
   · have h2 : ¬ inI l a b i := h
     rw [decide_eq_false h]
     simp [h2])
  k (by omega)]
 simp only [Option.bind_some]
 rcases look_or (fun i => ¬ inI l a b i) l.length 0 with ⟨h4, h5⟩ | ⟨j, -, h4, h5, h6⟩
 · rw [h4]
   have h7 : ∀ i, i < l.length → inI l a b i := fun i hi => Decidable.not_not.1 (h5 i (by omega) (by omega))
   rw [decide_eq_true h7]; rfl
 · rw [h5]
   have h7 : ¬ ∀ i, i < l.length → inI l a b i := fun h => h6 (h j (by omega))
   have h8 : (j : Int) ≥ 0 := by omega
   rw [decide_eq_false h7]; simp [h8]
theorem slices_Equal_int64_int64_is (k : Nat) (a b : List Int) (hl : a.length ≤ 1048576) (hk : 1048590 ≤ k) : slices_Equal_int64_int64.f k a b = some (decide (a = b)) := by
 unfold slices_Equal_int64_int64.f
 by_cases hn : (a.length : Int) = (b.length : Int)
 ·
  rw [if_pos hn, seq_loop (fun k i => slices_Equal_int64_int64.l0 k a b (a.length : Int) i) (fun i => rd a (i : Int) = rd b (i : Int)) a.length
   (by intro k; show slices_Equal_int64_int64.l0 (k + 1) a b _ _ = _; rw [slices_Equal_int64_int64.l0, if_neg (by omega)])
   (by
    intro k i hi
    show slices_Equal_int64_int64.l0 (k + 1) a b _ _ = _
    rw [slices_Equal_int64_int64.l0]
    repeat rw [if_pos (show (i : Int) < (a.length : Int) by omega)]
    repeat rw [if_pos (show (0 : Int) ≤ (i : Int) by omega)]
    repeat rw [if_pos (show (i : Int) < (a.length : Int) by omega)]
    repeat rw [if_pos (show (i : Int) < (b.length : Int) by omega)]
    rw [wrap_up i (by omega)])
   k (by omega)]
  have hb : a.length = b.length := by omega
  congr 1
  apply decide_eq_decide.2
  constructor
  · intro h
    apply List.ext_getElem hb
    intro i h1 h2
    have := h i h1
    rwa [rd_lt a i h1, rd_lt b i h2] at this
  · rintro rfl i _
    rfl
 · rw [if_neg hn, decide_eq_false]
   rintro rfl
   exact hn rfl
theorem point_same (ps qs : List S110) (hp : ps.length ≤ 1048576) (hq : ∀ y ∈ ps, QS110 y) (k : Nat) (hk : 3000000 ≤ k) : slices_EqualFunc_impl_samePoint.f k ps qs = some (decide (ps.length = qs.length ∧ ∀ i, i < ps.length → (rd_T110 ps (i : Int)).f0 = (rd_T110 qs (i : Int)).f0)) := by
 have hql : ∀ i, i < ps.length → (rd_T110 ps (i : Int)).f0.length ≤ 1048576 := by
  intro i hi
  have : rd_T110 ps (i : Int) = ps[i] := getD_lt ps z110 i hi
  rw [this]
  have h := hq _ (List.getElem_mem hi)
  unfold QS110 at h
  omega
 unfold slices_EqualFunc_impl_samePoint.f
 by_cases h1 : ps.length = qs.length
 ·
  rw [if_pos (by omega), all_loop (fun k i => slices_EqualFunc_impl_samePoint.l0 k qs ps ps.length i) (fun i => (rd_T110 ps (i : Int)).f0 = (rd_T110 qs (i : Int)).f0) ps.length 1048590 true
   (by intro k _; show slices_EqualFunc_impl_samePoint.l0 (k + 1) qs ps _ _ = _; rw [slices_EqualFunc_impl_samePoint.l0, if_neg (by omega)])
   (by
    intro k i hk hi
    show slices_EqualFunc_impl_samePoint.l0 (k + 1) qs ps _ _ = _
    rw [slices_EqualFunc_impl_samePoint.l0, if_pos (by omega), if_pos (by omega), if_pos (by omega), if_pos (by omega), wrap_up i (by omega)]
    unfold impl_samePoint.f
    rw [slices_Equal_int64_int64_is k _ _ (hql i hi) hk]
    simp only [Option.bind_some, decide_eq_true_eq])
   k (by omega)]
  simp [h1]
 · rw [if_neg (by omega), decide_eq_false (fun h => h1 h.1)]
theorem lists_same (a1 a2 a3 a4 b1 b2 b3 b4 : List Int) (h1 : a1.length ≤ 1048576) (h2 : a2.length ≤ 1048576) (h3 : a3.length ≤ 1048576) (h4 : a4.length ≤ 1048576) (k : Nat) (hk : 3000000 ≤ k) :
 slices_EqualFunc_slices_Equal_int64_int64.f k [a1, a2, a3, a4] [b1, b2, b3, b4] = some (decide (a1 = b1 ∧ a2 = b2 ∧ a3 = b3 ∧ a4 = b4)) := by
 unfold slices_EqualFunc_slices_Equal_int64_int64.f
 have hL : (([a1, a2, a3, a4] : List (List Int)).length : Int) = (([b1, b2, b3, b4] : List (List Int)).length : Int) := rfl
 have la : (([a1, a2, a3, a4] : List (List Int)).length : Int) = ((4 : Nat) : Int) := rfl
 have lb : (([b1, b2, b3, b4] : List (List Int)).length : Int) = ((4 : Nat) : Int) := rfl
 have hq : ∀ i : Nat, i < 4 → (rd_L1 [a1, a2, a3, a4] (i : Int)).length ≤ 1048576 := by
  intro i hi
  rcases i with _ | _ | _ | _ | i
  · exact h1
  · exact h2
  · exact h3
  · exact h4
  · omega
 rw [if_pos hL, all_loop (fun k i => slices_EqualFunc_slices_Equal_int64_int64.l0 k [b1, b2, b3, b4] [a1, a2, a3, a4] (([a1, a2, a3, a4] : List (List Int)).length : Int) i) (fun i => rd_L1 [a1, a2, a3, a4] (i : Int) = rd_L1 [b1, b2, b3, b4] (i : Int)) 4 1048590 true
  (by intro k _; show slices_EqualFunc_slices_Equal_int64_int64.l0 (k + 1) _ _ _ _ = _; rw [slices_EqualFunc_slices_Equal_int64_int64.l0, la, if_neg (by omega)])
  (by
   intro k i hk hi
   show slices_EqualFunc_slices_Equal_int64_int64.l0 (k + 1) _ _ _ _ = _
   rw [slices_EqualFunc_slices_Equal_int64_int64.l0, la, lb]
   have g1 : (i : Int) < ((4 : Nat) : Int) := by omega
   have g0 : (0 : Int) ≤ (i : Int) := by omega
   simp only [if_pos g1, if_pos g0]
   rw [slices_Equal_int64_int64_is k _ _ (hq i hi) hk, wrap_up i (by omega)]
   simp only [Option.bind_some, decide_eq_true_eq])
  k (by omega), Bool.and_true]
 congr 1
 apply decide_eq_decide.2
 constructor
 · intro h
   exact ⟨h 0 (by omega), h 1 (by omega), h 2 (by omega), h 3 (by omega)⟩
 ·
  rintro ⟨e1, e2, e3, e4⟩ i hi
  rcases i with _ | _ | _ | _ | i
  · exact e1
  · exact e2
  · exact e3
  · exact e4
  · omega
def okPlain (l1 l2 l3 l4 : List Int) : Prop := l1.length = 0 ∧ l2.length = 0 ∧ l3.length = 0 ∧ l4.length = 0
instance (l1 l2 l3 l4 : List Int) : Decidable (okPlain l1 l2 l3 l4) := by unfold okPlain; infer_instance
theorem sel_plain (a : Int) (l1 l2 l3 l4 : List Int) (ps : List S110) (hp : ps.length ≤ 1048576) (hq : ∀ y ∈ ps, QS110 y) (k : Nat) (hk : 3000000 ≤ k) :
 impl_SameSelection.f k a ([] : List Int) ([] : List Int) ([] : List Int) ([] : List Int) ps a l1 l2 l3 l4 ps = some (decide (okPlain l1 l2 l3 l4)) := by
 unfold impl_SameSelection.f impl_Selection_lists.f
 rw [if_pos rfl]
 simp only [Option.bind_some]
 rw [lists_same [] [] [] [] l1 l2 l3 l4 (by simp) (by simp) (by simp) (by simp) k hk, point_same ps ps hp hq k hk]
 simp only [Option.bind_some, decide_eq_true_eq]
 have e : (([] : List Int) = l1 ∧ ([] : List Int) = l2 ∧ ([] : List Int) = l3 ∧ ([] : List Int) = l4) ↔ (l1.length = 0 ∧ l2.length = 0 ∧ l3.length = 0 ∧ l4.length = 0) := by
  simp only [List.length_eq_zero_iff, eq_comm]
 by_cases h : okPlain l1 l2 l3 l4
 · rw [if_pos (e.2 h), decide_eq_true h]; simp
 · rw [if_neg (fun h' => h (e.1 h')), decide_eq_false h]
instance decBetween (i n : Nat) (P : Nat → Prop) [DecidablePred P] : Decidable (∀ j, i ≤ j → j < n → P j) := decidable_of_iff (∀ j, j < n → i ≤ j → P j) ⟨fun h j h1 h2 => h j h2 h1, fun h j h1 h2 => h j h2 h1⟩
theorem end_eq (a : Int) (l1 l2 l3 l4 : List Int) (ps : List S110) (i : Int) : spec_l06End.f a l1 l2 l3 l4 ps i = impl_Selection_end.f a l1 l2 l3 l4 ps i := rfl
theorem plain_spec (a : Int) (l1 l2 l3 l4 : List Int) (ps : List S110) : spec_l06Plain.f a l1 l2 l3 l4 ps = some (decide (okPlain l1 l2 l3 l4)) := by
 unfold spec_l06Plain.f
 by_cases h1 : l1.length = 0
 ·
  rw [if_pos (by omega)]
  by_cases h2 : l2.length = 0
  ·
   rw [if_pos (by omega)]
   by_cases h3 : l3.length = 0
   · rw [if_pos (by omega)]
     congr 1
     by_cases h4 : l4.length = 0
     · rw [decide_eq_true (show okPlain l1 l2 l3 l4 from ⟨h1, h2, h3, h4⟩), h4]; rfl
     · rw [decide_eq_false (show ¬ okPlain l1 l2 l3 l4 from fun h => h4 h.2.2.2)]
       simp; exact fun h => h4 (by rw [h]; rfl)
   · rw [if_neg (by omega), decide_eq_false (show ¬ okPlain l1 l2 l3 l4 from fun h => h3 h.2.2.1)]
  · rw [if_neg (by omega), decide_eq_false (show ¬ okPlain l1 l2 l3 l4 from fun h => h2 h.2.1)]
 · rw [if_neg (by omega), decide_eq_false (show ¬ okPlain l1 l2 l3 l4 from fun h => h1 h.1)]
/-- one dimension of a slab -/
def okD (l1 l2 l3 l4 : List Int) (i : Nat) : Prop := (0 ≤ rd l1 i ∧ rd l1 i ≤ 40) ∧ (1 ≤ rd l3 i ∧ rd l3 i ≤ 40) ∧ (1 ≤ rd l4 i ∧ rd l4 i ≤ 40) ∧ (rd l4 i ≤ rd l2 i ∧ rd l2 i ≤ 40) ∧ rd l1 i + (rd l3 i - 1) * rd l2 i + rd l4 i ≤ 40
instance (l1 l2 l3 l4 : List Int) (i : Nat) : Decidable (okD l1 l2 l3 l4 i) := by unfold okD; infer_instance
theorem end_val (a : Int) (l1 l2 l3 l4 : List Int) (ps : List S110) (i : Nat) (h1 : i < l1.length) (h2 : i < l2.length) (h3 : i < l3.length) (h4 : i < l4.length)
 (q1 : 0 ≤ rd l1 i ∧ rd l1 i ≤ 40) (q3 : 1 ≤ rd l3 i ∧ rd l3 i ≤ 40) (q4 : 1 ≤ rd l4 i ∧ rd l4 i ≤ 40) (q2 : rd l4 i ≤ rd l2 i ∧ rd l2 i ≤ 40) :
 spec_l06End.f a l1 l2 l3 l4 ps i = some (rd l1 i + (rd l3 i - 1) * rd l2 i + rd l4 i) := by
 unfold spec_l06End.f
 rw [if_pos (by omega), if_pos (by omega), if_pos (by omega), if_pos (by omega), if_pos (by omega)]
 have hm : 0 ≤ (rd l3 i - 1) * rd l2 i := Int.mul_nonneg (by omega) (by omega)
 have hM : (rd l3 i - 1) * rd l2 i ≤ 40 * 40 := Int.mul_le_mul (by omega) (by omega) (by omega) (by omega)
 rw [wrap64_id (a := rd l3 i - 1) (by omega) (by omega), wrap64_id (a := (rd l3 i - 1) * rd l2 i) (by omega) (by omega), wrap64_id (a := rd l1 i + (rd l3 i - 1) * rd l2 i) (by omega) (by omega), wrap64_id (by omega) (by omega)]
theorem slab_spec (a : Int) (l1 l2 l3 l4 : List Int) (ps : List S110) (n : Nat) (hn : n ≤ 3) (h1 : l1.length = n) (h2 : l2.length = n) (h3 : l3.length = n) (h4 : l4.length = n) : ∀ (d k i : Nat), i + d = n → 2 * d < k →
 spec_l06Slab.l0 k n i a l1 l2 l3 l4 ps = some (decide (∀ j, i ≤ j → j < n → okD l1 l2 l3 l4 j)) := by
 intro d
 induction d with
 | zero =>
  intro k i hi hk
  obtain ⟨k, rfl⟩ : ∃ z, k = z + 1 := ⟨k - 1, by omega⟩
  rw [spec_l06Slab.l0, if_neg (by omega), decide_eq_true]
  intro j hj hj2; omega
 | succ d ih =>
  intro k i hi hk
  obtain ⟨k, rfl⟩ : ∃ z, k = z + 2 := ⟨k - 2, by omega⟩
  have no : ∀ (h : ¬ okD l1 l2 l3 l4 i), decide (∀ j, i ≤ j → j < n → okD l1 l2 l3 l4 j) = false := fun h => decide_eq_false (fun h' => h (h' i (by omega) (by omega)))
  rw [spec_l06Slab.l0, if_pos (by omega), if_pos (by omega), if_pos (by omega), in_eq]
  simp only [Option.bind_some, decide_eq_true_eq]
  by_cases q1 : 0 ≤ rd l1 i ∧ rd l1 i ≤ 40
  ·
   rw [if_pos q1, if_pos (by omega), in_eq]
   simp only [Option.bind_some, decide_eq_true_eq]
   by_cases q3 : 1 ≤ rd l3 i ∧ rd l3 i ≤ 40
   ·
    rw [if_pos q3, if_pos (by omega), in_eq]
    simp only [Option.bind_some, decide_eq_true_eq]
    by_cases q4 : 1 ≤ rd l4 i ∧ rd l4 i ≤ 40
    ·
     rw [if_pos q4, if_pos (by omega), in_eq]
     simp only [Option.bind_some, decide_eq_true_eq]
     by_cases q2 : rd l4 i ≤ rd l2 i ∧ rd l2 i ≤ 40
     ·
      rw [if_pos q2, end_val a l1 l2 l3 l4 ps i (by omega) (by omega) (by omega) (by omega) q1 q3 q4 q2]
      simp only [Option.bind_some]
      by_cases q5 : rd l1 i + (rd l3 i - 1) * rd l2 i + rd l4 i > 40
      · rw [if_pos q5, no (fun h => by have := h.2.2.2.2; omega)]
      ·
       rw [if_neg q5, wrap_up i (by omega), ih (k + 1) (i + 1) (by omega) (by omega)]
       have hq : okD l1 l2 l3 l4 i := ⟨q1, q3, q4, q2, by omega⟩
       congr 1
       apply decide_eq_decide.2
       constructor
       · intro h j hj hj2
         by_cases hji : j = i
         · subst hji; exact hq
         · exact h j (by omega) hj2
       · intro h j hj hj2
         exact h j (by omega) hj2
     · rw [if_neg q2, no (fun h => q2 h.2.2.2.1)]
    · rw [if_neg q4, no (fun h => q4 h.2.2.1)]
   · rw [if_neg q3, no (fun h => q3 h.2.1)]
  · rw [if_neg q1, no (fun h => q1 h.1)]
theorem slab_same (a : Int) (l1 l2 l3 l4 : List Int) (ps : List S110) : ∀ k n i, impl_Selection_slabFormed.l0 k n i a l1 l2 l3 l4 ps = spec_l06Slab.l0 k n i a l1 l2 l3 l4 ps := by
 intro k
 induction k with
 | zero => intro n i; rfl
 | succ k ih =>
  intro n i
  rw [impl_Selection_slabFormed.l0, spec_l06Slab.l0]
  simp only [in_eq, within_eq, Option.bind_some, end_eq, ih n _]
def okSlab (l1 l2 l3 l4 : List Int) : Prop := l1.length ≤ 3 ∧ l2.length = l1.length ∧ l3.length = l1.length ∧ l4.length = l1.length ∧ ∀ i, 0 ≤ i → i < l1.length → okD l1 l2 l3 l4 i
instance (l1 l2 l3 l4 : List Int) : Decidable (okSlab l1 l2 l3 l4) := by unfold okSlab; infer_instance
theorem slabF_spec (a : Int) (l1 l2 l3 l4 : List Int) (ps : List S110) (k : Nat) (hk : 100 ≤ k) : spec_l06Slab.f k a l1 l2 l3 l4 ps = some (decide (okSlab l1 l2 l3 l4 ∧ ps.length = 0)) := by
 obtain ⟨k, rfl⟩ : ∃ z, k = z + 2 := ⟨k - 2, by omega⟩
 unfold spec_l06Slab.f
 have no : ∀ (h : ¬ (okSlab l1 l2 l3 l4 ∧ ps.length = 0)), decide (okSlab l1 l2 l3 l4 ∧ ps.length = 0) = false := fun h => decide_eq_false h
 by_cases h3 : l1.length ≤ 3
 ·
  rw [if_neg (by omega)]
  by_cases q2 : l2.length = l1.length
  ·
   rw [if_pos (by omega)]
   by_cases q3 : l3.length = l1.length
   ·
    rw [if_pos (by omega)]
    by_cases q4 : l4.length = l1.length
    ·
     rw [if_pos (by omega), spec_l06Slab.j0]
     by_cases q5 : ps.length = 0
     · have h0 := slab_spec a l1 l2 l3 l4 ps l1.length h3 rfl q2 q3 q4 l1.length (k + 1) 0 (by omega) (by omega)
       rw [if_neg (by rw [decide_eq_true_eq]; omega)]
       rw [show spec_l06Slab.l0 (k + 1) (l1.length : Int) 0 a l1 l2 l3 l4 ps = _ from h0]
       congr 1
       apply decide_eq_decide.2
       exact ⟨fun h => ⟨⟨h3, q2, q3, q4, h⟩, q5⟩, fun h => h.1.2.2.2.2⟩
     · rw [if_pos (by rw [decide_eq_true_eq]; omega), no (fun h => q5 h.2)]
    · rw [if_neg (by omega), spec_l06Slab.j0, if_pos rfl, no (fun h => q4 h.1.2.2.2.1)]
   · rw [if_neg (by omega), spec_l06Slab.j0, if_pos rfl, no (fun h => q3 h.1.2.2.1)]
  · rw [if_neg (by omega), spec_l06Slab.j0, if_pos rfl, no (fun h => q2 h.1.2.1)]
 · rw [if_pos (by omega), spec_l06Slab.j0, if_pos rfl, no (fun h => h3 h.1.1)]
theorem slabF_impl (a : Int) (l1 l2 l3 l4 : List Int) (ps : List S110) (k : Nat) (hk : 100 ≤ k) : impl_Selection_slabFormed.f k a l1 l2 l3 l4 ps = some (decide (okSlab l1 l2 l3 l4)) := by
 obtain ⟨k, rfl⟩ : ∃ z, k = z + 2 := ⟨k - 2, by omega⟩
 unfold impl_Selection_slabFormed.f
 have no : ∀ (h : ¬ (okSlab l1 l2 l3 l4)), decide (okSlab l1 l2 l3 l4) = false := fun h => decide_eq_false h
 by_cases h3 : l1.length ≤ 3
 ·
  rw [if_neg (by omega)]
  by_cases q2 : l2.length = l1.length
  ·
   rw [if_pos (by omega)]
   by_cases q3 : l3.length = l1.length
   ·
    rw [if_pos (by omega), impl_Selection_slabFormed.j0]
    by_cases q4 : l4.length = l1.length
    · have h0 := slab_spec a l1 l2 l3 l4 ps l1.length h3 rfl q2 q3 q4 l1.length (k + 1) 0 (by omega) (by omega)
      have h4 : (l4.length : Int) = (l1.length : Int) := by omega
      rw [if_neg (by simp [h4]), slab_same a l1 l2 l3 l4 ps (k + 1) _ _]
      rw [show spec_l06Slab.l0 (k + 1) (l1.length : Int) 0 a l1 l2 l3 l4 ps = _ from h0]
      congr 1
      apply decide_eq_decide.2
      exact ⟨fun h => ⟨h3, q2, q3, q4, h⟩, fun h => h.2.2.2.2⟩
    · have h4 : ¬ (l4.length : Int) = (l1.length : Int) := by omega
      rw [if_pos (by simp [h4]), no (fun h => q4 h.2.2.2.1)]
   · rw [if_neg (by omega), impl_Selection_slabFormed.j0, if_pos rfl, no (fun h => q3 h.2.2.1)]
  · rw [if_neg (by omega), impl_Selection_slabFormed.j0, if_pos rfl, no (fun h => q2 h.2.1)]
 · rw [if_pos (by omega), impl_Selection_slabFormed.j0, if_pos rfl, no (fun h => h3 h.1)]
/-- one point of a selection -/
def okPt (ps : List S110) (i : Nat) : Prop := (rd_T110 ps i).f0.length = (rd_T110 ps 0).f0.length ∧ (rd_T110 ps i).f0.length ≤ 3 ∧ ∀ j, j < (rd_T110 ps i).f0.length → inI (rd_T110 ps i).f0 0 39 j
instance (ps : List S110) (i : Nat) : Decidable (okPt ps i) := by unfold okPt; infer_instance
theorem pt_inner (ps : List S110) (i : Nat) (hi : i < ps.length) (hp : ps.length ≤ 1048576) (hl : (rd_T110 ps i).f0.length ≤ 3) : ∀ (e k j : Nat), j + e = (rd_T110 ps i).f0.length → e < k →
 spec_l06Points.l1 k ps i j = if ∀ m, j ≤ m → m < (rd_T110 ps i).f0.length → inI (rd_T110 ps i).f0 0 39 m then spec_l06Points.l0 (k - e - 1) ps ((i + 1 : Nat) : Int) else some false := by
 intro e
 induction e with
 | zero =>
  intro k j hj hk
  obtain ⟨k, rfl⟩ : ∃ z, k = z + 1 := ⟨k - 1, by omega⟩
  rw [spec_l06Points.l1, if_pos (by omega), if_pos (by omega), if_neg (by omega), if_pos (by intro m h1 h2; omega), wrap_up i (by omega)]
  rfl
 | succ e ih =>
  intro k j hj hk
  obtain ⟨k, rfl⟩ : ∃ z, k = z + 1 := ⟨k - 1, by omega⟩
  rw [spec_l06Points.l1, if_pos (by omega), if_pos (by omega), if_pos (by omega), if_pos (by omega), in_eq]
  simp only [Option.bind_some, decide_eq_true_eq]
  by_cases hc : 0 ≤ rd (rd_T110 ps i).f0 j ∧ rd (rd_T110 ps i).f0 j ≤ 39
  ·
   rw [if_pos hc, wrap_up j (by omega), ih k (j + 1) (by omega) (by omega)]
   have hk' : k + 1 - (e + 1) - 1 = k - e - 1 := by omega
   rw [hk']
   congr 1
   apply propext
   constructor
   · intro h m h1 h2
     by_cases hmj : m = j
     · subst hmj; exact hc
     · exact h m (by omega) h2
   · intro h m h1 h2
     exact h m (by omega) h2
  · rw [if_neg hc, if_neg]
    intro h
    exact hc (h j (by omega) (by omega))
theorem pt_loop (ps : List S110) (hp : ps.length ≤ 1048576) : ∀ (d k i : Nat), i + d = ps.length → 10 * d + 10 < k →
 spec_l06Points.l0 k ps i = some (decide (∀ m, i ≤ m → m < ps.length → okPt ps m)) := by
 intro d
 induction d with
 | zero =>
  intro k i hi hk
  obtain ⟨k, rfl⟩ : ∃ z, k = z + 1 := ⟨k - 1, by omega⟩
  rw [spec_l06Points.l0, if_neg (by omega), decide_eq_true]
  intro m h1 h2; omega
 | succ d ih =>
  intro k i hi hk
  obtain ⟨k, rfl⟩ : ∃ z, k = z + 2 := ⟨k - 2, by omega⟩
  have no : ∀ (h : ¬ okPt ps i), decide (∀ m, i ≤ m → m < ps.length → okPt ps m) = false := fun h => decide_eq_false (fun h' => h (h' i (by omega) (by omega)))
  rw [spec_l06Points.l0, if_pos (by omega), if_pos (by omega), if_pos (by omega), spec_l06Points.j1, spec_l06Points.j1]
  by_cases q1 : (rd_T110 ps i).f0.length = (rd_T110 ps 0).f0.length
  ·
   rw [if_pos (by omega)]
   by_cases q2 : (rd_T110 ps i).f0.length ≤ 3
   ·
    have h0 := pt_inner ps i (by omega) hp q2 (rd_T110 ps i).f0.length k 0 (by omega) (by omega)
    rw [if_neg (by simp; omega)]
    rw [show spec_l06Points.l1 k ps (i : Int) 0 = _ from h0]
    by_cases q3 : ∀ m, 0 ≤ m → m < (rd_T110 ps i).f0.length → inI (rd_T110 ps i).f0 0 39 m
    ·
     rw [if_pos q3, ih _ (i + 1) (by omega) (by omega)]
     congr 1
     apply decide_eq_decide.2
     constructor
     · intro h m h1 h2
       by_cases hmi : m = i
       · subst hmi; exact ⟨q1, q2, fun j hj => q3 j (by omega) hj⟩
       · exact h m (by omega) h2
     · intro h m h1 h2
       exact h m (by omega) h2
    · rw [if_neg q3, no (fun h => q3 (fun m _ h2 => h.2.2 m h2))]
   · rw [if_pos (by simp; omega), no (fun h => q2 h.2.1)]
  · rw [if_neg (by omega), if_pos rfl, no (fun h => q1 h.1)]
def okPts (ps : List S110) : Prop := (1 ≤ ps.length ∧ ps.length ≤ 24) ∧ ∀ m, 0 ≤ m → m < ps.length → okPt ps m
instance (ps : List S110) : Decidable (okPts ps) := by unfold okPts; infer_instance
theorem points_spec (ps : List S110) (hp : ps.length ≤ 1048576) (k : Nat) (hk : 11000000 ≤ k) : spec_l06Points.f k ps = some (decide (okPts ps)) := by
 unfold spec_l06Points.f
 rw [in_eq]
 simp only [Option.bind_some, decide_eq_true_eq]
 by_cases h1 : 1 ≤ ps.length ∧ ps.length ≤ 24
 ·
  have h0 := pt_loop ps hp ps.length k 0 (by omega) (by omega)
  rw [if_pos (show 1 ≤ (ps.length : Int) ∧ (ps.length : Int) ≤ 24 by omega)]
  rw [show spec_l06Points.l0 k ps 0 = _ from h0]
  congr 1
  apply decide_eq_decide.2
  exact ⟨fun h => ⟨h1, h⟩, fun h => h.2⟩
 · rw [if_neg (by omega), decide_eq_false (fun h => h1 h.1)]
theorem points_impl (a : Int) (l1 l2 l3 l4 : List Int) (ps : List S110) (hp : ps.length ≤ 1048576) (hq : ∀ y ∈ ps, QS110 y) (k : Nat) (hk : 3000000 ≤ k) : impl_Selection_pointsFormed.f k a l1 l2 l3 l4 ps = some (decide (okPts ps)) := by
 unfold impl_Selection_pointsFormed.f slices_ContainsFunc_impl_Selection_pointsFormed_1.f slices_IndexFunc_impl_Selection_pointsFormed_1.f
 rw [within_eq]
 simp only [Option.bind_some, decide_eq_true_eq]
 have hql : ∀ i, i < ps.length → (rd_T110 ps (i : Int)).f0.length ≤ 1048576 := by
  intro i hi
  have : rd_T110 ps (i : Int) = ps[i] := getD_lt ps z110 i hi
  rw [this]
  have h := hq _ (List.getElem_mem hi)
  unfold QS110 at h
  omega
 by_cases h1 : 1 ≤ ps.length ∧ ps.length ≤ 24
 ·
  rw [if_pos (show 1 ≤ (ps.length : Int) ∧ (ps.length : Int) ≤ 24 by omega), if_pos (by omega)]
  by_cases h3 : (rd_T110 ps 0).f0.length ≤ 3
  ·
   have hg := find_loop (fun k i => slices_IndexFunc_impl_Selection_pointsFormed_1.l0 k ps ps.length i ((rd_T110 ps 0).f0.length : Int)) (fun i => ¬ okPt ps i) ps.length 1048590
    (by intro k _; show slices_IndexFunc_impl_Selection_pointsFormed_1.l0 (k + 1) ps _ _ _ = _; rw [slices_IndexFunc_impl_Selection_pointsFormed_1.l0, if_neg (by omega)])
    (by
     intro k i hk hi
     show slices_IndexFunc_impl_Selection_pointsFormed_1.l0 (k + 1) ps _ _ _ = _
     rw [slices_IndexFunc_impl_Selection_pointsFormed_1.l0, if_pos (by omega), if_pos (by omega), if_pos (by omega), wrap_up i (by omega)]
     unfold impl_Selection_pointsFormed_1.f
     by_cases q1 : (rd_T110 ps i).f0.length = (rd_T110 ps 0).f0.length
     · rw [if_pos (by omega), withinI (rd_T110 ps i).f0 0 39 (hql i hi) k hk]
       simp only [Option.bind_some]
       by_cases q2 : ∀ j, j < (rd_T110 ps i).f0.length → inI (rd_T110 ps i).f0 0 39 j
       · have : okPt ps i := ⟨q1, by omega, q2⟩
         rw [decide_eq_true q2, if_neg (by simp), if_neg (fun h => h this)]
       · have : ¬ okPt ps i := fun h => q2 h.2.2
         rw [decide_eq_false q2, if_pos (show (!false) = true from rfl), if_pos this]
     · have : ¬ okPt ps i := fun h => q1 h.1
       rw [if_neg (by omega), if_pos this]
       rfl)
    k (by omega)
   rw [if_pos (show ((rd_T110 ps 0).f0.length : Int) ≤ 3 by omega)]
   rw [show slices_IndexFunc_impl_Selection_pointsFormed_1.l0 k ps (ps.length : Int) 0 ((rd_T110 ps 0).f0.length : Int) = _ from hg]
   simp only [Option.bind_some]
   rcases look_or (fun i => ¬ okPt ps i) ps.length 0 with ⟨h4, h5⟩ | ⟨j, -, h4, h5, h6⟩
   · rw [h4]
     have h7 : okPts ps := ⟨h1, fun i _ hi => Decidable.not_not.1 (h5 i (by omega) (by omega))⟩
     rw [decide_eq_true h7]; rfl
   · rw [h5]
     have h7 : ¬ okPts ps := fun h => h6 (h.2 j (by omega) (by omega))
     have h8 : (j : Int) ≥ 0 := by omega
     rw [decide_eq_false h7]; simp [h8]
  · rw [if_neg (by omega), decide_eq_false]
    intro h
    have := (h.2 0 (by omega) (by omega)).2.1
    exact h3 this
 · rw [if_neg (by omega), decide_eq_false (fun h => h1 h.1)]
/-- the whole of it -/
def okF (a : Int) (l1 l2 l3 l4 : List Int) (ps : List S110) : Prop := (a = 1 ∨ a = 2) ∧ okPlain l1 l2 l3 l4 ∧ ps.length = 0 ∨ a = 3 ∧ okSlab l1 l2 l3 l4 ∧ ps.length = 0 ∨ a = 4 ∧ okPlain l1 l2 l3 l4 ∧ okPts ps
instance (a : Int) (l1 l2 l3 l4 : List Int) (ps : List S110) : Decidable (okF a l1 l2 l3 l4 ps) := by unfold okF; infer_instance
theorem formed_spec (a : Int) (l1 l2 l3 l4 : List Int) (ps : List S110) (hp : ps.length ≤ 1048576) (k : Nat) (hk : 11000010 ≤ k) : spec_l06Formed.f k a l1 l2 l3 l4 ps = some (decide (okF a l1 l2 l3 l4 ps)) := by
 obtain ⟨k, rfl⟩ : ∃ z, k = z + 1 := ⟨k - 1, by omega⟩
 unfold spec_l06Formed.f
 have hb : (if a = 1 then spec_l06Formed.j0 (k + 1) a (a == 1) a l1 l2 l3 l4 ps else spec_l06Formed.j0 (k + 1) a (a == 2) a l1 l2 l3 l4 ps) = spec_l06Formed.j0 (k + 1) a (decide (a = 1 ∨ a = 2)) a l1 l2 l3 l4 ps := by
  by_cases h1 : a = 1
  · rw [if_pos h1]; congr 1; simp [h1]
  · rw [if_neg h1]; congr 1; simp [h1]; rfl
 rw [hb, spec_l06Formed.j0, plain_spec, slabF_spec a l1 l2 l3 l4 ps k (by omega), points_spec ps hp k (by omega)]
 simp only [Option.bind_some, decide_eq_true_eq]
 unfold okF
 by_cases h12 : a = 1 ∨ a = 2
 ·
  rw [if_pos h12]
  by_cases hpl : okPlain l1 l2 l3 l4
  · rw [if_pos hpl]
    have h3 : ¬ a = 3 := by omega
    have h4 : ¬ a = 4 := by omega
    have e5 : ((ps.length : Int) == 0) = decide (ps.length = 0) := by rw [Bool.eq_iff_iff]; simp
    rw [e5]
    simp [h12, hpl, h3, h4]
  · rw [if_neg hpl]
    have h3 : ¬ a = 3 := by omega
    simp [hpl, h3]
 ·
  rw [if_neg h12]
  by_cases h3 : a = 3
  · rw [if_pos h3]
    have h4 : ¬ a = 4 := by omega
    simp [h12, h3]
  ·
   rw [if_neg h3]
   by_cases h4 : a = 4
   · rw [if_pos h4]
     by_cases hpl : okPlain l1 l2 l3 l4
     · simp [h4, hpl]
     · simp [h4, hpl]
   · rw [if_neg h4]
     simp [h12, h3, h4]
theorem formed_impl (a : Int) (l1 l2 l3 l4 : List Int) (ps : List S110) (hp : ps.length ≤ 1048576) (hq : ∀ y ∈ ps, QS110 y) (k : Nat) (hk : 11000010 ≤ k) : impl_FormedSelection.f k a l1 l2 l3 l4 ps = some (decide (okF a l1 l2 l3 l4 ps)) := by
 obtain ⟨k, rfl⟩ : ∃ z, k = z + 1 := ⟨k - 1, by omega⟩
 unfold impl_FormedSelection.f
 rw [sel_plain a l1 l2 l3 l4 ps hp hq _ (by omega)]
 simp only [Option.bind_some]
 generalize hpp : decide (okPlain l1 l2 l3 l4) = p
 have hb : (if a = 1 then impl_FormedSelection.j0 (k + 1) p a (a == 1) a l1 l2 l3 l4 ps else impl_FormedSelection.j0 (k + 1) p a (a == 2) a l1 l2 l3 l4 ps) = impl_FormedSelection.j0 (k + 1) p a (decide (a = 1 ∨ a = 2)) a l1 l2 l3 l4 ps := by
  by_cases h1 : a = 1
  · rw [if_pos h1]; congr 1; simp [h1]
  · rw [if_neg h1]; congr 1; simp [h1]; rfl
 rw [hb, impl_FormedSelection.j0, slabF_impl a l1 l2 l3 l4 ps k (by omega), points_impl a l1 l2 l3 l4 ps hp hq k (by omega), ← hpp]
 simp only [Option.bind_some, decide_eq_true_eq]
 unfold okF
 by_cases h12 : a = 1 ∨ a = 2
 ·
  rw [if_pos h12]
  by_cases hpl : okPlain l1 l2 l3 l4
  · rw [if_pos hpl]
    have h3 : ¬ a = 3 := by omega
    have h4 : ¬ a = 4 := by omega
    have e5 : ((ps.length : Int) == 0) = decide (ps.length = 0) := by rw [Bool.eq_iff_iff]; simp
    rw [e5]
    simp [h12, hpl, h3, h4]
  · rw [if_neg hpl]
    have h3 : ¬ a = 3 := by omega
    simp [hpl, h3]
 ·
  rw [if_neg h12]
  by_cases h3 : a = 3
  ·
   rw [if_pos h3]
   have h4 : ¬ a = 4 := by omega
   by_cases h5 : ps.length = 0
   · rw [if_pos (by omega)]
     simp only [h12, h3, h5, false_and, true_and, and_true, false_or]
     simp
   · rw [if_neg (by omega)]
     simp only [h12, h3, h5, false_and, true_and, and_false, false_or]
     simp
  ·
   rw [if_neg h3]
   by_cases h4 : a = 4
   · rw [if_pos h4]
     by_cases hpl : okPlain l1 l2 l3 l4
     · simp [h4, hpl]
     · simp [h4, hpl]
   · rw [if_neg h4]
     simp [h12, h3, h4]
def prodL : List Int → Int := fun l => l.foldl (· * ·) 1
def VD (l : List Int) : Prop := l.length ≤ 3 ∧ (∀ x ∈ l, 0 ≤ x ∧ x ≤ 40) ∧ prodL l ≤ 600
instance (l : List Int) : Decidable (VD l) := by unfold VD; infer_instance
theorem mul_le {a b A B : Int} (ha : 0 ≤ a) (hb : 0 ≤ b) (hA : a ≤ A) (hB : b ≤ B) : 0 ≤ a * b ∧ a * b ≤ A * B :=
 ⟨Int.mul_nonneg ha hb, Int.mul_le_mul hA hB hb (by omega)⟩
theorem dims_spec (k : Nat) (l : List Int) (hk : 4 < k) : spec_l05Dims.f k l = some (decide (VD l)) := by
 unfold spec_l05Dims.f
 by_cases h3 : (l.length : Int) > 3
 · rw [if_pos h3]
   have : ¬ VD l := fun h => by have := h.1; omega
   simp [this]
 ·
  rw [if_neg h3]
  obtain ⟨k, rfl⟩ : ∃ z, k = z + 5 := ⟨k - 5, by omega⟩
  match l, h3 with
  | [], _ => simp [spec_l05Dims.l0, VD, prodL]
  | [a], _ =>
   by_cases ha : 0 ≤ a ∧ a ≤ 40
   · simp [spec_l05Dims.l0, VD, prodL, in_eq, rd, ha, w1, wrap64_id (a := a) (by omega) (by omega)]
   · simp [spec_l05Dims.l0, VD, prodL, in_eq, rd, ha]
  | [a, b], _ =>
   by_cases ha : 0 ≤ a ∧ a ≤ 40
   · by_cases hb : 0 ≤ b ∧ b ≤ 40
     · have h1 := mul_le ha.1 hb.1 ha.2 hb.2
       simp [spec_l05Dims.l0, VD, prodL, in_eq, rd, ha, hb, wrap64_id (a := a) (by omega) (by omega), wrap64_id (a := a * b) (by omega) (by omega), w1, w2]
     · simp [spec_l05Dims.l0, VD, prodL, in_eq, rd, ha, hb, wrap64_id (a := a) (by omega) (by omega), w1]
   · simp [spec_l05Dims.l0, VD, prodL, in_eq, rd, ha]
  | [a, b, c], _ =>
   by_cases ha : 0 ≤ a ∧ a ≤ 40
   · by_cases hb : 0 ≤ b ∧ b ≤ 40
     · have h1 := mul_le ha.1 hb.1 ha.2 hb.2
       by_cases hc : 0 ≤ c ∧ c ≤ 40
       · have h2 := mul_le h1.1 hc.1 h1.2 hc.2
         simp [spec_l05Dims.l0, VD, prodL, in_eq, rd, ha, hb, hc, wrap64_id (a := a) (by omega) (by omega), wrap64_id (a := a * b) (by omega) (by omega), wrap64_id (a := a * b * c) (by omega) (by omega), w1, w2, w3]
       · simp [spec_l05Dims.l0, VD, prodL, in_eq, rd, ha, hb, hc, wrap64_id (a := a) (by omega) (by omega), wrap64_id (a := a * b) (by omega) (by omega), w1, w2]
     · simp [spec_l05Dims.l0, VD, prodL, in_eq, rd, ha, hb, wrap64_id (a := a) (by omega) (by omega), w1]
   · simp [spec_l05Dims.l0, VD, prodL, in_eq, rd, ha]
  | a :: b :: c :: d :: l, h => simp at h; omega
theorem within_all (k : Nat) (l : List Int) (a b : Int) (hl : l.length ≤ 1048576) (hk : l.length < k) : impl_allWithin.f k l a b = some (decide (∀ x ∈ l, a ≤ x ∧ x ≤ b)) := by
 unfold impl_allWithin.f slices_ContainsFunc_impl_allWithin_1.f slices_IndexFunc_impl_allWithin_1.f
 obtain ⟨r, h, hr⟩ := count_loop (fun k (_ : Unit) i => slices_IndexFunc_impl_allWithin_1.l0 k l (l.length : Int) i a b) l.length 0 (fun i _ => ∀ x ∈ l.take i, a ≤ x ∧ x ≤ b) (fun r => decide (r ≥ 0) = !decide (∀ x ∈ l, a ≤ x ∧ x ≤ b))
  (by
   rintro k s - h1
   refine ⟨-1, by show slices_IndexFunc_impl_allWithin_1.l0 (k + 1) l _ _ a b = _; rw [slices_IndexFunc_impl_allWithin_1.l0, if_neg (by omega)], ?_⟩
   rw [List.take_length] at h1
   simp [h1]
   exact h1)
  (by
   rintro k s i - hi h1
   by_cases he : a ≤ l[i] ∧ l[i] ≤ b
   ·
    refine .inl ⟨(), ?_, ?_⟩
    · intro x hx
      rw [List.take_succ_eq_append_getElem hi, List.mem_append] at hx
      rcases hx with hx | hx
      · exact h1 x hx
      · simp at hx; subst hx; exact he
    · show slices_IndexFunc_impl_allWithin_1.l0 (k + 1) l _ _ a b = _
      rw [slices_IndexFunc_impl_allWithin_1.l0, if_pos (by omega), if_pos (by omega), if_pos (by omega), rd_lt l i hi, impl_allWithin_1.f, within_eq, wrap_up i (by omega)]
      simp [he]
   · refine .inr ⟨i, ?_, ?_⟩
     · show slices_IndexFunc_impl_allWithin_1.l0 (k + 1) l _ _ a b = _
       rw [slices_IndexFunc_impl_allWithin_1.l0, if_pos (by omega), if_pos (by omega), if_pos (by omega), rd_lt l i hi, impl_allWithin_1.f, within_eq]
       simp [he]
     · have hx : ¬ ∀ x ∈ l, a ≤ x ∧ x ≤ b := fun h => he (h _ (List.getElem_mem hi))
       simp [hx])
  k () 0 (by omega) (by omega) (by simp)
 have h' : slices_IndexFunc_impl_allWithin_1.l0 k l (l.length : Int) 0 a b = some r := h
 rw [h']
 simp [hr]
theorem dims_impl (k : Nat) (l : List Int) (hk : 4 < k) : impl_ValidDims.f k l = some (decide (VD l)) := by
 unfold impl_ValidDims.f
 by_cases h3 : (l.length : Int) ≤ 3
 ·
  rw [if_pos h3, within_all k l 0 40 (by omega) (by omega)]
  by_cases hw : ∀ x ∈ l, 0 ≤ x ∧ x ≤ 40
  ·
   rw [decide_eq_true hw]
   have hp : impl_product.f k l = some (prodL l) := by
    unfold impl_product.f
    obtain ⟨k, rfl⟩ : ∃ z, k = z + 5 := ⟨k - 5, by omega⟩
    match l, h3, hw with
    | [], _, _ => simp [impl_product.l0, prodL]
    | [a], _, hw =>
     have ha := hw a (by simp)
     simp [impl_product.l0, prodL, rd, w1, wrap64_id (a := a) (by omega) (by omega)]
    | [a, b], _, hw =>
     have ha := hw a (by simp)
     have hb := hw b (by simp)
     have h1 := mul_le ha.1 hb.1 ha.2 hb.2
     simp [impl_product.l0, prodL, rd, wrap64_id (a := a) (by omega) (by omega), wrap64_id (a := a * b) (by omega) (by omega), w1, w2]
    | [a, b, c], _, hw =>
     have ha := hw a (by simp)
     have hb := hw b (by simp)
     have hc := hw c (by simp)
     have h1 := mul_le ha.1 hb.1 ha.2 hb.2
     have h2 := mul_le h1.1 hc.1 h1.2 hc.2
     simp [impl_product.l0, prodL, rd, wrap64_id (a := a) (by omega) (by omega), wrap64_id (a := a * b) (by omega) (by omega), wrap64_id (a := a * b * c) (by omega) (by omega), w1, w2, w3]
    | a :: b :: c :: d :: l, h, _ => simp at h; omega
   have : VD l ↔ prodL l ≤ 600 := ⟨fun h => h.2.2, fun h => ⟨by omega, hw, h⟩⟩
   simp only [Option.bind_some, if_true, hp]
   rw [decide_eq_decide.mpr this]
  · have : ¬ VD l := fun h => hw h.2.1
    simp [hw, this]
 · rw [if_neg h3]
   have : ¬ VD l := fun h => by have := h.1; omega
   simp [this]
def endv (l1 l2 l3 l4 : List Int) (i : Nat) : Int := rd l1 i + (rd l3 i - 1) * rd l2 i + rd l4 i
def okIn (d p : List Int) : Prop := p.length = d.length ∧ ∀ i, i < p.length → (0 ≤ rd p (i : Int) ∧ rd p (i : Int) ≤ wrap64 (rd d (i : Int) - 1))
instance (d p : List Int) : Decidable (okIn d p) := by unfold okIn; infer_instance
theorem inside_spec (d p : List Int) (hp : p.length ≤ 1048576) (k : Nat) (hk : 1048590 ≤ k) : spec_l05Inside.f k d p = some (decide (okIn d p)) := by
 unfold spec_l05Inside.f
 by_cases hn : p.length = d.length
 ·
  rw [if_pos (by omega), seq_loop (fun k i => spec_l05Inside.l0 k d p i) (fun i => 0 ≤ rd p (i : Int) ∧ rd p (i : Int) ≤ wrap64 (rd d (i : Int) - 1)) p.length
   (by intro k; show spec_l05Inside.l0 (k + 1) d p _ = _; rw [spec_l05Inside.l0, if_neg (by omega)])
   (by
    intro k i hi
    show spec_l05Inside.l0 (k + 1) d p _ = _
    rw [spec_l05Inside.l0, if_pos (by omega), if_pos (by omega), if_pos (by omega), wrap_up i (by omega), in_eq]
    simp only [Option.bind_some, decide_eq_true_eq])
   k (by omega)]
  congr 1
  apply decide_eq_decide.2
  exact ⟨fun h => ⟨hn, h⟩, fun h => h.2⟩
 · rw [if_neg (by omega), decide_eq_false (fun h => hn h.1)]
theorem inside_impl (d p : List Int) (hp : p.length ≤ 1048576) (k : Nat) (hk : 1048590 ≤ k) : impl_inDims.f k d p = some (decide (okIn d p)) := by
 unfold impl_inDims.f
 by_cases hn : p.length = d.length
 ·
  rw [if_pos (by omega), seq_loop (fun k i => impl_inDims.l0 k d p p.length i) (fun i => 0 ≤ rd p (i : Int) ∧ rd p (i : Int) ≤ wrap64 (rd d (i : Int) - 1)) p.length
   (by intro k; show impl_inDims.l0 (k + 1) d p _ _ = _; rw [impl_inDims.l0, if_neg (by omega)])
   (by
    intro k i hi
    show impl_inDims.l0 (k + 1) d p _ _ = _
    rw [impl_inDims.l0, if_pos (by omega), if_pos (by omega), if_pos (by omega), if_pos (by omega), wrap_up i (by omega), within_eq]
    simp only [Option.bind_some, decide_eq_true_eq])
   k (by omega)]
  congr 1
  apply decide_eq_decide.2
  exact ⟨fun h => ⟨hn, h⟩, fun h => h.2⟩
 · rw [if_neg (by omega), decide_eq_false (fun h => hn h.1)]
theorem end_okD (a : Int) (l1 l2 l3 l4 : List Int) (ps : List S110) (h : okSlab l1 l2 l3 l4) (i : Nat) (hi : i < l1.length) : spec_l06End.f a l1 l2 l3 l4 ps i = some (endv l1 l2 l3 l4 i) := by
 obtain ⟨h1, h2, h3, h4, h5⟩ := h
 have hd := h5 i (by omega) hi
 exact end_val a l1 l2 l3 l4 ps i hi (by omega) (by omega) (by omega) hd.1 hd.2.1 hd.2.2.1 hd.2.2.2.1
def okFitS (d l1 l2 l3 l4 : List Int) : Prop := l1.length = d.length ∧ ∀ i, i < d.length → endv l1 l2 l3 l4 i ≤ rd d (i : Int)
instance (d l1 l2 l3 l4 : List Int) : Decidable (okFitS d l1 l2 l3 l4) := by unfold okFitS; infer_instance
def okFitP (d : List Int) (ps : List S110) : Prop := ∀ i, i < ps.length → okIn d (rd_T110 ps (i : Int)).f0
instance (d : List Int) (ps : List S110) : Decidable (okFitP d ps) := by unfold okFitP; infer_instance
theorem fitS_spec (a : Int) (d l1 l2 l3 l4 : List Int) (ps : List S110) (hs : okSlab l1 l2 l3 l4) (hd : l1.length = d.length) (k : Nat) (hk : 100 ≤ k) : spec_l06Valid.l0 k d 0 a l1 l2 l3 l4 ps = some (decide (okFitS d l1 l2 l3 l4)) := by
 have h3 := hs.1
 rw [seq_loop (fun k i => spec_l06Valid.l0 k d i a l1 l2 l3 l4 ps) (fun i => endv l1 l2 l3 l4 i ≤ rd d (i : Int)) d.length
  (by intro k; show spec_l06Valid.l0 (k + 1) d _ a l1 l2 l3 l4 ps = _; rw [spec_l06Valid.l0, if_neg (by omega)])
  (by
   intro k i hi
   show spec_l06Valid.l0 (k + 1) d _ a l1 l2 l3 l4 ps = _
   rw [spec_l06Valid.l0, if_pos (by omega), end_okD a l1 l2 l3 l4 ps hs i (by omega), wrap_up i (by omega)]
   simp only [Option.bind_some]
   rw [if_pos (show (0 : Int) ≤ (i : Int) by omega)]
   by_cases h : endv l1 l2 l3 l4 i ≤ rd d (i : Int)
   · rw [if_neg (show ¬ endv l1 l2 l3 l4 i > rd d (i : Int) by omega), if_pos h]
   · rw [if_pos (show endv l1 l2 l3 l4 i > rd d (i : Int) by omega), if_neg h])
  k (by omega)]
 congr 1
 apply decide_eq_decide.2
 exact ⟨fun h => ⟨hd, h⟩, fun h => h.2⟩
theorem fitS_impl (a : Int) (d l1 l2 l3 l4 : List Int) (ps : List S110) (hs : okSlab l1 l2 l3 l4) (hd : l1.length = d.length) (k : Nat) (hk : 100 ≤ k) : impl_Selection_fits.l0 k d d.length 0 a l1 l2 l3 l4 ps = some (decide (okFitS d l1 l2 l3 l4)) := by
 have h3 := hs.1
 rw [seq_loop (fun k i => impl_Selection_fits.l0 k d d.length i a l1 l2 l3 l4 ps) (fun i => endv l1 l2 l3 l4 i ≤ rd d (i : Int)) d.length
  (by intro k; show impl_Selection_fits.l0 (k + 1) d _ _ a l1 l2 l3 l4 ps = _; rw [impl_Selection_fits.l0, if_neg (by omega)])
  (by
   intro k i hi
   show impl_Selection_fits.l0 (k + 1) d _ _ a l1 l2 l3 l4 ps = _
   rw [impl_Selection_fits.l0, if_pos (by omega), if_pos (by omega), if_pos (by omega), ← end_eq, end_okD a l1 l2 l3 l4 ps hs i (by omega), wrap_up i (by omega)]
   simp only [Option.bind_some]
   by_cases h : endv l1 l2 l3 l4 i ≤ rd d (i : Int)
   · rw [if_neg (show ¬ endv l1 l2 l3 l4 i > rd d (i : Int) by omega), if_pos h]
   · rw [if_pos (show endv l1 l2 l3 l4 i > rd d (i : Int) by omega), if_neg h])
  k (by omega)]
 congr 1
 apply decide_eq_decide.2
 exact ⟨fun h => ⟨hd, h⟩, fun h => h.2⟩
theorem pts_len (ps : List S110) (hq : ∀ y ∈ ps, QS110 y) (i : Nat) (hi : i < ps.length) : (rd_T110 ps (i : Int)).f0.length ≤ 1048576 := by
 have : rd_T110 ps (i : Int) = ps[i] := getD_lt ps z110 i hi
 rw [this]
 have h := hq _ (List.getElem_mem hi)
 unfold QS110 at h
 omega
theorem fitP_spec (a : Int) (d l1 l2 l3 l4 : List Int) (ps : List S110) (hp : ps.length ≤ 1048576) (hq : ∀ y ∈ ps, QS110 y) (k : Nat) (hk : 3000000 ≤ k) : spec_l06Valid.l1 k d 0 a l1 l2 l3 l4 ps = some (decide (okFitP d ps)) := by
 rw [all_loop (fun k i => spec_l06Valid.l1 k d i a l1 l2 l3 l4 ps) (fun i => okIn d (rd_T110 ps (i : Int)).f0) ps.length 1048590 true
  (by intro k _; show spec_l06Valid.l1 (k + 1) d _ a l1 l2 l3 l4 ps = _; rw [spec_l06Valid.l1, if_neg (by omega)])
  (by
   intro k i hk hi
   show spec_l06Valid.l1 (k + 1) d _ a l1 l2 l3 l4 ps = _
   rw [spec_l06Valid.l1, if_pos (by omega), if_pos (by omega), inside_spec d _ (pts_len ps hq i hi) k hk, wrap_up i (by omega)]
   simp only [Option.bind_some, decide_eq_true_eq])
  k (by omega), Bool.and_true]
 rfl
theorem fitP_impl (d : List Int) (ps : List S110) (hp : ps.length ≤ 1048576) (hq : ∀ y ∈ ps, QS110 y) (k : Nat) (hk : 3000000 ≤ k) : slices_ContainsFunc_impl_Selection_fits_1.f k ps d = some (!decide (okFitP d ps)) := by
 unfold slices_ContainsFunc_impl_Selection_fits_1.f slices_IndexFunc_impl_Selection_fits_1.f
 rw [find_loop (fun k i => slices_IndexFunc_impl_Selection_fits_1.l0 k ps ps.length i d) (fun i => ¬ okIn d (rd_T110 ps (i : Int)).f0) ps.length 1048590
  (by intro k _; show slices_IndexFunc_impl_Selection_fits_1.l0 (k + 1) ps _ _ d = _; rw [slices_IndexFunc_impl_Selection_fits_1.l0, if_neg (by omega)])
  (by
   intro k i hk hi
   show slices_IndexFunc_impl_Selection_fits_1.l0 (k + 1) ps _ _ d = _
   rw [slices_IndexFunc_impl_Selection_fits_1.l0, if_pos (by omega), if_pos (by omega), if_pos (by omega), wrap_up i (by omega)]
   unfold impl_Selection_fits_1.f
   rw [inside_impl d _ (pts_len ps hq i hi) k hk]
   simp only [Option.bind_some]
   by_cases h : okIn d (rd_T110 ps (i : Int)).f0 <;> simp [h])
  k (by omega)]
 simp only [Option.bind_some]
 rcases look_or (fun i => ¬ okIn d (rd_T110 ps (i : Int)).f0) ps.length 0 with ⟨h4, h5⟩ | ⟨j, -, h4, h5, h6⟩
 · rw [h4]
   have h7 : okFitP d ps := fun i hi => Decidable.not_not.1 (h5 i (by omega) (by omega))
   rw [decide_eq_true h7]; rfl
 · rw [h5]
   have h7 : ¬ okFitP d ps := fun h => h6 (h j (by omega))
   have h8 : (j : Int) ≥ 0 := by omega
   rw [decide_eq_false h7]; simp [h8]
def okV (d : List Int) (a : Int) (l1 l2 l3 l4 : List Int) (ps : List S110) : Prop := VD d ∧ okF a l1 l2 l3 l4 ps ∧ (a = 3 → okFitS d l1 l2 l3 l4) ∧ (a = 4 → okFitP d ps)
instance (d : List Int) (a : Int) (l1 l2 l3 l4 : List Int) (ps : List S110) : Decidable (okV d a l1 l2 l3 l4 ps) := by unfold okV; infer_instance
theorem okF_slab {a : Int} {l1 l2 l3 l4 : List Int} {ps : List S110} (h : okF a l1 l2 l3 l4 ps) (ha : a = 3) : okSlab l1 l2 l3 l4 := by
 rcases h with h | h | h
 · omega
 · exact h.2.1
 · omega
theorem valid_spec (d : List Int) (a : Int) (l1 l2 l3 l4 : List Int) (ps : List S110) (hp : ps.length ≤ 1048576) (hq : ∀ y ∈ ps, QS110 y) (k : Nat) (hk : 11000020 ≤ k) : spec_l06Valid.f k d a l1 l2 l3 l4 ps = some (decide (okV d a l1 l2 l3 l4 ps)) := by
 unfold spec_l06Valid.f
 rw [dims_spec k d (by omega), formed_spec a l1 l2 l3 l4 ps hp k (by omega)]
 obtain ⟨k, rfl⟩ : ∃ z, k = z + 1 := ⟨k - 1, by omega⟩
 simp only [Option.bind_some, decide_eq_true_eq]
 by_cases hd : VD d
 ·
  rw [if_pos hd, spec_l06Valid.j0]
  by_cases hf : okF a l1 l2 l3 l4 ps
  ·
   rw [decide_eq_true hf, if_neg (by simp)]
   by_cases h3 : a = 3
   · rw [if_pos h3]
     by_cases hl : l1.length = d.length
     · rw [if_pos (by omega), fitS_spec a d l1 l2 l3 l4 ps (okF_slab hf h3) hl k (by omega)]
       congr 1
       apply decide_eq_decide.2
       exact ⟨fun h => ⟨hd, hf, fun _ => h, fun h4 => by omega⟩, fun h => h.2.2.1 h3⟩
     · rw [if_neg (by omega), decide_eq_false (fun h => hl (h.2.2.1 h3).1)]
   · rw [if_neg h3]
     by_cases h4 : a = 4
     · rw [if_pos h4, fitP_spec a d l1 l2 l3 l4 ps hp hq k (by omega)]
       congr 1
       apply decide_eq_decide.2
       exact ⟨fun h => ⟨hd, hf, fun h => by omega, fun _ => h⟩, fun h => h.2.2.2 h4⟩
     · rw [if_neg h4, decide_eq_true (show okV d a l1 l2 l3 l4 ps from ⟨hd, hf, fun h => absurd h h3, fun h => absurd h h4⟩)]
  · rw [decide_eq_false hf, if_pos (show (!false) = true from rfl), decide_eq_false (fun h => hf h.2.1)]
 · rw [if_neg hd, spec_l06Valid.j0, if_pos rfl, decide_eq_false (fun h => hd h.1)]
theorem valid_impl (d : List Int) (a : Int) (l1 l2 l3 l4 : List Int) (ps : List S110) (hp : ps.length ≤ 1048576) (hq : ∀ y ∈ ps, QS110 y) (k : Nat) (hk : 11000020 ≤ k) : impl_ValidSelection.f k d a l1 l2 l3 l4 ps = some (decide (okV d a l1 l2 l3 l4 ps)) := by
 unfold impl_ValidSelection.f impl_Selection_fits.f
 rw [dims_impl k d (by omega), formed_impl a l1 l2 l3 l4 ps hp hq k (by omega)]
 simp only [Option.bind_some, decide_eq_true_eq]
 by_cases hd : VD d
 ·
  rw [if_pos hd]
  by_cases hf : okF a l1 l2 l3 l4 ps
  ·
   rw [if_pos hf]
   by_cases h3 : a = 3
   ·
    rw [if_pos h3]
    by_cases hl : l1.length = d.length
    · rw [if_pos (by omega), fitS_impl a d l1 l2 l3 l4 ps (okF_slab hf h3) hl k (by omega)]
      simp only [Option.bind_some]
      congr 1
      apply decide_eq_decide.2
      exact ⟨fun h => ⟨hd, hf, fun _ => h, fun h4 => by omega⟩, fun h => h.2.2.1 h3⟩
    · rw [if_neg (by omega), decide_eq_false (show ¬ okV d a l1 l2 l3 l4 ps from fun h => hl (h.2.2.1 h3).1)]
      rfl
   ·
    rw [if_neg h3]
    by_cases h4 : a = 4
    · rw [if_pos h4, fitP_impl d ps hp hq k (by omega)]
      simp only [Option.bind_some, Bool.not_not]
      congr 1
      apply decide_eq_decide.2
      exact ⟨fun h => ⟨hd, hf, fun h => by omega, fun _ => h⟩, fun h => h.2.2.2 h4⟩
    · rw [if_neg h4, decide_eq_true (show okV d a l1 l2 l3 l4 ps from ⟨hd, hf, fun h => absurd h h3, fun h => absurd h h4⟩)]
      rfl
  · rw [if_neg hf, decide_eq_false (fun h => hf h.2.1)]
 · rw [if_neg hd, decide_eq_false (fun h => hd h.1)]
theorem flat_loop {ρ : Type} (L : Nat → List Int → Int → Option ρ) (C : Nat → List Int → Option ρ) (G : Nat → List Int) (n cost m g : Nat)
 (hlen : ∀ i, i < n → (G i).length ≤ g)
 (hend : ∀ k acc, m ≤ k → L (k + 1) acc (n : Int) = C k acc)
 (hstep : ∀ k acc (i : Nat), i < n → m + cost ≤ k → acc.length + g < 17592186044416 → ∃ k', k ≤ k' + cost ∧ L k acc (i : Int) = L k' (acc ++ G i) ((i + 1 : Nat) : Int)) :
 ∀ (d i k : Nat) (acc : List Int), i + d = n → m + d * cost + 1 ≤ k → acc.length + d * g < 17592186044416 → ∃ k', k ≤ k' + d * cost + 1 ∧ L k acc (i : Int) = C k' (acc ++ (List.range' i d).flatMap G) := by
 intro d
 induction d with
 | zero =>
  intro i k acc hi hk ha
  obtain ⟨k, rfl⟩ : ∃ z, k = z + 1 := ⟨k - 1, by omega⟩
  obtain rfl : i = n := by omega
  exact ⟨k, by omega, by rw [hend k acc (by omega)]; simp⟩
 | succ d ih =>
  intro i k acc hi hk ha
  rw [Nat.add_mul, Nat.one_mul] at hk ha
  obtain ⟨k1, h1, e1⟩ := hstep k acc i (by omega) (by omega) (by omega)
  have hl := hlen i (by omega)
  obtain ⟨k2, h2, e2⟩ := ih (i + 1) k1 (acc ++ G i) (by omega) (by omega) (by rw [List.length_append]; omega)
  refine ⟨k2, ?_, ?_⟩
  · rw [Nat.add_mul, Nat.one_mul]; omega
  · rw [e1, e2, List.range'_succ, List.flatMap_cons, List.append_assoc]
theorem flat_len (G : Nat → List Int) (g : Nat) (h : ∀ i, (G i).length = g) : ∀ (d s : Nat), ((List.range' s d).flatMap G).length = d * g := by
 intro d
 induction d with
 | zero => intro s; simp
 | succ d ih => intro s; rw [List.range'_succ, List.flatMap_cons, List.length_append, ih, h, Nat.add_mul, Nat.one_mul, Nat.add_comm]
theorem prod_spec (k : Nat) (l : List Int) (hk : 4 < k) (hv : VD l) : spec_l05Count.f k l = some (prodL l) := by
 unfold spec_l05Count.f
 obtain ⟨k, rfl⟩ : ∃ z, k = z + 5 := ⟨k - 5, by omega⟩
 obtain ⟨h3, hw, _⟩ := hv
 match l, h3, hw with
 | [], _, _ => simp [spec_l05Count.l0, prodL]
 | [a], _, hw =>
  have ha := hw a (by simp)
  simp [spec_l05Count.l0, prodL, rd, w1, wrap64_id (a := a) (by omega) (by omega)]
 | [a, b], _, hw =>
  have ha := hw a (by simp)
  have hb := hw b (by simp)
  have h1 := mul_le ha.1 hb.1 ha.2 hb.2
  simp [spec_l05Count.l0, prodL, rd, wrap64_id (a := a) (by omega) (by omega), wrap64_id (a := a * b) (by omega) (by omega), w1, w2]
 | [a, b, c], _, hw =>
  have ha := hw a (by simp)
  have hb := hw b (by simp)
  have hc := hw c (by simp)
  have h1 := mul_le ha.1 hb.1 ha.2 hb.2
  have h2 := mul_le h1.1 hc.1 h1.2 hc.2
  simp [spec_l05Count.l0, prodL, rd, wrap64_id (a := a) (by omega) (by omega), wrap64_id (a := a * b) (by omega) (by omega), wrap64_id (a := a * b * c) (by omega) (by omega), w1, w2, w3]
 | a :: b :: c :: d :: l, h, _ => exact absurd h (by simp)
theorem prod_impl (k : Nat) (l : List Int) (hk : 4 < k) (hv : VD l) : impl_product.f k l = some (prodL l) := by
 unfold impl_product.f
 obtain ⟨k, rfl⟩ : ∃ z, k = z + 5 := ⟨k - 5, by omega⟩
 obtain ⟨h3, hw, _⟩ := hv
 match l, h3, hw with
 | [], _, _ => simp [impl_product.l0, prodL]
 | [a], _, hw =>
  have ha := hw a (by simp)
  simp [impl_product.l0, prodL, rd, w1, wrap64_id (a := a) (by omega) (by omega)]
 | [a, b], _, hw =>
  have ha := hw a (by simp)
  have hb := hw b (by simp)
  have h1 := mul_le ha.1 hb.1 ha.2 hb.2
  simp [impl_product.l0, prodL, rd, wrap64_id (a := a) (by omega) (by omega), wrap64_id (a := a * b) (by omega) (by omega), w1, w2]
 | [a, b, c], _, hw =>
  have ha := hw a (by simp)
  have hb := hw b (by simp)
  have hc := hw c (by simp)
  have h1 := mul_le ha.1 hb.1 ha.2 hb.2
  have h2 := mul_le h1.1 hc.1 h1.2 hc.2
  simp [impl_product.l0, prodL, rd, wrap64_id (a := a) (by omega) (by omega), wrap64_id (a := a * b) (by omega) (by omega), wrap64_id (a := a * b * c) (by omega) (by omega), w1, w2, w3]
 | a :: b :: c :: d :: l, h, _ => exact absurd h (by simp)
def axG (l1 l2 : List Int) (i j t : Nat) : List Int := [wrap64 (wrap64 (rd l1 (i : Int) + wrap64 ((j : Int) * rd l2 (i : Int))) + (t : Int))]
def axJ (l1 l2 l4 : List Int) (i j : Nat) : List Int := (List.range' 0 (rd l4 (i : Int)).toNat).flatMap (axG l1 l2 i j)
def axisL (l1 l2 l3 l4 : List Int) (i : Nat) : List Int := (List.range' 0 (rd l3 (i : Int)).toNat).flatMap (axJ l1 l2 l4 i)
theorem axJ_len (l1 l2 l4 : List Int) (i j : Nat) : (axJ l1 l2 l4 i j).length = (rd l4 (i : Int)).toNat := by
 unfold axJ
 rw [flat_len _ 1 (fun _ => rfl), Nat.mul_one]
theorem axis_len (l1 l2 l3 l4 : List Int) (i : Nat) : (axisL l1 l2 l3 l4 i).length = (rd l3 (i : Int)).toNat * (rd l4 (i : Int)).toNat := by
 unfold axisL
 rw [flat_len _ _ (fun j => axJ_len l1 l2 l4 i j)]
/-- what holds of a dimension that the loops reach -/
structure Dim (l1 l2 l3 l4 : List Int) (i : Nat) : Prop where
 a1 : i < l1.length
 a2 : i < l2.length
 a3 : i < l3.length
 a4 : i < l4.length
 c1 : 1 ≤ rd l3 (i : Int) ∧ rd l3 (i : Int) ≤ 40
 c2 : 1 ≤ rd l4 (i : Int) ∧ rd l4 (i : Int) ≤ 40
 c3 : rd l3 (i : Int) * rd l4 (i : Int) ≤ 40
 small : i < 3
theorem dim_of (l1 l2 l3 l4 : List Int) (h : okSlab l1 l2 l3 l4) (i : Nat) (hi : i < l1.length) : Dim l1 l2 l3 l4 i := by
 obtain ⟨h1, h2, h3, h4, h5⟩ := h
 obtain ⟨q1, q3, q4, q2, q5⟩ := h5 i (by omega) hi
 refine ⟨hi, by omega, by omega, by omega, q3, q4, ?_, by omega⟩
 have hm : (rd l3 i - 1) * rd l4 i ≤ (rd l3 i - 1) * rd l2 i := Int.mul_le_mul_of_nonneg_left q2.1 (by omega)
 have he : rd l3 i * rd l4 i = (rd l3 i - 1) * rd l4 i + rd l4 i := by rw [Int.sub_mul, Int.one_mul]; omega
 omega
theorem axis_le (l1 l2 l3 l4 : List Int) (i : Nat) (h : Dim l1 l2 l3 l4 i) : (axisL l1 l2 l3 l4 i).length ≤ 40 ∧ ((axisL l1 l2 l3 l4 i).length : Int) = rd l3 (i : Int) * rd l4 (i : Int) := by
 have h1 := h.c1
 have h2 := h.c2
 have e : (((rd l3 (i : Int)).toNat * (rd l4 (i : Int)).toNat : Nat) : Int) = rd l3 (i : Int) * rd l4 (i : Int) := by
  rw [Int.natCast_mul, Int.toNat_of_nonneg (by omega), Int.toNat_of_nonneg (by omega)]
 rw [axis_len]
 refine ⟨?_, e⟩
 have h3 := h.c3
 omega
theorem axis_impl (a : Int) (l1 l2 l3 l4 : List Int) (ps : List S110) (i : Nat) (h : Dim l1 l2 l3 l4 i) (k : Nat) (hk : 2000 ≤ k) : impl_Selection_coordinates.f k a l1 l2 l3 l4 ps i = some (axisL l1 l2 l3 l4 i) := by
 obtain ⟨a1, a2, a3, a4, c1, c2, -, hs⟩ := h
 unfold impl_Selection_coordinates.f
 rw [if_pos (by omega), if_pos (by omega)]
 obtain ⟨k', -, e⟩ := flat_loop (fun k acc j => impl_Selection_coordinates.l0 k i acc (rd l3 (i : Int)) j a l1 l2 l3 l4 ps) (fun _ acc => some acc) (axJ l1 l2 l4 i) (rd l3 (i : Int)).toNat 43 1 40
  (by intro j hj; rw [axJ_len]; omega)
  (by intro k acc _; show impl_Selection_coordinates.l0 (k + 1) i acc _ _ a l1 l2 l3 l4 ps = _; rw [impl_Selection_coordinates.l0, if_neg (by omega)])
  (by
   intro k acc j hj hk ha
   obtain ⟨k, rfl⟩ : ∃ z, k = z + 1 := ⟨k - 1, by omega⟩
   obtain ⟨k', h1, e⟩ := flat_loop (fun k acc t => impl_Selection_coordinates.l1 k i acc j (rd l3 (i : Int)) j (rd l4 (i : Int)) t a l1 l2 l3 l4 ps) (fun k acc => impl_Selection_coordinates.l0 k i acc (rd l3 (i : Int)) ((j + 1 : Nat) : Int) a l1 l2 l3 l4 ps) (axG l1 l2 i j) (rd l4 (i : Int)).toNat 1 0 1
    (by intro t ht; exact Nat.le_refl 1)
    (by intro k acc _; show impl_Selection_coordinates.l1 (k + 1) i acc j _ j _ _ a l1 l2 l3 l4 ps = _; rw [impl_Selection_coordinates.l1, if_neg (by omega), wrap_up j (by omega)])
    (by
     intro k acc t ht hk ha
     obtain ⟨k, rfl⟩ : ∃ z, k = z + 1 := ⟨k - 1, by omega⟩
     refine ⟨k, by omega, ?_⟩
     show impl_Selection_coordinates.l1 (k + 1) i acc j _ j _ _ a l1 l2 l3 l4 ps = _
     rw [impl_Selection_coordinates.l1, if_pos (by omega), if_pos (by omega), if_pos (by omega), if_pos (by omega), if_pos (by omega), wrap_up t (by omega)]
     rfl)
    (rd l4 (i : Int)).toNat 0 k acc (by omega) (by omega) (by omega)
   refine ⟨k', by omega, ?_⟩
   show impl_Selection_coordinates.l0 (k + 1) i acc _ _ a l1 l2 l3 l4 ps = _
   rw [impl_Selection_coordinates.l0, if_pos (by omega), if_pos (by omega), if_pos (by omega)]
   exact e)
  (rd l3 (i : Int)).toNat 0 k [] (by omega) (by omega) (by simp; omega)
 exact e
def stG (d out ax : List Int) (i q t : Nat) : List Int := [wrap64 (wrap64 (rd out (q : Int) * rd d (i : Int)) + rd ax (t : Int))]
def stQ (d out ax : List Int) (i q : Nat) : List Int := (List.range' 0 ax.length).flatMap (stG d out ax i q)
def slabStep (d l1 l2 l3 l4 : List Int) (i : Nat) (out : List Int) : List Int := (List.range' 0 out.length).flatMap (stQ d out (axisL l1 l2 l3 l4 i) i)
theorem stQ_len (d out ax : List Int) (i q : Nat) : (stQ d out ax i q).length = ax.length := by
 unfold stQ
 rw [flat_len _ 1 (fun _ => rfl), Nat.mul_one]
theorem step_len (d l1 l2 l3 l4 : List Int) (i : Nat) (out : List Int) : (slabStep d l1 l2 l3 l4 i out).length = out.length * (axisL l1 l2 l3 l4 i).length := by
 unfold slabStep
 rw [flat_len _ _ (fun q => stQ_len d out _ i q)]
def slabR (d l1 l2 l3 l4 : List Int) : Nat → Nat → List Int → List Int
 | 0, _, out => out
 | c + 1, i, out => slabR d l1 l2 l3 l4 c (i + 1) (slabStep d l1 l2 l3 l4 i out)
theorem pow_step (n x c : Nat) (h : n * 40 ^ (c + 1) ≤ 64000) (hx : x ≤ 40) : n * x * 40 ^ c ≤ 64000 ∧ n ≤ 64000 ∧ n * x ≤ 64000 := by
 have h1 : n * x * 40 ^ c ≤ n * 40 * 40 ^ c := Nat.mul_le_mul_right _ (Nat.mul_le_mul_left _ hx)
 have h2 : n * 40 ^ (c + 1) = n * 40 * 40 ^ c := by rw [Nat.pow_succ, Nat.mul_comm (40 ^ c) 40, Nat.mul_assoc]
 have h3 : 0 < 40 ^ c := Nat.pow_pos (by omega)
 have h4 : n * x ≤ n * x * 40 ^ c := Nat.le_mul_of_pos_right _ h3
 have h5 : n * 40 ≤ n * 40 * 40 ^ c := Nat.le_mul_of_pos_right _ h3
 omega
theorem slab_ind_impl (a : Int) (d l1 l2 l3 l4 : List Int) (ps : List S110) (hD : ∀ i, i < d.length → Dim l1 l2 l3 l4 i) (hd : d.length ≤ 3) : ∀ (c i k : Nat) (out : List Int), i + c = d.length → out.length * 40 ^ c ≤ 64000 → 3000 + 3000000 * c < k →
 impl_Selection_slabIndices.l0 k out d d.length i a l1 l2 l3 l4 ps = some (slabR d l1 l2 l3 l4 c i out) := by
 intro c
 induction c with
 | zero =>
  intro i k out hi ho hk
  obtain ⟨k, rfl⟩ : ∃ z, k = z + 1 := ⟨k - 1, by omega⟩
  rw [impl_Selection_slabIndices.l0, if_neg (by omega)]; rfl
 | succ c ih =>
  intro i k out hi ho hk
  obtain ⟨k, rfl⟩ : ∃ z, k = z + 1 := ⟨k - 1, by omega⟩
  have hdim := hD i (by omega)
  obtain ⟨hx, -⟩ := axis_le l1 l2 l3 l4 i hdim
  obtain ⟨p1, p2, p3⟩ := pow_step _ _ _ ho hx
  have hc := fun k (hk : 2000 ≤ k) => axis_impl a l1 l2 l3 l4 ps i hdim k hk
  rw [impl_Selection_slabIndices.l0, if_pos (by omega), if_pos (by omega), if_pos (by omega)]
  generalize hax : axisL l1 l2 l3 l4 i = ax at *
  obtain ⟨k', h1, e⟩ := flat_loop (fun k acc q => impl_Selection_slabIndices.l1 k i (rd d (i : Int)) acc d d.length i out out.length q a l1 l2 l3 l4 ps) (fun k acc => impl_Selection_slabIndices.l0 k acc d d.length ((i + 1 : Nat) : Int) a l1 l2 l3 l4 ps) (stQ d out ax i) out.length 43 2001 40
   (by intro q hq; rw [stQ_len]; omega)
   (by intro k acc _; show impl_Selection_slabIndices.l1 (k + 1) i _ acc d _ i out _ _ a l1 l2 l3 l4 ps = _; rw [impl_Selection_slabIndices.l1, if_neg (by omega), wrap_up i (by omega)])
   (by
    intro k acc q hq hk ha
    obtain ⟨k, rfl⟩ : ∃ z, k = z + 1 := ⟨k - 1, by omega⟩
    obtain ⟨k', h1, e⟩ := flat_loop (fun k acc t => impl_Selection_slabIndices.l2 k i (rd d (i : Int)) acc (rd out (q : Int)) d d.length i out out.length q ax ax.length t a l1 l2 l3 l4 ps) (fun k acc => impl_Selection_slabIndices.l1 k i (rd d (i : Int)) acc d d.length i out out.length ((q + 1 : Nat) : Int) a l1 l2 l3 l4 ps) (stG d out ax i q) ax.length 1 0 1
     (by intro t ht; exact Nat.le_refl 1)
     (by intro k acc _; show impl_Selection_slabIndices.l2 (k + 1) i _ acc _ d _ i out _ q ax _ _ a l1 l2 l3 l4 ps = _; rw [impl_Selection_slabIndices.l2, if_neg (by omega), wrap_up q (by omega)])
     (by
      intro k acc t ht hk ha
      obtain ⟨k, rfl⟩ : ∃ z, k = z + 1 := ⟨k - 1, by omega⟩
      refine ⟨k, by omega, ?_⟩
      show impl_Selection_slabIndices.l2 (k + 1) i _ acc _ d _ i out _ q ax _ _ a l1 l2 l3 l4 ps = _
      rw [impl_Selection_slabIndices.l2, if_pos (by omega), if_pos (by omega), if_pos (by omega), if_pos (by omega), wrap_up t (by omega)]
      rfl)
     ax.length 0 k acc (by omega) (by omega) (by omega)
    refine ⟨k', by omega, ?_⟩
    show impl_Selection_slabIndices.l1 (k + 1) i _ acc d _ i out _ _ a l1 l2 l3 l4 ps = _
    rw [impl_Selection_slabIndices.l1, if_pos (by omega), if_pos (by omega), if_pos (by omega), hc k (by omega)]
    exact e)
   out.length 0 k [] (by omega) (by omega) (by simp; omega)
  have e' : impl_Selection_slabIndices.l1 k i (rd d (i : Int)) [] d d.length i out out.length 0 a l1 l2 l3 l4 ps = impl_Selection_slabIndices.l0 k' (slabStep d l1 l2 l3 l4 i out) d d.length ((i + 1 : Nat) : Int) a l1 l2 l3 l4 ps := by
   unfold slabStep; rw [hax]; exact e
  rw [e', ih (i + 1) k' _ (by omega) (by rw [step_len, hax]; exact p1) (by omega)]
  rfl
theorem slabR_len (d l1 l2 l3 l4 : List Int) (hD : ∀ i, i < d.length → Dim l1 l2 l3 l4 i) : ∀ (c i : Nat) (out : List Int), i + c = d.length → out.length * 40 ^ c ≤ 64000 → (slabR d l1 l2 l3 l4 c i out).length ≤ 64000 := by
 intro c
 induction c with
 | zero => intro i out hi ho; rw [Nat.pow_zero, Nat.mul_one] at ho; exact ho
 | succ c ih =>
  intro i out hi ho
  have hdim := hD i (by omega)
  obtain ⟨hx, -⟩ := axis_le l1 l2 l3 l4 i hdim
  obtain ⟨p1, p2, p3⟩ := pow_step _ _ _ ho hx
  exact ih (i + 1) _ (by omega) (by rw [step_len]; exact p1)
/-- the index of a point -/
def idxR (d p : List Int) : Nat → Nat → Int → Int
 | 0, _, x => x
 | c + 1, i, x => idxR d p c (i + 1) (wrap64 (wrap64 (x * rd d (i : Int)) + rd p (i : Int)))
theorem idx_impl (d p : List Int) (hd : d.length ≤ 1048576) (hp : p.length = d.length) : ∀ (c i k : Nat) (x : Int), i + c = d.length → c < k → impl_indexOf.l0 k d x p p.length i = some (idxR d p c i x) := by
 intro c
 induction c with
 | zero =>
  intro i k x hi hk
  obtain ⟨k, rfl⟩ : ∃ z, k = z + 1 := ⟨k - 1, by omega⟩
  rw [impl_indexOf.l0, if_neg (by omega)]; rfl
 | succ c ih =>
  intro i k x hi hk
  obtain ⟨k, rfl⟩ : ∃ z, k = z + 1 := ⟨k - 1, by omega⟩
  rw [impl_indexOf.l0, if_pos (by omega), if_pos (by omega), if_pos (by omega), if_pos (by omega), wrap_up i (by omega), ih (i + 1) k _ (by omega) (by omega)]
  rfl
theorem idxF_impl (d p : List Int) (hd : d.length ≤ 3) (hp : p.length = d.length) (k : Nat) (hk : 10 ≤ k) : impl_indexOf.f k d p = some (idxR d p d.length 0 0) := idx_impl d p (by omega) hp d.length 0 k 0 (by omega) (by omega)
def allG (i : Nat) : List Int := [(i : Int)]
def ptG (d : List Int) (ps : List S110) (i : Nat) : List Int := [idxR d (rd_T110 ps (i : Int)).f0 d.length 0 0]
/-- the indices that a valid selection selects -/
def indL (d : List Int) (a : Int) (l1 l2 l3 l4 : List Int) (ps : List S110) : List Int :=
 if a = 1 then (List.range' 0 (prodL d).toNat).flatMap allG else if a = 3 then slabR d l1 l2 l3 l4 d.length 0 [0] else if a = 4 then (List.range' 0 ps.length).flatMap (ptG d ps) else []
theorem pow40 (n : Nat) (h : n ≤ 3) : 1 * 40 ^ n ≤ 64000 := by
 rw [Nat.one_mul]
 exact Nat.le_trans (Nat.pow_le_pow_right (by omega) h) (by decide)
theorem dims_of {d : List Int} {a : Int} {l1 l2 l3 l4 : List Int} {ps : List S110} (h : okV d a l1 l2 l3 l4 ps) (h3 : a = 3) : ∀ i, i < d.length → Dim l1 l2 l3 l4 i := by
 intro i hi
 have hs := okF_slab h.2.1 h3
 exact dim_of l1 l2 l3 l4 hs i (by rw [(h.2.2.1 h3).1]; exact hi)
theorem pts24 {a : Int} {l1 l2 l3 l4 : List Int} {ps : List S110} (h : okF a l1 l2 l3 l4 ps) (h4 : a = 4) : ps.length ≤ 24 := by
 rcases h with h | h | h
 · omega
 · omega
 · exact h.2.2.1.2
theorem ind_impl (d : List Int) (a : Int) (l1 l2 l3 l4 : List Int) (ps : List S110) (h : okV d a l1 l2 l3 l4 ps) (k : Nat) (hk : 10000000 ≤ k) : impl_Selection_indices.f k a l1 l2 l3 l4 ps d = some (indL d a l1 l2 l3 l4 ps) := by
 have hd3 : d.length ≤ 3 := h.1.1
 have hpr : prodL d ≤ 600 := h.1.2.2
 unfold impl_Selection_indices.f indL
 by_cases h1 : a = 1
 ·
  rw [if_pos h1, if_pos h1, prod_impl k d (by omega) h.1]
  simp only [Option.bind_some]
  obtain ⟨k', -, e⟩ := flat_loop (fun k acc i => impl_Selection_indices.l0 k acc (prodL d) i) (fun _ acc => some acc) allG (prodL d).toNat 1 10 1
   (by intro i hi; exact Nat.le_refl 1)
   (by intro k acc _; show impl_Selection_indices.l0 (k + 1) acc _ _ = _; rw [impl_Selection_indices.l0, if_neg (by omega)])
   (by
    intro k acc i hi hk ha
    obtain ⟨k, rfl⟩ : ∃ z, k = z + 1 := ⟨k - 1, by omega⟩
    refine ⟨k, by omega, ?_⟩
    show impl_Selection_indices.l0 (k + 1) acc _ _ = _
    rw [impl_Selection_indices.l0, if_pos (by omega), if_pos (by omega), wrap_up i (by omega)]
    rfl)
   (prodL d).toNat 0 k [] (by omega) (by omega) (by simp; omega)
  exact e
 ·
  rw [if_neg h1, if_neg h1]
  by_cases h3 : a = 3
  · rw [if_pos h3, if_pos h3]
    unfold impl_Selection_slabIndices.f
    have := slab_ind_impl a d l1 l2 l3 l4 ps (dims_of h h3) hd3 d.length 0 k [0] (by omega) (by simpa using pow40 _ hd3) (by omega)
    rw [show impl_Selection_slabIndices.l0 k [0] d (d.length : Int) 0 a l1 l2 l3 l4 ps = _ from this]
    rfl
  ·
   rw [if_neg h3, if_neg h3]
   by_cases h4 : a = 4
   ·
    have hp := pts24 h.2.1 h4
    have hin := h.2.2.2 h4
    rw [if_pos h4, if_pos h4]
    obtain ⟨k', -, e⟩ := flat_loop (fun k acc i => impl_Selection_indices.l1 k d acc ps ps.length i) (fun _ acc => some acc) (ptG d ps) ps.length 1 10 1
     (by intro i hi; exact Nat.le_refl 1)
     (by intro k acc _; show impl_Selection_indices.l1 (k + 1) d acc ps _ _ = _; rw [impl_Selection_indices.l1, if_neg (by omega)])
     (by
      intro k acc i hi hk ha
      obtain ⟨k, rfl⟩ : ∃ z, k = z + 1 := ⟨k - 1, by omega⟩
      refine ⟨k, by omega, ?_⟩
      show impl_Selection_indices.l1 (k + 1) d acc ps _ _ = _
      rw [impl_Selection_indices.l1, if_pos (by omega), if_pos (by omega), if_pos (by omega), idxF_impl d _ hd3 (hin i hi).1 k (by omega)]
      simp only [Option.bind_some]
      rw [if_pos (by omega), wrap_up i (by omega)]
      rfl)
     ps.length 0 k [] (by omega) (by omega) (by simp; omega)
    exact e
   · rw [if_neg h4, if_neg h4]
theorem indL_len (d : List Int) (a : Int) (l1 l2 l3 l4 : List Int) (ps : List S110) (h : okV d a l1 l2 l3 l4 ps) : (indL d a l1 l2 l3 l4 ps).length ≤ 64000 := by
 have hd3 : d.length ≤ 3 := h.1.1
 have hpr : prodL d ≤ 600 := h.1.2.2
 unfold indL
 by_cases h1 : a = 1
 · rw [if_pos h1, flat_len _ 1 (fun _ => rfl)]; omega
 ·
  rw [if_neg h1]
  by_cases h3 : a = 3
  · rw [if_pos h3]
    exact slabR_len d l1 l2 l3 l4 (dims_of h h3) d.length 0 [0] (by omega) (by simpa using pow40 _ hd3)
  · rw [if_neg h3]
    by_cases h4 : a = 4
    · rw [if_pos h4, flat_len _ 1 (fun _ => rfl)]
      have := pts24 h.2.1 h4
      omega
    · rw [if_neg h4]; simp
theorem axis_spec (a : Int) (l1 l2 l3 l4 : List Int) (ps : List S110) (i : Nat) (h : Dim l1 l2 l3 l4 i) (k : Nat) (hk : 2000 ≤ k) : spec_l06Axis.f k a l1 l2 l3 l4 ps i = some (axisL l1 l2 l3 l4 i) := by
 obtain ⟨a1, a2, a3, a4, c1, c2, -, hs⟩ := h
 unfold spec_l06Axis.f
 obtain ⟨k', -, e⟩ := flat_loop (fun k acc j => spec_l06Axis.l0 k i acc j a l1 l2 l3 l4 ps) (fun _ acc => some acc) (axJ l1 l2 l4 i) (rd l3 (i : Int)).toNat 43 1 40
  (by intro j hj; rw [axJ_len]; omega)
  (by intro k acc _; show spec_l06Axis.l0 (k + 1) i acc _ a l1 l2 l3 l4 ps = _; rw [spec_l06Axis.l0, if_pos (by omega), if_pos (by omega), if_neg (by omega)])
  (by
   intro k acc j hj hk ha
   obtain ⟨k, rfl⟩ : ∃ z, k = z + 1 := ⟨k - 1, by omega⟩
   obtain ⟨k', h1, e⟩ := flat_loop (fun k acc t => spec_l06Axis.l1 k i acc j t a l1 l2 l3 l4 ps) (fun k acc => spec_l06Axis.l0 k i acc ((j + 1 : Nat) : Int) a l1 l2 l3 l4 ps) (axG l1 l2 i j) (rd l4 (i : Int)).toNat 1 0 1
    (by intro t ht; exact Nat.le_refl 1)
    (by intro k acc _; show spec_l06Axis.l1 (k + 1) i acc j _ a l1 l2 l3 l4 ps = _; rw [spec_l06Axis.l1, if_pos (by omega), if_pos (by omega), if_neg (by omega), wrap_up j (by omega)])
    (by
     intro k acc t ht hk ha
     obtain ⟨k, rfl⟩ : ∃ z, k = z + 1 := ⟨k - 1, by omega⟩
     refine ⟨k, by omega, ?_⟩
     show spec_l06Axis.l1 (k + 1) i acc j _ a l1 l2 l3 l4 ps = _
     rw [spec_l06Axis.l1, if_pos (by omega), if_pos (by omega), if_pos (by omega), if_pos (by omega), if_pos (by omega), if_pos (by omega), wrap_up t (by omega)]
     rfl)
    (rd l4 (i : Int)).toNat 0 k acc (by omega) (by omega) (by omega)
   refine ⟨k', by omega, ?_⟩
   show spec_l06Axis.l0 (k + 1) i acc _ a l1 l2 l3 l4 ps = _
   rw [spec_l06Axis.l0, if_pos (by omega), if_pos (by omega), if_pos (by omega)]
   exact e)
  (rd l3 (i : Int)).toNat 0 k [] (by omega) (by omega) (by simp; omega)
 exact e
theorem slab_ind_spec (a : Int) (d l1 l2 l3 l4 : List Int) (ps : List S110) (hD : ∀ i, i < d.length → Dim l1 l2 l3 l4 i) (hd : d.length ≤ 3) : ∀ (c i k : Nat) (out : List Int), i + c = d.length → out.length * 40 ^ c ≤ 64000 → 3000 + 3000000 * c < k →
 spec_l06Indices.l2 k d out i a l1 l2 l3 l4 ps = some (slabR d l1 l2 l3 l4 c i out) := by
 intro c
 induction c with
 | zero =>
  intro i k out hi ho hk
  obtain ⟨k, rfl⟩ : ∃ z, k = z + 1 := ⟨k - 1, by omega⟩
  rw [spec_l06Indices.l2, if_neg (by omega)]; rfl
 | succ c ih =>
  intro i k out hi ho hk
  obtain ⟨k, rfl⟩ : ∃ z, k = z + 1 := ⟨k - 1, by omega⟩
  have hdim := hD i (by omega)
  obtain ⟨hx, -⟩ := axis_le l1 l2 l3 l4 i hdim
  obtain ⟨p1, p2, p3⟩ := pow_step _ _ _ ho hx
  rw [spec_l06Indices.l2, if_pos (by omega), axis_spec a l1 l2 l3 l4 ps i hdim k (by omega)]
  simp only [Option.bind_some]
  generalize hax : axisL l1 l2 l3 l4 i = ax at *
  obtain ⟨k', h1, e⟩ := flat_loop (fun k acc q => spec_l06Indices.l3 k d out i ax acc q a l1 l2 l3 l4 ps) (fun k acc => spec_l06Indices.l2 k d acc ((i + 1 : Nat) : Int) a l1 l2 l3 l4 ps) (stQ d out ax i) out.length 43 1 40
   (by intro q hq; rw [stQ_len]; omega)
   (by intro k acc _; show spec_l06Indices.l3 (k + 1) d out i ax acc _ a l1 l2 l3 l4 ps = _; rw [spec_l06Indices.l3, if_neg (by omega), wrap_up i (by omega)])
   (by
    intro k acc q hq hk ha
    obtain ⟨k, rfl⟩ : ∃ z, k = z + 1 := ⟨k - 1, by omega⟩
    obtain ⟨k', h1, e⟩ := flat_loop (fun k acc t => spec_l06Indices.l4 k d out i ax acc q t a l1 l2 l3 l4 ps) (fun k acc => spec_l06Indices.l3 k d out i ax acc ((q + 1 : Nat) : Int) a l1 l2 l3 l4 ps) (stG d out ax i q) ax.length 1 0 1
     (by intro t ht; exact Nat.le_refl 1)
     (by intro k acc _; show spec_l06Indices.l4 (k + 1) d out i ax acc q _ a l1 l2 l3 l4 ps = _; rw [spec_l06Indices.l4, if_neg (by omega), wrap_up q (by omega)])
     (by
      intro k acc t ht hk ha
      obtain ⟨k, rfl⟩ : ∃ z, k = z + 1 := ⟨k - 1, by omega⟩
      refine ⟨k, by omega, ?_⟩
      show spec_l06Indices.l4 (k + 1) d out i ax acc q _ a l1 l2 l3 l4 ps = _
      rw [spec_l06Indices.l4, if_pos (by omega), if_pos (by omega), if_pos (by omega), if_pos (by omega), if_pos (by omega), if_pos (by omega), if_pos (by omega), wrap_up t (by omega)]
      rfl)
     ax.length 0 k acc (by omega) (by omega) (by omega)
    refine ⟨k', by omega, ?_⟩
    show spec_l06Indices.l3 (k + 1) d out i ax acc _ a l1 l2 l3 l4 ps = _
    rw [spec_l06Indices.l3, if_pos (by omega)]
    exact e)
   out.length 0 k [] (by omega) (by omega) (by simp; omega)
  have e' : spec_l06Indices.l3 k d out i ax [] 0 a l1 l2 l3 l4 ps = spec_l06Indices.l2 k' d (slabStep d l1 l2 l3 l4 i out) ((i + 1 : Nat) : Int) a l1 l2 l3 l4 ps := by
   unfold slabStep; rw [hax]; exact e
  rw [e', ih (i + 1) k' _ (by omega) (by rw [step_len, hax]; exact p1) (by omega)]
  rfl
theorem idx_spec (d p : List Int) (hd : d.length ≤ 1048576) (hp : p.length = d.length) : ∀ (c i k : Nat) (x : Int), i + c = d.length → c < k → spec_l05Index.l0 k d p x i = some (idxR d p c i x) := by
 intro c
 induction c with
 | zero =>
  intro i k x hi hk
  obtain ⟨k, rfl⟩ : ∃ z, k = z + 1 := ⟨k - 1, by omega⟩
  rw [spec_l05Index.l0, if_neg (by omega)]; rfl
 | succ c ih =>
  intro i k x hi hk
  obtain ⟨k, rfl⟩ : ∃ z, k = z + 1 := ⟨k - 1, by omega⟩
  rw [spec_l05Index.l0, if_pos (by omega), if_pos (by omega), if_pos (by omega), wrap_up i (by omega), ih (i + 1) k _ (by omega) (by omega)]
  rfl
theorem idxF_spec (d p : List Int) (hd : d.length ≤ 3) (hp : p.length = d.length) (k : Nat) (hk : 10 ≤ k) : spec_l05Index.f k d p = some (idxR d p d.length 0 0) := idx_spec d p (by omega) hp d.length 0 k 0 (by omega) (by omega)
theorem ind_spec (d : List Int) (a : Int) (l1 l2 l3 l4 : List Int) (ps : List S110) (h : okV d a l1 l2 l3 l4 ps) (k : Nat) (hk : 10000000 ≤ k) : spec_l06Indices.f k d a l1 l2 l3 l4 ps = some (indL d a l1 l2 l3 l4 ps) := by
 have hd3 : d.length ≤ 3 := h.1.1
 have hpr : prodL d ≤ 600 := h.1.2.2
 unfold spec_l06Indices.f indL
 simp only [Option.bind_some]
 by_cases h1 : a = 1
 ·
  rw [if_pos h1, if_pos h1]
  obtain ⟨k', -, e⟩ := flat_loop (fun k acc i => spec_l06Indices.l0 k d acc i) (fun _ acc => some acc) allG (prodL d).toNat 1 10 1
   (by intro i hi; exact Nat.le_refl 1)
   (by
    intro k acc hm
    show spec_l06Indices.l0 (k + 1) d acc _ = _
    rw [spec_l06Indices.l0, prod_spec k d (by omega) h.1]
    simp only [Option.bind_some]
    rw [if_neg (by omega)])
   (by
    intro k acc i hi hk ha
    obtain ⟨k, rfl⟩ : ∃ z, k = z + 1 := ⟨k - 1, by omega⟩
    refine ⟨k, by omega, ?_⟩
    show spec_l06Indices.l0 (k + 1) d acc _ = _
    rw [spec_l06Indices.l0, prod_spec k d (by omega) h.1]
    simp only [Option.bind_some]
    rw [if_pos (by omega), if_pos (by omega), wrap_up i (by omega)]
    rfl)
   (prodL d).toNat 0 k [] (by omega) (by omega) (by simp; omega)
  exact e
 ·
  rw [if_neg h1, if_neg h1]
  by_cases h4 : a = 4
  ·
   have h3 : ¬ a = 3 := by omega
   have hp := pts24 h.2.1 h4
   have hin := h.2.2.2 h4
   rw [if_pos h4, if_neg h3, if_pos h4]
   obtain ⟨k', -, e⟩ := flat_loop (fun k acc i => spec_l06Indices.l1 k d acc i a l1 l2 l3 l4 ps) (fun _ acc => some acc) (ptG d ps) ps.length 1 10 1
    (by intro i hi; exact Nat.le_refl 1)
    (by intro k acc _; show spec_l06Indices.l1 (k + 1) d acc _ a l1 l2 l3 l4 ps = _; rw [spec_l06Indices.l1, if_neg (by omega)])
    (by
     intro k acc i hi hk ha
     obtain ⟨k, rfl⟩ : ∃ z, k = z + 1 := ⟨k - 1, by omega⟩
     refine ⟨k, by omega, ?_⟩
     show spec_l06Indices.l1 (k + 1) d acc _ a l1 l2 l3 l4 ps = _
     rw [spec_l06Indices.l1, if_pos (by omega), if_pos (by omega), idxF_spec d _ hd3 (hin i hi).1 k (by omega)]
     simp only [Option.bind_some]
     rw [if_pos (by omega), wrap_up i (by omega)]
     rfl)
    ps.length 0 k [] (by omega) (by omega) (by simp; omega)
   exact e
  · rw [if_neg h4]
    by_cases h3 : a = 3
    · rw [if_pos h3, if_pos h3, if_pos (by simp)]
      have := slab_ind_spec a d l1 l2 l3 l4 ps (dims_of h h3) hd3 d.length 0 k [0] (by omega) (by simpa using pow40 _ hd3) (by omega)
      exact this
    · rw [if_neg h3, if_neg h3, if_neg h4]
def BoxAt (a b : List Int) (i : Nat) : Prop := 0 ≤ rd a i ∧ rd a i < rd b i ∧ rd b i ≤ 40
instance (a b : List Int) (i : Nat) : Decidable (BoxAt a b i) := by unfold BoxAt; infer_instance
def VBox (a b : List Int) : Prop := a.length ≤ 3 ∧ b.length = a.length ∧ ∀ i, i < a.length → BoxAt a b i
instance (a b : List Int) : Decidable (VBox a b) := by unfold VBox; infer_instance
instance decS42 : DecidableEq S42 := fun a b =>
 if h0 : a.f0 = b.f0 then if h1 : a.f1 = b.f1 then isTrue (by cases a; cases b; cases h0; cases h1; rfl) else isFalse (fun h => h1 (by rw [h])) else isFalse (fun h => h0 (by rw [h]))
def inBx : List Int → List Int → List Int → Bool
 | a :: ah, b :: bs, x :: xs => (decide (a ≤ x) && decide (x < b)) && inBx ah bs xs
 | [], [], [] => true
 | _, _, _ => false
def mem (l : List S42) (p : List Int) : Bool := l.any fun b => inBx b.f0 b.f1 p
def inR (x : Int) (b : S42) : Bool := decide (rd b.f0 0 ≤ x ∧ x ≤ rd b.f1 0 - 1)
def cutB (b : S42) : S42 := ⟨b.f0.drop 1, b.f1.drop 1⟩
def secB (x : Int) (l : List S42) : List S42 := (l.filter (inR x)).map cutB
def VB (r : Nat) (b : S42) : Prop := b.f0.length = r ∧ b.f1.length = r ∧ ∀ i, i < r → BoxAt b.f0 b.f1 i
def VL (r : Nat) (l : List S42) : Prop := ∀ b ∈ l, VB r b
def pre (l : List S42) (a b : Int) : List S42 := l.map fun x => ⟨a :: x.f0, b :: x.f1⟩
def rle (f : Nat → List S42) : Nat → Nat → List S42 → List S42 → Int → List S42
 | 0, _, out, _, _ => out
 | d + 1, x, out, run, beg => if f x = run then rle f d (x + 1) out run beg else rle f d (x + 1) (out ++ pre run beg x) (f x) x
def NF : Nat → (List Int → Bool) → List S42
 | 0, P => if P [] = true then [⟨[], []⟩] else []
 | r + 1, P => rle (fun x => if x < 40 then NF r (fun p => P ((x : Int) :: p)) else []) 41 0 [] [] 0
theorem rd_cons0 (a : Int) (l : List Int) : rd (a :: l) 0 = a := rfl
theorem rd_consS (a : Int) (l : List Int) (i : Nat) : rd (a :: l) ((i + 1 : Nat) : Int) = rd l (i : Int) := by
 unfold rd
 rw [Int.toNat_natCast, Int.toNat_natCast]
 rfl
theorem VB_cons {r : Nat} {b : S42} (h : VB (r + 1) b) : ∃ a ah c cs, b = ⟨a :: ah, c :: cs⟩ ∧ (0 ≤ a ∧ a < c ∧ c ≤ 40) ∧ VB r ⟨ah, cs⟩ := by
 obtain ⟨f0, f1⟩ := b
 obtain ⟨h0, h1, h2⟩ := h
 obtain ⟨a, ah, rfl⟩ : ∃ a ah, f0 = a :: ah := by cases f0 with
  | nil => simp at h0
  | cons a ah => exact ⟨a, ah, rfl⟩
 obtain ⟨c, cs, rfl⟩ : ∃ a ah, f1 = a :: ah := by cases f1 with
  | nil => simp at h1
  | cons a ah => exact ⟨a, ah, rfl⟩
 refine ⟨a, ah, c, cs, rfl, h2 0 (by omega), by simpa using h0, by simpa using h1, fun i hi => ?_⟩
 have := h2 (i + 1) (by omega)
 unfold BoxAt at this ⊢
 simpa only [rd_consS] using this
theorem VL_cons {r : Nat} {b : S42} {l : List S42} : VL r (b :: l) ↔ VB r b ∧ VL r l := by
 unfold VL; simp
theorem sec_cons (x : Int) (b : S42) (l : List S42) : secB x (b :: l) = if inR x b = true then cutB b :: secB x l else secB x l := by
 unfold secB
 rw [List.filter_cons]
 split <;> simp
theorem sec_len (x : Int) (l : List S42) : (secB x l).length ≤ l.length := by
 unfold secB
 rw [List.length_map]
 exact List.length_filter_le _ _
theorem sec_VL {r : Nat} (x : Int) : ∀ {l : List S42}, VL (r + 1) l → VL r (secB x l)
 | [], _ => by simp [secB, VL]
 | b :: l, h => by
  obtain ⟨h1, h2⟩ := VL_cons.1 h
  obtain ⟨a, ah, c, cs, rfl, -, h5⟩ := VB_cons h1
  rw [sec_cons]
  split
  · exact VL_cons.2 ⟨h5, sec_VL x h2⟩
  · exact sec_VL x h2
theorem mem_cons (b : S42) (l : List S42) (p : List Int) : mem (b :: l) p = (inBx b.f0 b.f1 p || mem l p) := rfl
theorem sec_mem {r : Nat} (x : Int) (p : List Int) : ∀ {l : List S42}, VL (r + 1) l → mem (secB x l) p = mem l (x :: p)
 | [], _ => rfl
 | b :: l, h => by
  obtain ⟨h1, h2⟩ := VL_cons.1 h
  obtain ⟨a, ah, c, cs, rfl, h4, h5⟩ := VB_cons h1
  rw [sec_cons, mem_cons, ← sec_mem x p h2]
  show _ = (((decide (a ≤ x) && decide (x < c)) && inBx ah cs p) || _)
  by_cases hx : a ≤ x ∧ x ≤ c - 1
  · rw [if_pos (show inR x ⟨a :: ah, c :: cs⟩ = true from decide_eq_true hx), mem_cons]
    have e1 : decide (a ≤ x) = true := decide_eq_true hx.1
    have e2 : decide (x < c) = true := decide_eq_true (by omega)
    rw [e1, e2]
    rfl
  · rw [if_neg (show ¬ inR x ⟨a :: ah, c :: cs⟩ = true from fun e => hx (of_decide_eq_true e))]
    have e : (decide (a ≤ x) && decide (x < c)) = false := by
     rw [Bool.and_eq_false_iff, decide_eq_false_iff_not, decide_eq_false_iff_not]; omega
    rw [e]
    simp
theorem mem_zero : ∀ {l : List S42}, VL 0 l → mem l [] = decide (0 < l.length)
 | [], _ => rfl
 | b :: l, h => by
  obtain ⟨h1, h2⟩ := VL_cons.1 h
  obtain ⟨f0, f1⟩ := b
  have e0 : f0 = [] := List.length_eq_zero_iff.1 h1.1
  have e1 : f1 = [] := List.length_eq_zero_iff.1 h1.2.1
  subst e0; subst e1
  simp [mem, inBx]
theorem pre_nil (a b : Int) : pre [] a b = [] := rfl
theorem pre_len (l : List S42) (a b : Int) : (pre l a b).length = l.length := by unfold pre; rw [List.length_map]
theorem rle_len (f : Nat → List S42) (M : Nat) (hf : ∀ x, (f x).length ≤ M) : ∀ (d x : Nat) (out run : List S42) (beg : Int), run.length ≤ M → (rle f d x out run beg).length ≤ out.length + d * M := by
 intro d
 induction d with
 | zero => intro x out run beg _; simp [rle]
 | succ d ih =>
  intro x out run beg h
  have e : (d + 1) * M = d * M + M := by rw [Nat.add_mul, Nat.one_mul]
  unfold rle
  split
  · have := ih (x + 1) out run beg h; omega
  · have := ih (x + 1) (out ++ pre run beg x) (f x) x (hf x)
    rw [List.length_append, pre_len] at this
    omega
theorem NF_len : ∀ (r : Nat) (P : List Int → Bool), (NF r P).length ≤ 41 ^ r
 | 0, P => by unfold NF; split <;> simp
 | r + 1, P => by
  unfold NF
  have := rle_len (fun x => if x < 40 then NF r (fun p => P ((x : Int) :: p)) else []) (41 ^ r) (fun x => by
   show (if x < 40 then NF r (fun p => P ((x : Int) :: p)) else []).length ≤ _
   split
   · exact NF_len r _
   · simp) 41 0 [] [] 0 (by simp)
  simp only [List.length_nil, Nat.zero_add] at this
  rw [Nat.pow_succ, Nat.mul_comm]
  exact this
def Rows (r : Nat) (l : List S42) : Prop := ∀ b ∈ l, b.f0.length = r ∧ b.f1.length = r
theorem rows_nil (r : Nat) : Rows r [] := fun _ h => by cases h
theorem rows_app {r : Nat} {l m : List S42} (h : Rows r l) (h' : Rows r m) : Rows r (l ++ m) := fun b hb => by
 rcases List.mem_append.1 hb with hb | hb
 · exact h b hb
 · exact h' b hb
theorem rows_pre {r : Nat} {l : List S42} (h : Rows r l) (a b : Int) : Rows (r + 1) (pre l a b) := fun x hx => by
 obtain ⟨y, hy, rfl⟩ := List.mem_map.1 hx
 have := h y hy
 exact ⟨by simp [this.1], by simp [this.2]⟩
theorem rle_rows (f : Nat → List S42) (r : Nat) (hf : ∀ x, Rows r (f x)) : ∀ (d x : Nat) (out run : List S42) (beg : Int), Rows (r + 1) out → Rows r run → Rows (r + 1) (rle f d x out run beg) := by
 intro d
 induction d with
 | zero => intro x out run beg h _; exact h
 | succ d ih =>
  intro x out run beg h h'
  unfold rle
  split
  · exact ih _ _ _ _ h h'
  · exact ih _ _ _ _ (rows_app h (rows_pre h' _ _)) (hf x)
theorem NF_rows : ∀ (r : Nat) (P : List Int → Bool), Rows r (NF r P)
 | 0, P => by
  unfold NF
  split
  · intro b hb; rw [List.mem_singleton.1 hb]; exact ⟨rfl, rfl⟩
  · exact rows_nil 0
 | r + 1, P => by
  unfold NF
  refine rle_rows _ r (fun x => ?_) 41 0 [] [] 0 (rows_nil _) (rows_nil _)
  show Rows r (if x < 40 then NF r (fun p => P ((x : Int) :: p)) else [])
  split
  · exact NF_rows r _
  · exact rows_nil _
theorem rle_nil (f : Nat → List S42) (hf : ∀ x, f x = []) : ∀ (d x : Nat) (out : List S42) (beg : Int), rle f d x out [] beg = out := by
 intro d
 induction d with
 | zero => intro x out beg; rfl
 | succ d ih => intro x out beg; unfold rle; rw [if_pos (hf x)]; exact ih _ _ _
theorem NF_false : ∀ (r : Nat), NF r (fun _ => false) = []
 | 0 => rfl
 | r + 1 => by
  unfold NF
  exact rle_nil _ (fun x => by
   show (if x < 40 then NF r (fun _ => false) else []) = []
   rw [NF_false r]; split <;> rfl) 41 0 [] 0
theorem mem_ge {l : List S42} {r : Nat} (h : VL (r + 1) l) (c : Int) (hc : ∀ b ∈ l, rd b.f1 0 ≤ c) (p : List Int) (x : Int) (hx : c ≤ x) : mem l (x :: p) = false := by
 unfold mem
 rw [List.any_eq_false]
 intro b hb
 obtain ⟨a, ah, e, es, rfl, h4, h5⟩ := VB_cons (h b hb)
 have := hc _ hb
 rw [show rd (S42.mk (a :: ah) (e :: es)).f1 0 = e from rfl] at this
 show ¬ ((decide (a ≤ x) && decide (x < e)) && inBx ah es p) = true
 rw [show decide (x < e) = false from decide_eq_false (by omega)]
 simp
theorem rd_at (l : List S42) (i : Nat) (h : i < l.length) : rd_T42 l (i : Int) = l[i] := getD_lt l z42 i h
theorem drop_at {α : Type} (l : List α) (i : Nat) (h : i < l.length) : l.drop i = l[i] :: l.drop (i + 1) := List.drop_eq_getElem_cons h
theorem same_eq (l m : List S42) (hlm : l.length = m.length) : (∀ i, i < l.length → (rd_T42 l (i : Int)).f0 = (rd_T42 m (i : Int)).f0 ∧ (rd_T42 l (i : Int)).f1 = (rd_T42 m (i : Int)).f1) ↔ l = m := by
 constructor
 ·
  intro h
  apply List.ext_getElem hlm
  intro i h1 h2
  have := h i h1
  rw [rd_at l i h1, rd_at m i h2] at this
  generalize l[i] = a at this; generalize m[i] = b at this
  obtain ⟨a0, a1⟩ := a; obtain ⟨b0, b1⟩ := b
  obtain ⟨rfl, rfl⟩ := this
  rfl
 · rintro rfl i _; exact ⟨rfl, rfl⟩
theorem same_impl (r : Nat) (hr : r ≤ 3) (l m : List S42) (hl : l.length ≤ 1048576) (hR : Rows r l) (k : Nat) (hk : 3000000 ≤ k) : impl_SameBoxes.f k l m = some (decide (l = m)) := by
 unfold impl_SameBoxes.f slices_EqualFunc_impl_sameBox.f
 by_cases h1 : l.length = m.length
 ·
  rw [if_pos (by omega), all_loop (fun k i => slices_EqualFunc_impl_sameBox.l0 k m l l.length i) (fun i => (rd_T42 l (i : Int)).f0 = (rd_T42 m (i : Int)).f0 ∧ (rd_T42 l (i : Int)).f1 = (rd_T42 m (i : Int)).f1) l.length 1048590 true
   (by intro k _; show slices_EqualFunc_impl_sameBox.l0 (k + 1) m l _ _ = _; rw [slices_EqualFunc_impl_sameBox.l0, if_neg (by omega)])
   (by
    intro k i hk hi
    show slices_EqualFunc_impl_sameBox.l0 (k + 1) m l _ _ = _
    have hq : (rd_T42 l (i : Int)).f0.length = r ∧ (rd_T42 l (i : Int)).f1.length = r := by rw [rd_at l i hi]; exact hR _ (List.getElem_mem hi)
    rw [slices_EqualFunc_impl_sameBox.l0, if_pos (by omega), if_pos (by omega), if_pos (by omega), if_pos (by omega), wrap_up i (by omega)]
    unfold impl_sameBox.f
    rw [slices_Equal_int64_int64_is k _ _ (by omega) hk, slices_Equal_int64_int64_is k _ _ (by omega) hk]
    simp only [Option.bind_some, decide_eq_true_eq]
    by_cases h0 : (rd_T42 l (i : Int)).f0 = (rd_T42 m (i : Int)).f0
    · rw [if_pos h0]
      simp only [Option.bind_some, decide_eq_true_eq]
      by_cases h2 : (rd_T42 l (i : Int)).f1 = (rd_T42 m (i : Int)).f1
      · rw [if_pos h2, if_pos ⟨h0, h2⟩]
      · rw [if_neg h2, if_neg (fun h => h2 h.2)]
    · rw [if_neg h0]
      simp only [Option.bind_some, Bool.false_eq_true, if_false]
      rw [if_neg (fun h => h0 h.1)])
   k (by omega)]
  simp only [Bool.and_true, Option.bind_some]
  congr 1
  exact decide_eq_decide.2 (same_eq l m h1)
 · rw [if_neg (by omega), decide_eq_false (fun h => h1 (by rw [h]))]
   rfl
theorem section_impl {r : Nat} (l : List S42) (x : Int) (h : VL (r + 1) l) (hl : l.length ≤ 1048576) (k : Nat) (hk : l.length < k) : impl_section.f k l x = some (secB x l) := by
 have key : ∀ (d i k : Nat) (out : List S42), i + d = l.length → out.length ≤ i → d < k → impl_section.l0 k x out l (l.length : Int) (i : Int) = some (out ++ secB x (l.drop i)) := by
  intro d
  induction d with
  | zero =>
   intro i k out hi ho hk
   obtain ⟨k, rfl⟩ : ∃ m, k = m + 1 := ⟨k - 1, by omega⟩
   rw [impl_section.l0, if_neg (by omega), List.drop_eq_nil_of_le (by omega)]
   simp [secB]
  | succ d ih =>
   intro i k out hi ho hk
   obtain ⟨k, rfl⟩ : ∃ m, k = m + 1 := ⟨k - 1, by omega⟩
   have hil : i < l.length := by omega
   obtain ⟨a, ah, c, cs, e, h4, h5⟩ := VB_cons (h _ (List.getElem_mem hil))
   rw [impl_section.l0, if_pos (by omega), if_pos (by omega), if_pos (by omega), rd_at l i hil, drop_at l i hil, sec_cons, e]
   have hwc : wrap64 (c - 1) = c - 1 := wrap64_id (by omega) (by omega)
   rw [if_pos (by simp), if_pos (by simp), within_eq, wrap_up i (by omega)]
   simp only [Option.bind_some, rd_cons0, decide_eq_true_eq, hwc]
   by_cases hx : a ≤ x ∧ x ≤ c - 1
   · rw [if_pos hx, if_pos (by simp; omega), if_pos (by simp; omega), if_pos (by omega), if_pos (show inR x ⟨a :: ah, c :: cs⟩ = true from decide_eq_true hx)]
     rw [ih (i + 1) k _ (by omega) (by simp; omega) (by omega), List.append_assoc]
     rfl
   · rw [if_neg hx, if_neg (show ¬ inR x ⟨a :: ah, c :: cs⟩ = true from fun e => hx (of_decide_eq_true e))]
     exact ih (i + 1) k _ (by omega) (by omega) (by omega)
 unfold impl_section.f
 have := key l.length 0 k [] (by omega) (by simp) hk
 simpa using this
theorem concat_impl (x : Int) (l : List Int) (hl : l.length ≤ 1000) (k : Nat) (hk : 10 ≤ k) : slices_Concat_int64_int64.f k [[x], l] = some (x :: l) := by
 obtain ⟨k, rfl⟩ : ∃ m, k = m + 6 := ⟨k - 6, by omega⟩
 have e0 : rd_L1 [[x], l] 0 = [x] := rfl
 have e1 : rd_L1 [[x], l] 1 = l := rfl
 have hw : wrap64 (1 + (l.length : Int)) = 1 + (l.length : Int) := by unfold wrap64; omega
 have z1 : wrap64 (0 + 1) = 1 := by unfold wrap64; omega
 have z2 : wrap64 (1 + 1) = 2 := by unfold wrap64; omega
 have hn : (([[x], l] : List (List Int)).length : Int) = 2 := rfl
 have h1 : (([x] : List Int).length : Int) = 1 := rfl
 unfold slices_Concat_int64_int64.f
 rw [hn, slices_Concat_int64_int64.l0, if_pos (by omega), if_pos (by omega), if_pos (by omega), e0, h1, z1, if_neg (by omega)]
 rw [slices_Concat_int64_int64.l0, if_pos (by omega), if_pos (by omega), if_pos (by omega), e1, hw, if_neg (by omega), z2]
 rw [slices_Concat_int64_int64.l0, if_neg (by omega)]
 show (Option.bind (if 0 ≤ 1 + (l.length : Int) ∧ 1 + (l.length : Int) ≤ 1073741824 then some [] else none) _) = _
 rw [if_pos (by omega)]
 simp only [Option.bind_some]
 rw [hn, slices_Concat_int64_int64.l1, if_pos (by omega), if_pos (by omega), if_pos (by omega), e0, if_pos (by simp), z1]
 rw [slices_Concat_int64_int64.l1, if_pos (by omega), if_pos (by omega), if_pos (by omega), e1, if_pos (by simp; omega), z2]
 rw [slices_Concat_int64_int64.l1, if_neg (by omega)]
 rfl
theorem prefixed_impl {r : Nat} (hr : r ≤ 3) (l : List S42) (a b : Int) (hR : Rows r l) (hl : l.length ≤ 1048576) (k : Nat) (hk : l.length + 10 < k) : impl_prefixed.f k l a b = some (pre l a b) := by
 have key : ∀ (d i k : Nat) (out : List S42), i + d = l.length → out.length ≤ i → d + 10 < k → impl_prefixed.l0 k a b out l (l.length : Int) (i : Int) = some (out ++ pre (l.drop i) a b) := by
  intro d
  induction d with
  | zero =>
   intro i k out hi ho hk
   obtain ⟨k, rfl⟩ : ∃ m, k = m + 1 := ⟨k - 1, by omega⟩
   rw [impl_prefixed.l0, if_neg (by omega), List.drop_eq_nil_of_le (by omega)]
   simp [pre]
  | succ d ih =>
   intro i k out hi ho hk
   obtain ⟨k, rfl⟩ : ∃ m, k = m + 1 := ⟨k - 1, by omega⟩
   have hil : i < l.length := by omega
   have hq := hR _ (List.getElem_mem hil)
   rw [impl_prefixed.l0, if_pos (by omega), if_pos (by omega), if_pos (by omega), rd_at l i hil, drop_at l i hil]
   rw [concat_impl a _ (by omega) k (by omega), concat_impl b _ (by omega) k (by omega), wrap_up i (by omega)]
   simp only [Option.bind_some]
   rw [if_pos (by omega), ih (i + 1) k _ (by omega) (by simp; omega) (by omega), List.append_assoc]
   rfl
 unfold impl_prefixed.f
 have := key l.length 0 k [] (by omega) (by simp) hk
 simpa using this
def wo (x y : Bool) : Bool := x && !y
theorem comb_either : ∀ (r : Nat), r ≤ 3 → ∀ (a b : List S42), VL r a → VL r b → a.length ≤ 1048576 → b.length ≤ 1048576 → ∀ k, 3000010 + 200 * r ≤ k → impl_combined_impl_either.f k r a b = some (NF r fun p => or (mem a p) (mem b p)) := by
 have hop : ∀ x y : Bool, impl_either.f x y = some (or x y) := by intro x y; cases x <;> cases y <;> rfl
 intro r
 induction r with
 | zero =>
  intro _ a b ha hb hla hlb k hk
  obtain ⟨k, rfl⟩ : ∃ m, k = m + 1 := ⟨k - 1, by omega⟩
  have e1 : decide ((a.length : Int) > 0) = mem a [] := by rw [mem_zero ha]; exact decide_eq_decide.2 (by omega)
  have e2 : decide ((b.length : Int) > 0) = mem b [] := by rw [mem_zero hb]; exact decide_eq_decide.2 (by omega)
  rw [impl_combined_impl_either.f, if_pos (by rfl), hop, e1, e2]
  simp only [Option.bind_some, NF]
  split <;> rfl
 | succ r ih =>
  intro hr a b ha hb hla hlb k hk
  obtain ⟨k, rfl⟩ : ∃ m, k = m + 1 := ⟨k - 1, by omega⟩
  have hM : ∀ P, (NF r P).length ≤ 68921 := fun P => Nat.le_trans (NF_len r P) (by
   have : r = 0 ∨ r = 1 ∨ r = 2 := by omega
   rcases this with rfl | rfl | rfl <;> decide)
  have loop : ∀ (d x k : Nat) (out run : List S42) (beg : Int), x + d = 41 → out.length ≤ x * 68921 → run.length ≤ 68921 → Rows r run → 3000010 + 200 * r + 3 * d < k →
   impl_combined_impl_either.l0 k ((r + 1 : Nat) : Int) a b out run beg (x : Int) = some (rle (fun x => if x < 40 then NF r (fun p => or (mem a ((x : Int) :: p)) (mem b ((x : Int) :: p))) else []) d x out run beg) := by
   intro d
   induction d with
   | zero =>
    intro x k out run beg hx ho hrun hrows hk
    obtain ⟨k, rfl⟩ : ∃ m, k = m + 1 := ⟨k - 1, by omega⟩
    rw [impl_combined_impl_either.l0, if_neg (by omega)]
    rfl
   | succ d ihd =>
    intro x k out run beg hx ho hrun hrows hk
    obtain ⟨k, rfl⟩ : ∃ m, k = m + 2 := ⟨k - 2, by omega⟩
    have hj : ∀ now : List S42, now = (if x < 40 then NF r (fun p => or (mem a ((x : Int) :: p)) (mem b ((x : Int) :: p))) else []) → impl_combined_impl_either.j2 (k + 1) ((r + 1 : Nat) : Int) a b out run beg (x : Int) now (x : Int) = some (rle (fun x => if x < 40 then NF r (fun p => or (mem a ((x : Int) :: p)) (mem b ((x : Int) :: p))) else []) (d + 1) x out run beg) := by
     intro now hnow
     have hn1 : now.length ≤ 68921 := by rw [hnow]; split; exact hM _; simp
     have hn2 : Rows r now := by rw [hnow]; split; exact NF_rows _ _; exact rows_nil _
     rw [impl_combined_impl_either.j2, same_impl r (by omega) now run (by omega) hn2 k (by omega), wrap_up x (by omega)]
     simp only [Option.bind_some, decide_eq_true_eq]
     unfold rle
     rw [← hnow]
     by_cases he : now = run
     · rw [if_pos he, if_pos he]
       exact ihd (x + 1) k out run beg (by omega) (Nat.le_trans ho (Nat.mul_le_mul_right _ (Nat.le_succ x))) hrun hrows (by omega)
     · rw [if_neg he, if_neg he, prefixed_impl (by omega : r ≤ 3) run beg x hrows (by omega) k (by omega)]
       simp only [Option.bind_some]
       have hpl := pre_len run beg x
       have hxm : x * 68921 ≤ 41 * 68921 := Nat.mul_le_mul_right 68921 (by omega)
       rw [if_pos (by rw [hpl]; omega)]
       exact ihd (x + 1) k _ now x (by omega) (by rw [List.length_append, hpl, Nat.add_mul]; omega) hn1 hn2 (by omega)
    rw [impl_combined_impl_either.l0, if_pos (by omega)]
    by_cases h40 : x < 40
    ·
     rw [if_pos (by omega), section_impl a x ha (by omega) (k + 1) (by omega), section_impl b x hb (by omega) (k + 1) (by omega)]
     simp only [Option.bind_some]
     rw [show wrap64 (((r + 1 : Nat) : Int) - 1) = (r : Int) by unfold wrap64; omega]
     rw [ih (by omega) _ _ (sec_VL x ha) (sec_VL x hb) (Nat.le_trans (sec_len _ _) hla) (Nat.le_trans (sec_len _ _) hlb) (k + 1) (by omega)]
     simp only [Option.bind_some]
     refine hj _ ?_
     rw [if_pos h40]
     congr 1
     funext p
     rw [sec_mem _ _ ha, sec_mem _ _ hb]
    · rw [if_neg (by omega)]
      exact hj _ (by rw [if_neg h40])
  have start : ∀ t : Bool, (t = true → a = [] ∧ b = []) → impl_combined_impl_either.j0 k ((r + 1 : Nat) : Int) a b t = some (NF (r + 1) fun p => or (mem a p) (mem b p)) := by
   intro t ht
   obtain ⟨k, rfl⟩ : ∃ m, k = m + 1 := ⟨k - 1, by omega⟩
   rw [impl_combined_impl_either.j0]
   cases t with
   | true =>
    obtain ⟨rfl, rfl⟩ := ht rfl
    rw [if_pos rfl]
    exact congrArg some (NF_false (r + 1)).symm
   | false =>
    rw [if_neg (by decide)]
    exact loop 41 0 k [] [] 0 (by omega) (by simp) (by simp) (rows_nil _) (by omega)
  rw [impl_combined_impl_either.f, if_neg (by omega)]
  by_cases h0 : (a.length : Int) = 0
  · rw [if_pos h0]
    exact start _ (fun h => ⟨List.length_eq_zero_iff.1 (by omega), List.length_eq_zero_iff.1 (by have := eq_of_beq h; omega)⟩)
  · rw [if_neg h0]
    exact start _ (fun h => by cases h)
theorem spec_l00Same_is (k : Nat) (a b : List Int) (hl : a.length ≤ 1048576) (hk : 1048590 ≤ k) : spec_l00Same.f k a b = some (decide (a = b)) := by
 unfold spec_l00Same.f
 by_cases hn : (a.length : Int) = (b.length : Int)
 ·
  rw [if_pos hn, seq_loop (fun k i => spec_l00Same.l0 k a b i) (fun i => rd a (i : Int) = rd b (i : Int)) a.length
   (by intro k; show spec_l00Same.l0 (k + 1) a b _ = _; rw [spec_l00Same.l0, if_neg (by omega)])
   (by
    intro k i hi
    show spec_l00Same.l0 (k + 1) a b _ = _
    rw [spec_l00Same.l0]
    repeat rw [if_pos (show (i : Int) < (a.length : Int) by omega)]
    repeat rw [if_pos (show (0 : Int) ≤ (i : Int) by omega)]
    repeat rw [if_pos (show (i : Int) < (a.length : Int) by omega)]
    repeat rw [if_pos (show (i : Int) < (b.length : Int) by omega)]
    rw [wrap_up i (by omega)])
   k (by omega)]
  have hb : a.length = b.length := by omega
  congr 1
  apply decide_eq_decide.2
  constructor
  · intro h
    apply List.ext_getElem hb
    intro i h1 h2
    have := h i h1
    rwa [rd_lt a i h1, rd_lt b i h2] at this
  · rintro rfl i _
    rfl
 · rw [if_neg hn, decide_eq_false]
   rintro rfl
   exact hn rfl
def insL (n : Int) : List Int → List Int
 | [] => [n]
 | y :: ys => if y ≥ n then (if y > n then n :: y :: ys else y :: ys) else y :: insL n ys
theorem ins_mem (n x : Int) : ∀ l : List Int, x ∈ insL n l ↔ x = n ∨ x ∈ l
 | [] => by simp [insL]
 | y :: ys => by
  unfold insL
  have ih := ins_mem n x ys
  split
  · split
    · simp
    · have : y = n := by omega
      subst this
      simp
  ·
   simp only [List.mem_cons, ih]
   constructor
   · rintro (h | h | h)
     · exact .inr (.inl h)
     · exact .inl h
     · exact .inr (.inr h)
   · rintro (h | h | h)
     · exact .inr (.inl h)
     · exact .inl h
     · exact .inr (.inr h)
theorem ins_sorted (n : Int) : ∀ {l : List Int}, l.Pairwise (· < ·) → (insL n l).Pairwise (· < ·)
 | [], _ => by simp [insL]
 | y :: ys, h => by
  unfold insL
  have h1 := List.pairwise_cons.1 h
  split
  · split
    · refine List.pairwise_cons.2 ⟨fun z hz => ?_, h⟩
      rcases List.mem_cons.1 hz with rfl | hz
      · omega
      · have := h1.1 z hz; omega
    · exact h
  · refine List.pairwise_cons.2 ⟨fun z hz => ?_, ins_sorted n h1.2⟩
    rcases (ins_mem n z ys).1 hz with rfl | hz
    · omega
    · exact h1.1 z hz
theorem ins_len (n : Int) : ∀ l : List Int, (insL n l).length ≤ l.length + 1
 | [] => by simp [insL]
 | y :: ys => by
  unfold insL
  have := ins_len n ys
  split
  · split <;> simp
  · simp; omega
theorem dropi (l : List Int) (i : Nat) (h : i < l.length) : l.drop i = rd l (i : Int) :: l.drop (i + 1) := by rw [rd_lt l i h]; exact List.drop_eq_getElem_cons h
theorem put_spec (l : List Int) (n : Int) (hl : l.length ≤ 1048576) (k : Nat) (hk : 2 * l.length + 2 < k) : spec_l00Put.f k l n = some (insL n l) := by
 have done : ∀ (d i k : Nat) (out : List Int), i + d = l.length → out.length ≤ i + 1 → 2 * d < k → spec_l00Put.l0 k l n out true (i : Int) = some (out ++ l.drop i) := by
  intro d
  induction d with
  | zero =>
   intro i k out hi ho hk
   obtain ⟨k, rfl⟩ : ∃ m, k = m + 1 := ⟨k - 1, by omega⟩
   rw [spec_l00Put.l0, if_neg (by omega), if_pos rfl, List.drop_eq_nil_of_le (by omega), List.append_nil]
  | succ d ih =>
   intro i k out hi ho hk
   obtain ⟨k, rfl⟩ : ∃ m, k = m + 2 := ⟨k - 2, by omega⟩
   rw [spec_l00Put.l0, if_pos (by omega), if_pos rfl, spec_l00Put.j1, if_neg (by decide), if_pos (by omega), if_pos (by omega), if_pos (by omega), wrap_up i (by omega), ih (i + 1) k _ (by omega) (by simp; omega) (by omega), dropi l i (by omega), List.append_assoc]
   rfl
 have todo : ∀ (d i k : Nat) (out : List Int), i + d = l.length → out.length ≤ i → 2 * d < k → spec_l00Put.l0 k l n out false (i : Int) = some (out ++ insL n (l.drop i)) := by
  intro d
  induction d with
  | zero =>
   intro i k out hi ho hk
   obtain ⟨k, rfl⟩ : ∃ m, k = m + 1 := ⟨k - 1, by omega⟩
   rw [spec_l00Put.l0, if_neg (by omega), if_neg (by decide), if_pos (by omega), List.drop_eq_nil_of_le (by omega)]
   rfl
  | succ d ih =>
   intro i k out hi ho hk
   obtain ⟨k, rfl⟩ : ∃ m, k = m + 2 := ⟨k - 2, by omega⟩
   rw [spec_l00Put.l0, if_pos (by omega), if_neg (by decide), if_pos (by omega), spec_l00Put.j1, dropi l i (by omega)]
   unfold insL
   by_cases h1 : rd l (i : Int) ≥ n
   ·
    rw [if_pos (decide_eq_true h1), if_pos h1, if_pos (by omega), if_pos (by omega)]
    by_cases h2 : rd l (i : Int) > n
    · rw [if_pos h2, if_pos h2, if_pos (by omega)]
      simp only [Option.bind_some]
      rw [if_pos (by simp; omega), wrap_up i (by omega), done d (i + 1) k _ (by omega) (by simp; omega) (by omega)]
      simp
    · rw [if_neg h2, if_neg h2, if_pos (by omega), wrap_up i (by omega), done d (i + 1) k _ (by omega) (by simp; omega) (by omega)]
      simp
   · rw [if_neg (by simpa using h1), if_neg h1, if_pos (by omega), if_pos (by omega), if_pos (by omega), wrap_up i (by omega), ih (i + 1) k _ (by omega) (by simp; omega) (by omega)]
     simp
 unfold spec_l00Put.f
 have := todo l.length 0 k [] (by omega) (by simp) (by omega)
 simpa using this
def cutsL : List Int → List S42 → List Int
 | c, [] => c
 | c, b :: l => cutsL (insL (rd b.f1 0) (insL (rd b.f0 0) c)) l
theorem cuts_mem (x : Int) : ∀ (l : List S42) (c : List Int), x ∈ cutsL c l ↔ x ∈ c ∨ ∃ b ∈ l, x = rd b.f0 0 ∨ x = rd b.f1 0
 | [], c => by simp [cutsL]
 | b :: l, c => by
  unfold cutsL
  rw [cuts_mem x l, ins_mem, ins_mem]
  constructor
  · rintro ((h | h | h) | ⟨z, h1, h2⟩)
    · exact .inr ⟨b, List.mem_cons_self, .inr h⟩
    · exact .inr ⟨b, List.mem_cons_self, .inl h⟩
    · exact .inl h
    · exact .inr ⟨z, List.mem_cons_of_mem _ h1, h2⟩
  ·
   rintro (h | ⟨z, h1, h2⟩)
   · exact .inl (.inr (.inr h))
   · rcases List.mem_cons.1 h1 with rfl | h1
     · rcases h2 with h2 | h2
       · exact .inl (.inr (.inl h2))
       · exact .inl (.inl h2)
     · exact .inr ⟨z, h1, h2⟩
theorem cuts_sorted : ∀ (l : List S42) (c : List Int), c.Pairwise (· < ·) → (cutsL c l).Pairwise (· < ·)
 | [], _, h => h
 | b :: l, c, h => cuts_sorted l _ (ins_sorted _ (ins_sorted _ h))
theorem cuts_len : ∀ (l : List S42) (c : List Int), (cutsL c l).length ≤ c.length + 2 * l.length
 | [], _ => by simp [cutsL]
 | b :: l, c => by
  unfold cutsL
  have := cuts_len l (insL (rd b.f1 0) (insL (rd b.f0 0) c))
  have h1 := ins_len (rd b.f1 0) (insL (rd b.f0 0) c)
  have h2 := ins_len (rd b.f0 0) c
  simp only [List.length_cons]
  omega
theorem cuts_spec {r : Nat} (l : List S42) (h : VL (r + 1) l) (hl : l.length ≤ 100000) : ∀ (d i k : Nat) (c : List Int), i + d = l.length → c.length + 2 * d ≤ 400000 → 1000000 + d < k → spec_l07Cuts.l0 k c l (i : Int) = some (cutsL c (l.drop i)) := by
 intro d
 induction d with
 | zero =>
  intro i k c hi hc hk
  obtain ⟨k, rfl⟩ : ∃ m, k = m + 1 := ⟨k - 1, by omega⟩
  rw [spec_l07Cuts.l0, if_neg (by omega), List.drop_eq_nil_of_le (by omega)]
  rfl
 | succ d ih =>
  intro i k c hi hc hk
  obtain ⟨k, rfl⟩ : ∃ m, k = m + 1 := ⟨k - 1, by omega⟩
  have hil : i < l.length := by omega
  have hq := h _ (List.getElem_mem hil)
  have h1 := ins_len (rd l[i].f0 0) c
  have h2 := ins_len (rd l[i].f1 0) (insL (rd l[i].f0 0) c)
  rw [spec_l07Cuts.l0, if_pos (by omega), if_pos (by omega), rd_at l i hil, if_pos (by rw [hq.1]; omega), put_spec c _ (by omega) k (by omega)]
  simp only [Option.bind_some]
  rw [if_pos (by rw [hq.2.1]; omega), put_spec _ _ (by omega) k (by omega)]
  simp only [Option.bind_some]
  rw [wrap_up i (by omega), ih (i + 1) k _ (by omega) (by omega) (by omega), drop_at l i hil]
  rfl
theorem cross_spec {r : Nat} (l : List S42) (x : Int) (h : VL (r + 1) l) (hl : l.length ≤ 1048576) (k : Nat) (hk : l.length < k) : spec_l07Cross.f k l x = some (secB x l) := by
 have key : ∀ (d i k : Nat) (out : List S42), i + d = l.length → out.length ≤ i → d < k → spec_l07Cross.l0 k l x out (i : Int) = some (out ++ secB x (l.drop i)) := by
  intro d
  induction d with
  | zero =>
   intro i k out hi ho hk
   obtain ⟨k, rfl⟩ : ∃ m, k = m + 1 := ⟨k - 1, by omega⟩
   rw [spec_l07Cross.l0, if_neg (by omega), List.drop_eq_nil_of_le (by omega)]
   simp [secB]
  | succ d ih =>
   intro i k out hi ho hk
   obtain ⟨k, rfl⟩ : ∃ m, k = m + 1 := ⟨k - 1, by omega⟩
   have hil : i < l.length := by omega
   obtain ⟨a, ah, c, cs, e, h4, h5⟩ := VB_cons (h _ (List.getElem_mem hil))
   rw [spec_l07Cross.l0, if_pos (by omega), if_pos (by omega), rd_at l i hil, drop_at l i hil, sec_cons, e]
   have hwc : wrap64 (c - 1) = c - 1 := wrap64_id (by omega) (by omega)
   rw [if_pos (by simp), if_pos (by simp), in_eq, wrap_up i (by omega)]
   simp only [Option.bind_some, rd_cons0, decide_eq_true_eq, hwc]
   by_cases hx : a ≤ x ∧ x ≤ c - 1
   · rw [if_pos hx, if_pos (by simp; omega), if_pos (by simp; omega), if_pos (by omega), if_pos (show inR x ⟨a :: ah, c :: cs⟩ = true from decide_eq_true hx)]
     rw [ih (i + 1) k _ (by omega) (by simp; omega) (by omega), List.append_assoc]
     rfl
   · rw [if_neg hx, if_neg (show ¬ inR x ⟨a :: ah, c :: cs⟩ = true from fun e => hx (of_decide_eq_true e))]
     exact ih (i + 1) k _ (by omega) (by omega) (by omega)
 unfold spec_l07Cross.f
 have := key l.length 0 k [] (by omega) (by simp) hk
 simpa using this
theorem same_spec (r : Nat) (hr : r ≤ 3) (l m : List S42) (hl : l.length ≤ 1048576) (hR : Rows r l) (k : Nat) (hk : 3000000 ≤ k) : spec_l07Same.f k l m = some (decide (l = m)) := by
 unfold spec_l07Same.f
 by_cases h1 : l.length = m.length
 ·
  rw [if_pos (by omega), all_loop (fun k i => spec_l07Same.l0 k l m i) (fun i => (rd_T42 l (i : Int)).f0 = (rd_T42 m (i : Int)).f0 ∧ (rd_T42 l (i : Int)).f1 = (rd_T42 m (i : Int)).f1) l.length 1048590 true
   (by intro k _; show spec_l07Same.l0 (k + 1) l m _ = _; rw [spec_l07Same.l0, if_neg (by omega)])
   (by
    intro k i hk hi
    show spec_l07Same.l0 (k + 1) l m _ = _
    have hq : (rd_T42 l (i : Int)).f0.length = r ∧ (rd_T42 l (i : Int)).f1.length = r := by rw [rd_at l i hi]; exact hR _ (List.getElem_mem hi)
    rw [spec_l07Same.l0, if_pos (by omega), if_pos (by omega), if_pos (by omega), wrap_up i (by omega)]
    unfold spec_l07SameBox.f
    rw [spec_l00Same_is k _ _ (by omega) hk, spec_l00Same_is k _ _ (by omega) hk]
    simp only [Option.bind_some, decide_eq_true_eq]
    by_cases h0 : (rd_T42 l (i : Int)).f0 = (rd_T42 m (i : Int)).f0
    · rw [if_pos h0]
      simp only [Option.bind_some, decide_eq_true_eq]
      by_cases h2 : (rd_T42 l (i : Int)).f1 = (rd_T42 m (i : Int)).f1
      · rw [if_pos h2, if_pos ⟨h0, h2⟩]
      · rw [if_neg h2, if_neg (fun h => h2 h.2)]
    · rw [if_neg h0]
      simp only [Option.bind_some, Bool.false_eq_true, if_false]
      rw [if_neg (fun h => h0 h.1)])
   k (by omega)]
  simp only [Bool.and_true]
  congr 1
  exact decide_eq_decide.2 (same_eq l m h1)
 · rw [if_neg (by omega), decide_eq_false (fun h => h1 (by rw [h]))]
def rleS (F : Int → List S42) : List Int → List S42 → List S42 → Int → List S42
 | [], out, _, _ => out
 | c :: cs, out, run, beg => if F c = run then rleS F cs out run beg else rleS F cs (out ++ pre run beg c) (F c) c
def rleFirst (F : Int → List S42) : List Int → List S42
 | [] => []
 | c :: cs => rleS F cs [] (F c) c
theorem rle_beg (f : Nat → List S42) : ∀ (d x : Nat) (out : List S42) (b b' : Int), rle f d x out [] b = rle f d x out [] b' := by
 intro d
 induction d with
 | zero => intro x out b b'; rfl
 | succ d ih =>
  intro x out b b'
  unfold rle
  split
  · exact ih _ _ _ _
  · rw [pre_nil, pre_nil]
theorem rle_cuts (F : Int → List S42) (C : List Int) (hF : ∀ y : Nat, 1 ≤ y → y ≤ 40 → (y : Int) ∉ C → F y = F ((y : Int) - 1)) : ∀ (d x : Nat) (cs : List Int) (out run : List S42) (beg : Int), x + d = 41 → 1 ≤ x → cs.Pairwise (· < ·) → (∀ c ∈ cs, (x : Int) ≤ c ∧ c ≤ 40) → (∀ y : Nat, x ≤ y → (y : Int) ∈ C → (y : Int) ∈ cs) → run = F ((x : Int) - 1) →
 rleS F cs out run beg = rle (fun n => F n) d x out run beg := by
 intro d
 induction d with
 | zero =>
  intro x cs out run beg hx h1 hs hc hC hrun
  cases cs with
  | nil => rfl
  | cons c cs => have := hc c List.mem_cons_self; omega
 | succ d ih =>
  intro x cs out run beg hx h1 hs hc hC hrun
  have hx1 : (((x + 1 : Nat) : Int) - 1) = (x : Int) := by omega
  unfold rle
  by_cases hm : (x : Int) ∈ cs
  ·
   obtain ⟨cs', rfl⟩ : ∃ cs', cs = (x : Int) :: cs' := by
    cases cs with
    | nil => cases hm
    | cons c cs' =>
     rcases List.mem_cons.1 hm with h | h
     · exact ⟨cs', by rw [h]⟩
     · have := (List.pairwise_cons.1 hs).1 _ h
       have := (hc c List.mem_cons_self).1
       omega
   have hs' := List.pairwise_cons.1 hs
   have hc' : ∀ c ∈ cs', ((x + 1 : Nat) : Int) ≤ c ∧ c ≤ 40 := fun c h => by
    have := hs'.1 c h
    have := (hc c (List.mem_cons_of_mem _ h)).2
    omega
   have hC' : ∀ y : Nat, x + 1 ≤ y → (y : Int) ∈ C → (y : Int) ∈ cs' := fun y hy h => by
    rcases List.mem_cons.1 (hC y (by omega) h) with e | e
    · omega
    · exact e
   unfold rleS
   by_cases he : F (x : Int) = run
   · rw [if_pos he, if_pos he]
     exact ih (x + 1) cs' out run beg (by omega) (by omega) hs'.2 hc' hC' (by rw [hx1]; exact he.symm)
   · rw [if_neg he, if_neg he]
     exact ih (x + 1) cs' _ _ _ (by omega) (by omega) hs'.2 hc' hC' (by rw [hx1])
  ·
   have hn : (x : Int) ∉ C := fun h => hm (hC x (Nat.le_refl _) h)
   have he : F (x : Int) = run := by rw [hF x h1 (by omega) hn, hrun]
   rw [if_pos he]
   refine ih (x + 1) cs out run beg (by omega) (by omega) hs (fun c h => ?_) (fun y hy h => hC y (by omega) h) (by rw [hx1]; exact he.symm)
   have h2 := hc c h
   have h3 : c ≠ (x : Int) := fun e => hm (e ▸ h)
   omega
theorem rle_first (F : Int → List S42) (C : List Int) (hs : C.Pairwise (· < ·)) (hF : ∀ y : Nat, 1 ≤ y → y ≤ 40 → (y : Int) ∉ C → F y = F ((y : Int) - 1)) (hF0 : ∀ y : Nat, (∀ c ∈ C, (y : Int) < c) → F y = []) (hC : ∀ c ∈ C, 0 ≤ c ∧ c ≤ 40) : ∀ (d x : Nat), x + d = 41 → (∀ c ∈ C, (x : Int) ≤ c) →
 rleFirst F C = rle (fun n => F n) d x [] [] 0 := by
 intro d
 induction d with
 | zero =>
  intro x hx h
  cases C with
  | nil => rfl
  | cons c cs => have := h c List.mem_cons_self; have := (hC c List.mem_cons_self).2; omega
 | succ d ih =>
  intro x hx h
  have hx1 : (((x + 1 : Nat) : Int) - 1) = (x : Int) := by omega
  by_cases hm : (x : Int) ∈ C
  ·
   obtain ⟨cs', e⟩ : ∃ cs', C = (x : Int) :: cs' := by
    cases C with
    | nil => cases hm
    | cons c cs' =>
     rcases List.mem_cons.1 hm with h1 | h1
     · exact ⟨cs', by rw [h1]⟩
     · have := (List.pairwise_cons.1 hs).1 _ h1
       have := h c List.mem_cons_self
       omega
   subst e
   have hs' := List.pairwise_cons.1 hs
   have h5 : rleS F cs' [] (F (x : Int)) (x : Int) = rle (fun n => F n) d (x + 1) [] (F (x : Int)) (x : Int) :=
    rle_cuts F _ hF d (x + 1) cs' [] _ _ (by omega) (by omega) hs'.2 (fun c h1 => ⟨by have := hs'.1 c h1; omega, (hC c (List.mem_cons_of_mem _ h1)).2⟩) (fun y hy h1 => by
     rcases List.mem_cons.1 h1 with e | e
     · omega
     · exact e) (by rw [hx1])
   show rleS F cs' [] (F (x : Int)) (x : Int) = _
   rw [h5]
   conv => rhs; unfold rle
   by_cases he : F (x : Int) = []
   · rw [if_pos he, he]
     exact rle_beg _ _ _ _ _ _
   · rw [if_neg he, pre_nil]
     rfl
  ·
   have he : F (x : Int) = [] := hF0 x (fun c hc => by
    have h2 := h c hc
    have h3 : c ≠ (x : Int) := fun e => hm (e ▸ hc)
    omega)
   rw [ih (x + 1) (by omega) (fun c hc => by
    have h2 := h c hc
    have h3 : c ≠ (x : Int) := fun e => hm (e ▸ hc)
    omega)]
   conv => rhs; unfold rle
   rw [if_pos he]
theorem mem_lt {l : List S42} {r : Nat} (h : VL (r + 1) l) (p : List Int) (x : Int) (hc : ∀ b ∈ l, x < rd b.f0 0) : mem l (x :: p) = false := by
 unfold mem
 rw [List.any_eq_false]
 intro b hb
 obtain ⟨a, ah, e, es, rfl, h4, h5⟩ := VB_cons (h b hb)
 have := hc _ hb
 rw [show rd (S42.mk (a :: ah) (e :: es)).f0 0 = a from rfl] at this
 show ¬ ((decide (a ≤ x) && decide (x < e)) && inBx ah es p) = true
 rw [show decide (a ≤ x) = false from decide_eq_false (by omega)]
 simp
theorem mem_step {r : Nat} (p : List Int) (x : Int) : ∀ {l : List S42}, VL (r + 1) l → (∀ b ∈ l, rd b.f0 0 ≠ x ∧ rd b.f1 0 ≠ x) → mem l (x :: p) = mem l ((x - 1) :: p)
 | [], _, _ => rfl
 | b :: l, h, hc => by
  obtain ⟨h1, h2⟩ := VL_cons.1 h
  obtain ⟨a, ah, c, cs, rfl, h4, h5⟩ := VB_cons h1
  have h6 := hc _ List.mem_cons_self
  rw [show rd (S42.mk (a :: ah) (c :: cs)).f0 0 = a from rfl, show rd (S42.mk (a :: ah) (c :: cs)).f1 0 = c from rfl] at h6
  rw [mem_cons, mem_cons, mem_step p x h2 (fun b hb => hc b (List.mem_cons_of_mem _ hb))]
  show (((decide (a ≤ x) && decide (x < c)) && inBx ah cs p) || _) = (((decide (a ≤ x - 1) && decide (x - 1 < c)) && inBx ah cs p) || _)
  rw [show decide (a ≤ x) = decide (a ≤ x - 1) from decide_eq_decide.2 (by omega), show decide (x < c) = decide (x - 1 < c) from decide_eq_decide.2 (by omega)]
theorem sorted_len : ∀ (l : List Int) (lo hi : Int), l.Pairwise (· < ·) → (∀ c ∈ l, lo ≤ c ∧ c ≤ hi) → lo ≤ hi + 1 → (l.length : Int) ≤ hi - lo + 1
 | [], lo, hi, _, _, h => by simp; omega
 | y :: ys, lo, hi, hs, hc, h => by
  have hs' := List.pairwise_cons.1 hs
  have hy := hc y List.mem_cons_self
  have := sorted_len ys (y + 1) hi hs'.2 (fun c h1 => ⟨by have := hs'.1 c h1; omega, (hc c (List.mem_cons_of_mem _ h1)).2⟩) (by omega)
  simp only [List.length_cons]
  omega
theorem VL_first {r : Nat} {l : List S42} (h : VL (r + 1) l) : ∀ b ∈ l, (0 ≤ rd b.f0 0 ∧ rd b.f0 0 ≤ 40) ∧ 0 ≤ rd b.f1 0 ∧ rd b.f1 0 ≤ 40 := fun b hb => by
 obtain ⟨a, ah, c, cs, rfl, h4, h5⟩ := VB_cons (h b hb)
 exact ⟨⟨h4.1, by show a ≤ 40; omega⟩, by show 0 ≤ c; omega, h4.2.2⟩
def FF (g : Bool → Bool → Bool) (r : Nat) (a b : List S42) (c : Int) : List S42 := if c < 40 then NF r (fun p => g (mem a (c :: p)) (mem b (c :: p))) else []
def KS : Nat → Nat
 | 0 => 4000000
 | r + 1 => KS r + 4000000
theorem KS_ge : ∀ r, 4000000 ≤ KS r
 | 0 => Nat.le_refl _
 | r + 1 => Nat.le_trans (KS_ge r) (Nat.le_add_right _ _)
theorem comb_spec (o : Int) (g : Bool → Bool → Bool) (hg : ∀ x y, spec_l07Holds.f o x y = some (g x y)) (h0 : g false false = false) : ∀ (r : Nat), r ≤ 3 → ∀ (a b : List S42), VL r a → VL r b → a.length ≤ 100000 → b.length ≤ 100000 → ∀ k, KS r ≤ k → spec_l07Combine.f k o a b r = some (NF r fun p => g (mem a p) (mem b p)) := by
 intro r
 induction r with
 | zero =>
  intro _ a b ha hb hla hlb k hk
  have hKr := KS_ge 0
  obtain ⟨k, rfl⟩ : ∃ m, k = m + 1 := ⟨k - 1, by omega⟩
  have e1 : decide ((a.length : Int) > 0) = mem a [] := by rw [mem_zero ha]; exact decide_eq_decide.2 (by omega)
  have e2 : decide ((b.length : Int) > 0) = mem b [] := by rw [mem_zero hb]; exact decide_eq_decide.2 (by omega)
  rw [spec_l07Combine.f]
  simp only [Option.bind_some]
  rw [if_pos (by rfl), hg, e1, e2]
  simp only [Option.bind_some, NF]
  split
  · rw [if_pos (by simp)]; rfl
  · rfl
 | succ r ih =>
  intro hr a b ha hb hla hlb k hk
  have hKS : KS (r + 1) = KS r + 4000000 := rfl
  have hKr := KS_ge r
  rw [hKS] at hk
  obtain ⟨k, rfl⟩ : ∃ m, k = m + 1 := ⟨k - 1, by omega⟩
  have hk3 : 3000000 ≤ k := by omega
  have hk4 : KS r + 3000000 < k := by omega
  have hM : ∀ P, (NF r P).length ≤ 68921 := fun P => Nat.le_trans (NF_len r P) (by
   have : r = 0 ∨ r = 1 ∨ r = 2 := by omega
   rcases this with rfl | rfl | rfl <;> decide)
  have hFM : ∀ c, (FF g r a b c).length ≤ 68921 := fun c => by unfold FF; split; exact hM _; simp
  have hFR : ∀ c, Rows r (FF g r a b c) := fun c => by unfold FF; split; exact NF_rows _ _; exact rows_nil _
  obtain ⟨C, hCe⟩ : ∃ C, C = cutsL (cutsL [] a) b := ⟨_, rfl⟩
  have hCs : C.Pairwise (· < ·) := by rw [hCe]; exact cuts_sorted _ _ (cuts_sorted _ _ List.Pairwise.nil)
  have hCm : ∀ x, x ∈ C ↔ (∃ q ∈ a, x = rd q.f0 0 ∨ x = rd q.f1 0) ∨ ∃ q ∈ b, x = rd q.f0 0 ∨ x = rd q.f1 0 := fun x => by
   rw [hCe, cuts_mem, cuts_mem]
   simp
  have hA := VL_first ha
  have hB := VL_first hb
  have hCb : ∀ c ∈ C, 0 ≤ c ∧ c ≤ 40 := fun c hc => by
   rcases (hCm c).1 hc with ⟨q, h1, h2⟩ | ⟨q, h1, h2⟩
   · have := hA q h1; omega
   · have := hB q h1; omega
  have hCl : C.length ≤ 41 := by have := sorted_len C 0 40 hCs hCb (by omega); omega
  have hF40 : ∀ c : Int, ¬ c < 40 → FF g r a b c = [] := fun c h => by unfold FF; rw [if_neg h]
  have hnone : ∀ c : Int, (∀ p, mem a (c :: p) = false) → (∀ p, mem b (c :: p) = false) → FF g r a b c = [] := fun c h1 h2 => by
   unfold FF
   split
   · rw [show (fun p => g (mem a (c :: p)) (mem b (c :: p))) = fun _ => false from by funext p; rw [h1, h2, h0]]
     exact NF_false r
   · rfl
  have hlast : ∀ c : Int, (∀ x ∈ C, x ≤ c) → FF g r a b c = [] := fun c h =>
   hnone c (fun p => mem_ge ha c (fun q hq => h _ ((hCm _).2 (.inl ⟨q, hq, .inr rfl⟩))) p c (by omega)) (fun p => mem_ge hb c (fun q hq => h _ ((hCm _).2 (.inr ⟨q, hq, .inr rfl⟩))) p c (by omega))
  have hF0 : ∀ y : Nat, (∀ c ∈ C, (y : Int) < c) → FF g r a b y = [] := fun y h =>
   hnone y (fun p => mem_lt ha p y (fun q hq => h _ ((hCm _).2 (.inl ⟨q, hq, .inl rfl⟩)))) (fun p => mem_lt hb p y (fun q hq => h _ ((hCm _).2 (.inr ⟨q, hq, .inl rfl⟩))))
  have hF : ∀ y : Nat, 1 ≤ y → y ≤ 40 → (y : Int) ∉ C → FF g r a b y = FF g r a b ((y : Int) - 1) := fun y h1 h2 hn => by
   have ea : ∀ p, mem a ((y : Int) :: p) = mem a (((y : Int) - 1) :: p) := fun p => mem_step p y ha (fun q hq => ⟨fun e => hn ((hCm _).2 (.inl ⟨q, hq, .inl e.symm⟩)), fun e => hn ((hCm _).2 (.inl ⟨q, hq, .inr e.symm⟩))⟩)
   have eb : ∀ p, mem b ((y : Int) :: p) = mem b (((y : Int) - 1) :: p) := fun p => mem_step p y hb (fun q hq => ⟨fun e => hn ((hCm _).2 (.inr ⟨q, hq, .inl e.symm⟩)), fun e => hn ((hCm _).2 (.inr ⟨q, hq, .inr e.symm⟩))⟩)
   by_cases h40 : y < 40
   · unfold FF
     rw [if_pos (by omega), if_pos (by omega)]
     congr 1
     funext p
     rw [ea, eb]
   · rw [hF40 y (by omega)]
     exact (hnone _ (fun p => by rw [← ea]; exact mem_ge ha 40 (fun q hq => (hA q hq).2.2) p y (by omega)) (fun p => by rw [← eb]; exact mem_ge hb 40 (fun q hq => (hB q hq).2.2) p y (by omega))).symm
  -- one round: what now is, and what follows
  have hlt : ∀ i : Nat, i < C.length → rd C (i : Int) ∈ C := fun i hi => by rw [rd_lt C i hi]; exact List.getElem_mem hi
  have hmono : ∀ i j : Nat, i < j → j < C.length → rd C (i : Int) < rd C (j : Int) := fun i j h1 h2 => by
   rw [rd_lt C i (by omega), rd_lt C j h2]
   exact List.pairwise_iff_getElem.1 hCs i j (by omega) h2 h1
  have round : ∀ (i k : Nat) (out run : List S42) (beg : Int) (R : Option (List S42)), i < C.length → KS r < k → (spec_l07Combine.j1 k o a b ((r + 1 : Nat) : Int) out C run beg (i : Int) (FF g r a b (rd C (i : Int))) = R) → spec_l07Combine.l0 (k + 1) o a b ((r + 1 : Nat) : Int) out C run beg (i : Int) = R := by
   intro i k out run beg R hi hk hR
   rw [spec_l07Combine.l0, if_pos (by omega), wrap_up i (by omega)]
   by_cases hl : i + 1 < C.length
   ·
    have hc40 : rd C (i : Int) < 40 := by have := hmono i (i + 1) (by omega) hl; have := (hCb _ (hlt (i + 1) hl)).2; omega
    rw [if_pos (by omega), if_pos (by omega), cross_spec a _ ha (by omega) k (by omega), cross_spec b _ hb (by omega) k (by omega)]
    simp only [Option.bind_some]
    rw [show wrap64 (((r + 1 : Nat) : Int) - 1) = (r : Int) by unfold wrap64; omega]
    rw [ih (by omega) _ _ (sec_VL _ ha) (sec_VL _ hb) (Nat.le_trans (sec_len _ _) hla) (Nat.le_trans (sec_len _ _) hlb) k (by omega)]
    simp only [Option.bind_some]
    have e : NF r (fun p => g (mem (secB (rd C (i : Int)) a) p) (mem (secB (rd C (i : Int)) b) p)) = FF g r a b (rd C (i : Int)) := by
     unfold FF
     rw [if_pos hc40]
     congr 1
     funext p
     rw [sec_mem _ _ ha, sec_mem _ _ hb]
    rw [e]
    exact hR
   ·
    rw [if_neg (by omega)]
    have e : FF g r a b (rd C (i : Int)) = [] := hlast _ (fun x hx => by
     obtain ⟨j, hj, rfl⟩ := List.mem_iff_getElem.1 hx
     by_cases hji : j = i
     · subst hji; rw [rd_lt C j hj]; exact Int.le_refl _
     · have := hmono j i (by omega) hi
       rw [rd_lt C j hj] at this
       omega)
    rw [e] at hR
    exact hR
  have put : ∀ (now run : List S42) (beg : Int) (i : Nat) (R : Option (List S42)) (K : Nat), i < C.length → Rows r run → run.length ≤ 68921 → ∀ (e q k : Nat) (out : List S42), q + e = run.length → out.length + e ≤ 2894682 →
   (∀ k', K ≤ k' → spec_l07Combine.l0 k' o a b ((r + 1 : Nat) : Int) (out ++ pre (run.drop q) beg (rd C (i : Int))) C now (rd C (i : Int)) ((i + 1 : Nat) : Int) = R) → K + e < k → spec_l07Combine.l1 k o a b ((r + 1 : Nat) : Int) out C run beg (i : Int) now (q : Int) = R := by
   intro now run beg i R K hi hrows hrl e
   induction e with
   | zero =>
    intro q k out hq ho hn hk
    obtain ⟨k, rfl⟩ : ∃ m, k = m + 1 := ⟨k - 1, by omega⟩
    have := hn k (by omega)
    rw [List.drop_eq_nil_of_le (by omega), pre_nil, List.append_nil] at this
    rw [spec_l07Combine.l1, if_neg (by omega), if_pos (by omega), if_pos (by omega), wrap_up i (by omega)]
    exact this
   | succ e ihe =>
    intro q k out hq ho hn hk
    obtain ⟨k, rfl⟩ : ∃ m, k = m + 1 := ⟨k - 1, by omega⟩
    have hql : q < run.length := by omega
    have hrow := hrows _ (List.getElem_mem hql)
    rw [spec_l07Combine.l1, if_pos (by omega)]
    simp only [Option.bind_some]
    rw [rd_at run q hql, if_pos (by omega), if_pos (by rw [hrow.1]; simp; omega), if_pos (by omega), if_pos (by omega), if_pos (by rw [hrow.2]; simp; omega), if_pos (by omega), wrap_up q (by omega)]
    refine ihe (q + 1) k _ (by omega) (by simp; omega) (fun k' hk' => ?_) (by omega)
    have := hn k' hk'
    rw [drop_at run q hql] at this
    rw [List.append_assoc]
    exact this
  have loop : ∀ (d i k : Nat) (out run : List S42) (beg : Int), i + d = C.length → 1 ≤ i → out.length ≤ i * 68921 → run.length ≤ 68921 → Rows r run → KS r + 70000 * d < k →
   spec_l07Combine.l0 k o a b ((r + 1 : Nat) : Int) out C run beg (i : Int) = some (rleS (FF g r a b) (C.drop i) out run beg) := by
   intro d
   induction d with
   | zero =>
    intro i k out run beg hi h1 ho hrl hrows hk
    obtain ⟨k, rfl⟩ : ∃ m, k = m + 1 := ⟨k - 1, by omega⟩
    rw [spec_l07Combine.l0, if_neg (by omega), List.drop_eq_nil_of_le (by omega)]
    rfl
   | succ d ihd =>
    intro i k out run beg hi h1 ho hrl hrows hk
    obtain ⟨k, rfl⟩ : ∃ m, k = m + 3 := ⟨k - 3, by omega⟩
    have hlen : out.length ≤ 2825761 := Nat.le_trans ho (Nat.mul_le_mul_right 68921 (by omega : i ≤ 41))
    refine round i (k + 2) out run beg _ (by omega) (by omega) ?_
    rw [spec_l07Combine.j1, if_pos (by omega), same_spec r (by omega) (FF g r a b (rd C (i : Int))) run (by have := hFM (rd C (i : Int)); omega) (hFR _) (k + 1) (by omega)]
    simp only [Option.bind_some]
    rw [spec_l07Combine.j2, dropi C i (by omega), wrap_up i (by omega)]
    unfold rleS
    by_cases he : FF g r a b (rd C (i : Int)) = run
    · rw [if_pos (decide_eq_true he), if_pos he]
      exact ihd (i + 1) k out run beg (by omega) (by omega) (Nat.le_trans ho (Nat.mul_le_mul_right _ (Nat.le_succ i))) hrl hrows (by omega)
    · rw [if_neg (by simpa using he), if_neg he]
      refine put _ run beg i _ (KS r + 70000 * d + 1) (by omega) hrows hrl run.length 0 k out (by omega) (by omega) (fun k' hk' => ?_) (by omega)
      rw [List.drop_zero]
      exact ihd (i + 1) k' _ _ _ (by omega) (by omega) (by rw [List.length_append, pre_len, Nat.add_mul]; omega) (hFM _) (hFR _) (by omega)
  have hcut : ∀ k, 3000000 ≤ k → (spec_l07Cuts.f k [] a).bind (fun t => spec_l07Cuts.f k t b) = some C := fun k hk => by
   unfold spec_l07Cuts.f
   have e1 := cuts_spec a ha hla a.length 0 k [] (by omega) (by simp; omega) (by omega)
   rw [List.drop_zero] at e1
   rw [show spec_l07Cuts.l0 k [] a 0 = _ from e1]
   simp only [Option.bind_some]
   have hl1 := cuts_len a []
   have e2 := cuts_spec b hb hlb b.length 0 k (cutsL [] a) (by omega) (by simp only [List.length_nil] at hl1; omega) (by omega)
   rw [List.drop_zero] at e2
   rw [show spec_l07Cuts.l0 k (cutsL [] a) b 0 = _ from e2, hCe]
  rw [spec_l07Combine.f]
  simp only [Option.bind_some]
  rw [if_neg (by omega)]
  have hc2 := hcut k hk3
  cases e1 : spec_l07Cuts.f k [] a with
  | none => rw [e1] at hc2; cases hc2
  | some t =>
   rw [e1] at hc2
   simp only [Option.bind_some] at hc2 ⊢
   rw [hc2]
   simp only [Option.bind_some]
   have hfin := rle_first (FF g r a b) C hCs hF hF0 hCb 41 0 (by omega) (fun c hc => (hCb c hc).1)
   have hNF : NF (r + 1) (fun p => g (mem a p) (mem b p)) = rle (fun n => FF g r a b n) 41 0 [] [] 0 := by
    show rle _ 41 0 [] [] 0 = _
    congr 1
    funext x
    unfold FF
    by_cases hx : x < 40
    · rw [if_pos hx, if_pos (by omega)]
    · rw [if_neg hx, if_neg (by omega)]
   rw [hNF, ← hfin]
   by_cases hn : C.length = 0
   · obtain ⟨k, rfl⟩ : ∃ m, k = m + 1 := ⟨k - 1, by omega⟩
     rw [spec_l07Combine.l0, if_neg (by omega), List.length_eq_zero_iff.1 hn]
     rfl
   ·
    obtain ⟨k, rfl⟩ : ∃ m, k = m + 4 := ⟨k - 4, by omega⟩
    have hd := dropi C 0 (by omega)
    rw [List.drop_zero] at hd
    refine round 0 (k + 3) [] [] 0 _ (by omega) (by omega) ?_
    rw [spec_l07Combine.j1, if_neg (by omega), spec_l07Combine.j2, if_neg (by decide), spec_l07Combine.l1, if_neg (by simp), if_pos (by omega), if_pos (by omega), wrap_up 0 (by omega)]
    rw [loop (C.length - 1) (0 + 1) k [] (FF g r a b (rd C ((0 : Nat) : Int))) (rd C ((0 : Nat) : Int)) (by omega) (by omega) (by simp) (hFM _) (hFR _) (by omega)]
    congr 1
    show _ = rleFirst (FF g r a b) C
    rw [hd]
    rfl
def okB (l : List S42) (i : Nat) : Prop := VBox (rd_T42 l i).f0 (rd_T42 l i).f1 ∧ (rd_T42 l i).f0.length = (rd_T42 l 0).f0.length
instance (l : List S42) : DecidablePred (okB l) := fun i => by unfold okB; infer_instance
def InRange (r : Nat) (p : List Int) : Prop := p.length = r ∧ ∀ x ∈ p, 0 ≤ x ∧ x < 40
theorem range_cons {r : Nat} {x : Int} {p : List Int} (h0 : 0 ≤ x) (h1 : x < 40) (h : InRange r p) : InRange (r + 1) (x :: p) := by
 refine ⟨by simp [h.1], fun y hy => ?_⟩
 rcases List.mem_cons.1 hy with rfl | hy
 · exact ⟨h0, h1⟩
 · exact h.2 y hy
theorem NF_congr : ∀ (r : Nat) {P Q : List Int → Bool}, (∀ p, InRange r p → P p = Q p) → NF r P = NF r Q
 | 0, P, Q, h => by
  unfold NF
  rw [h [] ⟨rfl, by simp⟩]
 | r + 1, P, Q, h => by
  unfold NF
  congr 1
  funext x
  by_cases hx : x < 40
  · rw [if_pos hx, if_pos hx]
    exact NF_congr r (fun p hp => h _ (range_cons (by omega) (by omega) hp))
  · rw [if_neg hx, if_neg hx]
def okL (l : List S42) : Prop := (∀ i, i < l.length → okB l i) ∧ (l.length : Int) ≤ 32
instance (l : List S42) : Decidable (okL l) := by unfold okL; infer_instance
def rankL (a b : List S42) : Nat := if 0 < a.length then (rd_T42 a 0).f0.length else if 0 < b.length then (rd_T42 b 0).f0.length else 0
def compat (a b : List S42) : Prop := 0 < a.length → 0 < b.length → (rd_T42 a 0).f0.length = (rd_T42 b 0).f0.length
instance (a b : List S42) : Decidable (compat a b) := by unfold compat; infer_instance
def res (g : Bool → Bool → Bool) (a b : List S42) : List S42 × Int :=
 if okL a ∧ okL b ∧ compat a b then (if (NF (rankL a b) fun p => g (mem a p) (mem b p)).length > 32 then ([], 5) else (NF (rankL a b) fun p => g (mem a p) (mem b p), 0)) else ([], 1)
theorem NF_small (r : Nat) (hr : r ≤ 3) (P : List Int → Bool) : (NF r P).length ≤ 68921 := Nat.le_trans (NF_len r P) (by
 have : r = 0 ∨ r = 1 ∨ r = 2 ∨ r = 3 := by omega
 rcases this with rfl | rfl | rfl | rfl <;> decide)
theorem or_holds (x y : Bool) : spec_l07Holds.f 1 x y = some (or x y) := by cases x <;> cases y <;> rfl
theorem mark64 (n : Nat) (hn : n ≤ 1048576) : ∀ (d i : Nat) (x : Int) (l : List Int), l.length = n → n - i = d → i ≤ n → 0 ≤ x → x + d ≤ 1099511627776 →
 ∃ r : List Int, r.length = n ∧ (∀ k, d < k → laws_markInt64S.l0 k l x (i : Int) = some (x + d, r)) ∧ (∀ j, j < i → r.getD j 0 = l.getD j 0) ∧ ∀ j, i ≤ j → j < n → r.getD j 0 = x + ((j - i : Nat) : Int) := by
 intro d
 induction d with
 | zero =>
  intro i x l hl hd hi h0 h1
  refine ⟨l, hl, fun k hk => ?_, fun j _ => rfl, fun j h2 h3 => by omega⟩
  obtain ⟨k, rfl⟩ : ∃ m, k = m + 1 := ⟨k - 1, by omega⟩
  rw [laws_markInt64S.l0, if_neg (by omega)]
  simp
 | succ d ih =>
  intro i x l hl hd hi h0 h1
  obtain ⟨r, hr, hk0, hlo, hhi⟩ := ih (i + 1) (x + 1) (l.set i x) (by simpa using hl) (by omega) (by omega) (by omega) (by omega)
  refine ⟨r, hr, fun k hk => ?_, fun j hj => ?_, fun j h2 h3 => ?_⟩
  · obtain ⟨k, rfl⟩ : ∃ m, k = m + 1 := ⟨k - 1, by omega⟩
    rw [laws_markInt64S.l0, if_pos (by omega), if_pos (by omega), wrap64_id (by omega) (by omega), wrap64_id (by omega) (by omega), Int.toNat_natCast, show (i : Int) + 1 = ((i + 1 : Nat) : Int) by omega, hk0 k (by omega)]
    congr 2
    omega
  · rw [hlo j (by omega)]
    simp only [List.getD_eq_getElem?_getD]
    rw [List.getElem?_set_ne (by omega)]
  ·
   by_cases hj : j = i
   · subst hj
     rw [hlo j (by omega)]
     simp only [List.getD_eq_getElem?_getD]
     rw [List.getElem?_set_self (by omega)]
     simp
   · rw [hhi j (by omega) h3]
     omega
theorem held64 (n : Nat) (hn : n ≤ 1048576) (l : List Int) (hl : l.length = n) : ∀ (d i : Nat) (x : Int), n - i = d → i ≤ n → 0 ≤ x → x + d ≤ 1099511627776 → (∀ j, i ≤ j → j < n → l.getD j 0 = x + ((j - i : Nat) : Int)) →
 ∀ k, d < k → laws_heldInt64S.l0 k l x (i : Int) = some (x + d) := by
 intro d
 induction d with
 | zero =>
  intro i x hd hi h0 h1 hm k hk
  obtain ⟨k, rfl⟩ : ∃ m, k = m + 1 := ⟨k - 1, by omega⟩
  rw [laws_heldInt64S.l0, if_neg (by omega)]
  simp
 | succ d ih =>
  intro i x hd hi h0 h1 hm k hk
  obtain ⟨k, rfl⟩ : ∃ m, k = m + 1 := ⟨k - 1, by omega⟩
  have e : rd l (i : Int) = x := by
   have h := hm i (Nat.le_refl _) (by omega)
   rw [Nat.sub_self] at h
   simpa [rd] using h
  rw [laws_heldInt64S.l0, if_pos (by omega), if_pos (by omega), e, if_pos rfl, wrap64_id (by omega) (by omega), wrap64_id (by omega) (by omega), show (i : Int) + 1 = ((i + 1 : Nat) : Int) by omega, ih (i + 1) (x + 1) (by omega) (by omega) (by omega) (by omega) (fun j h2 h3 => by
   rw [hm j (by omega) h3]; omega) k (by omega)]
  congr 1
  omega
/-- a list that has been marked from x on, and what its marks are held against -/
theorem marks64 (l : List Int) (hl : l.length ≤ 1048576) (x : Int) (h0 : 0 ≤ x) (h1 : x ≤ 1073741824) :
 ∃ r : List Int, r.length = l.length ∧ (∀ k, 1048576 < k → laws_markInt64S.f k l x = some (x + l.length, r)) ∧ ∀ k, 1048576 < k → laws_heldInt64S.f k r x = some (x + l.length) := by
 obtain ⟨r, hr, hm, -, hv⟩ := mark64 l.length hl l.length 0 x l rfl (by omega) (by omega) h0 (by omega)
 exact ⟨r, hr, fun k hk => hm k (by omega), fun k hk => held64 l.length hl r hr l.length 0 x (by omega) (by omega) h0 (by omega) (fun j h2 h3 => hv j h2 h3) k (by omega)⟩
/-! marks of the argument -/
theorem markV (n : Nat) (hn : n ≤ 1048576) : ∀ (d i : Nat) (x : Int) (l : List Int), l.length = n → n - i = d → i ≤ n → 0 ≤ x → x + d ≤ 1152921504606846976 →
 ∃ r : List Int, ∀ k, d < k → laws_markInt64S.l0 k l x (i : Int) = some (x + d, r) := by
 intro d
 induction d with
 | zero =>
  intro i x l hl hd hi h0 h1
  refine ⟨l, fun k hk => ?_⟩
  obtain ⟨k, rfl⟩ : ∃ m, k = m + 1 := ⟨k - 1, by omega⟩
  rw [laws_markInt64S.l0, if_neg (by omega)]
  simp
 | succ d ih =>
  intro i x l hl hd hi h0 h1
  obtain ⟨r, hk0⟩ := ih (i + 1) (x + 1) (l.set i x) (by simpa using hl) (by omega) (by omega) (by omega) (by omega)
  refine ⟨r, fun k hk => ?_⟩
  obtain ⟨k, rfl⟩ : ∃ m, k = m + 1 := ⟨k - 1, by omega⟩
  rw [laws_markInt64S.l0, if_pos (by omega), if_pos (by omega), wrap64_id (by omega) (by omega), wrap64_id (by omega) (by omega), Int.toNat_natCast, show (i : Int) + 1 = ((i + 1 : Nat) : Int) by omega, hk0 k (by omega)]
  congr 2
  omega
theorem markF (l : List Int) (hl : l.length ≤ 1048576) (x : Int) (h0 : 0 ≤ x) (h1 : x ≤ 1125899906842624) : ∃ r : List Int, ∀ k, 1048590 ≤ k → laws_markInt64S.f k l x = some (x + l.length, r) := by
 obtain ⟨r, hr⟩ := markV l.length hl l.length 0 x l rfl (by omega) (by omega) h0 (by omega)
 exact ⟨r, fun k hk => hr k (by omega)⟩
theorem rdT_lt (l : List S42) (i : Nat) (h : i < l.length) : rd_T42 l (i : Int) = l[i] := by
 simp [rd_T42, h]
theorem markG (n : Nat) (hn : n ≤ 32) : ∀ (d i : Nat) (x : Int) (l : List S42), l.length = n → i + d = n → 0 ≤ x → x + 6 * (d : Int) ≤ 1073741824 → (∀ j, i ≤ j → j < n → (rd_T42 l (j : Int)).f0.length ≤ 3 ∧ (rd_T42 l (j : Int)).f1.length ≤ 3) →
 ∃ (t : Int) (r : List S42), 0 ≤ t ∧ r.length = n ∧ (∀ j, j < i → rd_T42 r (j : Int) = rd_T42 l (j : Int)) ∧ (∀ k, 1048600 + d < k → laws_markBoxS.l0 k l x (i : Int) = some (t, r)) ∧ ∀ k, 1048600 + d < k → laws_heldBoxS.l0 k r x (i : Int) = some t := by
 intro d
 induction d with
 | zero =>
  intro i x l hl hi h0 h1 hq
  refine ⟨x, l, h0, hl, fun _ _ => rfl, fun k hk => ?_, fun k hk => ?_⟩
  · obtain ⟨k, rfl⟩ : ∃ m, k = m + 1 := ⟨k - 1, by omega⟩
    rw [laws_markBoxS.l0, if_neg (by omega)]
  · obtain ⟨k, rfl⟩ : ∃ m, k = m + 1 := ⟨k - 1, by omega⟩
    rw [laws_heldBoxS.l0, if_neg (by omega)]
 | succ d ih =>
  intro i x l hl hi h0 h1 hq
  obtain ⟨q0, q1⟩ := hq i (by omega) (by omega)
  obtain ⟨r0, -, m0, n0⟩ := marks64 (rd_T42 l (i : Int)).f0 (by omega) x h0 (by omega)
  obtain ⟨r1, -, m1, n1⟩ := marks64 (rd_T42 l (i : Int)).f1 (by omega) (x + (rd_T42 l (i : Int)).f0.length) (by omega) (by omega)
  obtain ⟨t, r, ht, hrl, hkeep, hk0, hh0⟩ := ih (i + 1) (x + (rd_T42 l (i : Int)).f0.length + (rd_T42 l (i : Int)).f1.length) (l.set i ⟨r0, r1⟩) (by rw [List.length_set]; exact hl) (by omega) (by omega) (by omega) (fun j h2 h3 => by
   have h4 := hq j (by omega) h3
   rw [rdT_lt l j (by omega)] at h4
   rw [rdT_lt _ j (by rw [List.length_set]; omega), List.getElem_set_ne (by omega)]
   exact h4)
  have hri : rd_T42 r (i : Int) = ⟨r0, r1⟩ := by
   rw [hkeep i (by omega), rdT_lt _ i (by rw [List.length_set]; omega), List.getElem_set_self]
  refine ⟨t, r, ht, hrl, fun j hj => ?_, fun k hk => ?_, fun k hk => ?_⟩
  · rw [hkeep j (by omega), rdT_lt _ j (by rw [List.length_set]; omega), List.getElem_set_ne (by omega), rdT_lt l j (by omega)]
  ·
   obtain ⟨k, rfl⟩ : ∃ m, k = m + 1 := ⟨k - 1, by omega⟩
   rw [laws_markBoxS.l0, if_pos (by omega), if_pos (by omega), m0 k (by omega)]
   simp only [Option.bind_some]
   rw [m1 k (by omega)]
   simp only [Option.bind_some]
   rw [Int.toNat_natCast, wrap_up i (by omega)]
   exact hk0 k (by omega)
  ·
   obtain ⟨k, rfl⟩ : ∃ m, k = m + 1 := ⟨k - 1, by omega⟩
   rw [laws_heldBoxS.l0, if_pos (by omega), if_pos (by omega), hri, n0 k (by omega)]
   simp only [Option.bind_some]
   rw [if_neg (by omega), n1 k (by omega)]
   simp only [Option.bind_some]
   rw [if_neg (by omega), wrap_up i (by omega)]
   exact hh0 k (by omega)
theorem marksG (l : List S42) (hl : l.length ≤ 32) (r : Nat) (hr : r ≤ 3) (hR : ∀ b ∈ l, b.f0.length = r ∧ b.f1.length = r) : ∃ (t : Int) (m : List S42), 0 ≤ t ∧ (∀ k, 2097200 ≤ k → laws_markBoxS.f k l 1 = some (t, m)) ∧ ∀ k, 2097200 ≤ k → laws_heldBoxS.f k m 1 = some t := by
 obtain ⟨t, m, ht, -, -, h1, h2⟩ := markG l.length hl l.length 0 1 l rfl (by omega) (by omega) (by omega) (fun j _ hj => by
  rw [rdT_lt l j hj]
  obtain ⟨h1, h2⟩ := hR _ (List.getElem_mem hj)
  omega)
 exact ⟨t, m, ht, fun k hk => h1 k (by omega), fun k hk => h2 k (by omega)⟩
theorem nonzero (l : List Int) (h : prodL l ≠ 0) : ∀ x ∈ l, x ≠ 0 := by
 have key : ∀ (l : List Int) (a : Int), l.foldl (· * ·) a ≠ 0 → a ≠ 0 ∧ ∀ x ∈ l, x ≠ 0 := by
  intro l
  induction l with
  | nil => intro a h; exact ⟨h, by simp⟩
  | cons b l ih =>
   intro a h
   obtain ⟨h1, h2⟩ := ih (a * b) h
   refine ⟨fun e => h1 (by rw [e, Int.zero_mul]), ?_⟩
   intro x hx
   rcases List.mem_cons.1 hx with rfl | hx
   · exact fun e => h1 (by rw [e, Int.mul_zero])
   · exact h2 x hx
 exact (key l 1 h).2
def crd (d : List Int) (a : Int) : List Int := (impl_coordsOf.run d a (List.range d.length)).2
def unitB (d : List Int) (a : Int) : S42 := ⟨crd d a, (crd d a).map (· + 1)⟩
def crdL : List Int → Int → List Int
 | [], _ => []
 | [x], a => [a % x]
 | [x, y], a => [a / y % x, a % y]
 | [x, y, z], a => [a / z / y % x, a / z % y, a % z]
 | _, _ => []
theorem small_div {a x : Int} (h0 : 0 ≤ a) (h1 : a ≤ 100000000) (hx : 1 ≤ x) : 0 ≤ a / x ∧ a / x ≤ 100000000 := ⟨Int.ediv_nonneg h0 (by omega), Int.le_trans (Int.ediv_le_self _ h0) h1⟩
theorem crd_eq (d : List Int) (h3 : d.length ≤ 3) (hd : ∀ x ∈ d, 1 ≤ x ∧ x ≤ 40) (a : Int) (h0 : 0 ≤ a) (h1 : a ≤ 100000000) : crd d a = crdL d a := by
 match d, h3, hd with
 | [], _, _ => rfl
 | [x], _, hd =>
  show [Int.tmod a x] = [a % x]
  rw [Int.tmod_eq_emod_of_nonneg h0]
 | [x, y], _, hd =>
  have hy := hd y (by simp)
  obtain ⟨d0, d1⟩ := small_div h0 h1 hy.1
  show [Int.tmod (wrap64 (Int.tdiv a y)) x, Int.tmod a y] = [a / y % x, a % y]
  rw [Int.tmod_eq_emod_of_nonneg h0, Int.tdiv_eq_ediv_of_nonneg h0, wrap64_id (by omega) (by omega), Int.tmod_eq_emod_of_nonneg d0]
 | [x, y, z], _, hd =>
  have hy := hd y (by simp)
  have hz := hd z (by simp)
  obtain ⟨d0, d1⟩ := small_div h0 h1 hz.1
  obtain ⟨e0, e1⟩ := small_div d0 d1 hy.1
  show [Int.tmod (wrap64 (Int.tdiv (wrap64 (Int.tdiv a z)) y)) x, Int.tmod (wrap64 (Int.tdiv a z)) y, Int.tmod a z] = [a / z / y % x, a / z % y, a % z]
  rw [Int.tmod_eq_emod_of_nonneg h0, Int.tdiv_eq_ediv_of_nonneg h0, wrap64_id (a := a / z) (by omega) (by omega), Int.tmod_eq_emod_of_nonneg d0, Int.tdiv_eq_ediv_of_nonneg d0, wrap64_id (by omega) (by omega), Int.tmod_eq_emod_of_nonneg e0]
 | _ :: _ :: _ :: _ :: _, h, _ => exact absurd h (by simp)
theorem crd_len (d : List Int) (a : Int) : (crd d a).length = d.length := impl_coordsOf.run_length d a _
theorem crd_in (d : List Int) (h3 : d.length ≤ 3) (hd : ∀ x ∈ d, 1 ≤ x ∧ x ≤ 40) (a : Int) (h0 : 0 ≤ a) (h1 : a ≤ 100000000) : ∀ i : Nat, i < d.length → 0 ≤ rd (crd d a) (i : Int) ∧ rd (crd d a) (i : Int) < rd d (i : Int) := by
 rw [crd_eq d h3 hd a h0 h1]
 have hm : ∀ (b x : Int), 1 ≤ x → 0 ≤ b % x ∧ b % x < x := fun b x hx => ⟨Int.emod_nonneg _ (by omega), Int.emod_lt_of_pos _ (by omega)⟩
 match d, h3, hd with
 | [], _, _ => intro i hi; simp at hi
 | [x], _, hd =>
  intro i hi
  have hx := hd x (by simp)
  obtain rfl : i = 0 := by simp at hi; omega
  exact hm _ x hx.1
 | [x, y], _, hd =>
  intro i hi
  have hx := hd x (by simp)
  have hy := hd y (by simp)
  have h : i = 0 ∨ i = 1 := by simp at hi; omega
  rcases h with rfl | rfl
  · exact hm _ x hx.1
  · exact hm _ y hy.1
 | [x, y, z], _, hd =>
  intro i hi
  have hx := hd x (by simp)
  have hy := hd y (by simp)
  have hz := hd z (by simp)
  have h : i = 0 ∨ i = 1 ∨ i = 2 := by simp at hi; omega
  rcases h with rfl | rfl | rfl
  · exact hm _ x hx.1
  · exact hm _ y hy.1
  · exact hm _ z hz.1
 | _ :: _ :: _ :: _ :: _, h, _ => exact absurd h (by simp)
theorem mem_rd (l : List Int) {P : Int → Prop} (h : ∀ i : Nat, i < l.length → P (rd l (i : Int))) : ∀ x ∈ l, P x := by
 intro x hx
 obtain ⟨i, hi, rfl⟩ := List.mem_iff_getElem.1 hx
 have := h i hi
 rwa [rd_lt l i hi] at this
theorem crd_mem (d : List Int) (h3 : d.length ≤ 3) (hd : ∀ x ∈ d, 1 ≤ x ∧ x ≤ 40) (a : Int) (h0 : 0 ≤ a) (h1 : a ≤ 100000000) : ∀ x ∈ crd d a, 0 ≤ x ∧ x ≤ 39 := by
 refine mem_rd _ (P := fun x => 0 ≤ x ∧ x ≤ 39) (fun i hi => ?_)
 rw [crd_len] at hi
 have h := crd_in d h3 hd a h0 h1 i hi
 have h2 := hd _ (List.getElem_mem hi)
 rw [rd_lt d i hi] at h
 omega
theorem unit_VB (d : List Int) (h3 : d.length ≤ 3) (hd : ∀ x ∈ d, 1 ≤ x ∧ x ≤ 40) (a : Int) (h0 : 0 ≤ a) (h1 : a ≤ 100000000) : VB d.length (unitB d a) := by
 refine ⟨crd_len d a, by show ((crd d a).map _).length = _; rw [List.length_map, crd_len], fun i hi => ?_⟩
 have h := crd_mem d h3 hd a h0 h1 _ (List.getElem_mem (show i < (crd d a).length by rw [crd_len]; exact hi))
 show 0 ≤ rd (crd d a) i ∧ rd (crd d a) i < rd ((crd d a).map (· + 1)) i ∧ rd ((crd d a).map (· + 1)) i ≤ 40
 rw [rd_lt _ i (by rw [crd_len]; exact hi), rd_lt _ i (by rw [List.length_map, crd_len]; exact hi), List.getElem_map]
 omega
theorem coords_loop (l : List Int) (a : Int) (hl : l.length ≤ 1048576) (hn : ∀ x ∈ l, x ≠ 0) : ∀ (d j k : Nat), j + d = l.length → d < k →
 spec_l05Coords.l0 k l (impl_coordsOf.run l a (List.range j)).1 (impl_coordsOf.run l a (List.range j)).2 ((l.length : Int) - 1 - j) = some (impl_coordsOf.run l a (List.range l.length)).2 := by
 intro d
 induction d with
 | zero =>
  intro j k hj hk
  obtain ⟨k, rfl⟩ : ∃ m, k = m + 1 := ⟨k - 1, by omega⟩
  rw [spec_l05Coords.l0, if_neg (by omega), show j = l.length by omega]
 | succ d ih =>
  intro j k hj hk
  obtain ⟨k, rfl⟩ : ∃ m, k = m + 1 := ⟨k - 1, by omega⟩
  have hlen := impl_coordsOf.run_length l a (List.range j)
  have e : (l.length : Int) - 1 - j = ((l.length - 1 - j : Nat) : Int) := by omega
  have hr : rd l ((l.length - 1 - j : Nat) : Int) = l[l.length - 1 - j]?.getD 0 := by simp [rd]
  have hne : l[l.length - 1 - j]?.getD 0 ≠ 0 := by
   rw [List.getElem?_eq_getElem (by omega)]
   exact hn _ (List.getElem_mem _)
  have h := ih (j + 1) k (by omega) (by omega)
  rw [List.range_succ, impl_coordsOf.run_snoc] at h
  unfold impl_coordsOf.step at h
  rw [show (l.length : Int) - 1 - ((j + 1 : Nat) : Int) = ((l.length - 1 - j : Nat) : Int) - 1 by omega] at h
  rw [spec_l05Coords.l0, e, if_pos (by omega), if_pos (by omega), if_pos (by omega), hr, if_neg hne, if_pos (by omega), Int.toNat_natCast, wrap64_id (a := ((l.length - 1 - j : Nat) : Int) - 1) (by omega) (by omega)]
  exact h
theorem crd_spec (d : List Int) (h3 : d.length ≤ 3) (hd : ∀ x ∈ d, 1 ≤ x ∧ x ≤ 40) (a : Int) (k : Nat) (hk : 10 ≤ k) : spec_l05Coords.f k d a = some (crd d a) := by
 unfold spec_l05Coords.f
 rw [if_pos (by omega), if_pos (by omega), Int.toNat_natCast, wrap64_id (by omega) (by omega)]
 have h := coords_loop d a (by omega) (fun x hx => by have := hd x hx; omega) d.length 0 k (by omega) (by omega)
 simp only [List.range_zero, Int.natCast_zero, Int.sub_zero] at h
 exact h
theorem crd_impl (d : List Int) (h3 : d.length ≤ 3) (hd : ∀ x ∈ d, 1 ≤ x ∧ x ≤ 40) (a : Int) : impl_coordsOf.f d a = some (crd d a) := by
 unfold impl_coordsOf.f
 rw [if_pos ⟨by omega, fun x hx => by have := hd x hx; omega⟩]
 rfl
theorem incr_loop {ρ : Type} (F : Nat → List Int → Int → ρ) (n : Nat) (c : List Int) (hc : c.length = n) (hb : ∀ x ∈ c, 0 ≤ x ∧ x ≤ 39)
 (hs : ∀ k (h : List Int) (i : Nat), h.length = n → i < n → F (k + 1) h (i : Int) = F k (h.set i (wrap64 (rd h (i : Int) + 1))) ((i + 1 : Nat) : Int)) :
 ∀ (d i k : Nat), i + d = n → F (k + d) ((c.take i).map (· + 1) ++ c.drop i) (i : Int) = F k (c.map (· + 1)) (n : Int) := by
 intro d
 induction d with
 | zero =>
  intro i k hi
  rw [show i = n by omega, ← hc, List.take_length, List.drop_length, List.append_nil]; rfl
 | succ d ih =>
  intro i k hi
  have hlt : i < c.length := by omega
  have hl : ((c.take i).map (· + 1)).length = i := by rw [List.length_map, List.length_take]; omega
  have hdr : c.drop i = c[i] :: c.drop (i + 1) := List.drop_eq_getElem_cons hlt
  have hx := hb _ (List.getElem_mem hlt)
  rw [show k + (d + 1) = (k + d) + 1 by omega, hs _ _ i (by rw [List.length_append, hl, List.length_drop]; omega) (by omega), ← ih (i + 1) k (by omega)]
  congr 1
  have hr : rd ((c.take i).map (· + 1) ++ c.drop i) (i : Int) = c[i] := by
   rw [rd_lt _ i (by rw [List.length_append, hl, List.length_drop]; omega), List.getElem_append_right (by omega)]
   simp only [hl, Nat.sub_self, List.getElem_drop, Nat.add_zero]
  rw [hr, wrap64_id (by omega) (by omega), List.set_append_right _ _ (by omega), hl, Nat.sub_self, hdr, List.set_cons_zero, List.take_succ_eq_append_getElem hlt, List.map_append, List.append_assoc]
  rfl
theorem each_loop {ρ : Type} (L : Nat → List S42 → Int → ρ) (ind : List Int) (U : Int → S42) (cost : Nat) (hn : ind.length ≤ 64000)
 (hs : ∀ k acc (i : Nat) (h : i < ind.length), acc.length ≤ 64000 → cost ≤ k → ∃ k', k ≤ k' + cost ∧ L k acc (i : Int) = L k' (acc ++ [U ind[i]]) ((i + 1 : Nat) : Int)) :
 ∀ (d i k : Nat) (acc : List S42), i + d = ind.length → acc.length = i → d * cost ≤ k → ∃ k', k ≤ k' + d * cost ∧ L k acc (i : Int) = L k' (acc ++ (ind.drop i).map U) (ind.length : Int) := by
 intro d
 induction d with
 | zero =>
  intro i k acc hi ha hk
  refine ⟨k, by omega, ?_⟩
  rw [show i = ind.length by omega, List.drop_length, List.map_nil, List.append_nil]
 | succ d ih =>
  intro i k acc hi ha hk
  rw [Nat.add_mul, Nat.one_mul] at hk
  have hlt : i < ind.length := by omega
  obtain ⟨k1, h1, e1⟩ := hs k acc i hlt (by omega) (by omega)
  obtain ⟨k2, h2, e2⟩ := ih (i + 1) k1 (acc ++ [U ind[i]]) (by omega) (by rw [List.length_append]; simp; omega) (by omega)
  refine ⟨k2, by rw [Nat.add_mul, Nat.one_mul]; omega, ?_⟩
  rw [e1, e2, List.append_assoc, List.drop_eq_getElem_cons hlt]
  rfl
theorem own_eq (l : List Int) (h : l.length ≤ 1000) : spec_l00Own.f l = some l := by
 unfold spec_l00Own.f
 simp only [Option.bind_some, List.length_nil, List.nil_append]
 rw [if_pos (by omega)]
theorem clone_eq (l : List Int) (h : l.length ≤ 1000) : slices_Clone_int64_int64.f l = some l := by
 unfold slices_Clone_int64_int64.f slices_Clone_int64_int64_nn.f
 simp only [Option.bind_some, List.length_nil, List.nil_append]
 rw [if_pos (by omega)]
def Inds (ind : List Int) : Prop := ind.length ≤ 64000 ∧ ∀ x ∈ ind, 0 ≤ x ∧ x ≤ 100000000
theorem each_spec (d : List Int) (h3 : d.length ≤ 3) (ind : List Int) (hd : ind ≠ [] → ∀ x ∈ d, 1 ≤ x ∧ x ≤ 40) (hi : Inds ind) (k : Nat) (hk : 1000000 ≤ k) : spec_l07Each.f k d ind = some (ind.map (unitB d)) := by
 unfold spec_l07Each.f
 obtain ⟨k', h, e⟩ := each_loop (fun k acc i => spec_l07Each.l0 k d ind acc i) ind (unitB d) 12 hi.1
  (by
   intro k acc i hlt ha hk
   obtain ⟨k, rfl⟩ : ∃ z, k = z + 12 := ⟨k - 12, by omega⟩
   have hx := hi.2 _ (List.getElem_mem hlt)
   have hl0 := hi.1
   have hd := hd (by intro h; rw [h] at hlt; simp at hlt)
   have hlen := crd_len d ind[i]
   refine ⟨k + 10 - d.length, by omega, ?_⟩
   show spec_l07Each.l0 (k + 11 + 1) d ind acc i = _
   rw [spec_l07Each.l0, if_pos (by omega), if_pos (by omega), rd_lt ind i hlt, crd_spec d h3 hd _ _ (by omega)]
   simp only [Option.bind_some]
   rw [own_eq _ (by omega)]
   simp only [Option.bind_some]
   have := incr_loop (fun k h j => spec_l07Each.l1 k d ind acc i (crd d ind[i]) h j) d.length (crd d ind[i]) hlen (crd_mem d h3 hd _ hx.1 hx.2)
    (by
     intro k h j hh hj
     show spec_l07Each.l1 (k + 1) d ind acc i _ h j = _
     rw [spec_l07Each.l1, if_pos (by omega), if_pos (by omega), Int.toNat_natCast, wrap_up j (by omega)])
    d.length 0 (k + 10 - d.length + 1) (by omega)
   simp only [List.take_zero, List.map_nil, List.nil_append, List.drop_zero] at this
   rw [show k + 11 = k + 10 - d.length + 1 + d.length by omega, show (0 : Int) = ((0 : Nat) : Int) from rfl, this]
   show spec_l07Each.l1 (k + 10 - d.length + 1) d ind acc i _ _ _ = _
   rw [spec_l07Each.l1, if_neg (by rw [List.length_map, hlen]; omega), if_pos (by omega), wrap_up i (by omega)]
   rfl)
  ind.length 0 k [] (by omega) rfl (by have := hi.1; omega)
 obtain ⟨k', rfl⟩ : ∃ z, k' = z + 1 := ⟨k' - 1, by have := hi.1; omega⟩
 rw [show spec_l07Each.l0 k d ind [] 0 = _ from e]
 show spec_l07Each.l0 (k' + 1) d ind _ _ = _
 rw [spec_l07Each.l0, if_neg (by omega)]
 rfl
theorem units_VL (d : List Int) (h3 : d.length ≤ 3) (ind : List Int) (hd : ind ≠ [] → ∀ x ∈ d, 1 ≤ x ∧ x ≤ 40) (hi : Inds ind) : VL d.length (ind.map (unitB d)) := by
 intro b hb
 obtain ⟨x, hx, rfl⟩ := List.mem_map.1 hb
 have := hi.2 x hx
 exact unit_VB d h3 (hd (by intro h; rw [h] at hx; cases hx)) x this.1 this.2
def bx (d : List Int) (ind : List Int) : List S42 := NF d.length fun p => or (mem (ind.map (unitB d)) p) (mem [] p)
def cap (l : List S42) : List S42 × Int := if l.length ≤ 32 then (l, 0) else ([], 5)
theorem full_eq (l : List S42) (h : l.length ≤ 1048576) : impl_normalFull.f l = some (cap l) := by
 unfold impl_normalFull.f cap
 by_cases h1 : l.length ≤ 32
 · rw [if_neg (by omega), if_pos h1]
 · rw [if_pos (by omega), if_neg h1]
theorem boxes_impl (d : List Int) (h3 : d.length ≤ 3) (ind : List Int) (hd : ind ≠ [] → ∀ x ∈ d, 1 ≤ x ∧ x ≤ 40) (hi : Inds ind) (k : Nat) (hk : 6000000 ≤ k) : impl_BoxesOf.l0 k d [] ind (ind.length : Int) 0 = some (cap (bx d ind)) := by
 obtain ⟨k', h, e⟩ := each_loop (fun k acc i => impl_BoxesOf.l0 k d acc ind (ind.length : Int) i) ind (unitB d) 12 hi.1
  (by
   intro k acc i hlt ha hk
   obtain ⟨k, rfl⟩ : ∃ z, k = z + 12 := ⟨k - 12, by omega⟩
   have hx := hi.2 _ (List.getElem_mem hlt)
   have hl0 := hi.1
   have hd := hd (by intro h; rw [h] at hlt; simp at hlt)
   have hlen := crd_len d ind[i]
   refine ⟨k + 10 - d.length, by omega, ?_⟩
   show impl_BoxesOf.l0 (k + 11 + 1) d acc ind _ i = _
   rw [impl_BoxesOf.l0, if_pos (by omega), if_pos (by omega), if_pos (by omega), rd_lt ind i hlt, crd_impl d h3 hd _]
   simp only [Option.bind_some]
   rw [clone_eq _ (by omega)]
   simp only [Option.bind_some]
   have := incr_loop (fun k h j => impl_BoxesOf.l1 k d acc (crd d ind[i]) h ind (ind.length : Int) i ((crd d ind[i]).length : Int) j) d.length (crd d ind[i]) hlen (crd_mem d h3 hd _ hx.1 hx.2)
    (by
     intro k h j hh hj
     show impl_BoxesOf.l1 (k + 1) d acc _ h ind _ i _ j = _
     rw [impl_BoxesOf.l1, if_pos (by omega), if_pos (by omega), if_pos (by omega), Int.toNat_natCast, wrap_up j (by omega)])
    d.length 0 (k + 10 - d.length + 1) (by omega)
   simp only [List.take_zero, List.map_nil, List.nil_append, List.drop_zero] at this
   rw [show k + 11 = k + 10 - d.length + 1 + d.length by omega, show (0 : Int) = ((0 : Nat) : Int) from rfl, this]
   show impl_BoxesOf.l1 (k + 10 - d.length + 1) d acc _ _ ind _ i _ _ = _
   rw [impl_BoxesOf.l1, if_neg (by omega), if_pos (by omega), wrap_up i (by omega)]
   rfl)
  ind.length 0 k [] (by omega) rfl (by have := hi.1; omega)
 obtain ⟨k', rfl⟩ : ∃ z, k' = z + 1 := ⟨k' - 1, by have := hi.1; omega⟩
 rw [show impl_BoxesOf.l0 k d [] ind (ind.length : Int) 0 = _ from e]
 show impl_BoxesOf.l0 (k' + 1) d _ ind _ _ = _
 have hl := hi.1
 rw [impl_BoxesOf.l0, if_neg (by omega), List.drop_zero, List.nil_append, comb_either d.length h3 _ [] (units_VL d h3 ind hd hi) (by intro b hb; cases hb) (by rw [List.length_map]; omega) (by simp) k' (by omega)]
 simp only [Option.bind_some]
 rw [full_eq _ (by have := NF_small d.length h3 (fun p => or (mem (ind.map (unitB d)) p) (mem [] p)); omega)]
 rfl
theorem st_ok {x d y B : Int} (hx : 0 ≤ x ∧ x ≤ B) (hB : B ≤ 100000000) (hd : 0 ≤ d ∧ d ≤ 40) (hy : 0 ≤ y ∧ y ≤ 40) : 0 ≤ wrap64 (wrap64 (x * d) + y) ∧ wrap64 (wrap64 (x * d) + y) ≤ 100 * B + 100 := by
 have h := mul_le hx.1 hd.1 hx.2 hd.2
 rw [wrap64_id (a := x * d) (by omega) (by omega), wrap64_id (by omega) (by omega)]
 omega
def bd : Nat → Int
 | 0 => 0
 | n + 1 => 100 * bd n + 100
theorem bd_le (n : Nat) (h : n ≤ 3) : bd n ≤ 1010100 := by
 have : n = 0 ∨ n = 1 ∨ n = 2 ∨ n = 3 := by omega
 rcases this with rfl | rfl | rfl | rfl <;> decide
theorem rd_all {l : List Int} {P : Int → Prop} (h : ∀ x ∈ l, P x) (i : Nat) (hi : i < l.length) : P (rd l (i : Int)) := by
 rw [rd_lt l i hi]; exact h _ (List.getElem_mem hi)
theorem ax_in (l1 l2 l3 l4 : List Int) (i : Nat) (h : okD l1 l2 l3 l4 i) : ∀ x ∈ axisL l1 l2 l3 l4 i, 0 ≤ x ∧ x ≤ 40 := by
 obtain ⟨h1, h3, h4, h2, h5⟩ := h
 intro x hx
 unfold axisL axJ axG at hx
 simp only [List.mem_flatMap, List.mem_range'_1, List.mem_singleton] at hx
 obtain ⟨j, hj, t, ht, rfl⟩ := hx
 have e1 : 0 ≤ (j : Int) * rd l2 (i : Int) := Int.mul_nonneg (by omega) (by omega)
 have e2 : (j : Int) * rd l2 (i : Int) ≤ (rd l3 i - 1) * rd l2 i := Int.mul_le_mul_of_nonneg_right (by omega) (by omega)
 rw [wrap64_id (a := (j : Int) * rd l2 (i : Int)) (by omega) (by omega), wrap64_id (a := rd l1 (i : Int) + _) (by omega) (by omega), wrap64_id (by omega) (by omega)]
 omega
theorem slab_in (d l1 l2 l3 l4 : List Int) (hd : ∀ x ∈ d, 0 ≤ x ∧ x ≤ 40) (h3 : d.length ≤ 3) (hD : ∀ i, i < d.length → okD l1 l2 l3 l4 i) : ∀ (c i : Nat) (out : List Int), i + c = d.length → (∀ x ∈ out, 0 ≤ x ∧ x ≤ bd i) → ∀ x ∈ slabR d l1 l2 l3 l4 c i out, 0 ≤ x ∧ x ≤ bd d.length := by
 intro c
 induction c with
 | zero => intro i out hi ho; rw [← hi]; exact ho
 | succ c ih =>
  intro i out hi ho
  refine ih (i + 1) _ (by omega) (fun x hx => ?_)
  unfold slabStep stQ stG at hx
  simp only [List.mem_flatMap, List.mem_range'_1, List.mem_singleton] at hx
  obtain ⟨q, hq, t, ht, rfl⟩ := hx
  exact st_ok (rd_all ho q (by omega)) (by have := bd_le i (by omega); omega) (rd_all hd i (by omega)) (rd_all (ax_in l1 l2 l3 l4 i (hD i (by omega))) t (by omega))
theorem idx_in (d p : List Int) (hd : ∀ x ∈ d, 0 ≤ x ∧ x ≤ 40) (h3 : d.length ≤ 3) (hp : ∀ i, i < d.length → 0 ≤ rd p (i : Int) ∧ rd p (i : Int) ≤ 40) : ∀ (c i : Nat) (x : Int), i + c = d.length → 0 ≤ x ∧ x ≤ bd i → 0 ≤ idxR d p c i x ∧ idxR d p c i x ≤ bd d.length := by
 intro c
 induction c with
 | zero => intro i x hi hx; rw [← hi]; exact hx
 | succ c ih =>
  intro i x hi hx
  exact ih (i + 1) _ (by omega) (st_ok hx (by have := bd_le i (by omega); omega) (rd_all hd i (by omega)) (hp i (by omega)))
theorem inds (d : List Int) (a : Int) (l1 l2 l3 l4 : List Int) (ps : List S110) (h : okV d a l1 l2 l3 l4 ps) : Inds (indL d a l1 l2 l3 l4 ps) ∧ (indL d a l1 l2 l3 l4 ps ≠ [] → ∀ x ∈ d, 1 ≤ x ∧ x ≤ 40) := by
 have hl := indL_len d a l1 l2 l3 l4 ps h
 obtain ⟨⟨h3, hd, hpr⟩, hF, hS, hP⟩ := h
 have hb := bd_le d.length h3
 unfold Inds
 unfold indL at hl ⊢
 by_cases e1 : a = 1
 ·
  simp only [if_pos e1] at hl ⊢
  refine ⟨⟨hl, fun x hx => ?_⟩, fun hne => ?_⟩
  · unfold allG at hx
    simp only [List.mem_flatMap, List.mem_range'_1, List.mem_singleton] at hx
    obtain ⟨i, hi, rfl⟩ := hx
    omega
  · have hz : prodL d ≠ 0 := fun e => hne (by rw [e]; rfl)
    intro x hx
    have h1 := nonzero d hz x hx
    have h2 := hd x hx
    omega
 ·
  simp only [if_neg e1] at hl ⊢
  by_cases e3 : a = 3
  ·
   simp only [if_pos e3] at hl ⊢
   obtain ⟨hq1, hq2⟩ := hS e3
   obtain ⟨-, -, -, -, hok⟩ := okF_slab hF e3
   have hD : ∀ i, i < d.length → okD l1 l2 l3 l4 i := fun i hi => hok i (by omega) (by omega)
   refine ⟨⟨hl, fun x hx => ?_⟩, fun _ => mem_rd d (P := fun x => 1 ≤ x ∧ x ≤ 40) (fun i hi => ?_)⟩
   · have := slab_in d l1 l2 l3 l4 hd h3 hD d.length 0 [0] (by omega) (fun x hx => by rw [List.mem_singleton.1 hx]; decide) x hx
     omega
   · obtain ⟨g1, g3, g4, g2, -⟩ := hD i hi
     have hm := hq2 i hi
     unfold endv at hm
     have e : 0 ≤ (rd l3 (i : Int) - 1) * rd l2 (i : Int) := Int.mul_nonneg (by omega) (by omega)
     have h2 : 0 ≤ rd d (i : Int) ∧ rd d (i : Int) ≤ 40 := rd_all hd i hi
     omega
  ·
   simp only [if_neg e3] at hl ⊢
   by_cases e4 : a = 4
   ·
    simp only [if_pos e4] at hl ⊢
    have hin := hP e4
    have hpt : ∀ (j : Nat), j < ps.length → ∀ i : Nat, i < d.length → 0 ≤ rd (rd_T110 ps (j : Int)).f0 (i : Int) ∧ rd (rd_T110 ps (j : Int)).f0 (i : Int) ≤ rd d (i : Int) - 1 := by
     intro j hj i hi
     obtain ⟨k1, k2⟩ := hin j hj
     have h2 : 0 ≤ rd d (i : Int) ∧ rd d (i : Int) ≤ 40 := rd_all hd i hi
     have := k2 i (by omega)
     rw [wrap64_id (by omega) (by omega)] at this
     exact this
    refine ⟨⟨hl, fun x hx => ?_⟩, fun hne => mem_rd d (P := fun x => 1 ≤ x ∧ x ≤ 40) (fun i hi => ?_)⟩
    · unfold ptG at hx
      simp only [List.mem_flatMap, List.mem_range'_1, List.mem_singleton] at hx
      obtain ⟨j, hj, rfl⟩ := hx
      have := idx_in d (rd_T110 ps (j : Int)).f0 hd h3 (fun i hi => by
       have h2 : 0 ≤ rd d (i : Int) ∧ rd d (i : Int) ≤ 40 := rd_all hd i hi
       have := hpt j (by omega) i hi
       omega) d.length 0 0 (by omega) (by decide)
      omega
    · have hps : 0 < ps.length := Nat.pos_of_ne_zero (fun e => hne (by rw [e]; rfl))
      have h2 : 0 ≤ rd d (i : Int) ∧ rd d (i : Int) ≤ 40 := rd_all hd i hi
      have := hpt 0 hps i hi
      omega
   · simp only [if_neg e4] at hl ⊢
     exact ⟨⟨by simp, fun x hx => by cases hx⟩, fun h => absurd rfl h⟩
theorem inBx_unit : ∀ (c p : List Int), p.length = c.length → (inBx c (c.map (· + 1)) p = true ↔ p = c)
 | [], p, h => by
  obtain rfl : p = [] := List.length_eq_zero_iff.1 h
  exact ⟨fun _ => rfl, fun _ => rfl⟩
 | a :: c, p, h => by
  match p, h with
  | x :: p, h =>
   have ih := inBx_unit c p (by simpa using h)
   show ((decide (a ≤ x) && decide (x < a + 1)) && inBx c (c.map (· + 1)) p) = true ↔ x :: p = a :: c
   rw [Bool.and_eq_true, Bool.and_eq_true, decide_eq_true_eq, decide_eq_true_eq, ih, List.cons.injEq]
   constructor
   · rintro ⟨⟨h1, h2⟩, rfl⟩; exact ⟨by omega, rfl⟩
   · rintro ⟨rfl, rfl⟩; exact ⟨⟨by omega, by omega⟩, rfl⟩
theorem ix {m M c z : Int} (hm : 0 ≤ m ∧ m < M) (hc : 0 ≤ c ∧ c < z) : (0 ≤ m * z + c ∧ m * z + c < M * z) ∧ (m * z + c) / z = m ∧ (m * z + c) % z = c := by
 have h0 : 0 ≤ m * z := Int.mul_nonneg hm.1 (by omega)
 have h1 : m * z ≤ (M - 1) * z := Int.mul_le_mul_of_nonneg_right (by omega) (by omega)
 rw [Int.sub_mul, Int.one_mul] at h1
 refine ⟨⟨by omega, by omega⟩, ?_, ?_⟩
 · rw [Int.add_comm, Int.add_mul_ediv_right _ _ (by omega), Int.ediv_eq_zero_of_lt hc.1 hc.2, Int.zero_add]
 · rw [Int.add_comm, Int.add_mul_emod_self_right, Int.emod_eq_of_lt hc.1 hc.2]
theorem crd_back (d p : List Int) (h3 : d.length ≤ 3) (hd : ∀ x ∈ d, 1 ≤ x ∧ x ≤ 40) (hp : p.length = d.length) (h : ∀ i : Nat, i < d.length → 0 ≤ rd p (i : Int) ∧ rd p (i : Int) < rd d (i : Int)) : ∃ n : Int, (0 ≤ n ∧ n < prodL d) ∧ crdL d n = p := by
 match d, p, h3, hp with
 | [], [], _, _ => exact ⟨0, ⟨by decide, by decide⟩, rfl⟩
 | [x], [a], _, _ =>
  have h0 : 0 ≤ a ∧ a < x := h 0 (by simp)
  refine ⟨a, ⟨h0.1, by simp only [prodL, List.foldl_cons, List.foldl_nil, Int.one_mul]; exact h0.2⟩, ?_⟩
  show [a % x] = [a]
  rw [Int.emod_eq_of_lt h0.1 h0.2]
 | [x, y], [a, b], _, _ =>
  have h0 : 0 ≤ a ∧ a < x := h 0 (by simp)
  have h1 : 0 ≤ b ∧ b < y := h 1 (by simp)
  obtain ⟨g, e1, e2⟩ := ix h0 h1
  refine ⟨a * y + b, ⟨g.1, by simp only [prodL, List.foldl_cons, List.foldl_nil, Int.one_mul]; exact g.2⟩, ?_⟩
  show [(a * y + b) / y % x, (a * y + b) % y] = [a, b]
  rw [e1, e2, Int.emod_eq_of_lt h0.1 h0.2]
 | [x, y, z], [a, b, c], _, _ =>
  have h0 : 0 ≤ a ∧ a < x := h 0 (by simp)
  have h1 : 0 ≤ b ∧ b < y := h 1 (by simp)
  have h2 : 0 ≤ c ∧ c < z := h 2 (by simp)
  obtain ⟨g, e1, e2⟩ := ix h0 h1
  obtain ⟨g', e3, e4⟩ := ix g h2
  refine ⟨(a * y + b) * z + c, ⟨g'.1, by simp only [prodL, List.foldl_cons, List.foldl_nil, Int.one_mul]; exact g'.2⟩, ?_⟩
  show [((a * y + b) * z + c) / z / y % x, ((a * y + b) * z + c) / z % y, ((a * y + b) * z + c) % z] = [a, b, c]
  rw [e3, e4, e1, e2, Int.emod_eq_of_lt h0.1 h0.2]
 | _ :: _ :: _ :: _ :: _, _, h, _ => exact absurd h (by simp)
theorem inBx_low : ∀ (d p : List Int), p.length = d.length → (inBx (List.replicate d.length 0) d p = true ↔ ∀ i : Nat, i < d.length → 0 ≤ rd p (i : Int) ∧ rd p (i : Int) < rd d (i : Int))
 | [], p, h => by
  obtain rfl : p = [] := List.length_eq_zero_iff.1 h
  exact ⟨fun _ i hi => by simp at hi, fun _ => rfl⟩
 | b :: d, p, h => by
  match p, h with
  | x :: p, h =>
   have ih := inBx_low d p (by simpa using h)
   show ((decide (0 ≤ x) && decide (x < b)) && inBx (List.replicate d.length 0) d p) = true ↔ _
   rw [Bool.and_eq_true, Bool.and_eq_true, decide_eq_true_eq, decide_eq_true_eq, ih]
   constructor
   · rintro ⟨h1, h2⟩ i hi
     cases i with
     | zero => exact h1
     | succ i => rw [rd_consS, rd_consS]; exact h2 i (by simpa using hi)
   · intro h1
     refine ⟨h1 0 (by simp), fun i hi => ?_⟩
     have := h1 (i + 1) (by simpa using hi)
     rwa [rd_consS, rd_consS] at this
theorem all_mem (d : List Int) (h3 : d.length ≤ 3) (hd : ∀ x ∈ d, 1 ≤ x ∧ x ≤ 40) (hpr : prodL d ≤ 600) (p : List Int) (hp : p.length = d.length) :
 mem (((List.range' 0 (prodL d).toNat).flatMap allG).map (unitB d)) p = inBx (List.replicate d.length 0) d p := by
 rw [Bool.eq_iff_iff, inBx_low d p hp]
 unfold mem
 rw [List.any_eq_true]
 constructor
 ·
  rintro ⟨b, hb, hin⟩
  obtain ⟨n, hn, rfl⟩ := List.mem_map.1 hb
  unfold allG at hn
  simp only [List.mem_flatMap, List.mem_range'_1, List.mem_singleton] at hn
  obtain ⟨m, hm, rfl⟩ := hn
  have := (inBx_unit (crd d (m : Int)) p (by rw [crd_len]; exact hp)).1 hin
  rw [this]
  exact crd_in d h3 hd _ (by omega) (by omega)
 ·
  intro h
  obtain ⟨n, hn, e⟩ := crd_back d p h3 hd hp h
  refine ⟨unitB d n, List.mem_map.2 ⟨n, ?_, rfl⟩, ?_⟩
  · unfold allG
    simp only [List.mem_flatMap, List.mem_range'_1, List.mem_singleton]
    exact ⟨n.toNat, by omega, by omega⟩
  · refine (inBx_unit (crd d n) p (by rw [crd_len]; exact hp)).2 ?_
    rw [crd_eq d h3 hd n hn.1 (by omega), e]
theorem rle_tail (f : Nat → List S42) : ∀ (d x : Nat) (out : List S42) (b : Int), (∀ y, x ≤ y → f y = []) → rle f d x out [] b = out := by
 intro d
 induction d with
 | zero => intro x out b _; rfl
 | succ d ih => intro x out b h; unfold rle; rw [if_pos (h x (Nat.le_refl _))]; exact ih _ _ _ (fun y hy => h y (by omega))
theorem rle_box (f : Nat → List S42) (B : List S42) (hB : B ≠ []) (n : Nat) (hf : ∀ y, f y = if y < n then B else []) : ∀ (d x : Nat), x + d = 41 → x ≤ n → n ≤ 40 → rle f d x [] B 0 = pre B 0 n := by
 intro d
 induction d with
 | zero => intro x h1 h2 h3; omega
 | succ d ih =>
  intro x h1 h2 h3
  unfold rle
  by_cases h : x < n
  · rw [hf, if_pos h, if_pos rfl]; exact ih (x + 1) (by omega) (by omega) h3
  · rw [hf, if_neg h, if_neg (fun e => hB e.symm), List.nil_append, show x = n by omega]
    exact rle_tail f _ _ _ _ (fun y hy => by rw [hf, if_neg (by omega)])
theorem NF_full : ∀ (d : List Int), (∀ x ∈ d, 1 ≤ x ∧ x ≤ 40) → NF d.length (inBx (List.replicate d.length 0) d) = [⟨List.replicate d.length 0, d⟩]
 | [], _ => rfl
 | b :: d, h => by
  have ih := NF_full d (fun x hx => h x (List.mem_cons_of_mem _ hx))
  have hb := h b List.mem_cons_self
  have hf : ∀ y : Nat, (if y < 40 then NF d.length (fun p => inBx (List.replicate (b :: d).length 0) (b :: d) ((y : Int) :: p)) else []) = if y < b.toNat then [⟨List.replicate d.length 0, d⟩] else [] := by
   intro y
   have e : (fun p => inBx (List.replicate (b :: d).length 0) (b :: d) ((y : Int) :: p)) = fun p => (decide ((y : Int) < b) && inBx (List.replicate d.length 0) d p) := by
    funext p
    show ((decide ((0 : Int) ≤ y) && decide ((y : Int) < b)) && inBx (List.replicate d.length 0) d p) = _
    rw [decide_eq_true (show (0 : Int) ≤ y by omega), Bool.true_and]
   rw [e]
   by_cases h1 : y < b.toNat
   · rw [if_pos (by omega), if_pos h1, decide_eq_true (show (y : Int) < b by omega), ← ih]
     rfl
   · rw [if_neg h1, decide_eq_false (show ¬ (y : Int) < b by omega)]
     simp only [Bool.false_and, NF_false, ite_self]
  show NF (d.length + 1) _ = _
  unfold NF
  show rle (fun y : Nat => if y < 40 then NF d.length (fun p => inBx (List.replicate (b :: d).length 0) (b :: d) ((y : Int) :: p)) else []) (40 + 1) 0 [] [] 0 = _
  unfold rle
  rw [hf 0, if_pos (show 0 < b.toNat by omega), if_neg (by simp)]
  show rle _ 40 1 [] _ 0 = _
  rw [rle_box _ [⟨List.replicate d.length 0, d⟩] (by simp) b.toNat hf 40 1 (by omega) (by omega) (by omega), show ((b.toNat : Nat) : Int) = b by omega]
  rfl
theorem bx_all (d : List Int) (h3 : d.length ≤ 3) (hd : ∀ x ∈ d, 1 ≤ x ∧ x ≤ 40) (hpr : prodL d ≤ 600) : bx d ((List.range' 0 (prodL d).toNat).flatMap allG) = [⟨List.replicate d.length 0, d⟩] := by
 unfold bx
 rw [← NF_full d hd]
 refine NF_congr _ (fun p hp => ?_)
 rw [all_mem d h3 hd hpr p hp.1]
 show (_ || false) = _
 rw [Bool.or_false]
theorem rdP_lt (l : List S110) (i : Nat) (h : i < l.length) : rd_T110 l (i : Int) = l[i] := by
 simp [rd_T110, h]
theorem markP (n : Nat) (hn : n ≤ 1048576) : ∀ (d i : Nat) (x : Int) (l : List S110), l.length = n → i + d = n → 0 ≤ x → x + 1048576 * (d : Int) ≤ 1125899906842624 → (∀ j, i ≤ j → j < n → QS110 (rd_T110 l (j : Int))) →
 ∃ (t : Int) (r : List S110), 0 ≤ t ∧ ∀ k, 1048600 + d < k → laws_markPointS.l0 k l x (i : Int) = some (t, r) := by
 intro d
 induction d with
 | zero =>
  intro i x l hl hi h0 h1 hq
  refine ⟨x, l, h0, fun k hk => ?_⟩
  obtain ⟨k, rfl⟩ : ∃ m, k = m + 1 := ⟨k - 1, by omega⟩
  rw [laws_markPointS.l0, if_neg (by omega)]
 | succ d ih =>
  intro i x l hl hi h0 h1 hq
  have q0 : ((rd_T110 l (i : Int)).f0.length : Int) ≤ 1048576 := hq i (by omega) (by omega)
  obtain ⟨r0, m0⟩ := markF (rd_T110 l (i : Int)).f0 (by omega) x h0 (by omega)
  obtain ⟨t, r, ht, hk0⟩ := ih (i + 1) (x + (rd_T110 l (i : Int)).f0.length) (l.set i ⟨r0⟩) (by rw [List.length_set]; exact hl) (by omega) (by omega) (by omega) (fun j h2 h3 => by
   have h4 := hq j (by omega) h3
   rw [rdP_lt l j (by omega)] at h4
   rw [rdP_lt _ j (by rw [List.length_set]; omega), List.getElem_set_ne (by omega)]
   exact h4)
  refine ⟨t, r, ht, fun k hk => ?_⟩
  obtain ⟨k, rfl⟩ : ∃ m, k = m + 1 := ⟨k - 1, by omega⟩
  rw [laws_markPointS.l0, if_pos (by omega), if_pos (by omega), m0 k (by omega)]
  simp only [Option.bind_some]
  rw [Int.toNat_natCast, wrap_up i (by omega)]
  exact hk0 k (by omega)
theorem markS (a : Int) (l1 l2 l3 l4 : List Int) (ps : List S110) (h1 : (l1.length : Int) ≤ 1048576) (h2 : (l2.length : Int) ≤ 1048576) (h3 : (l3.length : Int) ≤ 1048576) (h4 : (l4.length : Int) ≤ 1048576) (hp : (ps.length : Int) ≤ 1048576) (hq : ∀ y ∈ ps, QS110 y) (x : Int) (hx0 : 0 ≤ x) (hx1 : x ≤ 10000000) :
 ∃ (t : Int) (r1 r2 r3 r4 : List Int), ¬ t < 0 ∧ ∀ k, 3000000 ≤ k → laws_markSelection.f k a l1 l2 l3 l4 ps x = some (t, r1, r2, r3, r4) := by
 obtain ⟨r1, m1⟩ := markF l1 (by omega) x hx0 (by omega)
 obtain ⟨r2, m2⟩ := markF l2 (by omega) (x + l1.length) (by omega) (by omega)
 obtain ⟨r3, m3⟩ := markF l3 (by omega) (x + l1.length + l2.length) (by omega) (by omega)
 obtain ⟨r4, m4⟩ := markF l4 (by omega) (x + l1.length + l2.length + l3.length) (by omega) (by omega)
 obtain ⟨t, r, ht, m5⟩ := markP ps.length (by omega) ps.length 0 (x + l1.length + l2.length + l3.length + l4.length) ps rfl (by omega) (by omega) (by omega) (fun j _ hj => by rw [rdP_lt ps j hj]; exact hq _ (List.getElem_mem _))
 refine ⟨t, r1, r2, r3, r4, by omega, fun k hk => ?_⟩
 unfold laws_markSelection.f
 rw [m1 k (by omega)]
 simp only [Option.bind_some]
 rw [m2 k (by omega)]
 simp only [Option.bind_some]
 rw [m3 k (by omega)]
 simp only [Option.bind_some]
 rw [m4 k (by omega)]
 simp only [Option.bind_some]
 unfold laws_markPointS.f
 rw [show laws_markPointS.l0 k ps _ 0 = _ from m5 k (by omega)]
 rfl
theorem of_spec (d : List Int) (a : Int) (l1 l2 l3 l4 : List Int) (ps : List S110) (h : okV d a l1 l2 l3 l4 ps) (k : Nat) (hk : 17000000 ≤ k) : spec_l07Of.f k d a l1 l2 l3 l4 ps = some (bx d (indL d a l1 l2 l3 l4 ps)) := by
 obtain ⟨hi, hd⟩ := inds d a l1 l2 l3 l4 ps h
 have h3 := h.1.1
 have hl := hi.1
 obtain ⟨k, rfl⟩ : ∃ m, k = m + 1 := ⟨k - 1, by omega⟩
 have rest : spec_l07Of.j0 (k + 1) d false a l1 l2 l3 l4 ps = some (bx d (indL d a l1 l2 l3 l4 ps)) := by
  have hK : KS d.length ≤ 16000000 := by
   have : d.length = 0 ∨ d.length = 1 ∨ d.length = 2 ∨ d.length = 3 := by omega
   rcases this with e | e | e | e <;> rw [e] <;> decide
  rw [spec_l07Of.j0, if_neg (by decide), ind_spec d a l1 l2 l3 l4 ps h k (by omega)]
  simp only [Option.bind_some]
  rw [each_spec d h3 _ hd hi k (by omega)]
  simp only [Option.bind_some]
  rw [comb_spec 1 or or_holds rfl d.length h3 _ [] (units_VL d h3 _ hd hi) (by intro b hb; cases hb) (by rw [List.length_map]; omega) (by simp) k (by omega)]
  rfl
 unfold spec_l07Of.f
 by_cases e1 : a = 1
 ·
  rw [if_pos e1, prod_spec _ d (by omega) h.1]
  simp only [Option.bind_some]
  by_cases hp : prodL d > 0
  ·
   rw [decide_eq_true hp, spec_l07Of.j0, if_pos rfl, if_pos (by omega), if_pos (by omega), own_eq d (by omega)]
   have hz : ∀ x ∈ d, 1 ≤ x ∧ x ≤ 40 := fun x hx => by
    have h1 := nonzero d (by omega) x hx
    have h2 := h.1.2.1 x hx
    omega
   have e : indL d a l1 l2 l3 l4 ps = (List.range' 0 (prodL d).toNat).flatMap allG := by unfold indL; rw [if_pos e1]
   rw [e, bx_all d h3 hz h.1.2.2]
   rfl
  · rw [decide_eq_false hp]; exact rest
 · rw [if_neg e1]; exact rest
theorem cap_ok (d : List Int) (h3 : d.length ≤ 3) (ind : List Int) : (cap (bx d ind)).1.length ≤ 32 ∧ ∃ r, r ≤ 3 ∧ Rows r (cap (bx d ind)).1 := by
 unfold cap
 split
 · rename_i h
   exact ⟨h, d.length, h3, NF_rows _ _⟩
 · exact ⟨by simp, 0, by omega, rows_nil _⟩
theorem both (d : List Int) (a : Int) (l1 l2 l3 l4 : List Int) (ps : List S110) (hp : (ps.length : Int) ≤ 1048576) (hq : ∀ y ∈ ps, QS110 y) :
 ∃ v : List S42 × Int, (v.1.length ≤ 32 ∧ ∃ r, r ≤ 3 ∧ Rows r v.1) ∧ ∀ k, 17000000 ≤ k → spec_BoxesOf.f k d a l1 l2 l3 l4 ps = some v ∧ impl_BoxesOf.f k d a l1 l2 l3 l4 ps = some v := by
 by_cases hv : okV d a l1 l2 l3 l4 ps
 ·
  obtain ⟨hi, hd⟩ := inds d a l1 l2 l3 l4 ps hv
  refine ⟨cap (bx d (indL d a l1 l2 l3 l4 ps)), cap_ok d hv.1.1 _, fun k hk => ⟨?_, ?_⟩⟩
  ·
   unfold spec_BoxesOf.f
   rw [valid_spec d a l1 l2 l3 l4 ps (by omega) hq k (by omega), decide_eq_true hv]
   simp only [Option.bind_some, if_true]
   rw [of_spec d a l1 l2 l3 l4 ps hv k hk]
   simp only [Option.bind_some]
   unfold cap
   split
   · rw [if_neg (by omega)]
   · rw [if_pos (by omega)]
  · unfold impl_BoxesOf.f
    rw [valid_impl d a l1 l2 l3 l4 ps (by omega) hq k (by omega), decide_eq_true hv]
    simp only [Option.bind_some, if_true]
    rw [ind_impl d a l1 l2 l3 l4 ps hv k (by omega)]
    simp only [Option.bind_some]
    exact boxes_impl d hv.1.1 _ hd hi k (by omega)
 ·
  refine ⟨([], 1), ⟨by simp, 0, by omega, rows_nil _⟩, fun k hk => ⟨?_, ?_⟩⟩
  · unfold spec_BoxesOf.f
    rw [valid_spec d a l1 l2 l3 l4 ps (by omega) hq k (by omega), decide_eq_false hv]
    rfl
  · unfold impl_BoxesOf.f
    rw [valid_impl d a l1 l2 l3 l4 ps (by omega) hq k (by omega), decide_eq_false hv]
    rfl
theorem FnExactBoxesOf : laws_FnExactBoxesOf.Pure := by
 intro l0 a1_0 l1_1 l1_2 l1_3 l1_4 l1_5 o_l0 o_a1_0 o_l1_1 o_l1_2 o_l1_3 o_l1_4 o_l1_5
 refine ⟨20000000, ?_⟩
 by_cases g_l0 : (l0.length : Int) > 1048576
 · simp only [laws_FnExactBoxesOf.f, if_pos g_l0]
 have q_l0_0 : (l0.length : Int) ≤ 1048576 := by omega
 obtain ⟨t1, e1, h1⟩ := g_szSelection 20000000 a1_0 l1_1 l1_2 l1_3 l1_4 l1_5 1048576 (by omega) (by omega) (by omega) o_l1_1 o_l1_2 o_l1_3 o_l1_4 o_l1_5
 rcases h1 with h1 | ⟨h1, m1, q_l1_1_0, q_l1_2_0, q_l1_3_0, q_l1_4_0, q_l1_5_0, q_l1_5_1⟩
 · simp only [laws_FnExactBoxesOf.f, if_neg g_l0, e1, Option.bind_some, if_pos h1]
 have n1 : ¬ t1 < 0 := by omega
 have T1 := fun k (hk : 16000000 ≤ k) => g_toInt64S k l0 (by omega) q_l0_0
 have E1 := fun k (hk : 16000000 ≤ k) => g_eqInt64S k l0 (by omega) q_l0_0
 have T2 := fun k (hk : 16000000 ≤ k) => g_toSelection k a1_0 l1_1 l1_2 l1_3 l1_4 l1_5 (by omega) q_l1_1_0 q_l1_2_0 q_l1_3_0 q_l1_4_0 q_l1_5_0 q_l1_5_1
 have cl_l1_5 : (((l1_5.map cS107)).length : Int) ≤ 1048576 := by rw [List.length_map]; exact q_l1_5_0
 have cq_l1_5 := qmS107 l1_5 q_l1_5_1
 have E2 := fun k (hk : 16000000 ≤ k) => g_eqSelection k a1_0 l1_1 l1_2 l1_3 l1_4 (l1_5.map cS107) (by omega) q_l1_1_0 q_l1_2_0 q_l1_3_0 q_l1_4_0 cl_l1_5 cq_l1_5
 obtain ⟨⟨g, c⟩, ⟨hg, rk, hrk, hR⟩, hv⟩ := both l0 a1_0 l1_1 l1_2 l1_3 l1_4 (l1_5.map cS107) cl_l1_5 cq_l1_5
 have HS := fun k (hk : 17000000 ≤ k) => (hv k hk).1
 have HI := fun k (hk : 17000000 ≤ k) => (hv k hk).2
 have EB := fun k (hk : 16000000 ≤ k) => g_eqBoxS k g (by omega) (by have : g.length ≤ 32 := hg; omega) (fun y hy => by obtain ⟨h1, h2⟩ := hR y hy; exact ⟨by omega, by omega⟩)
 obtain ⟨r0, M0_⟩ := markF l0 (by omega) 1 (by omega) (by omega)
 have M0 := fun k (hk : 16000000 ≤ k) => M0_ k (by omega)
 obtain ⟨t2, s1, s2, s3, s4, n2, M1_⟩ := markS a1_0 l1_1 l1_2 l1_3 l1_4 (l1_5.map cS107) q_l1_1_0 q_l1_2_0 q_l1_3_0 q_l1_4_0 cl_l1_5 cq_l1_5 (1 + l0.length) (by omega) (by omega)
 have M1 := fun k (hk : 16000000 ≤ k) => M1_ k (by omega)
 obtain ⟨n, nr, hn0, hn, hh⟩ := marksG g hg rk hrk hR
 unfold laws_FnExactBoxesOf.f
 rw [if_neg g_l0, e1]
 simp only [Option.bind_some]
 rw [if_neg n1, T1 _ (by omega)]
 simp only [Option.bind_some]
 rw [T2 _ (by omega)]
 simp only [Option.bind_some]
 rw [HS _ (by omega)]
 simp only [Option.bind_some]
 rw [HI _ (by omega)]
 simp only [Option.bind_some]
 rw [EB _ (by omega)]
 simp only [Option.bind_some, if_true, bne_self_eq_false]
 rw [laws_FnExactBoxesOf.j0, if_neg (by decide), T1 _ (by omega)]
 simp only [Option.bind_some]
 rw [E1 _ (by omega)]
 simp only [Option.bind_some, if_true]
 rw [T2 _ (by omega)]
 simp only [Option.bind_some]
 rw [E2 _ (by omega)]
 simp only [Option.bind_some, if_true]
 rw [M0 _ (by omega)]
 simp only [Option.bind_some]
 rw [M1 _ (by omega)]
 simp only [Option.bind_some]
 rw [if_neg n2, EB _ (by omega)]
 simp only [Option.bind_some, if_true, bne_self_eq_false]
 rw [laws_FnExactBoxesOf.j1, if_neg (by decide), hn _ (by omega)]
 simp only [Option.bind_some]
 rw [hh _ (by omega)]
 simp only [Option.bind_some]
 rw [if_neg (by omega), if_pos trivial, T1 _ (by omega)]
 simp only [Option.bind_some]
 rw [T2 _ (by omega)]
 simp only [Option.bind_some]
 rw [HI _ (by omega)]
 simp only [Option.bind_some]
 rw [EB _ (by omega)]
 simp only [Option.bind_some, if_true, bne_self_eq_false]
 rw [laws_FnExactBoxesOf.j2, if_neg (by decide), hh _ (by omega)]
 simp only [Option.bind_some]
 rw [if_neg (by omega), if_pos trivial]

end Go.Proofs.Ytdiaebjbiddefaa.Pure
