/- The plain form of FnExactSelectedIndices: for all arguments the answer is true. It holds without a condition. -/
import Derived.Test.YtdiaebjbiddefaaPFnExactSelectedIndicesx16
import Derived.OpenShut
namespace Go.Proofs.Ytdiaebjbiddefaa.Pure
open Go Go.RowKit Go.Proofs.Ytdiaebjbiddefaa.PFnExactSelectedIndices Go.Proofs.YtdiaebjbiddefaaW.PrintWords Go.Proofs.YtdiaebjbiddefaaW.PrintLast Go.Proofs.YtdiaebjbiddefaaW.PrintMore
set_option linter.unusedVariables false
set_option linter.unusedSimpArgs false

theorem wrap64_id {a : Int} (h : -9223372036854775808 ≤ a) (h' : a ≤ 9223372036854775807) : wrap64 a = a := by unfold wrap64; omega
theorem count_loop {σ ρ : Type} (L : Nat → σ → Int → Option ρ) (n m : Nat) (I : Nat → σ → Prop) (R : ρ → Prop)
 (hstop : ∀ k s, m ≤ k → I n s → ∃ r, L (k + 1) s (n : Int) = some r ∧ R r)
 (hstep : ∀ k s (i : Nat), m ≤ k → i < n → I i s → (∃ s', I (i + 1) s' ∧ L (k + 1) s (i : Int) = L k s' ((i + 1 : Nat) : Int)) ∨ ∃ r, L (k + 1) s (i : Int) = some r ∧ R r)
 (k : Nat) (s : σ) (i : Nat) (hi : i ≤ n) (hk : n - i + m < k) (h : I i s) : ∃ r, L k s (i : Int) = some r ∧ R r := by
 obtain ⟨d, hd⟩ : ∃ d, d = n - i := ⟨_, rfl⟩
 induction d generalizing k s i with
 | zero =>
  obtain ⟨k, rfl⟩ : ∃ z, k = z + 1 := ⟨k - 1, by omega⟩
  obtain rfl : i = n := by omega
  exact hstop k s (by omega) h
 | succ d ih =>
  obtain ⟨k, rfl⟩ : ∃ z, k = z + 1 := ⟨k - 1, by omega⟩
  rcases hstep k s i (by omega) (by omega) h with ⟨s', h', e⟩ | h'
  · rw [e]; exact ih k s' (i + 1) (by omega) (by omega) h' (by omega)
  · exact h'
theorem w1 : wrap64 1 = 1 := by unfold wrap64; omega
theorem w2 : wrap64 2 = 2 := by unfold wrap64; omega
theorem w3 : wrap64 3 = 3 := by unfold wrap64; omega
theorem rd_lt (l : List Int) (i : Nat) (h : i < l.length) : rd l (i : Int) = l[i] := by
 simp [rd, List.getD_eq_getElem?_getD, List.getElem?_eq_getElem h]
theorem wrap_up (i : Nat) (h : i < 1099511627776) : wrap64 ((i : Int) + 1) = ((i + 1 : Nat) : Int) := by unfold wrap64; omega
theorem set_next {α : Type} (l out : List α) (i : Nat) (h : i < l.length) (hl : out.length = l.length) (hp : out.take i = l.take i) : (out.set i l[i]).take (i + 1) = l.take (i + 1) := by
 apply List.ext_getElem?
 intro j
 by_cases hj : j < i + 1
 ·
  rw [List.getElem?_take_of_lt hj, List.getElem?_take_of_lt hj]
  by_cases hji : j = i
  · subst hji; rw [List.getElem?_set_self (by omega), List.getElem?_eq_getElem h]
  · rw [List.getElem?_set_ne (by omega)]
    have := congrArg (fun z => z[j]?) hp
    simpa [List.getElem?_take_of_lt (show j < i by omega)] using this
 · rw [List.getElem?_eq_none (by simp; omega), List.getElem?_eq_none (by simp; omega)]
theorem take_all {α : Type} (l out : List α) (hl : out.length = l.length) (hp : out.take l.length = l.take l.length) : out = l := by
 rwa [List.take_of_length_le (by omega), List.take_length] at hp
theorem g_szloop {α : Type} (L : Nat → List α → Int → Int → Option Int) (E : Nat → α → Int → Option Int) (z : α) (m : Nat) (Q : α → Prop) (l : List α)
 (hL : ∀ k a i, L (k + 1) l a i = if i < (l.length : Int) then (if 0 ≤ i then ((E k (l.getD i.toNat z) a).bind fun t => if t < 0 then some (-1) else L k l t (wrap64 (i + 1))) else none) else some a)
 (hE : ∀ k x a, x ∈ l → 0 ≤ a → a ≤ 1048576 → m ≤ k → ∃ t, E k x a = some t ∧ (t < 0 ∨ (0 ≤ t ∧ t ≤ a ∧ Q x)))
 (hl : l.length ≤ 1048576) (k : Nat) (a : Int) (h0 : 0 ≤ a) (h1 : a ≤ 1048576) (hk : m + 1048580 < k) :
 ∃ t, L k l a 0 = some t ∧ (t < 0 ∨ (0 ≤ t ∧ t ≤ a ∧ ∀ x ∈ l, Q x)) := by
 exact count_loop (fun k s i => L k l s i) l.length m (fun i s => 0 ≤ s ∧ s ≤ a ∧ ∀ x ∈ l.take i, Q x) (fun t => t < 0 ∨ (0 ≤ t ∧ t ≤ a ∧ ∀ x ∈ l, Q x))
  (by
   rintro k s - ⟨h1, h2, h3⟩
   rw [List.take_length] at h3
   exact ⟨s, by show L (k + 1) l s _ = _; rw [hL, if_neg (by omega)], .inr ⟨h1, h2, h3⟩⟩)
  (by
   rintro k s i hm hi ⟨h1, h2, h3⟩
   have hg : l.getD (i : Int).toNat z = l[i] := by simp [List.getD_eq_getElem?_getD, List.getElem?_eq_getElem hi]
   obtain ⟨t, e, ht⟩ := hE k l[i] s (List.getElem_mem hi) h1 (by omega) hm
   rcases ht with ht | ⟨q1, q2, q3⟩
   · refine .inr ⟨-1, ?_, .inl (by omega)⟩
     show L (k + 1) l s _ = _
     rw [hL, if_pos (by omega), if_pos (by omega), hg, e]
     simp only [Option.bind_some]
     rw [if_pos ht]
   ·
    refine .inl ⟨t, ⟨q1, by omega, ?_⟩, ?_⟩
    · intro x hx'
      rw [List.take_succ_eq_append_getElem hi, List.mem_append] at hx'
      rcases hx' with hx' | hx'
      · exact h3 x hx'
      · simp at hx'; subst hx'; exact q3
    · show L (k + 1) l s _ = _
      rw [hL, if_pos (by omega), if_pos (by omega), hg, e]
      simp only [Option.bind_some]
      rw [if_neg (by omega), wrap_up i (by omega)])
  k a 0 (by omega) (by omega) ⟨h0, by omega, by simp⟩
theorem g_toloop {α β γ : Type} (L : Nat → List α → List β → Int → Option (List β)) (E : Nat → α → Option γ) (mk : γ → β) (z : α) (c : α → β) (m : Nat) (l : List α)
 (hL : ∀ k s i, L (k + 1) l s i = if i < (l.length : Int) then (if 0 ≤ i then ((E k (l.getD i.toNat z)).bind fun b => (if i < (s.length : Int) then L k l (s.set i.toNat (mk b)) (wrap64 (i + 1)) else none)) else none) else some s)
 (hE : ∀ k x, x ∈ l → m ≤ k → ∃ b, E k x = some b ∧ mk b = c x)
 (hl : l.length ≤ 1048576) (k : Nat) (s : List β) (hs : s.length = l.length) (hk : m + 1048580 < k) : L k l s 0 = some (l.map c) := by
 obtain ⟨r, h, rfl⟩ := count_loop (fun k s i => L k l s i) l.length m (fun i s => s.length = (l.map c).length ∧ s.take i = (l.map c).take i) (fun r => r = l.map c)
  (by
   rintro k s - ⟨h1, h2⟩
   exact ⟨s, by show L (k + 1) l s _ = _; rw [hL, if_neg (by omega)], take_all (l.map c) s h1 (by rw [List.length_map]; exact h2)⟩)
  (by
   rintro k s i hm hi ⟨h1, h2⟩
   have hg : l.getD (i : Int).toNat z = l[i] := by simp [List.getD_eq_getElem?_getD, List.getElem?_eq_getElem hi]
   have hi' : i < (l.map c).length := by simpa using hi
   obtain ⟨b, e, hb⟩ := hE k l[i] (List.getElem_mem hi) hm
   have hb' : mk b = (l.map c)[i] := by rw [hb, List.getElem_map]
   refine .inl ⟨s.set i (l.map c)[i], ⟨by simpa using h1, set_next (l.map c) s i hi' h1 h2⟩, ?_⟩
   show L (k + 1) l s _ = _
   rw [hL, if_pos (by omega), if_pos (by omega), hg, e]
   simp only [Option.bind_some]
   rw [if_pos (by rw [h1]; simp; omega), wrap_up i (by omega), hb']
   rfl)
  k s 0 (by omega) (by omega) ⟨by simpa using hs, by simp⟩
 exact h
theorem g_eqloop {α : Type} (L : Nat → List α → List α → Int → Option Bool) (E : Nat → α → Option Bool) (z : α) (m : Nat) (l : List α)
 (hL : ∀ k i, L (k + 1) l l i = if i < (l.length : Int) then (if 0 ≤ i then (if i < (l.length : Int) then ((E k (l.getD i.toNat z)).bind fun t => (if t = true then L k l l (wrap64 (i + 1)) else some false)) else none) else none) else some true)
 (hE : ∀ k x, x ∈ l → m ≤ k → E k x = some true)
 (hl : l.length ≤ 1048576) (k : Nat) (hk : m + 1048580 < k) : L k l l 0 = some true := by
 obtain ⟨r, h, rfl⟩ := count_loop (fun k (_ : Unit) i => L k l l i) l.length m (fun _ _ => True) (fun r => r = true)
  (by
   rintro k s - -
   exact ⟨true, by show L (k + 1) l l _ = _; rw [hL, if_neg (by omega)], rfl⟩)
  (by
   rintro k s i hm hi -
   have hg : l.getD (i : Int).toNat z = l[i] := by simp [List.getD_eq_getElem?_getD, List.getElem?_eq_getElem hi]
   refine .inl ⟨(), trivial, ?_⟩
   show L (k + 1) l l _ = _
   rw [hL, if_pos (by omega), if_pos (by omega), if_pos (by omega), hg, hE k _ (List.getElem_mem hi) hm]
   simp only [Option.bind_some]
   rw [if_pos trivial, wrap_up i (by omega)])
  k () 0 (by omega) (by omega) trivial
 exact h
theorem g_szInt64S (k : Nat) (l0 : List Int) (a : Int) (h0 : 0 ≤ a) (h1 : a ≤ 1048576) (hk : 0 ≤ k) (o_l0 : l0.length ≤ maxLen ∧ ∀ x_ ∈ l0, (Lit.int .i64 x_).wf = true) : ∃ t, laws_szInt64S.f l0 a = some t ∧ (t < 0 ∨ (0 ≤ t ∧ t ≤ a ∧ (l0.length : Int) ≤ 1048576)) := by
 have p_l0 := o_l0.1
 unfold maxLen at p_l0
 unfold laws_szInt64S.f
 rw [wrap64_id (a := a - (l0.length : Int)) (by omega) (by omega)]
 by_cases c0 : a - (l0.length : Int) < 0
 · exact ⟨-1, by rw [if_pos c0], .inl (by omega)⟩
 rw [if_neg c0]
 exact ⟨_, rfl, .inr ⟨by omega, by omega, by omega⟩⟩
theorem g_szPoint (k : Nat) (l0_0 : List Int) (a : Int) (h0 : 0 ≤ a) (h1 : a ≤ 1048576) (hk : 0 ≤ k) (o_l0_0 : l0_0.length ≤ maxLen ∧ ∀ x_ ∈ l0_0, (Lit.int .i64 x_).wf = true) : ∃ t, laws_szPoint.f l0_0 a = some t ∧ (t < 0 ∨ (0 ≤ t ∧ t ≤ a ∧ (l0_0.length : Int) ≤ 1048576)) := by
 have p_l0_0 := o_l0_0.1
 unfold maxLen at p_l0_0
 unfold laws_szPoint.f
 obtain ⟨t0, e0, q0⟩ := g_szInt64S k l0_0 a (by omega) (by omega) (by omega) o_l0_0
 rw [e0]
 simp only [Option.bind_some]
 rcases q0 with q0 | ⟨r0, s0, q0_l0_0_0⟩
 · exact ⟨-1, by rw [if_pos q0], .inl (by omega)⟩
 rw [if_neg (show ¬ t0 < 0 by omega)]
 exact ⟨_, rfl, .inr ⟨by omega, by omega, q0_l0_0_0⟩⟩
def QS107 (x : S107) : Prop := (x.f0.length : Int) ≤ 1048576
theorem g_szPointS (k : Nat) (l : List (S107)) (a : Int) (h0 : 0 ≤ a) (h1 : a ≤ 1048576) (hk : 1048590 ≤ k) (o : l.length ≤ maxLen ∧ ∀ x_ ∈ l, okS107 x_) : ∃ t, laws_szPointS.f k l a = some t ∧ (t < 0 ∨ (0 ≤ t ∧ t ≤ a ∧ (l.length : Int) ≤ 1048576 ∧ (∀ y ∈ l, QS107 y))) := by
 have ol := o.1
 unfold maxLen at ol
 unfold laws_szPointS.f
 rw [wrap64_id (by omega) (by omega)]
 by_cases h : a - (l.length : Int) < 0
 · exact ⟨-1, by rw [if_pos h], .inl (by omega)⟩
 rw [if_neg h]
 obtain ⟨t, e, q⟩ := g_szloop laws_szPointS.l0 (fun k x a => laws_szPoint.f x.f0 a) z107 0 (QS107) l
  (by intro k a i; rw [laws_szPointS.l0]; rfl)
  (by intro k x a hx h0 h1 hm; obtain o0 := o.2 x hx; exact g_szPoint k x.f0 a h0 h1 hm o0)
  (by omega) k (a - (l.length : Int)) (by omega) (by omega) (by omega)
 rcases q with q | ⟨q1, q2, q3⟩
 · exact ⟨t, e, .inl q⟩
 · exact ⟨t, e, .inr ⟨q1, by omega, by omega, q3⟩⟩
theorem g_szSelection (k : Nat) (a0_0 : Int) (l0_1 : List Int) (l0_2 : List Int) (l0_3 : List Int) (l0_4 : List Int) (l0_5 : List (S107)) (a : Int) (h0 : 0 ≤ a) (h1 : a ≤ 1048576) (hk : 1048590 ≤ k) (o_l0_1 : l0_1.length ≤ maxLen ∧ ∀ x_ ∈ l0_1, (Lit.int .i64 x_).wf = true) (o_l0_2 : l0_2.length ≤ maxLen ∧ ∀ x_ ∈ l0_2, (Lit.int .i64 x_).wf = true) (o_l0_3 : l0_3.length ≤ maxLen ∧ ∀ x_ ∈ l0_3, (Lit.int .i64 x_).wf = true) (o_l0_4 : l0_4.length ≤ maxLen ∧ ∀ x_ ∈ l0_4, (Lit.int .i64 x_).wf = true) (o_l0_5 : l0_5.length ≤ maxLen ∧ ∀ x_ ∈ l0_5, okS107 x_) : ∃ t, laws_szSelection.f k a0_0 l0_1 l0_2 l0_3 l0_4 l0_5 a = some t ∧ (t < 0 ∨ (0 ≤ t ∧ t ≤ a ∧ (l0_1.length : Int) ≤ 1048576 ∧ (l0_2.length : Int) ≤ 1048576 ∧ (l0_3.length : Int) ≤ 1048576 ∧ (l0_4.length : Int) ≤ 1048576 ∧ (l0_5.length : Int) ≤ 1048576 ∧ (∀ y ∈ l0_5, QS107 y))) := by
 have p_l0_1 := o_l0_1.1
 unfold maxLen at p_l0_1
 have p_l0_2 := o_l0_2.1
 unfold maxLen at p_l0_2
 have p_l0_3 := o_l0_3.1
 unfold maxLen at p_l0_3
 have p_l0_4 := o_l0_4.1
 unfold maxLen at p_l0_4
 have p_l0_5 := o_l0_5.1
 unfold maxLen at p_l0_5
 unfold laws_szSelection.f
 obtain ⟨t0, e0, q0⟩ := g_szInt64S k l0_1 a (by omega) (by omega) (by omega) o_l0_1
 rw [e0]
 simp only [Option.bind_some]
 rcases q0 with q0 | ⟨r0, s0, q0_l0_1_0⟩
 · exact ⟨-1, by rw [if_pos q0], .inl (by omega)⟩
 rw [if_neg (show ¬ t0 < 0 by omega)]
 obtain ⟨t1, e1, q1⟩ := g_szInt64S k l0_2 t0 (by omega) (by omega) (by omega) o_l0_2
 rw [e1]
 simp only [Option.bind_some]
 rcases q1 with q1 | ⟨r1, s1, q1_l0_2_0⟩
 · exact ⟨-1, by rw [if_pos q1], .inl (by omega)⟩
 rw [if_neg (show ¬ t1 < 0 by omega)]
 obtain ⟨t2, e2, q2⟩ := g_szInt64S k l0_3 t1 (by omega) (by omega) (by omega) o_l0_3
 rw [e2]
 simp only [Option.bind_some]
 rcases q2 with q2 | ⟨r2, s2, q2_l0_3_0⟩
 · exact ⟨-1, by rw [if_pos q2], .inl (by omega)⟩
 rw [if_neg (show ¬ t2 < 0 by omega)]
 obtain ⟨t3, e3, q3⟩ := g_szInt64S k l0_4 t2 (by omega) (by omega) (by omega) o_l0_4
 rw [e3]
 simp only [Option.bind_some]
 rcases q3 with q3 | ⟨r3, s3, q3_l0_4_0⟩
 · exact ⟨-1, by rw [if_pos q3], .inl (by omega)⟩
 rw [if_neg (show ¬ t3 < 0 by omega)]
 obtain ⟨t4, e4, q4⟩ := g_szPointS k l0_5 t3 (by omega) (by omega) (by omega) o_l0_5
 rw [e4]
 simp only [Option.bind_some]
 rcases q4 with q4 | ⟨r4, s4, q4_l0_5_0, q4_l0_5_1⟩
 · exact ⟨-1, by rw [if_pos q4], .inl (by omega)⟩
 rw [if_neg (show ¬ t4 < 0 by omega)]
 exact ⟨_, rfl, .inr ⟨by omega, by omega, q0_l0_1_0, q1_l0_2_0, q2_l0_3_0, q3_l0_4_0, q4_l0_5_0, q4_l0_5_1⟩⟩
theorem g_toInt64S (k : Nat) (l : List Int) (hk : 1048590 ≤ k) (o1 : (l.length : Int) ≤ 1048576) : laws_toInt64S.f k l = some l := by
 unfold laws_toInt64S.f
 rw [if_pos (by omega), if_pos (by omega)]
 have h := g_toloop laws_toInt64S.l0 (fun _ (x : Int) => some x) (fun b => b) (0 : Int) id 0 l (by intro k s i; rw [laws_toInt64S.l0]; rfl)
  (by intro k x hx hm; exact ⟨_, rfl, rfl⟩)
  (by omega) k (List.replicate ((l.length : Int) : Int).toNat 0) (by simp) (by omega)
 rwa [List.map_id] at h
theorem g_toPoint (k : Nat) (l0_0 : List Int) (hk : 1048590 ≤ k) (o_l0_0_0 : (l0_0.length : Int) ≤ 1048576) : laws_toPoint.f k l0_0 = some (l0_0) := by
 unfold laws_toPoint.f
 rw [g_toInt64S k l0_0 (by omega) o_l0_0_0]
 simp only [Option.bind_some]
def QS110 (x : S110) : Prop := (x.f0.length : Int) ≤ 1048576
def cS107 (x : S107) : S110 := ⟨x.f0⟩
theorem qcS107 (x : S107) (h : QS107 x) : QS110 (cS107 x) := h
theorem qmS107 (l : List S107) (h : ∀ y ∈ l, QS107 y) : ∀ y ∈ l.map cS107, QS110 y := by
 intro y hy
 obtain ⟨x, hx, rfl⟩ := List.mem_map.1 hy
 exact qcS107 x (h x hx)
theorem g_toPointS (k : Nat) (l : List (S107)) (hk : 2097180 ≤ k) (o1 : (l.length : Int) ≤ 1048576) (o2 : (∀ y ∈ l, QS107 y)) : laws_toPointS.f k l = some (l.map cS107) := by
 unfold laws_toPointS.f
 rw [if_pos (by omega), if_pos (by omega)]
 have h := g_toloop laws_toPointS.l0 (fun k (x : S107) => laws_toPoint.f k x.f0) (fun b => (⟨b⟩ : S110)) z107 cS107 1048590 l (by intro k s i; rw [laws_toPointS.l0]; rfl)
  (by intro k x hx hm; obtain q0_0 := o2 x hx; exact ⟨_, g_toPoint k x.f0 hm q0_0, rfl⟩)
  (by omega) k (List.replicate ((l.length : Int) : Int).toNat z110) (by simp) (by omega)
 exact h
theorem g_toSelection (k : Nat) (a0_0 : Int) (l0_1 : List Int) (l0_2 : List Int) (l0_3 : List Int) (l0_4 : List Int) (l0_5 : List (S107)) (hk : 2097180 ≤ k) (o_l0_1_0 : (l0_1.length : Int) ≤ 1048576) (o_l0_2_0 : (l0_2.length : Int) ≤ 1048576) (o_l0_3_0 : (l0_3.length : Int) ≤ 1048576) (o_l0_4_0 : (l0_4.length : Int) ≤ 1048576) (o_l0_5_0 : (l0_5.length : Int) ≤ 1048576) (o_l0_5_1 : (∀ y ∈ l0_5, QS107 y)) : laws_toSelection.f k a0_0 l0_1 l0_2 l0_3 l0_4 l0_5 = some (a0_0, l0_1, l0_2, l0_3, l0_4, (l0_5.map cS107)) := by
 unfold laws_toSelection.f
 rw [g_toInt64S k l0_1 (by omega) o_l0_1_0]
 simp only [Option.bind_some]
 rw [g_toInt64S k l0_2 (by omega) o_l0_2_0]
 simp only [Option.bind_some]
 rw [g_toInt64S k l0_3 (by omega) o_l0_3_0]
 simp only [Option.bind_some]
 rw [g_toInt64S k l0_4 (by omega) o_l0_4_0]
 simp only [Option.bind_some]
 rw [g_toPointS k l0_5 (by omega) o_l0_5_0 o_l0_5_1]
 simp only [Option.bind_some]
theorem g_eqInt64S (k : Nat) (l : List Int) (hk : 1048590 ≤ k) (o1 : (l.length : Int) ≤ 1048576) : laws_eqInt64S.f k l l = some true := by
 unfold laws_eqInt64S.f
 rw [if_pos rfl]
 exact g_eqloop laws_eqInt64S.l0 (fun _ (x : Int) => some true) (0 : Int) 0 l (by intro k i; rw [laws_eqInt64S.l0]; simp only [Option.bind_some, bne_self_eq_false, Bool.false_eq_true, if_false, if_true, reduceIte]) (by intro k x hx hm; rfl) (by omega) k (by omega)
theorem g_eqPoint (k : Nat) (l0_0 : List Int) (hk : 1048590 ≤ k) (o_l0_0_0 : (l0_0.length : Int) ≤ 1048576) : laws_eqPoint.f k l0_0 l0_0 = some true := by
 unfold laws_eqPoint.f
 simp only [g_eqInt64S k l0_0 (by omega) o_l0_0_0, Option.bind_some, bne_self_eq_false, Bool.false_eq_true, if_false, if_true, reduceIte]
theorem g_eqPointS (k : Nat) (l : List (S110)) (hk : 2097180 ≤ k) (o1 : (l.length : Int) ≤ 1048576) (o2 : (∀ y ∈ l, QS110 y)) : laws_eqPointS.f k l l = some true := by
 unfold laws_eqPointS.f
 rw [if_pos rfl]
 exact g_eqloop laws_eqPointS.l0 (fun k (x : S110) => laws_eqPoint.f k x.f0 x.f0) z110 1048590 l (by intro k i; rw [laws_eqPointS.l0]; rfl) (by intro k x hx hm; obtain q0_0 := o2 x hx; exact g_eqPoint k x.f0 hm q0_0) (by omega) k (by omega)
theorem g_eqSelection (k : Nat) (a0_0 : Int) (l0_1 : List Int) (l0_2 : List Int) (l0_3 : List Int) (l0_4 : List Int) (l0_5 : List (S110)) (hk : 2097180 ≤ k) (o_l0_1_0 : (l0_1.length : Int) ≤ 1048576) (o_l0_2_0 : (l0_2.length : Int) ≤ 1048576) (o_l0_3_0 : (l0_3.length : Int) ≤ 1048576) (o_l0_4_0 : (l0_4.length : Int) ≤ 1048576) (o_l0_5_0 : (l0_5.length : Int) ≤ 1048576) (o_l0_5_1 : (∀ y ∈ l0_5, QS110 y)) : laws_eqSelection.f k a0_0 l0_1 l0_2 l0_3 l0_4 l0_5 a0_0 l0_1 l0_2 l0_3 l0_4 l0_5 = some true := by
 unfold laws_eqSelection.f
 simp only [g_eqInt64S k l0_1 (by omega) o_l0_1_0, g_eqInt64S k l0_2 (by omega) o_l0_2_0, g_eqInt64S k l0_3 (by omega) o_l0_3_0, g_eqInt64S k l0_4 (by omega) o_l0_4_0, g_eqPointS k l0_5 (by omega) o_l0_5_0 o_l0_5_1, Option.bind_some, bne_self_eq_false, Bool.false_eq_true, if_false, if_true, reduceIte]
theorem all_loop (L : Nat → Int → Option Bool) (P : Nat → Prop) [DecidablePred P] (n m : Nat) (r : Bool)
 (hend : ∀ k, m ≤ k → L (k + 1) (n : Int) = some r) (hstep : ∀ k (i : Nat), m ≤ k → i < n → L (k + 1) (i : Int) = if P i then L k ((i + 1 : Nat) : Int) else some false) (k : Nat) (hk : n + m < k) :
 L k 0 = some (decide (∀ i, i < n → P i) && r) := by
 obtain ⟨s, h, rfl⟩ := count_loop (fun k (_ : Unit) i => L k i) n m (fun i _ => ∀ j, j < i → P j) (fun s => s = (decide (∀ i, i < n → P i) && r))
  (by
   rintro k s hm h
   exact ⟨r, hend k hm, by simp [decide_eq_true h]⟩)
  (by
   rintro k s i hm hi h
   by_cases hp : P i
   · refine .inl ⟨(), ?_, by show L (k + 1) _ = _; rw [hstep k i hm hi, if_pos hp]⟩
     intro j hj
     by_cases hji : j = i
     · subst hji; exact hp
     · exact h j (by omega)
   · refine .inr ⟨false, by show L (k + 1) _ = _; rw [hstep k i hm hi, if_neg hp], ?_⟩
     have : ¬ ∀ i, i < n → P i := fun h => hp (h i hi)
     simp [this])
  k () 0 (by omega) (by omega) (by simp)
 exact h
def look (P : Nat → Prop) [DecidablePred P] : Nat → Nat → Int
 | 0, _ => -1
 | d + 1, i => if P i then (i : Int) else look P d (i + 1)
theorem look_or (P : Nat → Prop) [DecidablePred P] (d : Nat) : ∀ i, (look P d i = -1 ∧ ∀ j, i ≤ j → j < i + d → ¬ P j) ∨ ∃ j, i ≤ j ∧ j < i + d ∧ look P d i = (j : Int) ∧ P j := by
 induction d with
 | zero => intro i; exact .inl ⟨rfl, fun j h1 h2 => by omega⟩
 | succ d ih =>
  intro i
  by_cases hp : P i
  · exact .inr ⟨i, by omega, by omega, by rw [look, if_pos hp], hp⟩
  ·
   rw [look, if_neg hp]
   rcases ih (i + 1) with ⟨h1, h2⟩ | ⟨j, h1, h2, h3, h4⟩
   · refine .inl ⟨h1, fun j h3 h4 => ?_⟩
     by_cases hji : j = i
     · subst hji; exact hp
     · exact h2 j (by omega) (by omega)
   · exact .inr ⟨j, by omega, by omega, h3, h4⟩
theorem find_loop (L : Nat → Int → Option Int) (P : Nat → Prop) [DecidablePred P] (n m : Nat)
 (hend : ∀ k, m ≤ k → L (k + 1) (n : Int) = some (-1)) (hstep : ∀ k (i : Nat), m ≤ k → i < n → L (k + 1) (i : Int) = if P i then some (i : Int) else L k ((i + 1 : Nat) : Int)) (k : Nat) (hk : n + m < k) :
 L k 0 = some (look P n 0) := by
 have key : ∀ d k i, i + d = n → d + m < k → L k (i : Int) = some (look P d i) := by
  intro d
  induction d with
  | zero =>
   intro k i hi hk
   obtain ⟨k, rfl⟩ : ∃ z, k = z + 1 := ⟨k - 1, by omega⟩
   obtain rfl : i = n := by omega
   exact hend k (by omega)
  | succ d ih =>
   intro k i hi hk
   obtain ⟨k, rfl⟩ : ∃ z, k = z + 1 := ⟨k - 1, by omega⟩
   rw [hstep k i (by omega) (by omega), look]
   by_cases hp : P i
   · rw [if_pos hp, if_pos hp]
   · rw [if_neg hp, if_neg hp]; exact ih k (i + 1) (by omega) (by omega)
 exact key n k 0 (by omega) (by omega)
theorem getD_lt {α : Type} (l : List α) (z : α) (i : Nat) (h : i < l.length) : l.getD (i : Int).toNat z = l[i] := by
 simp [List.getD_eq_getElem?_getD, List.getElem?_eq_getElem h]
theorem seq_loop (L : Nat → Int → Option Bool) (P : Nat → Prop) [DecidablePred P] (n : Nat)
 (hend : ∀ k, L (k + 1) (n : Int) = some true) (hstep : ∀ k (i : Nat), i < n → L (k + 1) (i : Int) = if P i then L k ((i + 1 : Nat) : Int) else some false) (k : Nat) (hk : n < k) :
 L k 0 = some (decide (∀ i, i < n → P i)) := by
 rw [all_loop L P n 0 true (fun k _ => hend k) (fun k i _ hi => hstep k i hi) k (by omega), Bool.and_true]
theorem in_eq (a b c : Int) : spec_l00In.f a b c = some (decide (b ≤ a ∧ a ≤ c)) := by
 unfold spec_l00In.f
 by_cases h : a ≥ b
 · rw [if_pos h]
   by_cases h2 : a ≤ c <;> simp [h2] <;> omega
 · rw [if_neg h]; simp; omega
theorem within_eq (a b c : Int) : impl_within.f a b c = some (decide (b ≤ a ∧ a ≤ c)) := by
 unfold impl_within.f
 by_cases h : a ≥ b
 · rw [if_pos h]
   by_cases h2 : a ≤ c <;> simp [h2] <;> omega
 · rw [if_neg h]; simp; omega
def inI (l : List Int) (a b : Int) (i : Nat) : Prop := a ≤ rd l (i : Int) ∧ rd l (i : Int) ≤ b
instance (l : List Int) (a b : Int) (i : Nat) : Decidable (inI l a b i) := by unfold inI; infer_instance
theorem withinI (l : List Int) (a b : Int) (hl : l.length ≤ 1048576) (k : Nat) (hk : 1048590 ≤ k) : impl_allWithin.f k l a b = some (decide (∀ i, i < l.length → inI l a b i)) := by
 unfold impl_allWithin.f slices_ContainsFunc_impl_allWithin_1.f slices_IndexFunc_impl_allWithin_1.f
 rw [find_loop (fun k i => slices_IndexFunc_impl_allWithin_1.l0 k l l.length i a b) (fun i => ¬ inI l a b i) l.length 0
  (by intro k _; show slices_IndexFunc_impl_allWithin_1.l0 (k + 1) l _ _ a b = _; rw [slices_IndexFunc_impl_allWithin_1.l0, if_neg (by omega)])
  (by
   intro k i _ hi
   show slices_IndexFunc_impl_allWithin_1.l0 (k + 1) l _ _ a b = _
   rw [slices_IndexFunc_impl_allWithin_1.l0, if_pos (by omega), if_pos (by omega), if_pos (by omega), wrap_up i (by omega)]
   simp only [impl_allWithin_1.f, within_eq, Option.bind_some]
   by_cases h : a ≤ rd l (i : Int) ∧ rd l (i : Int) ≤ b
   · have h2 : inI l a b i := h
     simp [h, h2]
   · have h2 : ¬ inI l a b i := h
     rw [decide_eq_false h]
     simp [h2])
  k (by omega)]
 simp only [Option.bind_some]
 rcases look_or (fun i => ¬ inI l a b i) l.length 0 with ⟨h4, h5⟩ | ⟨j, -, h4, h5, h6⟩
 · rw [h4]
   have h7 : ∀ i, i < l.length → inI l a b i := fun i hi => Decidable.not_not.1 (h5 i (by omega) (by omega))
   rw [decide_eq_true h7]; rfl
 · rw [h5]
   have h7 : ¬ ∀ i, i < l.length → inI l a b i := fun h => h6 (h j (by omega))
   have h8 : (j : Int) ≥ 0 := by omega
   rw [decide_eq_false h7]; simp [h8]
theorem slices_Equal_int64_int64_is (k : Nat) (a b : List Int) (hl : a.length ≤ 1048576) (hk : 1048590 ≤ k) : slices_Equal_int64_int64.f k a b = some (decide (a = b)) := by
 unfold slices_Equal_int64_int64.f
 by_cases hn : (a.length : Int) = (b.length : Int)
 ·
  rw [if_pos hn, seq_loop (fun k i => slices_Equal_int64_int64.l0 k a b (a.length : Int) i) (fun i => rd a (i : Int) = rd b (i : Int)) a.length
   (by intro k; show slices_Equal_int64_int64.l0 (k + 1) a b _ _ = _; rw [slices_Equal_int64_int64.l0, if_neg (by omega)])
   (by
    intro k i hi
    show slices_Equal_int64_int64.l0 (k + 1) a b _ _ = _
    rw [slices_Equal_int64_int64.l0]
    repeat rw [if_pos (show (i : Int) < (a.length : Int) by omega)]
    repeat rw [if_pos (show (0 : Int) ≤ (i : Int) by omega)]
    repeat rw [if_pos (show (i : Int) < (a.length : Int) by omega)]
    repeat rw [if_pos (show (i : Int) < (b.length : Int) by omega)]
    rw [wrap_up i (by omega)])
   k (by omega)]
  have hb : a.length = b.length := by omega
  congr 1
  apply decide_eq_decide.2
  constructor
  · intro h
    apply List.ext_getElem hb
    intro i h1 h2
    have := h i h1
    rwa [rd_lt a i h1, rd_lt b i h2] at this
  · rintro rfl i _
    rfl
 · rw [if_neg hn, decide_eq_false]
   rintro rfl
   exact hn rfl
theorem point_same (ps qs : List S110) (hp : ps.length ≤ 1048576) (hq : ∀ y ∈ ps, QS110 y) (k : Nat) (hk : 3000000 ≤ k) : slices_EqualFunc_impl_samePoint.f k ps qs = some (decide (ps.length = qs.length ∧ ∀ i, i < ps.length → (rd_T110 ps (i : Int)).f0 = (rd_T110 qs (i : Int)).f0)) := by
 have hql : ∀ i, i < ps.length → (rd_T110 ps (i : Int)).f0.length ≤ 1048576 := by
  intro i hi
  have : rd_T110 ps (i : Int) = ps[i] := getD_lt ps z110 i hi
  rw [this]
  have h := hq _ (List.getElem_mem hi)
  unfold QS110 at h
  omega
 unfold slices_EqualFunc_impl_samePoint.f
 by_cases h1 : ps.length = qs.length
 ·
  rw [if_pos (by omega), all_loop (fun k i => slices_EqualFunc_impl_samePoint.l0 k qs ps ps.length i) (fun i => (rd_T110 ps (i : Int)).f0 = (rd_T110 qs (i : Int)).f0) ps.length 1048590 true
   (by intro k _; show slices_EqualFunc_impl_samePoint.l0 (k + 1) qs ps _ _ = _; rw [slices_EqualFunc_impl_samePoint.l0, if_neg (by omega)])
   (by
    intro k i hk hi
    show slices_EqualFunc_impl_samePoint.l0 (k + 1) qs ps _ _ = _
    rw [slices_EqualFunc_impl_samePoint.l0, if_pos (by omega), if_pos (by omega), if_pos (by omega), if_pos (by omega), wrap_up i (by omega)]
    unfold impl_samePoint.f
    rw [slices_Equal_int64_int64_is k _ _ (hql i hi) hk]
    simp only [Option.bind_some, decide_eq_true_eq])
   k (by omega)]
  simp [h1]
 · rw [if_neg (by omega), decide_eq_false (fun h => h1 h.1)]
theorem lists_same (a1 a2 a3 a4 b1 b2 b3 b4 : List Int) (h1 : a1.length ≤ 1048576) (h2 : a2.length ≤ 1048576) (h3 : a3.length ≤ 1048576) (h4 : a4.length ≤ 1048576) (k : Nat) (hk : 3000000 ≤ k) :
 slices_EqualFunc_slices_Equal_int64_int64.f k [a1, a2, a3, a4] [b1, b2, b3, b4] = some (decide (a1 = b1 ∧ a2 = b2 ∧ a3 = b3 ∧ a4 = b4)) := by
 unfold slices_EqualFunc_slices_Equal_int64_int64.f
 have hL : (([a1, a2, a3, a4] : List (List Int)).length : Int) = (([b1, b2, b3, b4] : List (List Int)).length : Int) := rfl
 have la : (([a1, a2, a3, a4] : List (List Int)).length : Int) = ((4 : Nat) : Int) := rfl
 have lb : (([b1, b2, b3, b4] : List (List Int)).length : Int) = ((4 : Nat) : Int) := rfl
 have hq : ∀ i : Nat, i < 4 → (rd_L1 [a1, a2, a3, a4] (i : Int)).length ≤ 1048576 := by
  intro i hi
  rcases i with _ | _ | _ | _ | i
  · exact h1
  · exact h2
  · exact h3
  · exact h4
  · omega
 rw [if_pos hL, all_loop (fun k i => slices_EqualFunc_slices_Equal_int64_int64.l0 k [b1, b2, b3, b4] [a1, a2, a3, a4] (([a1, a2, a3, a4] : List (List Int)).length : Int) i) (fun i => rd_L1 [a1, a2, a3, a4] (i : Int) = rd_L1 [b1, b2, b3, b4] (i : Int)) 4 1048590 true
  (by intro k _; show slices_EqualFunc_slices_Equal_int64_int64.l0 (k + 1) _ _ _ _ = _; rw [slices_EqualFunc_slices_Equal_int64_int64.l0, la, if_neg (by omega)])
  (by
   intro k i hk hi
   show slices_EqualFunc_slices_Equal_int64_int64.l0 (k + 1) _ _ _ _ = _
   rw [slices_EqualFunc_slices_Equal_int64_int64.l0, la, lb]
   have g1 : (i : Int) < ((4 : Nat) : Int) := by omega
   have g0 : (0 : Int) ≤ (i : Int) := by omega
   simp only [if_pos g1, if_pos g0]
   rw [slices_Equal_int64_int64_is k _ _ (hq i hi) hk, wrap_up i (by omega)]
   simp only [Option.bind_some, decide_eq_true_eq])
  k (by omega), Bool.and_true]
 congr 1
 apply decide_eq_decide.2
 constructor
 · intro h
   exact ⟨h 0 (by omega), h 1 (by omega), h 2 (by omega), h 3 (by omega)⟩
 ·
  rintro ⟨e1, e2, e3, e4⟩ i hi
  rcases i with _ | _ | _ | _ | i
  · exact e1
  · exact e2
  · exact e3
  · exact e4
  · omega
def okPlain (l1 l2 l3 l4 : List Int) : Prop := l1.length = 0 ∧ l2.length = 0 ∧ l3.length = 0 ∧ l4.length = 0
instance (l1 l2 l3 l4 : List Int) : Decidable (okPlain l1 l2 l3 l4) := by unfold okPlain; infer_instance
theorem sel_plain (a : Int) (l1 l2 l3 l4 : List Int) (ps : List S110) (hp : ps.length ≤ 1048576) (hq : ∀ y ∈ ps, QS110 y) (k : Nat) (hk : 3000000 ≤ k) :
 impl_SameSelection.f k a ([] : List Int) ([] : List Int) ([] : List Int) ([] : List Int) ps a l1 l2 l3 l4 ps = some (decide (okPlain l1 l2 l3 l4)) := by
 unfold impl_SameSelection.f impl_Selection_lists.f
 rw [if_pos rfl]
 simp only [Option.bind_some]
 rw [lists_same [] [] [] [] l1 l2 l3 l4 (by simp) (by simp) (by simp) (by simp) k hk, point_same ps ps hp hq k hk]
 simp only [Option.bind_some, decide_eq_true_eq]
 have e : (([] : List Int) = l1 ∧ ([] : List Int) = l2 ∧ ([] : List Int) = l3 ∧ ([] : List Int) = l4) ↔ (l1.length = 0 ∧ l2.length = 0 ∧ l3.length = 0 ∧ l4.length = 0) := by
  simp only [List.length_eq_zero_iff, eq_comm]
 by_cases h : okPlain l1 l2 l3 l4
 · rw [if_pos (e.2 h), decide_eq_true h]; simp
 · rw [if_neg (fun h' => h (e.1 h')), decide_eq_false h]
instance decBetween (i n : Nat) (P : Nat → Prop) [DecidablePred P] : Decidable (∀ j, i ≤ j → j < n → P j) := decidable_of_iff (∀ j, j < n → i ≤ j → P j) ⟨fun h j h1 h2 => h j h2 h1, fun h j h1 h2 => h j h2 h1⟩
theorem end_eq (a : Int) (l1 l2 l3 l4 : List Int) (ps : List S110) (i : Int) : spec_l06End.f a l1 l2 l3 l4 ps i = impl_Selection_end.f a l1 l2 l3 l4 ps i := rfl
theorem plain_spec (a : Int) (l1 l2 l3 l4 : List Int) (ps : List S110) : spec_l06Plain.f a l1 l2 l3 l4 ps = some (decide (okPlain l1 l2 l3 l4)) := by
 unfold spec_l06Plain.f
 by_cases h1 : l1.length = 0
 ·
  rw [if_pos (by omega)]
  by_cases h2 : l2.length = 0
  ·
   rw [if_pos (by omega)]
   by_cases h3 : l3.length = 0
   · rw [if_pos (by omega)]
     congr 1
     by_cases h4 : l4.length = 0
     · rw [decide_eq_true (show okPlain l1 l2 l3 l4 from ⟨h1, h2, h3, h4⟩), h4]; rfl
     · rw [decide_eq_false (show ¬ okPlain l1 l2 l3 l4 from fun h => h4 h.2.2.2)]
       simp; exact fun h => h4 (by rw [h]; rfl)
   · rw [if_neg (by omega), decide_eq_false (show ¬ okPlain l1 l2 l3 l4 from fun h => h3 h.2.2.1)]
  · rw [if_neg (by omega), decide_eq_false (show ¬ okPlain l1 l2 l3 l4 from fun h => h2 h.2.1)]
 · rw [if_neg (by omega), decide_eq_false (show ¬ okPlain l1 l2 l3 l4 from fun h => h1 h.1)]
/-- one dimension of a slab -/
def okD (l1 l2 l3 l4 : List Int) (i : Nat) : Prop := (0 ≤ rd l1 i ∧ rd l1 i ≤ 40) ∧ (1 ≤ rd l3 i ∧ rd l3 i ≤ 40) ∧ (1 ≤ rd l4 i ∧ rd l4 i ≤ 40) ∧ (rd l4 i ≤ rd l2 i ∧ rd l2 i ≤ 40) ∧ rd l1 i + (rd l3 i - 1) * rd l2 i + rd l4 i ≤ 40
instance (l1 l2 l3 l4 : List Int) (i : Nat) : Decidable (okD l1 l2 l3 l4 i) := by unfold okD; infer_instance
theorem end_val (a : Int) (l1 l2 l3 l4 : List Int) (ps : List S110) (i : Nat) (h1 : i < l1.length) (h2 : i < l2.length) (h3 : i < l3.length) (h4 : i < l4.length)
 (q1 : 0 ≤ rd l1 i ∧ rd l1 i ≤ 40) (q3 : 1 ≤ rd l3 i ∧ rd l3 i ≤ 40) (q4 : 1 ≤ rd l4 i ∧ rd l4 i ≤ 40) (q2 : rd l4 i ≤ rd l2 i ∧ rd l2 i ≤ 40) :
 spec_l06End.f a l1 l2 l3 l4 ps i = some (rd l1 i + (rd l3 i - 1) * rd l2 i + rd l4 i) := by
 unfold spec_l06End.f
 rw [if_pos (by omega), if_pos (by omega), if_pos (by omega), if_pos (by omega), if_pos (by omega)]
 have hm : 0 ≤ (rd l3 i - 1) * rd l2 i := Int.mul_nonneg (by omega) (by omega)
 have hM : (rd l3 i - 1) * rd l2 i ≤ 40 * 40 := Int.mul_le_mul (by omega) (by omega) (by omega) (by omega)
 rw [wrap64_id (a := rd l3 i - 1) (by omega) (by omega), wrap64_id (a := (rd l3 i - 1) * rd l2 i) (by omega) (by omega), wrap64_id (a := rd l1 i + (rd l3 i - 1) * rd l2 i) (by omega) (by omega), wrap64_id (by omega) (by omega)]
theorem slab_spec (a : Int) (l1 l2 l3 l4 : List Int) (ps : List S110) (n : Nat) (hn : n ≤ 3) (h1 : l1.length = n) (h2 : l2.length = n) (h3 : l3.length = n) (h4 : l4.length = n) : ∀ (d k i : Nat), i + d = n → 2 * d < k →
 spec_l06Slab.l0 k n i a l1 l2 l3 l4 ps = some (decide (∀ j, i ≤ j → j < n → okD l1 l2 l3 l4 j)) := by
 intro d
 induction d with
 | zero =>
  intro k i hi hk
  obtain ⟨k, rfl⟩ : ∃ z, k = z + 1 := ⟨k - 1, by omega⟩
  rw [spec_l06Slab.l0, if_neg (by omega), decide_eq_true]
  intro j hj hj2; omega
 | succ d ih =>
  intro k i hi hk
  obtain ⟨k, rfl⟩ : ∃ z, k = z + 2 := ⟨k - 2, by omega⟩
  have no : ∀ (h : ¬ okD l1 l2 l3 l4 i), decide (∀ j, i ≤ j → j < n → okD l1 l2 l3 l4 j) = false := fun h => decide_eq_false (fun h' => h (h' i (by omega) (by omega)))
  rw [spec_l06Slab.l0, if_pos (by omega), if_pos (by omega), if_pos (by omega), in_eq]
  simp only [Option.bind_some, decide_eq_true_eq]
  by_cases q1 : 0 ≤ rd l1 i ∧ rd l1 i ≤ 40
  ·
   rw [if_pos q1, if_pos (by omega), in_eq]
   simp only [Option.bind_some, decide_eq_true_eq]
   by_cases q3 : 1 ≤ rd l3 i ∧ rd l3 i ≤ 40
   ·
    rw [if_pos q3, if_pos (by omega), in_eq]
    simp only [Option.bind_some, decide_eq_true_eq]
    by_cases q4 : 1 ≤ rd l4 i ∧ rd l4 i ≤ 40
    ·
     rw [if_pos q4, if_pos (by omega), in_eq]
     simp only [Option.bind_some, decide_eq_true_eq]
     by_cases q2 : rd l4 i ≤ rd l2 i ∧ rd l2 i ≤ 40
     ·
      rw [if_pos q2, end_val a l1 l2 l3 l4 ps i (by omega) (by omega) (by omega) (by omega) q1 q3 q4 q2]
      simp only [Option.bind_some]
      by_cases q5 : rd l1 i + (rd l3 i - 1) * rd l2 i + rd l4 i > 40
      · rw [if_pos q5, no (fun h => by have := h.2.2.2.2; omega)]
      ·
       rw [if_neg q5, wrap_up i (by omega), ih (k + 1) (i + 1) (by omega) (by omega)]
       have hq : okD l1 l2 l3 l4 i := ⟨q1, q3, q4, q2, by omega⟩
       congr 1
       apply decide_eq_decide.2
       constructor
       · intro h j hj hj2
         by_cases hji : j = i
         · subst hji; exact hq
         · exact h j (by omega) hj2
       · intro h j hj hj2
         exact h j (by omega) hj2
     · rw [if_neg q2, no (fun h => q2 h.2.2.2.1)]
    · rw [if_neg q4, no (fun h => q4 h.2.2.1)]
   · rw [if_neg q3, no (fun h => q3 h.2.1)]
  · rw [if_neg q1, no (fun h => q1 h.1)]
theorem slab_same (a : Int) (l1 l2 l3 l4 : List Int) (ps : List S110) : ∀ k n i, impl_Selection_slabFormed.l0 k n i a l1 l2 l3 l4 ps = spec_l06Slab.l0 k n i a l1 l2 l3 l4 ps := by
 intro k
 induction k with
 | zero => intro n i; rfl
 | succ k ih =>
  intro n i
  rw [impl_Selection_slabFormed.l0, spec_l06Slab.l0]
  simp only [in_eq, within_eq, Option.bind_some, end_eq, ih n _]
def okSlab (l1 l2 l3 l4 : List Int) : Prop := l1.length ≤ 3 ∧ l2.length = l1.length ∧ l3.length = l1.length ∧ l4.length = l1.length ∧ ∀ i, 0 ≤ i → i < l1.length → okD l1 l2 l3 l4 i
instance (l1 l2 l3 l4 : List Int) : Decidable (okSlab l1 l2 l3 l4) := by unfold okSlab; infer_instance
theorem slabF_spec (a : Int) (l1 l2 l3 l4 : List Int) (ps : List S110) (k : Nat) (hk : 100 ≤ k) : spec_l06Slab.f k a l1 l2 l3 l4 ps = some (decide (okSlab l1 l2 l3 l4 ∧ ps.length = 0)) := by
 obtain ⟨k, rfl⟩ : ∃ z, k = z + 2 := ⟨k - 2, by omega⟩
 unfold spec_l06Slab.f
 have no : ∀ (h : ¬ (okSlab l1 l2 l3 l4 ∧ ps.length = 0)), decide (okSlab l1 l2 l3 l4 ∧ ps.length = 0) = false := fun h => decide_eq_false h
 by_cases h3 : l1.length ≤ 3
 ·
  rw [if_neg (by omega)]
  by_cases q2 : l2.length = l1.length
  ·
   rw [if_pos (by omega)]
   by_cases q3 : l3.length = l1.length
   ·
    rw [if_pos (by omega)]
    by_cases q4 : l4.length = l1.length
    ·
     rw [if_pos (by omega), spec_l06Slab.j0]
     by_cases q5 : ps.length = 0
     · have h0 := slab_spec a l1 l2 l3 l4 ps l1.length h3 rfl q2 q3 q4 l1.length (k + 1) 0 (by omega) (by omega)
       rw [if_neg (by rw [decide_eq_true_eq]; omega)]
       rw [show spec_l06Slab.l0 (k + 1) (l1.length : Int) 0 a l1 l2 l3 l4 ps = _ from h0]
       congr 1
       apply decide_eq_decide.2
       exact ⟨fun h => ⟨⟨h3, q2, q3, q4, h⟩, q5⟩, fun h => h.1.2.2.2.2⟩
     · rw [if_pos (by rw [decide_eq_true_eq]; omega), no (fun h => q5 h.2)]
    · rw [if_neg (by omega), spec_l06Slab.j0, if_pos rfl, no (fun h => q4 h.1.2.2.2.1)]
   · rw [if_neg (by omega), spec_l06Slab.j0, if_pos rfl, no (fun h => q3 h.1.2.2.1)]
  · rw [if_neg (by omega), spec_l06Slab.j0, if_pos rfl, no (fun h => q2 h.1.2.1)]
 · rw [if_pos (by omega), spec_l06Slab.j0, if_pos rfl, no (fun h => h3 h.1.1)]
theorem slabF_impl (a : Int) (l1 l2 l3 l4 : List Int) (ps : List S110) (k : Nat) (hk : 100 ≤ k) : impl_Selection_slabFormed.f k a l1 l2 l3 l4 ps = some (decide (okSlab l1 l2 l3 l4)) := by
 obtain ⟨k, rfl⟩ : ∃ z, k = z + 2 := ⟨k - 2, by omega⟩
 unfold impl_Selection_slabFormed.f
 have no : ∀ (h : ¬ (okSlab l1 l2 l3 l4)), decide (okSlab l1 l2 l3 l4) = false := fun h => decide_eq_false h
 by_cases h3 : l1.length ≤ 3
 ·
  rw [if_neg (by omega)]
  by_cases q2 : l2.length = l1.length
  ·
   rw [if_pos (by omega)]
   by_cases q3 : l3.length = l1.length
   ·
    rw [if_pos (by omega), impl_Selection_slabFormed.j0]
    by_cases q4 : l4.length = l1.length
    · have h0 := slab_spec a l1 l2 l3 l4 ps l1.length h3 rfl q2 q3 q4 l1.length (k + 1) 0 (by omega) (by omega)
      have h4 : (l4.length : Int) = (l1.length : Int) := by omega
      rw [if_neg (by simp [h4]), slab_same a l1 l2 l3 l4 ps (k + 1) _ _]
      rw [show spec_l06Slab.l0 (k + 1) (l1.length : Int) 0 a l1 l2 l3 l4 ps = _ from h0]
      congr 1
      apply decide_eq_decide.2
      exact ⟨fun h => ⟨h3, q2, q3, q4, h⟩, fun h => h.2.2.2.2⟩
    · have h4 : ¬ (l4.length : Int) = (l1.length : Int) := by omega
      rw [if_pos (by simp [h4]), no (fun h => q4 h.2.2.2.1)]
   · rw [if_neg (by omega), impl_Selection_slabFormed.j0, if_pos rfl, no (fun h => q3 h.2.2.1)]
  · rw [if_neg (by omega), impl_Selection_slabFormed.j0, if_pos rfl, no (fun h => q2 h.2.1)]
 · rw [if_pos (by omega), impl_Selection_slabFormed.j0, if_pos rfl, no (fun h => h3 h.1)]
/-- one point of a selection -/
def okPt (ps : List S110) (i : Nat) : Prop := (rd_T110 ps i).f0.length = (rd_T110 ps 0).f0.length ∧ (rd_T110 ps i).f0.length ≤ 3 ∧ ∀ j, j < (rd_T110 ps i).f0.length → inI (rd_T110 ps i).f0 0 39 j
instance (ps : List S110) (i : Nat) : Decidable (okPt ps i) := by unfold okPt; infer_instance
theorem pt_inner (ps : List S110) (i : Nat) (hi : i < ps.length) (hp : ps.length ≤ 1048576) (hl : (rd_T110 ps i).f0.length ≤ 3) : ∀ (e k j : Nat), j + e = (rd_T110 ps i).f0.length → e < k →
 spec_l06Points.l1 k ps i j = if ∀ m, j ≤ m → m < (rd_T110 ps i).f0.length → inI (rd_T110 ps i).f0 0 39 m then spec_l06Points.l0 (k - e - 1) ps ((i + 1 : Nat) : Int) else some false := by
 intro e
 induction e with
 | zero =>
  intro k j hj hk
  obtain ⟨k, rfl⟩ : ∃ z, k = z + 1 := ⟨k - 1, by omega⟩
  rw [spec_l06Points.l1, if_pos (by omega), if_pos (by omega), if_neg (by omega), if_pos (by intro m h1 h2; omega), wrap_up i (by omega)]
  rfl
 | succ e ih =>
  intro k j hj hk
  obtain ⟨k, rfl⟩ : ∃ z, k = z + 1 := ⟨k - 1, by omega⟩
  rw [spec_l06Points.l1, if_pos (by omega), if_pos (by omega), if_pos (by omega), if_pos (by omega), in_eq]
  simp only [Option.bind_some, decide_eq_true_eq]
  by_cases hc : 0 ≤ rd (rd_T110 ps i).f0 j ∧ rd (rd_T110 ps i).f0 j ≤ 39
  ·
   rw [if_pos hc, wrap_up j (by omega), ih k (j + 1) (by omega) (by omega)]
   have hk' : k + 1 - (e + 1) - 1 = k - e - 1 := by omega
   rw [hk']
   congr 1
   apply propext
   constructor
   · intro h m h1 h2
     by_cases hmj : m = j
     · subst hmj; exact hc
     · exact h m (by omega) h2
   · intro h m h1 h2
     exact h m (by omega) h2
  · rw [if_neg hc, if_neg]
    intro h
    exact hc (h j (by omega) (by omega))
theorem pt_loop (ps : List S110) (hp : ps.length ≤ 1048576) : ∀ (d k i : Nat), i + d = ps.length → 10 * d + 10 < k →
 spec_l06Points.l0 k ps i = some (decide (∀ m, i ≤ m → m < ps.length → okPt ps m)) := by
 intro d
 induction d with
 | zero =>
  intro k i hi hk
  obtain ⟨k, rfl⟩ : ∃ z, k = z + 1 := ⟨k - 1, by omega⟩
  rw [spec_l06Points.l0, if_neg (by omega), decide_eq_true]
  intro m h1 h2; omega
 | succ d ih =>
  intro k i hi hk
  obtain ⟨k, rfl⟩ : ∃ z, k = z + 2 := ⟨k - 2, by omega⟩
  have no : ∀ (h : ¬ okPt ps i), decide (∀ m, i ≤ m → m < ps.length → okPt ps m) = false := fun h => decide_eq_false (fun h' => h (h' i (by omega) (by omega)))
  rw [spec_l06Points.l0, if_pos (by omega), if_pos (by omega), if_pos (by omega), spec_l06Points.j1, spec_l06Points.j1]
  by_cases q1 : (rd_T110 ps i).f0.length = (rd_T110 ps 0).f0.length
  ·
   rw [if_pos (by omega)]
   by_cases q2 : (rd_T110 ps i).f0.length ≤ 3
   ·
    have h0 := pt_inner ps i (by omega) hp q2 (rd_T110 ps i).f0.length k 0 (by omega) (by omega)
    rw [if_neg (by simp; omega)]
    rw [show spec_l06Points.l1 k ps (i : Int) 0 = _ from h0]
    by_cases q3 : ∀ m, 0 ≤ m → m < (rd_T110 ps i).f0.length → inI (rd_T110 ps i).f0 0 39 m
    ·
     rw [if_pos q3, ih _ (i + 1) (by omega) (by omega)]
     congr 1
     apply decide_eq_decide.2
     constructor
     · intro h m h1 h2
       by_cases hmi : m = i
       · subst hmi; exact ⟨q1, q2, fun j hj => q3 j (by omega) hj⟩
       · exact h m (by omega) h2
     · intro h m h1 h2
       exact h m (by omega) h2
    · rw [if_neg q3, no (fun h => q3 (fun m _ h2 => h.2.2 m h2))]
   · rw [if_pos (by simp; omega), no (fun h => q2 h.2.1)]
  · rw [if_neg (by omega), if_pos rfl, no (fun h => q1 h.1)]
def okPts (ps : List S110) : Prop := (1 ≤ ps.length ∧ ps.length ≤ 24) ∧ ∀ m, 0 ≤ m → m < ps.length → okPt ps m
instance (ps : List S110) : Decidable (okPts ps) := by unfold okPts; infer_instance
theorem points_spec (ps : List S110) (hp : ps.length ≤ 1048576) (k : Nat) (hk : 11000000 ≤ k) : spec_l06Points.f k ps = some (decide (okPts ps)) := by
 unfold spec_l06Points.f
 rw [in_eq]
 simp only [Option.bind_some, decide_eq_true_eq]
 by_cases h1 : 1 ≤ ps.length ∧ ps.length ≤ 24
 ·
  have h0 := pt_loop ps hp ps.length k 0 (by omega) (by omega)
  rw [if_pos (show 1 ≤ (ps.length : Int) ∧ (ps.length : Int) ≤ 24 by omega)]
  rw [show spec_l06Points.l0 k ps 0 = _ from h0]
  congr 1
  apply decide_eq_decide.2
  exact ⟨fun h => ⟨h1, h⟩, fun h => h.2⟩
 · rw [if_neg (by omega), decide_eq_false (fun h => h1 h.1)]
theorem points_impl (a : Int) (l1 l2 l3 l4 : List Int) (ps : List S110) (hp : ps.length ≤ 1048576) (hq : ∀ y ∈ ps, QS110 y) (k : Nat) (hk : 3000000 ≤ k) : impl_Selection_pointsFormed.f k a l1 l2 l3 l4 ps = some (decide (okPts ps)) := by
 unfold impl_Selection_pointsFormed.f slices_ContainsFunc_impl_Selection_pointsFormed_1.f slices_IndexFunc_impl_Selection_pointsFormed_1.f
 rw [within_eq]
 simp only [Option.bind_some, decide_eq_true_eq]
 have hql : ∀ i, i < ps.length → (rd_T110 ps (i : Int)).f0.length ≤ 1048576 := by
  intro i hi
  have : rd_T110 ps (i : Int) = ps[i] := getD_lt ps z110 i hi
  rw [this]
  have h := hq _ (List.getElem_mem hi)
  unfold QS110 at h
  omega
 by_cases h1 : 1 ≤ ps.length ∧ ps.length ≤ 24
 ·
  rw [if_pos (show 1 ≤ (ps.length : Int) ∧ (ps.length : Int) ≤ 24 by omega), if_pos (by omega)]
  by_cases h3 : (rd_T110 ps 0).f0.length ≤ 3
  ·
   have hg := find_loop (fun k i => slices_IndexFunc_impl_Selection_pointsFormed_1.l0 k ps ps.length i ((rd_T110 ps 0).f0.length : Int)) (fun i => ¬ okPt ps i) ps.length 1048590
    (by intro k _; show slices_IndexFunc_impl_Selection_pointsFormed_1.l0 (k + 1) ps _ _ _ = _; rw [slices_IndexFunc_impl_Selection_pointsFormed_1.l0, if_neg (by omega)])
    (by
     intro k i hk hi
     show slices_IndexFunc_impl_Selection_pointsFormed_1.l0 (k + 1) ps _ _ _ = _
     rw [slices_IndexFunc_impl_Selection_pointsFormed_1.l0, if_pos (by omega), if_pos (by omega), if_pos (by omega), wrap_up i (by omega)]
     unfold impl_Selection_pointsFormed_1.f
     by_cases q1 : (rd_T110 ps i).f0.length = (rd_T110 ps 0).f0.length
     · rw [if_pos (by omega), withinI (rd_T110 ps i).f0 0 39 (hql i hi) k hk]
       simp only [Option.bind_some]
       by_cases q2 : ∀ j, j < (rd_T110 ps i).f0.length → inI (rd_T110 ps i).f0 0 39 j
       · have : okPt ps i := ⟨q1, by omega, q2⟩
         rw [decide_eq_true q2, if_neg (by simp), if_neg (fun h => h this)]
       · have : ¬ okPt ps i := fun h => q2 h.2.2
         rw [decide_eq_false q2, if_pos (show (!false) = true from rfl), if_pos this]
     · have : ¬ okPt ps i := fun h => q1 h.1
       rw [if_neg (by omega), if_pos this]
       rfl)
    k (by omega)
   rw [if_pos (show ((rd_T110 ps 0).f0.length : Int) ≤ 3 by omega)]
   rw [show slices_IndexFunc_impl_Selection_pointsFormed_1.l0 k ps (ps.length : Int) 0 ((rd_T110 ps 0).f0.length : Int) = _ from hg]
   simp only [Option.bind_some]
   rcases look_or (fun i => ¬ okPt ps i) ps.length 0 with ⟨h4, h5⟩ | ⟨j, -, h4, h5, h6⟩
   · rw [h4]
     have h7 : okPts ps := ⟨h1, fun i _ hi => Decidable.not_not.1 (h5 i (by omega) (by omega))⟩
     rw [decide_eq_true h7]; rfl
   · rw [h5]
     have h7 : ¬ okPts ps := fun h => h6 (h.2 j (by omega) (by omega))
     have h8 : (j : Int) ≥ 0 := by omega
     rw [decide_eq_false h7]; simp [h8]
  · rw [if_neg (by omega), decide_eq_false]
    intro h
    have := (h.2 0 (by omega) (by omega)).2.1
    exact h3 this
 · rw [if_neg (by omega), decide_eq_false (fun h => h1 h.1)]
/-- the whole of it -/
def okF (a : Int) (l1 l2 l3 l4 : List Int) (ps : List S110) : Prop := (a = 1 ∨ a = 2) ∧ okPlain l1 l2 l3 l4 ∧ ps.length = 0 ∨ a = 3 ∧ okSlab l1 l2 l3 l4 ∧ ps.length = 0 ∨ a = 4 ∧ okPlain l1 l2 l3 l4 ∧ okPts ps
instance (a : Int) (l1 l2 l3 l4 : List Int) (ps : List S110) : Decidable (okF a l1 l2 l3 l4 ps) := by unfold okF; infer_instance
theorem formed_spec (a : Int) (l1 l2 l3 l4 : List Int) (ps : List S110) (hp : ps.length ≤ 1048576) (k : Nat) (hk : 11000010 ≤ k) : spec_l06Formed.f k a l1 l2 l3 l4 ps = some (decide (okF a l1 l2 l3 l4 ps)) := by
 obtain ⟨k, rfl⟩ : ∃ z, k = z + 1 := ⟨k - 1, by omega⟩
 unfold spec_l06Formed.f
 have hb : (if a = 1 then spec_l06Formed.j0 (k + 1) a (a == 1) a l1 l2 l3 l4 ps else spec_l06Formed.j0 (k + 1) a (a == 2) a l1 l2 l3 l4 ps) = spec_l06Formed.j0 (k + 1) a (decide (a = 1 ∨ a = 2)) a l1 l2 l3 l4 ps := by
  by_cases h1 : a = 1
  · rw [if_pos h1]; congr 1; simp [h1]
  · rw [if_neg h1]; congr 1; simp [h1]; rfl
 rw [hb, spec_l06Formed.j0, plain_spec, slabF_spec a l1 l2 l3 l4 ps k (by omega), points_spec ps hp k (by omega)]
 simp only [Option.bind_some, decide_eq_true_eq]
 unfold okF
 by_cases h12 : a = 1 ∨ a = 2
 ·
  rw [if_pos h12]
  by_cases hpl : okPlain l1 l2 l3 l4
  · rw [if_pos hpl]
    have h3 : ¬ a = 3 := by omega
    have h4 : ¬ a = 4 := by omega
    have e5 : ((ps.length : Int) == 0) = decide (ps.length = 0) := by rw [Bool.eq_iff_iff]; simp
    rw [e5]
    simp [h12, hpl, h3, h4]
  · rw [if_neg hpl]
    have h3 : ¬ a = 3 := by omega
    simp [hpl, h3]
 ·
  rw [if_neg h12]
  by_cases h3 : a = 3
  · rw [if_pos h3]
    have h4 : ¬ a = 4 := by omega
    simp [h12, h3]
  ·
   rw [if_neg h3]
   by_cases h4 : a = 4
   · rw [if_pos h4]
     by_cases hpl : okPlain l1 l2 l3 l4
     · simp [h4, hpl]
     · simp [h4, hpl]
   · rw [if_neg h4]
     simp [h12, h3, h4]
theorem formed_impl (a : Int) (l1 l2 l3 l4 : List Int) (ps : List S110) (hp : ps.length ≤ 1048576) (hq : ∀ y ∈ ps, QS110 y) (k : Nat) (hk : 11000010 ≤ k) : impl_FormedSelection.f k a l1 l2 l3 l4 ps = some (decide (okF a l1 l2 l3 l4 ps)) := by
 obtain ⟨k, rfl⟩ : ∃ z, k = z + 1 := ⟨k - 1, by omega⟩
 unfold impl_FormedSelection.f
 rw [sel_plain a l1 l2 l3 l4 ps hp hq _ (by omega)]
 simp only [Option.bind_some]
 generalize hpp : decide (okPlain l1 l2 l3 l4) = p
 have hb : (if a = 1 then impl_FormedSelection.j0 (k + 1) p a (a == 1) a l1 l2 l3 l4 ps else impl_FormedSelection.j0 (k + 1) p a (a == 2) a l1 l2 l3 l4 ps) = impl_FormedSelection.j0 (k + 1) p a (decide (a = 1 ∨ a = 2)) a l1 l2 l3 l4 ps := by
  by_cases h1 : a = 1
  · rw [if_pos h1]; congr 1; simp [h1]
  · rw [if_neg h1]; congr 1; simp [h1]; rfl
 rw [hb, impl_FormedSelection.j0, slabF_impl a l1 l2 l3 l4 ps k (by omega), points_impl a l1 l2 l3 l4 ps hp hq k (by omega), ← hpp]
 simp only [Option.bind_some, decide_eq_true_eq]
 unfold okF
 by_cases h12 : a = 1 ∨ a = 2
 ·
  rw [if_pos h12]
  by_cases hpl : okPlain l1 l2 l3 l4
  · rw [if_pos hpl]
    have h3 : ¬ a = 3 := by omega
    have h4 : ¬ a = 4 := by omega
    have e5 : ((ps.length : Int) == 0) = decide (ps.length = 0) := by rw [Bool.eq_iff_iff]; simp
    rw [e5]
    simp [h12, hpl, h3, h4]
  · rw [if_neg hpl]
    have h3 : ¬ a = 3 := by omega
    simp [hpl, h3]
 ·
  rw [if_neg h12]
  by_cases h3 : a = 3
  ·
   rw [if_pos h3]
   have h4 : ¬ a = 4 := by omega
   by_cases h5 : ps.length = 0
   · rw [if_pos (by omega)]
     simp only [h12, h3, h5, false_and, true_and, and_true, false_or]
     simp
   · rw [if_neg (by omega)]
     simp only [h12, h3, h5, false_and, true_and, and_false, false_or]
     simp
  ·
   rw [if_neg h3]
   by_cases h4 : a = 4
   · rw [if_pos h4]
     by_cases hpl : okPlain l1 l2 l3 l4
     · simp [h4, hpl]
     · simp [h4, hpl]
   · rw [if_neg h4]
     simp [h12, h3, h4]
def prodL : List Int → Int := fun l => l.foldl (· * ·) 1
def VD (l : List Int) : Prop := l.length ≤ 3 ∧ (∀ x ∈ l, 0 ≤ x ∧ x ≤ 40) ∧ prodL l ≤ 600
instance (l : List Int) : Decidable (VD l) := by unfold VD; infer_instance
theorem mul_le {a b A B : Int} (ha : 0 ≤ a) (hb : 0 ≤ b) (hA : a ≤ A) (hB : b ≤ B) : 0 ≤ a * b ∧ a * b ≤ A * B :=
 ⟨Int.mul_nonneg ha hb, Int.mul_le_mul hA hB hb (by omega)⟩
theorem dims_spec (k : Nat) (l : List Int) (hk : 4 < k) : spec_l05Dims.f k l = some (decide (VD l)) := by
 unfold spec_l05Dims.f
 by_cases h3 : (l.length : Int) > 3
 · rw [if_pos h3]
   have : ¬ VD l := fun h => by have := h.1; omega
   simp [this]
 ·
  rw [if_neg h3]
  obtain ⟨k, rfl⟩ : ∃ z, k = z + 5 := ⟨k - 5, by omega⟩
  match l, h3 with
  | [], _ => simp [spec_l05Dims.l0, VD, prodL]
  | [a], _ =>
   by_cases ha : 0 ≤ a ∧ a ≤ 40
   · simp [spec_l05Dims.l0, VD, prodL, in_eq, rd, ha, w1, wrap64_id (a := a) (by omega) (by omega)]
   · simp [spec_l05Dims.l0, VD, prodL, in_eq, rd, ha]
  | [a, b], _ =>
   by_cases ha : 0 ≤ a ∧ a ≤ 40
   · by_cases hb : 0 ≤ b ∧ b ≤ 40
     · have h1 := mul_le ha.1 hb.1 ha.2 hb.2
       simp [spec_l05Dims.l0, VD, prodL, in_eq, rd, ha, hb, wrap64_id (a := a) (by omega) (by omega), wrap64_id (a := a * b) (by omega) (by omega), w1, w2]
     · simp [spec_l05Dims.l0, VD, prodL, in_eq, rd, ha, hb, wrap64_id (a := a) (by omega) (by omega), w1]
   · simp [spec_l05Dims.l0, VD, prodL, in_eq, rd, ha]
  | [a, b, c], _ =>
   by_cases ha : 0 ≤ a ∧ a ≤ 40
   · by_cases hb : 0 ≤ b ∧ b ≤ 40
     · have h1 := mul_le ha.1 hb.1 ha.2 hb.2
       by_cases hc : 0 ≤ c ∧ c ≤ 40
       · have h2 := mul_le h1.1 hc.1 h1.2 hc.2
         simp [spec_l05Dims.l0, VD, prodL, in_eq, rd, ha, hb, hc, wrap64_id (a := a) (by omega) (by omega), wrap64_id (a := a * b) (by omega) (by omega), wrap64_id (a := a * b * c) (by omega) (by omega), w1, w2, w3]
       · simp [spec_l05Dims.l0, VD, prodL, in_eq, rd, ha, hb, hc, wrap64_id (a := a) (by omega) (by omega), wrap64_id (a := a * b) (by omega) (by omega), w1, w2]
     · simp [spec_l05Dims.l0, VD, prodL, in_eq, rd, ha, hb, wrap64_id (a := a) (by omega) (by omega), w1]
   · simp [spec_l05Dims.l0, VD, prodL, in_eq, rd, ha]
  | a :: b :: c :: d :: l, h => simp at h; omega
theorem within_all (k : Nat) (l : List Int) (a b : Int) (hl : l.length ≤ 1048576) (hk : l.length < k) : impl_allWithin.f k l a b = some (decide (∀ x ∈ l, a ≤ x ∧ x ≤ b)) := by
 unfold impl_allWithin.f slices_ContainsFunc_impl_allWithin_1.f slices_IndexFunc_impl_allWithin_1.f
 obtain ⟨r, h, hr⟩ := count_loop (fun k (_ : Unit) i => slices_IndexFunc_impl_allWithin_1.l0 k l (l.length : Int) i a b) l.length 0 (fun i _ => ∀ x ∈ l.take i, a ≤ x ∧ x ≤ b) (fun r => decide (r ≥ 0) = !decide (∀ x ∈ l, a ≤ x ∧ x ≤ b))
  (by
   rintro k s - h1
   refine ⟨-1, by show slices_IndexFunc_impl_allWithin_1.l0 (k + 1) l _ _ a b = _; rw [slices_IndexFunc_impl_allWithin_1.l0, if_neg (by omega)], ?_⟩
   rw [List.take_length] at h1
   simp [h1]
   exact h1)
  (by
   rintro k s i - hi h1
   by_cases he : a ≤ l[i] ∧ l[i] ≤ b
   ·
    refine .inl ⟨(), ?_, ?_⟩
    · intro x hx
      rw [List.take_succ_eq_append_getElem hi, List.mem_append] at hx
      rcases hx with hx | hx
      · exact h1 x hx
      · simp at hx; subst hx; exact he
    · show slices_IndexFunc_impl_allWithin_1.l0 (k + 1) l _ _ a b = _
      rw [slices_IndexFunc_impl_allWithin_1.l0, if_pos (by omega), if_pos (by omega), if_pos (by omega), rd_lt l i hi, impl_allWithin_1.f, within_eq, wrap_up i (by omega)]
      simp [he]
   · refine .inr ⟨i, ?_, ?_⟩
     · show slices_IndexFunc_impl_allWithin_1.l0 (k + 1) l _ _ a b = _
       rw [slices_IndexFunc_impl_allWithin_1.l0, if_pos (by omega), if_pos (by omega), if_pos (by omega), rd_lt l i hi, impl_allWithin_1.f, within_eq]
       simp [he]
     · have hx : ¬ ∀ x ∈ l, a ≤ x ∧ x ≤ b := fun h => he (h _ (List.getElem_mem hi))
       simp [hx])
  k () 0 (by omega) (by omega) (by simp)
 have h' : slices_IndexFunc_impl_allWithin_1.l0 k l (l.length : Int) 0 a b = some r := h
 rw [h']
 simp [hr]
theorem dims_impl (k : Nat) (l : List Int) (hk : 4 < k) : impl_ValidDims.f k l = some (decide (VD l)) := by
 unfold impl_ValidDims.f
 by_cases h3 : (l.length : Int) ≤ 3
 ·
  rw [if_pos h3, within_all k l 0 40 (by omega) (by omega)]
  by_cases hw : ∀ x ∈ l, 0 ≤ x ∧ x ≤ 40
  ·
   rw [decide_eq_true hw]
   have hp : impl_product.f k l = some (prodL l) := by
    unfold impl_product.f
    obtain ⟨k, rfl⟩ : ∃ z, k = z + 5 := ⟨k - 5, by omega⟩
    match l, h3, hw with
    | [], _, _ => simp [impl_product.l0, prodL]
    | [a], _, hw =>
     have ha := hw a (by simp)
     simp [impl_product.l0, prodL, rd, w1, wrap64_id (a := a) (by omega) (by omega)]
    | [a, b], _, hw =>
     have ha := hw a (by simp)
     have hb := hw b (by simp)
     have h1 := mul_le ha.1 hb.1 ha.2 hb.2
     simp [impl_product.l0, prodL, rd, wrap64_id (a := a) (by omega) (by omega), wrap64_id (a := a * b) (by omega) (by omega), w1, w2]
    | [a, b, c], _, hw =>
     have ha := hw a (by simp)
     have hb := hw b (by simp)
     have hc := hw c (by simp)
     have h1 := mul_le ha.1 hb.1 ha.2 hb.2
     have h2 := mul_le h1.1 hc.1 h1.2 hc.2
     simp [impl_product.l0, prodL, rd, wrap64_id (a := a) (by omega) (by omega), wrap64_id (a := a * b) (by omega) (by omega), wrap64_id (a := a * b * c) (by omega) (by omega), w1, w2, w3]
    | a :: b :: c :: d :: l, h, _ => simp at h; omega
   have : VD l ↔ prodL l ≤ 600 := ⟨fun h => h.2.2, fun h => ⟨by omega, hw, h⟩⟩
   simp only [Option.bind_some, if_true, hp]
   rw [decide_eq_decide.mpr this]
  · have : ¬ VD l := fun h => hw h.2.1
    simp [hw, this]
 · rw [if_neg h3]
   have : ¬ VD l := fun h => by have := h.1; omega
   simp [this]
def endv (l1 l2 l3 l4 : List Int) (i : Nat) : Int := rd l1 i + (rd l3 i - 1) * rd l2 i + rd l4 i
def okIn (d p : List Int) : Prop := p.length = d.length ∧ ∀ i, i < p.length → (0 ≤ rd p (i : Int) ∧ rd p (i : Int) ≤ wrap64 (rd d (i : Int) - 1))
instance (d p : List Int) : Decidable (okIn d p) := by unfold okIn; infer_instance
theorem inside_spec (d p : List Int) (hp : p.length ≤ 1048576) (k : Nat) (hk : 1048590 ≤ k) : spec_l05Inside.f k d p = some (decide (okIn d p)) := by
 unfold spec_l05Inside.f
 by_cases hn : p.length = d.length
 ·
  rw [if_pos (by omega), seq_loop (fun k i => spec_l05Inside.l0 k d p i) (fun i => 0 ≤ rd p (i : Int) ∧ rd p (i : Int) ≤ wrap64 (rd d (i : Int) - 1)) p.length
   (by intro k; show spec_l05Inside.l0 (k + 1) d p _ = _; rw [spec_l05Inside.l0, if_neg (by omega)])
   (by
    intro k i hi
    show spec_l05Inside.l0 (k + 1) d p _ = _
    rw [spec_l05Inside.l0, if_pos (by omega), if_pos (by omega), if_pos (by omega), wrap_up i (by omega), in_eq]
    simp only [Option.bind_some, decide_eq_true_eq])
   k (by omega)]
  congr 1
  apply decide_eq_decide.2
  exact ⟨fun h => ⟨hn, h⟩, fun h => h.2⟩
 · rw [if_neg (by omega), decide_eq_false (fun h => hn h.1)]
theorem inside_impl (d p : List Int) (hp : p.length ≤ 1048576) (k : Nat) (hk : 1048590 ≤ k) : impl_inDims.f k d p = some (decide (okIn d p)) := by
 unfold impl_inDims.f
 by_cases hn : p.length = d.length
 ·
  rw [if_pos (by omega), seq_loop (fun k i => impl_inDims.l0 k d p p.length i) (fun i => 0 ≤ rd p (i : Int) ∧ rd p (i : Int) ≤ wrap64 (rd d (i : Int) - 1)) p.length
   (by intro k; show impl_inDims.l0 (k + 1) d p _ _ = _; rw [impl_inDims.l0, if_neg (by omega)])
   (by
    intro k i hi
    show impl_inDims.l0 (k + 1) d p _ _ = _
    rw [impl_inDims.l0, if_pos (by omega), if_pos (by omega), if_pos (by omega), if_pos (by omega), wrap_up i (by omega), within_eq]
    simp only [Option.bind_some, decide_eq_true_eq])
   k (by omega)]
  congr 1
  apply decide_eq_decide.2
  exact ⟨fun h => ⟨hn, h⟩, fun h => h.2⟩
 · rw [if_neg (by omega), decide_eq_false (fun h => hn h.1)]
theorem end_okD (a : Int) (l1 l2 l3 l4 : List Int) (ps : List S110) (h : okSlab l1 l2 l3 l4) (i : Nat) (hi : i < l1.length) : spec_l06End.f a l1 l2 l3 l4 ps i = some (endv l1 l2 l3 l4 i) := by
 obtain ⟨h1, h2, h3, h4, h5⟩ := h
 have hd := h5 i (by omega) hi
 exact end_val a l1 l2 l3 l4 ps i hi (by omega) (by omega) (by omega) hd.1 hd.2.1 hd.2.2.1 hd.2.2.2.1
def okFitS (d l1 l2 l3 l4 : List Int) : Prop := l1.length = d.length ∧ ∀ i, i < d.length → endv l1 l2 l3 l4 i ≤ rd d (i : Int)
instance (d l1 l2 l3 l4 : List Int) : Decidable (okFitS d l1 l2 l3 l4) := by unfold okFitS; infer_instance
def okFitP (d : List Int) (ps : List S110) : Prop := ∀ i, i < ps.length → okIn d (rd_T110 ps (i : Int)).f0
instance (d : List Int) (ps : List S110) : Decidable (okFitP d ps) := by unfold okFitP; infer_instance
theorem fitS_spec (a : Int) (d l1 l2 l3 l4 : List Int) (ps : List S110) (hs : okSlab l1 l2 l3 l4) (hd : l1.length = d.length) (k : Nat) (hk : 100 ≤ k) : spec_l06Valid.l0 k d 0 a l1 l2 l3 l4 ps = some (decide (okFitS d l1 l2 l3 l4)) := by
 have h3 := hs.1
 rw [seq_loop (fun k i => spec_l06Valid.l0 k d i a l1 l2 l3 l4 ps) (fun i => endv l1 l2 l3 l4 i ≤ rd d (i : Int)) d.length
  (by intro k; show spec_l06Valid.l0 (k + 1) d _ a l1 l2 l3 l4 ps = _; rw [spec_l06Valid.l0, if_neg (by omega)])
  (by
   intro k i hi
   show spec_l06Valid.l0 (k + 1) d _ a l1 l2 l3 l4 ps = _
   rw [spec_l06Valid.l0, if_pos (by omega), end_okD a l1 l2 l3 l4 ps hs i (by omega), wrap_up i (by omega)]
   simp only [Option.bind_some]
   rw [if_pos (show (0 : Int) ≤ (i : Int) by omega)]
   by_cases h : endv l1 l2 l3 l4 i ≤ rd d (i : Int)
   · rw [if_neg (show ¬ endv l1 l2 l3 l4 i > rd d (i : Int) by omega), if_pos h]
   · rw [if_pos (show endv l1 l2 l3 l4 i > rd d (i : Int) by omega), if_neg h])
  k (by omega)]
 congr 1
 apply decide_eq_decide.2
 exact ⟨fun h => ⟨hd, h⟩, fun h => h.2⟩
theorem fitS_impl (a : Int) (d l1 l2 l3 l4 : List Int) (ps : List S110) (hs : okSlab l1 l2 l3 l4) (hd : l1.length = d.length) (k : Nat) (hk : 100 ≤ k) : impl_Selection_fits.l0 k d d.length 0 a l1 l2 l3 l4 ps = some (decide (okFitS d l1 l2 l3 l4)) := by
 have h3 := hs.1
 rw [seq_loop (fun k i => impl_Selection_fits.l0 k d d.length i a l1 l2 l3 l4 ps) (fun i => endv l1 l2 l3 l4 i ≤ rd d (i : Int)) d.length
  (by intro k; show impl_Selection_fits.l0 (k + 1) d _ _ a l1 l2 l3 l4 ps = _; rw [impl_Selection_fits.l0, if_neg (by omega)])
  (by
   intro k i hi
   show impl_Selection_fits.l0 (k + 1) d _ _ a l1 l2 l3 l4 ps = _
   rw [impl_Selection_fits.l0, if_pos (by omega), if_pos (by omega), if_pos (by omega), ← end_eq, end_okD a l1 l2 l3 l4 ps hs i (by omega), wrap_up i (by omega)]
   simp only [Option.bind_some]
   by_cases h : endv l1 l2 l3 l4 i ≤ rd d (i : Int)
   · rw [if_neg (show ¬ endv l1 l2 l3 l4 i > rd d (i : Int) by omega), if_pos h]
   · rw [if_pos (show endv l1 l2 l3 l4 i > rd d (i : Int) by omega), if_neg h])
  k (by omega)]
 congr 1
 apply decide_eq_decide.2
 exact ⟨fun h => ⟨hd, h⟩, fun h => h.2⟩
theorem pts_len (ps : List S110) (hq : ∀ y ∈ ps, QS110 y) (i : Nat) (hi : i < ps.length) : (rd_T110 ps (i : Int)).f0.length ≤ 1048576 := by
 have : rd_T110 ps (i : Int) = ps[i] := getD_lt ps z110 i hi
 rw [this]
 have h := hq _ (List.getElem_mem hi)
 unfold QS110 at h
 omega
theorem fitP_spec (a : Int) (d l1 l2 l3 l4 : List Int) (ps : List S110) (hp : ps.length ≤ 1048576) (hq : ∀ y ∈ ps, QS110 y) (k : Nat) (hk : 3000000 ≤ k) : spec_l06Valid.l1 k d 0 a l1 l2 l3 l4 ps = some (decide (okFitP d ps)) := by
 rw [all_loop (fun k i => spec_l06Valid.l1 k d i a l1 l2 l3 l4 ps) (fun i => okIn d (rd_T110 ps (i : Int)).f0) ps.length 1048590 true
  (by intro k _; show spec_l06Valid.l1 (k + 1) d _ a l1 l2 l3 l4 ps = _; rw [spec_l06Valid.l1, if_neg (by omega)])
  (by
   intro k i hk hi
   show spec_l06Valid.l1 (k + 1) d _ a l1 l2 l3 l4 ps = _
   rw [spec_l06Valid.l1, if_pos (by omega), if_pos (by omega), inside_spec d _ (pts_len ps hq i hi) k hk, wrap_up i (by omega)]
   simp only [Option.bind_some, decide_eq_true_eq])
  k (by omega), Bool.and_true]
 rfl
theorem fitP_impl (d : List Int) (ps : List S110) (hp : ps.length ≤ 1048576) (hq : ∀ y ∈ ps, QS110 y) (k : Nat) (hk : 3000000 ≤ k) : slices_ContainsFunc_impl_Selection_fits_1.f k ps d = some (!decide (okFitP d ps)) := by
 unfold slices_ContainsFunc_impl_Selection_fits_1.f slices_IndexFunc_impl_Selection_fits_1.f
 rw [find_loop (fun k i => slices_IndexFunc_impl_Selection_fits_1.l0 k ps ps.length i d) (fun i => ¬ okIn d (rd_T110 ps (i : Int)).f0) ps.length 1048590
  (by intro k _; show slices_IndexFunc_impl_Selection_fits_1.l0 (k + 1) ps _ _ d = _; rw [slices_IndexFunc_impl_Selection_fits_1.l0, if_neg (by omega)])
  (by
   intro k i hk hi
   show slices_IndexFunc_impl_Selection_fits_1.l0 (k + 1) ps _ _ d = _
   rw [slices_IndexFunc_impl_Selection_fits_1.l0, if_pos (by omega), if_pos (by omega), if_pos (by omega), wrap_up i (by omega)]
   unfold impl_Selection_fits_1.f
   rw [inside_impl d _ (pts_len ps hq i hi) k hk]
   simp only [Option.bind_some]
   by_cases h : okIn d (rd_T110 ps (i : Int)).f0 <;> simp [h])
  k (by omega)]
 simp only [Option.bind_some]
 rcases look_or (fun i => ¬ okIn d (rd_T110 ps (i : Int)).f0) ps.length 0 with ⟨h4, h5⟩ | ⟨j, -, h4, h5, h6⟩
 · rw [h4]
   have h7 : okFitP d ps := fun i hi => Decidable.not_not.1 (h5 i (by omega) (by omega))
   rw [decide_eq_true h7]; rfl
 · rw [h5]
   have h7 : ¬ okFitP d ps := fun h => h6 (h j (by omega))
   have h8 : (j : Int) ≥ 0 := by omega
   rw [decide_eq_false h7]; simp [h8]
def okV (d : List Int) (a : Int) (l1 l2 l3 l4 : List Int) (ps : List S110) : Prop := VD d ∧ okF a l1 l2 l3 l4 ps ∧ (a = 3 → okFitS d l1 l2 l3 l4) ∧ (a = 4 → okFitP d ps)
instance (d : List Int) (a : Int) (l1 l2 l3 l4 : List Int) (ps : List S110) : Decidable (okV d a l1 l2 l3 l4 ps) := by unfold okV; infer_instance
theorem okF_slab {a : Int} {l1 l2 l3 l4 : List Int} {ps : List S110} (h : okF a l1 l2 l3 l4 ps) (ha : a = 3) : okSlab l1 l2 l3 l4 := by
 rcases h with h | h | h
 · omega
 · exact h.2.1
 · omega
theorem valid_spec (d : List Int) (a : Int) (l1 l2 l3 l4 : List Int) (ps : List S110) (hp : ps.length ≤ 1048576) (hq : ∀ y ∈ ps, QS110 y) (k : Nat) (hk : 11000020 ≤ k) : spec_l06Valid.f k d a l1 l2 l3 l4 ps = some (decide (okV d a l1 l2 l3 l4 ps)) := by
 unfold spec_l06Valid.f
 rw [dims_spec k d (by omega), formed_spec a l1 l2 l3 l4 ps hp k (by omega)]
 obtain ⟨k, rfl⟩ : ∃ z, k = z + 1 := ⟨k - 1, by omega⟩
 simp only [Option.bind_some, decide_eq_true_eq]
 by_cases hd : VD d
 ·
  rw [if_pos hd, spec_l06Valid.j0]
  by_cases hf : okF a l1 l2 l3 l4 ps
  ·
   rw [decide_eq_true hf, if_neg (by simp)]
   by_cases h3 : a = 3
   · rw [if_pos h3]
     by_cases hl : l1.length = d.length
     · rw [if_pos (by omega), fitS_spec a d l1 l2 l3 l4 ps (okF_slab hf h3) hl k (by omega)]
       congr 1
       apply decide_eq_decide.2
       exact ⟨fun h => ⟨hd, hf, fun _ => h, fun h4 => by omega⟩, fun h => h.2.2.1 h3⟩
     · rw [if_neg (by omega), decide_eq_false (fun h => hl (h.2.2.1 h3).1)]
   · rw [if_neg h3]
     by_cases h4 : a = 4
     · rw [if_pos h4, fitP_spec a d l1 l2 l3 l4 ps hp hq k (by omega)]
       congr 1
       apply decide_eq_decide.2
       exact ⟨fun h => ⟨hd, hf, fun h => by omega, fun _ => h⟩, fun h => h.2.2.2 h4⟩
     · rw [if_neg h4, decide_eq_true (show okV d a l1 l2 l3 l4 ps from ⟨hd, hf, fun h => absurd h h3, fun h => absurd h h4⟩)]
  · rw [decide_eq_false hf, if_pos (show (!false) = true from rfl), decide_eq_false (fun h => hf h.2.1)]
 · rw [if_neg hd, spec_l06Valid.j0, if_pos rfl, decide_eq_false (fun h => hd h.1)]
theorem valid_impl (d : List Int) (a : Int) (l1 l2 l3 l4 : List Int) (ps : List S110) (hp : ps.length ≤ 1048576) (hq : ∀ y ∈ ps, QS110 y) (k : Nat) (hk : 11000020 ≤ k) : impl_ValidSelection.f k d a l1 l2 l3 l4 ps = some (decide (okV d a l1 l2 l3 l4 ps)) := by
 unfold impl_ValidSelection.f impl_Selection_fits.f
 rw [dims_impl k d (by omega), formed_impl a l1 l2 l3 l4 ps hp hq k (by omega)]
 simp only [Option.bind_some, decide_eq_true_eq]
 by_cases hd : VD d
 ·
  rw [if_pos hd]
  by_cases hf : okF a l1 l2 l3 l4 ps
  ·
   rw [if_pos hf]
   by_cases h3 : a = 3
   ·
    rw [if_pos h3]
    by_cases hl : l1.length = d.length
    · rw [if_pos (by omega), fitS_impl a d l1 l2 l3 l4 ps (okF_slab hf h3) hl k (by omega)]
      simp only [Option.bind_some]
      congr 1
      apply decide_eq_decide.2
      exact ⟨fun h => ⟨hd, hf, fun _ => h, fun h4 => by omega⟩, fun h => h.2.2.1 h3⟩
    · rw [if_neg (by omega), decide_eq_false (show ¬ okV d a l1 l2 l3 l4 ps from fun h => hl (h.2.2.1 h3).1)]
      rfl
   ·
    rw [if_neg h3]
    by_cases h4 : a = 4
    · rw [if_pos h4, fitP_impl d ps hp hq k (by omega)]
      simp only [Option.bind_some, Bool.not_not]
      congr 1
      apply decide_eq_decide.2
      exact ⟨fun h => ⟨hd, hf, fun h => by omega, fun _ => h⟩, fun h => h.2.2.2 h4⟩
    · rw [if_neg h4, decide_eq_true (show okV d a l1 l2 l3 l4 ps from ⟨hd, hf, fun h => absurd h h3, fun h => absurd h h4⟩)]
      rfl
  · rw [if_neg hf, decide_eq_false (fun h => hf h.2.1)]
 · rw [if_neg hd, decide_eq_false (fun h => hd h.1)]
theorem flat_loop {ρ : Type} (L : Nat → List Int → Int → Option ρ) (C : Nat → List Int → Option ρ) (G : Nat → List Int) (n cost m g : Nat)
 (hlen : ∀ i, i < n → (G i).length ≤ g)
 (hend : ∀ k acc, m ≤ k → L (k + 1) acc (n : Int) = C k acc)
 (hstep : ∀ k acc (i : Nat), i < n → m + cost ≤ k → acc.length + g < 17592186044416 → ∃ k', k ≤ k' + cost ∧ L k acc (i : Int) = L k' (acc ++ G i) ((i + 1 : Nat) : Int)) :
 ∀ (d i k : Nat) (acc : List Int), i + d = n → m + d * cost + 1 ≤ k → acc.length + d * g < 17592186044416 → ∃ k', k ≤ k' + d * cost + 1 ∧ L k acc (i : Int) = C k' (acc ++ (List.range' i d).flatMap G) := by
 intro d
 induction d with
 | zero =>
  intro i k acc hi hk ha
  obtain ⟨k, rfl⟩ : ∃ z, k = z + 1 := ⟨k - 1, by omega⟩
  obtain rfl : i = n := by omega
  exact ⟨k, by omega, by rw [hend k acc (by omega)]; simp⟩
 | succ d ih =>
  intro i k acc hi hk ha
  rw [Nat.add_mul, Nat.one_mul] at hk ha
  obtain ⟨k1, h1, e1⟩ := hstep k acc i (by omega) (by omega) (by omega)
  have hl := hlen i (by omega)
  obtain ⟨k2, h2, e2⟩ := ih (i + 1) k1 (acc ++ G i) (by omega) (by omega) (by rw [List.length_append]; omega)
  refine ⟨k2, ?_, ?_⟩
  · rw [Nat.add_mul, Nat.one_mul]; omega
  · rw [e1, e2, List.range'_succ, List.flatMap_cons, List.append_assoc]
theorem flat_len (G : Nat → List Int) (g : Nat) (h : ∀ i, (G i).length = g) : ∀ (d s : Nat), ((List.range' s d).flatMap G).length = d * g := by
 intro d
 induction d with
 | zero => intro s; simp
 | succ d ih => intro s; rw [List.range'_succ, List.flatMap_cons, List.length_append, ih, h, Nat.add_mul, Nat.one_mul, Nat.add_comm]
theorem prod_spec (k : Nat) (l : List Int) (hk : 4 < k) (hv : VD l) : spec_l05Count.f k l = some (prodL l) := by
 unfold spec_l05Count.f
 obtain ⟨k, rfl⟩ : ∃ z, k = z + 5 := ⟨k - 5, by omega⟩
 obtain ⟨h3, hw, _⟩ := hv
 match l, h3, hw with
 | [], _, _ => simp [spec_l05Count.l0, prodL]
 | [a], _, hw =>
  have ha := hw a (by simp)
  simp [spec_l05Count.l0, prodL, rd, w1, wrap64_id (a := a) (by omega) (by omega)]
 | [a, b], _, hw =>
  have ha := hw a (by simp)
  have hb := hw b (by simp)
  have h1 := mul_le ha.1 hb.1 ha.2 hb.2
  simp [spec_l05Count.l0, prodL, rd, wrap64_id (a := a) (by omega) (by omega), wrap64_id (a := a * b) (by omega) (by omega), w1, w2]
 | [a, b, c], _, hw =>
  have ha := hw a (by simp)
  have hb := hw b (by simp)
  have hc := hw c (by simp)
  have h1 := mul_le ha.1 hb.1 ha.2 hb.2
  have h2 := mul_le h1.1 hc.1 h1.2 hc.2
  simp [spec_l05Count.l0, prodL, rd, wrap64_id (a := a) (by omega) (by omega), wrap64_id (a := a * b) (by omega) (by omega), wrap64_id (a := a * b * c) (by omega) (by omega), w1, w2, w3]
 | a :: b :: c :: d :: l, h, _ => exact absurd h (by simp)
theorem prod_impl (k : Nat) (l : List Int) (hk : 4 < k) (hv : VD l) : impl_product.f k l = some (prodL l) := by
 unfold impl_product.f
 obtain ⟨k, rfl⟩ : ∃ z, k = z + 5 := ⟨k - 5, by omega⟩
 obtain ⟨h3, hw, _⟩ := hv
 match l, h3, hw with
 | [], _, _ => simp [impl_product.l0, prodL]
 | [a], _, hw =>
  have ha := hw a (by simp)
  simp [impl_product.l0, prodL, rd, w1, wrap64_id (a := a) (by omega) (by omega)]
 | [a, b], _, hw =>
  have ha := hw a (by simp)
  have hb := hw b (by simp)
  have h1 := mul_le ha.1 hb.1 ha.2 hb.2
  simp [impl_product.l0, prodL, rd, wrap64_id (a := a) (by omega) (by omega), wrap64_id (a := a * b) (by omega) (by omega), w1, w2]
 | [a, b, c], _, hw =>
  have ha := hw a (by simp)
  have hb := hw b (by simp)
  have hc := hw c (by simp)
  have h1 := mul_le ha.1 hb.1 ha.2 hb.2
  have h2 := mul_le h1.1 hc.1 h1.2 hc.2
  simp [impl_product.l0, prodL, rd, wrap64_id (a := a) (by omega) (by omega), wrap64_id (a := a * b) (by omega) (by omega), wrap64_id (a := a * b * c) (by omega) (by omega), w1, w2, w3]
 | a :: b :: c :: d :: l, h, _ => exact absurd h (by simp)
def axG (l1 l2 : List Int) (i j t : Nat) : List Int := [wrap64 (wrap64 (rd l1 (i : Int) + wrap64 ((j : Int) * rd l2 (i : Int))) + (t : Int))]
def axJ (l1 l2 l4 : List Int) (i j : Nat) : List Int := (List.range' 0 (rd l4 (i : Int)).toNat).flatMap (axG l1 l2 i j)
def axisL (l1 l2 l3 l4 : List Int) (i : Nat) : List Int := (List.range' 0 (rd l3 (i : Int)).toNat).flatMap (axJ l1 l2 l4 i)
theorem axJ_len (l1 l2 l4 : List Int) (i j : Nat) : (axJ l1 l2 l4 i j).length = (rd l4 (i : Int)).toNat := by
 unfold axJ
 rw [flat_len _ 1 (fun _ => rfl), Nat.mul_one]
theorem axis_len (l1 l2 l3 l4 : List Int) (i : Nat) : (axisL l1 l2 l3 l4 i).length = (rd l3 (i : Int)).toNat * (rd l4 (i : Int)).toNat := by
 unfold axisL
 rw [flat_len _ _ (fun j => axJ_len l1 l2 l4 i j)]
/-- what holds of a dimension that the loops reach -/
structure Dim (l1 l2 l3 l4 : List Int) (i : Nat) : Prop where
 a1 : i < l1.length
 a2 : i < l2.length
 a3 : i < l3.length
 a4 : i < l4.length
 c1 : 1 ≤ rd l3 (i : Int) ∧ rd l3 (i : Int) ≤ 40
 c2 : 1 ≤ rd l4 (i : Int) ∧ rd l4 (i : Int) ≤ 40
 c3 : rd l3 (i : Int) * rd l4 (i : Int) ≤ 40
 small : i < 3
theorem dim_of (l1 l2 l3 l4 : List Int) (h : okSlab l1 l2 l3 l4) (i : Nat) (hi : i < l1.length) : Dim l1 l2 l3 l4 i := by
 obtain ⟨h1, h2, h3, h4, h5⟩ := h
 obtain ⟨q1, q3, q4, q2, q5⟩ := h5 i (by omega) hi
 refine ⟨hi, by omega, by omega, by omega, q3, q4, ?_, by omega⟩
 have hm : (rd l3 i - 1) * rd l4 i ≤ (rd l3 i - 1) * rd l2 i := Int.mul_le_mul_of_nonneg_left q2.1 (by omega)
 have he : rd l3 i * rd l4 i = (rd l3 i - 1) * rd l4 i + rd l4 i := by rw [Int.sub_mul, Int.one_mul]; omega
 omega
theorem axis_le (l1 l2 l3 l4 : List Int) (i : Nat) (h : Dim l1 l2 l3 l4 i) : (axisL l1 l2 l3 l4 i).length ≤ 40 ∧ ((axisL l1 l2 l3 l4 i).length : Int) = rd l3 (i : Int) * rd l4 (i : Int) := by
 have h1 := h.c1
 have h2 := h.c2
 have e : (((rd l3 (i : Int)).toNat * (rd l4 (i : Int)).toNat : Nat) : Int) = rd l3 (i : Int) * rd l4 (i : Int) := by
  rw [Int.natCast_mul, Int.toNat_of_nonneg (by omega), Int.toNat_of_nonneg (by omega)]
 rw [axis_len]
 refine ⟨?_, e⟩
 have h3 := h.c3
 omega
theorem axis_impl (a : Int) (l1 l2 l3 l4 : List Int) (ps : List S110) (i : Nat) (h : Dim l1 l2 l3 l4 i) (k : Nat) (hk : 2000 ≤ k) : impl_Selection_coordinates.f k a l1 l2 l3 l4 ps i = some (axisL l1 l2 l3 l4 i) := by
 obtain ⟨a1, a2, a3, a4, c1, c2, -, hs⟩ := h
 unfold impl_Selection_coordinates.f
 rw [if_pos (by omega), if_pos (by omega)]
 obtain ⟨k', -, e⟩ := flat_loop (fun k acc j => impl_Selection_coordinates.l0 k i acc (rd l3 (i : Int)) j a l1 l2 l3 l4 ps) (fun _ acc => some acc) (axJ l1 l2 l4 i) (rd l3 (i : Int)).toNat 43 1 40
  (by intro j hj; rw [axJ_len]; omega)
  (by intro k acc _; show impl_Selection_coordinates.l0 (k + 1) i acc _ _ a l1 l2 l3 l4 ps = _; rw [impl_Selection_coordinates.l0, if_neg (by omega)])
  (by
   intro k acc j hj hk ha
   obtain ⟨k, rfl⟩ : ∃ z, k = z + 1 := ⟨k - 1, by omega⟩
   obtain ⟨k', h1, e⟩ := flat_loop (fun k acc t => impl_Selection_coordinates.l1 k i acc j (rd l3 (i : Int)) j (rd l4 (i : Int)) t a l1 l2 l3 l4 ps) (fun k acc => impl_Selection_coordinates.l0 k i acc (rd l3 (i : Int)) ((j + 1 : Nat) : Int) a l1 l2 l3 l4 ps) (axG l1 l2 i j) (rd l4 (i : Int)).toNat 1 0 1
    (by intro t ht; exact Nat.le_refl 1)
    (by intro k acc _; show impl_Selection_coordinates.l1 (k + 1) i acc j _ j _ _ a l1 l2 l3 l4 ps = _; rw [impl_Selection_coordinates.l1, if_neg (by omega), wrap_up j (by omega)])
    (by
     intro k acc t ht hk ha
     obtain ⟨k, rfl⟩ : ∃ z, k = z + 1 := ⟨k - 1, by omega⟩
     refine ⟨k, by omega, ?_⟩
     show impl_Selection_coordinates.l1 (k + 1) i acc j _ j _ _ a l1 l2 l3 l4 ps = _
     rw [impl_Selection_coordinates.l1, if_pos (by omega), if_pos (by omega), if_pos (by omega), if_pos (by omega), if_pos (by omega), wrap_up t (by omega)]
     rfl)
    (rd l4 (i : Int)).toNat 0 k acc (by omega) (by omega) (by omega)
   refine ⟨k', by omega, ?_⟩
   show impl_Selection_coordinates.l0 (k + 1) i acc _ _ a l1 l2 l3 l4 ps = _
   rw [impl_Selection_coordinates.l0, if_pos (by omega), if_pos (by omega), if_pos (by omega)]
   exact e)
  (rd l3 (i : Int)).toNat 0 k [] (by omega) (by omega) (by simp; omega)
 exact e
def stG (d out ax : List Int) (i q t : Nat) : List Int := [wrap64 (wrap64 (rd out (q : Int) * rd d (i : Int)) + rd ax (t : Int))]
def stQ (d out ax : List Int) (i q : Nat) : List Int := (List.range' 0 ax.length).flatMap (stG d out ax i q)
def slabStep (d l1 l2 l3 l4 : List Int) (i : Nat) (out : List Int) : List Int := (List.range' 0 out.length).flatMap (stQ d out (axisL l1 l2 l3 l4 i) i)
theorem stQ_len (d out ax : List Int) (i q : Nat) : (stQ d out ax i q).length = ax.length := by
 unfold stQ
 rw [flat_len _ 1 (fun _ => rfl), Nat.mul_one]
theorem step_len (d l1 l2 l3 l4 : List Int) (i : Nat) (out : List Int) : (slabStep d l1 l2 l3 l4 i out).length = out.length * (axisL l1 l2 l3 l4 i).length := by
 unfold slabStep
 rw [flat_len _ _ (fun q => stQ_len d out _ i q)]
def slabR (d l1 l2 l3 l4 : List Int) : Nat → Nat → List Int → List Int
 | 0, _, out => out
 | c + 1, i, out => slabR d l1 l2 l3 l4 c (i + 1) (slabStep d l1 l2 l3 l4 i out)
theorem pow_step (n x c : Nat) (h : n * 40 ^ (c + 1) ≤ 64000) (hx : x ≤ 40) : n * x * 40 ^ c ≤ 64000 ∧ n ≤ 64000 ∧ n * x ≤ 64000 := by
 have h1 : n * x * 40 ^ c ≤ n * 40 * 40 ^ c := Nat.mul_le_mul_right _ (Nat.mul_le_mul_left _ hx)
 have h2 : n * 40 ^ (c + 1) = n * 40 * 40 ^ c := by rw [Nat.pow_succ, Nat.mul_comm (40 ^ c) 40, Nat.mul_assoc]
 have h3 : 0 < 40 ^ c := Nat.pow_pos (by omega)
 have h4 : n * x ≤ n * x * 40 ^ c := Nat.le_mul_of_pos_right _ h3
 have h5 : n * 40 ≤ n * 40 * 40 ^ c := Nat.le_mul_of_pos_right _ h3
 omega
theorem slab_ind_impl (a : Int) (d l1 l2 l3 l4 : List Int) (ps : List S110) (hD : ∀ i, i < d.length → Dim l1 l2 l3 l4 i) (hd : d.length ≤ 3) : ∀ (c i k : Nat) (out : List Int), i + c = d.length → out.length * 40 ^ c ≤ 64000 → 3000 + 3000000 * c < k →
 impl_Selection_slabIndices.l0 k out d d.length i a l1 l2 l3 l4 ps = some (slabR d l1 l2 l3 l4 c i out) := by
 intro c
 induction c with
 | zero =>
  intro i k out hi ho hk
  obtain ⟨k, rfl⟩ : ∃ z, k = z + 1 := ⟨k - 1, by omega⟩
  rw [impl_Selection_slabIndices.l0, if_neg (by omega)]; rfl
 | succ c ih =>
  intro i k out hi ho hk
  obtain ⟨k, rfl⟩ : ∃ z, k = z + 1 := ⟨k - 1, by omega⟩
  have hdim := hD i (by omega)
  obtain ⟨hx, -⟩ := axis_le l1 l2 l3 l4 i hdim
  obtain ⟨p1, p2, p3⟩ := pow_step _ _ _ ho hx
  have hc := fun k (hk : 2000 ≤ k) => axis_impl a l1 l2 l3 l4 ps i hdim k hk
  rw [impl_Selection_slabIndices.l0, if_pos (by omega), if_pos (by omega), if_pos (by omega)]
  generalize hax : axisL l1 l2 l3 l4 i = ax at *
  obtain ⟨k', h1, e⟩ := flat_loop (fun k acc q => impl_Selection_slabIndices.l1 k i (rd d (i : Int)) acc d d.length i out out.length q a l1 l2 l3 l4 ps) (fun k acc => impl_Selection_slabIndices.l0 k acc d d.length ((i + 1 : Nat) : Int) a l1 l2 l3 l4 ps) (stQ d out ax i) out.length 43 2001 40
   (by intro q hq; rw [stQ_len]; omega)
   (by intro k acc _; show impl_Selection_slabIndices.l1 (k + 1) i _ acc d _ i out _ _ a l1 l2 l3 l4 ps = _; rw [impl_Selection_slabIndices.l1, if_neg (by omega), wrap_up i (by omega)])
   (by
    intro k acc q hq hk ha
    obtain ⟨k, rfl⟩ : ∃ z, k = z + 1 := ⟨k - 1, by omega⟩
    obtain ⟨k', h1, e⟩ := flat_loop (fun k acc t => impl_Selection_slabIndices.l2 k i (rd d (i : Int)) acc (rd out (q : Int)) d d.length i out out.length q ax ax.length t a l1 l2 l3 l4 ps) (fun k acc => impl_Selection_slabIndices.l1 k i (rd d (i : Int)) acc d d.length i out out.length ((q + 1 : Nat) : Int) a l1 l2 l3 l4 ps) (stG d out ax i q) ax.length 1 0 1
     (by intro t ht; exact Nat.le_refl 1)
     (by intro k acc _; show impl_Selection_slabIndices.l2 (k + 1) i _ acc _ d _ i out _ q ax _ _ a l1 l2 l3 l4 ps = _; rw [impl_Selection_slabIndices.l2, if_neg (by omega), wrap_up q (by omega)])
     (by
      intro k acc t ht hk ha
      obtain ⟨k, rfl⟩ : ∃ z, k = z + 1 := ⟨k - 1, by omega⟩
      refine ⟨k, by omega, ?_⟩
      show impl_Selection_slabIndices.l2 (k + 1) i _ acc _ d _ i out _ q ax _ _ a l1 l2 l3 l4 ps = _
      rw [impl_Selection_slabIndices.l2, if_pos (by omega), if_pos (by omega), if_pos (by omega), if_pos (by omega), wrap_up t (by omega)]
      rfl)
     ax.length 0 k acc (by omega) (by omega) (by omega)
    refine ⟨k', by omega, ?_⟩
    show impl_Selection_slabIndices.l1 (k + 1) i _ acc d _ i out _ _ a l1 l2 l3 l4 ps = _
    rw [impl_Selection_slabIndices.l1, if_pos (by omega), if_pos (by omega), if_pos (by omega), hc k (by omega)]
    exact e)
   out.length 0 k [] (by omega) (by omega) (by simp; omega)
  have e' : impl_Selection_slabIndices.l1 k i (rd d (i : Int)) [] d d.length i out out.length 0 a l1 l2 l3 l4 ps = impl_Selection_slabIndices.l0 k' (slabStep d l1 l2 l3 l4 i out) d d.length ((i + 1 : Nat) : Int) a l1 l2 l3 l4 ps := by
   unfold slabStep; rw [hax]; exact e
  rw [e', ih (i + 1) k' _ (by omega) (by rw [step_len, hax]; exact p1) (by omega)]
  rfl
theorem slabR_len (d l1 l2 l3 l4 : List Int) (hD : ∀ i, i < d.length → Dim l1 l2 l3 l4 i) : ∀ (c i : Nat) (out : List Int), i + c = d.length → out.length * 40 ^ c ≤ 64000 → (slabR d l1 l2 l3 l4 c i out).length ≤ 64000 := by
 intro c
 induction c with
 | zero => intro i out hi ho; rw [Nat.pow_zero, Nat.mul_one] at ho; exact ho
 | succ c ih =>
  intro i out hi ho
  have hdim := hD i (by omega)
  obtain ⟨hx, -⟩ := axis_le l1 l2 l3 l4 i hdim
  obtain ⟨p1, p2, p3⟩ := pow_step _ _ _ ho hx
  exact ih (i + 1) _ (by omega) (by rw [step_len]; exact p1)
/-- the index of a point -/
def idxR (d p : List Int) : Nat → Nat → Int → Int
 | 0, _, x => x
 | c + 1, i, x => idxR d p c (i + 1) (wrap64 (wrap64 (x * rd d (i : Int)) + rd p (i : Int)))
theorem idx_impl (d p : List Int) (hd : d.length ≤ 1048576) (hp : p.length = d.length) : ∀ (c i k : Nat) (x : Int), i + c = d.length → c < k → impl_indexOf.l0 k d x p p.length i = some (idxR d p c i x) := by
 intro c
 induction c with
 | zero =>
  intro i k x hi hk
  obtain ⟨k, rfl⟩ : ∃ z, k = z + 1 := ⟨k - 1, by omega⟩
  rw [impl_indexOf.l0, if_neg (by omega)]; rfl
 | succ c ih =>
  intro i k x hi hk
  obtain ⟨k, rfl⟩ : ∃ z, k = z + 1 := ⟨k - 1, by omega⟩
  rw [impl_indexOf.l0, if_pos (by omega), if_pos (by omega), if_pos (by omega), if_pos (by omega), wrap_up i (by omega), ih (i + 1) k _ (by omega) (by omega)]
  rfl
theorem idxF_impl (d p : List Int) (hd : d.length ≤ 3) (hp : p.length = d.length) (k : Nat) (hk : 10 ≤ k) : impl_indexOf.f k d p = some (idxR d p d.length 0 0) := idx_impl d p (by omega) hp d.length 0 k 0 (by omega) (by omega)
def allG (i : Nat) : List Int := [(i : Int)]
def ptG (d : List Int) (ps : List S110) (i : Nat) : List Int := [idxR d (rd_T110 ps (i : Int)).f0 d.length 0 0]
/-- the indices that a valid selection selects -/
def indL (d : List Int) (a : Int) (l1 l2 l3 l4 : List Int) (ps : List S110) : List Int :=
 if a = 1 then (List.range' 0 (prodL d).toNat).flatMap allG else if a = 3 then slabR d l1 l2 l3 l4 d.length 0 [0] else if a = 4 then (List.range' 0 ps.length).flatMap (ptG d ps) else []
theorem pow40 (n : Nat) (h : n ≤ 3) : 1 * 40 ^ n ≤ 64000 := by
 rw [Nat.one_mul]
 exact Nat.le_trans (Nat.pow_le_pow_right (by omega) h) (by decide)
theorem dims_of {d : List Int} {a : Int} {l1 l2 l3 l4 : List Int} {ps : List S110} (h : okV d a l1 l2 l3 l4 ps) (h3 : a = 3) : ∀ i, i < d.length → Dim l1 l2 l3 l4 i := by
 intro i hi
 have hs := okF_slab h.2.1 h3
 exact dim_of l1 l2 l3 l4 hs i (by rw [(h.2.2.1 h3).1]; exact hi)
theorem pts24 {a : Int} {l1 l2 l3 l4 : List Int} {ps : List S110} (h : okF a l1 l2 l3 l4 ps) (h4 : a = 4) : ps.length ≤ 24 := by
 rcases h with h | h | h
 · omega
 · omega
 · exact h.2.2.1.2
theorem ind_impl (d : List Int) (a : Int) (l1 l2 l3 l4 : List Int) (ps : List S110) (h : okV d a l1 l2 l3 l4 ps) (k : Nat) (hk : 10000000 ≤ k) : impl_Selection_indices.f k a l1 l2 l3 l4 ps d = some (indL d a l1 l2 l3 l4 ps) := by
 have hd3 : d.length ≤ 3 := h.1.1
 have hpr : prodL d ≤ 600 := h.1.2.2
 unfold impl_Selection_indices.f indL
 by_cases h1 : a = 1
 ·
  rw [if_pos h1, if_pos h1, prod_impl k d (by omega) h.1]
  simp only [Option.bind_some]
  obtain ⟨k', -, e⟩ := flat_loop (fun k acc i => impl_Selection_indices.l0 k acc (prodL d) i) (fun _ acc => some acc) allG (prodL d).toNat 1 10 1
   (by intro i hi; exact Nat.le_refl 1)
   (by intro k acc _; show impl_Selection_indices.l0 (k + 1) acc _ _ = _; rw [impl_Selection_indices.l0, if_neg (by omega)])
   (by
    intro k acc i hi hk ha
    obtain ⟨k, rfl⟩ : ∃ z, k = z + 1 := ⟨k - 1, by omega⟩
    refine ⟨k, by omega, ?_⟩
    show impl_Selection_indices.l0 (k + 1) acc _ _ = _
    rw [impl_Selection_indices.l0, if_pos (by omega), if_pos (by omega), wrap_up i (by omega)]
    rfl)
   (prodL d).toNat 0 k [] (by omega) (by omega) (by simp; omega)
  exact e
 ·
  rw [if_neg h1, if_neg h1]
  by_cases h3 : a = 3
  · rw [if_pos h3, if_pos h3]
    unfold impl_Selection_slabIndices.f
    have := slab_ind_impl a d l1 l2 l3 l4 ps (dims_of h h3) hd3 d.length 0 k [0] (by omega) (by simpa using pow40 _ hd3) (by omega)
    rw [show impl_Selection_slabIndices.l0 k [0] d (d.length : Int) 0 a l1 l2 l3 l4 ps = _ from this]
    rfl
  ·
   rw [if_neg h3, if_neg h3]
   by_cases h4 : a = 4
   ·
    have hp := pts24 h.2.1 h4
    have hin := h.2.2.2 h4
    rw [if_pos h4, if_pos h4]
    obtain ⟨k', -, e⟩ := flat_loop (fun k acc i => impl_Selection_indices.l1 k d acc ps ps.length i) (fun _ acc => some acc) (ptG d ps) ps.length 1 10 1
     (by intro i hi; exact Nat.le_refl 1)
     (by intro k acc _; show impl_Selection_indices.l1 (k + 1) d acc ps _ _ = _; rw [impl_Selection_indices.l1, if_neg (by omega)])
     (by
      intro k acc i hi hk ha
      obtain ⟨k, rfl⟩ : ∃ z, k = z + 1 := ⟨k - 1, by omega⟩
      refine ⟨k, by omega, ?_⟩
      show impl_Selection_indices.l1 (k + 1) d acc ps _ _ = _
      rw [impl_Selection_indices.l1, if_pos (by omega), if_pos (by omega), if_pos (by omega), idxF_impl d _ hd3 (hin i hi).1 k (by omega)]
      simp only [Option.bind_some]
      rw [if_pos (by omega), wrap_up i (by omega)]
      rfl)
     ps.length 0 k [] (by omega) (by omega) (by simp; omega)
    exact e
   · rw [if_neg h4, if_neg h4]
theorem indL_len (d : List Int) (a : Int) (l1 l2 l3 l4 : List Int) (ps : List S110) (h : okV d a l1 l2 l3 l4 ps) : (indL d a l1 l2 l3 l4 ps).length ≤ 64000 := by
 have hd3 : d.length ≤ 3 := h.1.1
 have hpr : prodL d ≤ 600 := h.1.2.2
 unfold indL
 by_cases h1 : a = 1
 · rw [if_pos h1, flat_len _ 1 (fun _ => rfl)]; omega
 ·
  rw [if_neg h1]
  by_cases h3 : a = 3
  · rw [if_pos h3]
    exact slabR_len d l1 l2 l3 l4 (dims_of h h3) d.length 0 [0] (by omega) (by simpa using pow40 _ hd3)
  · rw [if_neg h3]
    by_cases h4 : a = 4
    · rw [if_pos h4, flat_len _ 1 (fun _ => rfl)]
      have := pts24 h.2.1 h4
      omega
    · rw [if_neg h4]; simp
theorem axis_spec (a : Int) (l1 l2 l3 l4 : List Int) (ps : List S110) (i : Nat) (h : Dim l1 l2 l3 l4 i) (k : Nat) (hk : 2000 ≤ k) : spec_l06Axis.f k a l1 l2 l3 l4 ps i = some (axisL l1 l2 l3 l4 i) := by
 obtain ⟨a1, a2, a3, a4, c1, c2, -, hs⟩ := h
 unfold spec_l06Axis.f
 obtain ⟨k', -, e⟩ := flat_loop (fun k acc j => spec_l06Axis.l0 k i acc j a l1 l2 l3 l4 ps) (fun _ acc => some acc) (axJ l1 l2 l4 i) (rd l3 (i : Int)).toNat 43 1 40
  (by intro j hj; rw [axJ_len]; omega)
  (by intro k acc _; show spec_l06Axis.l0 (k + 1) i acc _ a l1 l2 l3 l4 ps = _; rw [spec_l06Axis.l0, if_pos (by omega), if_pos (by omega), if_neg (by omega)])
  (by
   intro k acc j hj hk ha
   obtain ⟨k, rfl⟩ : ∃ z, k = z + 1 := ⟨k - 1, by omega⟩
   obtain ⟨k', h1, e⟩ := flat_loop (fun k acc t => spec_l06Axis.l1 k i acc j t a l1 l2 l3 l4 ps) (fun k acc => spec_l06Axis.l0 k i acc ((j + 1 : Nat) : Int) a l1 l2 l3 l4 ps) (axG l1 l2 i j) (rd l4 (i : Int)).toNat 1 0 1
    (by intro t ht; exact Nat.le_refl 1)
    (by intro k acc _; show spec_l06Axis.l1 (k + 1) i acc j _ a l1 l2 l3 l4 ps = _; rw [spec_l06Axis.l1, if_pos (by omega), if_pos (by omega), if_neg (by omega), wrap_up j (by omega)])
    (by
     intro k acc t ht hk ha
     obtain ⟨k, rfl⟩ : ∃ z, k = z + 1 := ⟨k - 1, by omega⟩
     refine ⟨k, by omega, ?_⟩
     show spec_l06Axis.l1 (k + 1) i acc j _ a l1 l2 l3 l4 ps = _
     rw [spec_l06Axis.l1, if_pos (by omega), if_pos (by omega), if_pos (by omega), if_pos (by omega), if_pos (by omega), if_pos (by omega), wrap_up t (by omega)]
     rfl)
    (rd l4 (i : Int)).toNat 0 k acc (by omega) (by omega) (by omega)
   refine ⟨k', by omega, ?_⟩
   show spec_l06Axis.l0 (k + 1) i acc _ a l1 l2 l3 l4 ps = _
   rw [spec_l06Axis.l0, if_pos (by omega), if_pos (by omega), if_pos (by omega)]
   exact e)
  (rd l3 (i : Int)).toNat 0 k [] (by omega) (by omega) (by simp; omega)
 exact e
theorem slab_ind_spec (a : Int) (d l1 l2 l3 l4 : List Int) (ps : List S110) (hD : ∀ i, i < d.length → Dim l1 l2 l3 l4 i) (hd : d.length ≤ 3) : ∀ (c i k : Nat) (out : List Int), i + c = d.length → out.length * 40 ^ c ≤ 64000 → 3000 + 3000000 * c < k →
 spec_l06Indices.l2 k d out i a l1 l2 l3 l4 ps = some (slabR d l1 l2 l3 l4 c i out) := by
 intro c
 induction c with
 | zero =>
  intro i k out hi ho hk
  obtain ⟨k, rfl⟩ : ∃ z, k = z + 1 := ⟨k - 1, by omega⟩
  rw [spec_l06Indices.l2, if_neg (by omega)]; rfl
 | succ c ih =>
  intro i k out hi ho hk
  obtain ⟨k, rfl⟩ : ∃ z, k = z + 1 := ⟨k - 1, by omega⟩
  have hdim := hD i (by omega)
  obtain ⟨hx, -⟩ := axis_le l1 l2 l3 l4 i hdim
  obtain ⟨p1, p2, p3⟩ := pow_step _ _ _ ho hx
  rw [spec_l06Indices.l2, if_pos (by omega), axis_spec a l1 l2 l3 l4 ps i hdim k (by omega)]
  simp only [Option.bind_some]
  generalize hax : axisL l1 l2 l3 l4 i = ax at *
  obtain ⟨k', h1, e⟩ := flat_loop (fun k acc q => spec_l06Indices.l3 k d out i ax acc q a l1 l2 l3 l4 ps) (fun k acc => spec_l06Indices.l2 k d acc ((i + 1 : Nat) : Int) a l1 l2 l3 l4 ps) (stQ d out ax i) out.length 43 1 40
   (by intro q hq; rw [stQ_len]; omega)
   (by intro k acc _; show spec_l06Indices.l3 (k + 1) d out i ax acc _ a l1 l2 l3 l4 ps = _; rw [spec_l06Indices.l3, if_neg (by omega), wrap_up i (by omega)])
   (by
    intro k acc q hq hk ha
    obtain ⟨k, rfl⟩ : ∃ z, k = z + 1 := ⟨k - 1, by omega⟩
    obtain ⟨k', h1, e⟩ := flat_loop (fun k acc t => spec_l06Indices.l4 k d out i ax acc q t a l1 l2 l3 l4 ps) (fun k acc => spec_l06Indices.l3 k d out i ax acc ((q + 1 : Nat) : Int) a l1 l2 l3 l4 ps) (stG d out ax i q) ax.length 1 0 1
     (by intro t ht; exact Nat.le_refl 1)
     (by intro k acc _; show spec_l06Indices.l4 (k + 1) d out i ax acc q _ a l1 l2 l3 l4 ps = _; rw [spec_l06Indices.l4, if_neg (by omega), wrap_up q (by omega)])
     (by
      intro k acc t ht hk ha
      obtain ⟨k, rfl⟩ : ∃ z, k = z + 1 := ⟨k - 1, by omega⟩
      refine ⟨k, by omega, ?_⟩
      show spec_l06Indices.l4 (k + 1) d out i ax acc q _ a l1 l2 l3 l4 ps = _
      rw [spec_l06Indices.l4, if_pos (by omega), if_pos (by omega), if_pos (by omega), if_pos (by omega), if_pos (by omega), if_pos (by omega), if_pos (by omega), wrap_up t (by omega)]
      rfl)
     ax.length 0 k acc (by omega) (by omega) (by omega)
    refine ⟨k', by omega, ?_⟩
    show spec_l06Indices.l3 (k + 1) d out i ax acc _ a l1 l2 l3 l4 ps = _
    rw [spec_l06Indices.l3, if_pos (by omega)]
    exact e)
   out.length 0 k [] (by omega) (by omega) (by simp; omega)
  have e' : spec_l06Indices.l3 k d out i ax [] 0 a l1 l2 l3 l4 ps = spec_l06Indices.l2 k' d (slabStep d l1 l2 l3 l4 i out) ((i + 1 : Nat) : Int) a l1 l2 l3 l4 ps := by
   unfold slabStep; rw [hax]; exact e
  rw [e', ih (i + 1) k' _ (by omega) (by rw [step_len, hax]; exact p1) (by omega)]
  rfl
theorem idx_spec (d p : List Int) (hd : d.length ≤ 1048576) (hp : p.length = d.length) : ∀ (c i k : Nat) (x : Int), i + c = d.length → c < k → spec_l05Index.l0 k d p x i = some (idxR d p c i x) := by
 intro c
 induction c with
 | zero =>
  intro i k x hi hk
  obtain ⟨k, rfl⟩ : ∃ z, k = z + 1 := ⟨k - 1, by omega⟩
  rw [spec_l05Index.l0, if_neg (by omega)]; rfl
 | succ c ih =>
  intro i k x hi hk
  obtain ⟨k, rfl⟩ : ∃ z, k = z + 1 := ⟨k - 1, by omega⟩
  rw [spec_l05Index.l0, if_pos (by omega), if_pos (by omega), if_pos (by omega), wrap_up i (by omega), ih (i + 1) k _ (by omega) (by omega)]
  rfl
theorem idxF_spec (d p : List Int) (hd : d.length ≤ 3) (hp : p.length = d.length) (k : Nat) (hk : 10 ≤ k) : spec_l05Index.f k d p = some (idxR d p d.length 0 0) := idx_spec d p (by omega) hp d.length 0 k 0 (by omega) (by omega)
theorem ind_spec (d : List Int) (a : Int) (l1 l2 l3 l4 : List Int) (ps : List S110) (h : okV d a l1 l2 l3 l4 ps) (k : Nat) (hk : 10000000 ≤ k) : spec_l06Indices.f k d a l1 l2 l3 l4 ps = some (indL d a l1 l2 l3 l4 ps) := by
 have hd3 : d.length ≤ 3 := h.1.1
 have hpr : prodL d ≤ 600 := h.1.2.2
 unfold spec_l06Indices.f indL
 simp only [Option.bind_some]
 by_cases h1 : a = 1
 ·
  rw [if_pos h1, if_pos h1]
  obtain ⟨k', -, e⟩ := flat_loop (fun k acc i => spec_l06Indices.l0 k d acc i) (fun _ acc => some acc) allG (prodL d).toNat 1 10 1
   (by intro i hi; exact Nat.le_refl 1)
   (by
    intro k acc hm
    show spec_l06Indices.l0 (k + 1) d acc _ = _
    rw [spec_l06Indices.l0, prod_spec k d (by omega) h.1]
    simp only [Option.bind_some]
    rw [if_neg (by omega)])
   (by
    intro k acc i hi hk ha
    obtain ⟨k, rfl⟩ : ∃ z, k = z + 1 := ⟨k - 1, by omega⟩
    refine ⟨k, by omega, ?_⟩
    show spec_l06Indices.l0 (k + 1) d acc _ = _
    rw [spec_l06Indices.l0, prod_spec k d (by omega) h.1]
    simp only [Option.bind_some]
    rw [if_pos (by omega), if_pos (by omega), wrap_up i (by omega)]
    rfl)
   (prodL d).toNat 0 k [] (by omega) (by omega) (by simp; omega)
  exact e
 ·
  rw [if_neg h1, if_neg h1]
  by_cases h4 : a = 4
  ·
   have h3 : ¬ a = 3 := by omega
   have hp := pts24 h.2.1 h4
   have hin := h.2.2.2 h4
   rw [if_pos h4, if_neg h3, if_pos h4]
   obtain ⟨k', -, e⟩ := flat_loop (fun k acc i => spec_l06Indices.l1 k d acc i a l1 l2 l3 l4 ps) (fun _ acc => some acc) (ptG d ps) ps.length 1 10 1
    (by intro i hi; exact Nat.le_refl 1)
    (by intro k acc _; show spec_l06Indices.l1 (k + 1) d acc _ a l1 l2 l3 l4 ps = _; rw [spec_l06Indices.l1, if_neg (by omega)])
    (by
     intro k acc i hi hk ha
     obtain ⟨k, rfl⟩ : ∃ z, k = z + 1 := ⟨k - 1, by omega⟩
     refine ⟨k, by omega, ?_⟩
     show spec_l06Indices.l1 (k + 1) d acc _ a l1 l2 l3 l4 ps = _
     rw [spec_l06Indices.l1, if_pos (by omega), if_pos (by omega), idxF_spec d _ hd3 (hin i hi).1 k (by omega)]
     simp only [Option.bind_some]
     rw [if_pos (by omega), wrap_up i (by omega)]
     rfl)
    ps.length 0 k [] (by omega) (by omega) (by simp; omega)
   exact e
  · rw [if_neg h4]
    by_cases h3 : a = 3
    · rw [if_pos h3, if_pos h3, if_pos (by simp)]
      have := slab_ind_spec a d l1 l2 l3 l4 ps (dims_of h h3) hd3 d.length 0 k [0] (by omega) (by simpa using pow40 _ hd3) (by omega)
      exact this
    · rw [if_neg h3, if_neg h3, if_neg h4]
theorem mark64 (n : Nat) (hn : n ≤ 1048576) : ∀ (d i : Nat) (x : Int) (l : List Int), l.length = n → n - i = d → i ≤ n → 0 ≤ x → x + d ≤ 1099511627776 →
 ∃ r : List Int, r.length = n ∧ (∀ k, d < k → laws_markInt64S.l0 k l x (i : Int) = some (x + d, r)) ∧ (∀ j, j < i → r.getD j 0 = l.getD j 0) ∧ ∀ j, i ≤ j → j < n → r.getD j 0 = x + ((j - i : Nat) : Int) := by
 intro d
 induction d with
 | zero =>
  intro i x l hl hd hi h0 h1
  refine ⟨l, hl, fun k hk => ?_, fun j _ => rfl, fun j h2 h3 => by omega⟩
  obtain ⟨k, rfl⟩ : ∃ m, k = m + 1 := ⟨k - 1, by omega⟩
  rw [laws_markInt64S.l0, if_neg (by omega)]
  simp
 | succ d ih =>
  intro i x l hl hd hi h0 h1
  obtain ⟨r, hr, hk0, hlo, hhi⟩ := ih (i + 1) (x + 1) (l.set i x) (by simpa using hl) (by omega) (by omega) (by omega) (by omega)
  refine ⟨r, hr, fun k hk => ?_, fun j hj => ?_, fun j h2 h3 => ?_⟩
  · obtain ⟨k, rfl⟩ : ∃ m, k = m + 1 := ⟨k - 1, by omega⟩
    rw [laws_markInt64S.l0, if_pos (by omega), if_pos (by omega), wrap64_id (by omega) (by omega), wrap64_id (by omega) (by omega), Int.toNat_natCast, show (i : Int) + 1 = ((i + 1 : Nat) : Int) by omega, hk0 k (by omega)]
    congr 2
    omega
  · rw [hlo j (by omega)]
    simp only [List.getD_eq_getElem?_getD]
    rw [List.getElem?_set_ne (by omega)]
  ·
   by_cases hj : j = i
   · subst hj
     rw [hlo j (by omega)]
     simp only [List.getD_eq_getElem?_getD]
     rw [List.getElem?_set_self (by omega)]
     simp
   · rw [hhi j (by omega) h3]
     omega
theorem held64 (n : Nat) (hn : n ≤ 1048576) (l : List Int) (hl : l.length = n) : ∀ (d i : Nat) (x : Int), n - i = d → i ≤ n → 0 ≤ x → x + d ≤ 1099511627776 → (∀ j, i ≤ j → j < n → l.getD j 0 = x + ((j - i : Nat) : Int)) →
 ∀ k, d < k → laws_heldInt64S.l0 k l x (i : Int) = some (x + d) := by
 intro d
 induction d with
 | zero =>
  intro i x hd hi h0 h1 hm k hk
  obtain ⟨k, rfl⟩ : ∃ m, k = m + 1 := ⟨k - 1, by omega⟩
  rw [laws_heldInt64S.l0, if_neg (by omega)]
  simp
 | succ d ih =>
  intro i x hd hi h0 h1 hm k hk
  obtain ⟨k, rfl⟩ : ∃ m, k = m + 1 := ⟨k - 1, by omega⟩
  have e : rd l (i : Int) = x := by
   have h := hm i (Nat.le_refl _) (by omega)
   rw [Nat.sub_self] at h
   simpa [rd] using h
  rw [laws_heldInt64S.l0, if_pos (by omega), if_pos (by omega), e, if_pos rfl, wrap64_id (by omega) (by omega), wrap64_id (by omega) (by omega), show (i : Int) + 1 = ((i + 1 : Nat) : Int) by omega, ih (i + 1) (x + 1) (by omega) (by omega) (by omega) (by omega) (fun j h2 h3 => by
   rw [hm j (by omega) h3]; omega) k (by omega)]
  congr 1
  omega
/-- a list that has been marked from x on, and what its marks are held against -/
theorem marks64 (l : List Int) (hl : l.length ≤ 1048576) (x : Int) (h0 : 0 ≤ x) (h1 : x ≤ 1073741824) :
 ∃ r : List Int, r.length = l.length ∧ (∀ k, 1048576 < k → laws_markInt64S.f k l x = some (x + l.length, r)) ∧ ∀ k, 1048576 < k → laws_heldInt64S.f k r x = some (x + l.length) := by
 obtain ⟨r, hr, hm, -, hv⟩ := mark64 l.length hl l.length 0 x l rfl (by omega) (by omega) h0 (by omega)
 exact ⟨r, hr, fun k hk => hm k (by omega), fun k hk => held64 l.length hl r hr l.length 0 x (by omega) (by omega) h0 (by omega) (fun j h2 h3 => hv j h2 h3) k (by omega)⟩
theorem markV (n : Nat) (hn : n ≤ 1048576) : ∀ (d i : Nat) (x : Int) (l : List Int), l.length = n → n - i = d → i ≤ n → 0 ≤ x → x + d ≤ 1152921504606846976 →
 ∃ r : List Int, ∀ k, d < k → laws_markInt64S.l0 k l x (i : Int) = some (x + d, r) := by
 intro d
 induction d with
 | zero =>
  intro i x l hl hd hi h0 h1
  refine ⟨l, fun k hk => ?_⟩
  obtain ⟨k, rfl⟩ : ∃ m, k = m + 1 := ⟨k - 1, by omega⟩
  rw [laws_markInt64S.l0, if_neg (by omega)]
  simp
 | succ d ih =>
  intro i x l hl hd hi h0 h1
  obtain ⟨r, hk0⟩ := ih (i + 1) (x + 1) (l.set i x) (by simpa using hl) (by omega) (by omega) (by omega) (by omega)
  refine ⟨r, fun k hk => ?_⟩
  obtain ⟨k, rfl⟩ : ∃ m, k = m + 1 := ⟨k - 1, by omega⟩
  rw [laws_markInt64S.l0, if_pos (by omega), if_pos (by omega), wrap64_id (by omega) (by omega), wrap64_id (by omega) (by omega), Int.toNat_natCast, show (i : Int) + 1 = ((i + 1 : Nat) : Int) by omega, hk0 k (by omega)]
  congr 2
  omega
theorem markF (l : List Int) (hl : l.length ≤ 1048576) (x : Int) (h0 : 0 ≤ x) (h1 : x ≤ 1125899906842624) : ∃ r : List Int, ∀ k, 1048590 ≤ k → laws_markInt64S.f k l x = some (x + l.length, r) := by
 obtain ⟨r, hr⟩ := markV l.length hl l.length 0 x l rfl (by omega) (by omega) h0 (by omega)
 exact ⟨r, fun k hk => hr k (by omega)⟩
theorem both (d : List Int) (a : Int) (l1 l2 l3 l4 : List Int) (ps : List S110) (hp : (ps.length : Int) ≤ 1048576) (hq : ∀ y ∈ ps, QS110 y) :
 ∃ v : List Int, v.length ≤ 64000 ∧ ∀ k, 12000000 ≤ k → spec_SelectedIndices.f k d a l1 l2 l3 l4 ps = some v ∧ impl_SelectedIndices.f k d a l1 l2 l3 l4 ps = some v := by
 by_cases hv : okV d a l1 l2 l3 l4 ps
 ·
  refine ⟨indL d a l1 l2 l3 l4 ps, indL_len d a l1 l2 l3 l4 ps hv, fun k hk => ⟨?_, ?_⟩⟩
  · unfold spec_SelectedIndices.f
    rw [valid_spec d a l1 l2 l3 l4 ps (by omega) hq k (by omega), ind_spec d a l1 l2 l3 l4 ps hv k (by omega), decide_eq_true hv]
    rfl
  · unfold impl_SelectedIndices.f
    rw [valid_impl d a l1 l2 l3 l4 ps (by omega) hq k (by omega), ind_impl d a l1 l2 l3 l4 ps hv k (by omega), decide_eq_true hv]
    rfl
 ·
  refine ⟨[], by simp, fun k hk => ⟨?_, ?_⟩⟩
  · unfold spec_SelectedIndices.f
    rw [valid_spec d a l1 l2 l3 l4 ps (by omega) hq k (by omega), decide_eq_false hv]
    rfl
  · unfold impl_SelectedIndices.f
    rw [valid_impl d a l1 l2 l3 l4 ps (by omega) hq k (by omega), decide_eq_false hv]
    rfl
theorem rdT_lt (l : List S110) (i : Nat) (h : i < l.length) : rd_T110 l (i : Int) = l[i] := by
 simp [rd_T110, h]
theorem markP (n : Nat) (hn : n ≤ 1048576) : ∀ (d i : Nat) (x : Int) (l : List S110), l.length = n → i + d = n → 0 ≤ x → x + 1048576 * (d : Int) ≤ 1125899906842624 → (∀ j, i ≤ j → j < n → QS110 (rd_T110 l (j : Int))) →
 ∃ (t : Int) (r : List S110), 0 ≤ t ∧ ∀ k, 1048600 + d < k → laws_markPointS.l0 k l x (i : Int) = some (t, r) := by
 intro d
 induction d with
 | zero =>
  intro i x l hl hi h0 h1 hq
  refine ⟨x, l, h0, fun k hk => ?_⟩
  obtain ⟨k, rfl⟩ : ∃ m, k = m + 1 := ⟨k - 1, by omega⟩
  rw [laws_markPointS.l0, if_neg (by omega)]
 | succ d ih =>
  intro i x l hl hi h0 h1 hq
  have q0 : ((rd_T110 l (i : Int)).f0.length : Int) ≤ 1048576 := hq i (by omega) (by omega)
  obtain ⟨r0, m0⟩ := markF (rd_T110 l (i : Int)).f0 (by omega) x h0 (by omega)
  obtain ⟨t, r, ht, hk0⟩ := ih (i + 1) (x + (rd_T110 l (i : Int)).f0.length) (l.set i ⟨r0⟩) (by rw [List.length_set]; exact hl) (by omega) (by omega) (by omega) (fun j h2 h3 => by
   have h4 := hq j (by omega) h3
   rw [rdT_lt l j (by omega)] at h4
   rw [rdT_lt _ j (by rw [List.length_set]; omega), List.getElem_set_ne (by omega)]
   exact h4)
  refine ⟨t, r, ht, fun k hk => ?_⟩
  obtain ⟨k, rfl⟩ : ∃ m, k = m + 1 := ⟨k - 1, by omega⟩
  rw [laws_markPointS.l0, if_pos (by omega), if_pos (by omega), m0 k (by omega)]
  simp only [Option.bind_some]
  rw [Int.toNat_natCast, wrap_up i (by omega)]
  exact hk0 k (by omega)
theorem markS (a : Int) (l1 l2 l3 l4 : List Int) (ps : List S110) (h1 : (l1.length : Int) ≤ 1048576) (h2 : (l2.length : Int) ≤ 1048576) (h3 : (l3.length : Int) ≤ 1048576) (h4 : (l4.length : Int) ≤ 1048576) (hp : (ps.length : Int) ≤ 1048576) (hq : ∀ y ∈ ps, QS110 y) (x : Int) (hx0 : 0 ≤ x) (hx1 : x ≤ 10000000) :
 ∃ (t : Int) (r1 r2 r3 r4 : List Int), ¬ t < 0 ∧ ∀ k, 3000000 ≤ k → laws_markSelection.f k a l1 l2 l3 l4 ps x = some (t, r1, r2, r3, r4) := by
 obtain ⟨r1, m1⟩ := markF l1 (by omega) x hx0 (by omega)
 obtain ⟨r2, m2⟩ := markF l2 (by omega) (x + l1.length) (by omega) (by omega)
 obtain ⟨r3, m3⟩ := markF l3 (by omega) (x + l1.length + l2.length) (by omega) (by omega)
 obtain ⟨r4, m4⟩ := markF l4 (by omega) (x + l1.length + l2.length + l3.length) (by omega) (by omega)
 obtain ⟨t, r, ht, m5⟩ := markP ps.length (by omega) ps.length 0 (x + l1.length + l2.length + l3.length + l4.length) ps rfl (by omega) (by omega) (by omega) (fun j _ hj => by rw [rdT_lt ps j hj]; exact hq _ (List.getElem_mem _))
 refine ⟨t, r1, r2, r3, r4, by omega, fun k hk => ?_⟩
 unfold laws_markSelection.f
 rw [m1 k (by omega)]
 simp only [Option.bind_some]
 rw [m2 k (by omega)]
 simp only [Option.bind_some]
 rw [m3 k (by omega)]
 simp only [Option.bind_some]
 rw [m4 k (by omega)]
 simp only [Option.bind_some]
 unfold laws_markPointS.f
 rw [show laws_markPointS.l0 k ps _ 0 = _ from m5 k (by omega)]
 rfl
theorem FnExactSelectedIndices : laws_FnExactSelectedIndices.Pure := by
 intro l0 a1_0 l1_1 l1_2 l1_3 l1_4 l1_5 o_l0 o_a1_0 o_l1_1 o_l1_2 o_l1_3 o_l1_4 o_l1_5
 refine ⟨17000000, ?_⟩
 by_cases g_l0 : (l0.length : Int) > 1048576
 · simp only [laws_FnExactSelectedIndices.f, if_pos g_l0]
 have q_l0_0 : (l0.length : Int) ≤ 1048576 := by omega
 obtain ⟨t1, e1, h1⟩ := g_szSelection 16999999 a1_0 l1_1 l1_2 l1_3 l1_4 l1_5 1048576 (by omega) (by omega) (by omega) o_l1_1 o_l1_2 o_l1_3 o_l1_4 o_l1_5
 rcases h1 with h1 | ⟨h1, m1, q_l1_1_0, q_l1_2_0, q_l1_3_0, q_l1_4_0, q_l1_5_0, q_l1_5_1⟩
 · simp only [laws_FnExactSelectedIndices.f, laws_FnExactSelectedIndices.j0, if_neg g_l0, e1, Option.bind_some, if_pos h1]
 have n1 : ¬ t1 < 0 := by omega
 have T1 := fun k (hk : 16000000 ≤ k) => g_toInt64S k l0 (by omega) q_l0_0
 have E1 := fun k (hk : 16000000 ≤ k) => g_eqInt64S k l0 (by omega) q_l0_0
 have T2 := fun k (hk : 16000000 ≤ k) => g_toSelection k a1_0 l1_1 l1_2 l1_3 l1_4 l1_5 (by omega) q_l1_1_0 q_l1_2_0 q_l1_3_0 q_l1_4_0 q_l1_5_0 q_l1_5_1
 have cl_l1_5 : (((l1_5.map cS107)).length : Int) ≤ 1048576 := by rw [List.length_map]; exact q_l1_5_0
 have cq_l1_5 := qmS107 l1_5 q_l1_5_1
 have E2 := fun k (hk : 16000000 ≤ k) => g_eqSelection k a1_0 l1_1 l1_2 l1_3 l1_4 (l1_5.map cS107) (by omega) q_l1_1_0 q_l1_2_0 q_l1_3_0 q_l1_4_0 cl_l1_5 cq_l1_5
 obtain ⟨v, hvl, hv⟩ := both l0 a1_0 l1_1 l1_2 l1_3 l1_4 (l1_5.map cS107) cl_l1_5 cq_l1_5
 have HS := fun k (hk : 16000000 ≤ k) => (hv k (by omega)).1
 have HI := fun k (hk : 16000000 ≤ k) => (hv k (by omega)).2
 have E3 := fun k (hk : 16000000 ≤ k) => g_eqInt64S k v (by omega) (by omega)
 obtain ⟨r0, M0_⟩ := markF l0 (by omega) 1 (by omega) (by omega)
 have M0 := fun k (hk : 16000000 ≤ k) => M0_ k (by omega)
 obtain ⟨t2, s1, s2, s3, s4, n2, M1_⟩ := markS a1_0 l1_1 l1_2 l1_3 l1_4 (l1_5.map cS107) q_l1_1_0 q_l1_2_0 q_l1_3_0 q_l1_4_0 cl_l1_5 cq_l1_5 (1 + l0.length) (by omega) (by omega)
 have M1 := fun k (hk : 16000000 ≤ k) => M1_ k (by omega)
 obtain ⟨rv, -, M2_, H2_⟩ := marks64 v (by omega) 1 (by omega) (by omega)
 have M2 := fun k (hk : 16000000 ≤ k) => M2_ k (by omega)
 have H2 := fun k (hk : 16000000 ≤ k) => H2_ k (by omega)
 have n3 : ¬ (1 + (v.length : Int)) < 0 := by omega
 unfold laws_FnExactSelectedIndices.f
 rw [if_neg g_l0, laws_FnExactSelectedIndices.j0, e1]
 simp only [Option.bind_some]
 rw [if_neg n1, laws_FnExactSelectedIndices.j1, T1 _ (by omega)]
 simp only [Option.bind_some]
 rw [T2 _ (by omega)]
 simp only [Option.bind_some]
 rw [HS _ (by omega)]
 simp only [Option.bind_some]
 rw [laws_FnExactSelectedIndices.j2, T1 _ (by omega)]
 simp only [Option.bind_some]
 rw [T2 _ (by omega)]
 simp only [Option.bind_some]
 rw [HI _ (by omega)]
 simp only [Option.bind_some]
 rw [E3 _ (by omega)]
 simp only [Option.bind_some, if_true]
 rw [laws_FnExactSelectedIndices.j3, T1 _ (by omega)]
 simp only [Option.bind_some]
 rw [E1 _ (by omega)]
 simp only [Option.bind_some, if_true]
 rw [laws_FnExactSelectedIndices.j4, T2 _ (by omega)]
 simp only [Option.bind_some]
 rw [E2 _ (by omega)]
 simp only [Option.bind_some, if_true]
 rw [laws_FnExactSelectedIndices.j5, M0 _ (by omega)]
 simp only [Option.bind_some]
 rw [M1 _ (by omega)]
 simp only [Option.bind_some]
 rw [if_neg n2, E3 _ (by omega)]
 simp only [Option.bind_some]
 rw [laws_FnExactSelectedIndices.j6, Bool.not_true, if_neg (by decide), laws_FnExactSelectedIndices.j7, M2 _ (by omega)]
 simp only [Option.bind_some]
 rw [H2 _ (by omega)]
 simp only [Option.bind_some]
 rw [if_neg n3, laws_FnExactSelectedIndices.j8, if_pos rfl, laws_FnExactSelectedIndices.j9, T1 _ (by omega)]
 simp only [Option.bind_some]
 rw [T2 _ (by omega)]
 simp only [Option.bind_some]
 rw [HI _ (by omega)]
 simp only [Option.bind_some]
 rw [E3 _ (by omega)]
 simp only [Option.bind_some, if_true]
 rw [laws_FnExactSelectedIndices.j10, H2 _ (by omega)]
 simp only [Option.bind_some]
 rw [if_neg n3, if_pos trivial]

end Go.Proofs.Ytdiaebjbiddefaa.Pure
