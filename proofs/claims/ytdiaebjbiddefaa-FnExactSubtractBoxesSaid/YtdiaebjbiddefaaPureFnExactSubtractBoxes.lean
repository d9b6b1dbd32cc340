/- The plain form of FnExactSubtractBoxes: for all arguments the answer is true. It holds without a condition. -/
import Derived.Test.YtdiaebjbiddefaaPFnExactSubtractBoxesx17
import Derived.OpenShut
namespace Go.Proofs.Ytdiaebjbiddefaa.Pure
open Go Go.RowKit Go.Proofs.Ytdiaebjbiddefaa.PFnExactSubtractBoxes Go.Proofs.YtdiaebjbiddefaaW.PrintWords Go.Proofs.YtdiaebjbiddefaaW.PrintLast Go.Proofs.YtdiaebjbiddefaaW.PrintMore
set_option linter.unusedVariables false
set_option linter.unusedSimpArgs false

theorem wrap64_id {a : Int} (h : -9223372036854775808 ≤ a) (h' : a ≤ 9223372036854775807) : wrap64 a = a := by unfold wrap64; omega
theorem count_loop {σ ρ : Type} (L : Nat → σ → Int → Option ρ) (n m : Nat) (I : Nat → σ → Prop) (R : ρ → Prop)
 (hstop : ∀ k s, m ≤ k → I n s → ∃ r, L (k + 1) s (n : Int) = some r ∧ R r)
 (hstep : ∀ k s (i : Nat), m ≤ k → i < n → I i s → (∃ s', I (i + 1) s' ∧ L (k + 1) s (i : Int) = L k s' ((i + 1 : Nat) : Int)) ∨ ∃ r, L (k + 1) s (i : Int) = some r ∧ R r)
 (k : Nat) (s : σ) (i : Nat) (hi : i ≤ n) (hk : n - i + m < k) (h : I i s) : ∃ r, L k s (i : Int) = some r ∧ R r := by
 obtain ⟨d, hd⟩ : ∃ d, d = n - i := ⟨_, rfl⟩
 induction d generalizing k s i with
 | zero =>
  obtain ⟨k, rfl⟩ : ∃ z, k = z + 1 := ⟨k - 1, by omega⟩
  obtain rfl : i = n := by omega
  exact hstop k s (by omega) h
 | succ d ih =>
  obtain ⟨k, rfl⟩ : ∃ z, k = z + 1 := ⟨k - 1, by omega⟩
  rcases hstep k s i (by omega) (by omega) h with ⟨s', h', e⟩ | h'
  · rw [e]; exact ih k s' (i + 1) (by omega) (by omega) h' (by omega)
  · exact h'
theorem rd_lt (l : List Int) (i : Nat) (h : i < l.length) : rd l (i : Int) = l[i] := by
 simp [rd, List.getD_eq_getElem?_getD, List.getElem?_eq_getElem h]
theorem wrap_up (i : Nat) (h : i < 1099511627776) : wrap64 ((i : Int) + 1) = ((i + 1 : Nat) : Int) := by unfold wrap64; omega
theorem set_next {α : Type} (l out : List α) (i : Nat) (h : i < l.length) (hl : out.length = l.length) (hp : out.take i = l.take i) : (out.set i l[i]).take (i + 1) = l.take (i + 1) := by
 apply List.ext_getElem?
 intro j
 by_cases hj : j < i + 1
 ·
  rw [List.getElem?_take_of_lt hj, List.getElem?_take_of_lt hj]
  by_cases hji : j = i
  · subst hji; rw [List.getElem?_set_self (by omega), List.getElem?_eq_getElem h]
  · rw [List.getElem?_set_ne (by omega)]
    have := congrArg (fun z => z[j]?) hp
    simpa [List.getElem?_take_of_lt (show j < i by omega)] using this
 · rw [List.getElem?_eq_none (by simp; omega), List.getElem?_eq_none (by simp; omega)]
theorem take_all {α : Type} (l out : List α) (hl : out.length = l.length) (hp : out.take l.length = l.take l.length) : out = l := by
 rwa [List.take_of_length_le (by omega), List.take_length] at hp
theorem g_szloop {α : Type} (L : Nat → List α → Int → Int → Option Int) (E : Nat → α → Int → Option Int) (z : α) (m : Nat) (Q : α → Prop) (l : List α)
 (hL : ∀ k a i, L (k + 1) l a i = if i < (l.length : Int) then (if 0 ≤ i then ((E k (l.getD i.toNat z) a).bind fun t => if t < 0 then some (-1) else L k l t (wrap64 (i + 1))) else none) else some a)
 (hE : ∀ k x a, x ∈ l → 0 ≤ a → a ≤ 1048576 → m ≤ k → ∃ t, E k x a = some t ∧ (t < 0 ∨ (0 ≤ t ∧ t ≤ a ∧ Q x)))
 (hl : l.length ≤ 1048576) (k : Nat) (a : Int) (h0 : 0 ≤ a) (h1 : a ≤ 1048576) (hk : m + 1048580 < k) :
 ∃ t, L k l a 0 = some t ∧ (t < 0 ∨ (0 ≤ t ∧ t ≤ a ∧ ∀ x ∈ l, Q x)) := by
 exact count_loop (fun k s i => L k l s i) l.length m (fun i s => 0 ≤ s ∧ s ≤ a ∧ ∀ x ∈ l.take i, Q x) (fun t => t < 0 ∨ (0 ≤ t ∧ t ≤ a ∧ ∀ x ∈ l, Q x))
  (by
   rintro k s - ⟨h1, h2, h3⟩
   rw [List.take_length] at h3
   exact ⟨s, by show L (k + 1) l s _ = _; rw [hL, if_neg (by omega)], .inr ⟨h1, h2, h3⟩⟩)
  (by
   rintro k s i hm hi ⟨h1, h2, h3⟩
   have hg : l.getD (i : Int).toNat z = l[i] := by simp [List.getD_eq_getElem?_getD, List.getElem?_eq_getElem hi]
   obtain ⟨t, e, ht⟩ := hE k l[i] s (List.getElem_mem hi) h1 (by omega) hm
   rcases ht with ht | ⟨q1, q2, q3⟩
   · refine .inr ⟨-1, ?_, .inl (by omega)⟩
     show L (k + 1) l s _ = _
     rw [hL, if_pos (by omega), if_pos (by omega), hg, e]
     simp only [Option.bind_some]
     rw [if_pos ht]
   ·
    refine .inl ⟨t, ⟨q1, by omega, ?_⟩, ?_⟩
    · intro x hx'
      rw [List.take_succ_eq_append_getElem hi, List.mem_append] at hx'
      rcases hx' with hx' | hx'
      · exact h3 x hx'
      · simp at hx'; subst hx'; exact q3
    · show L (k + 1) l s _ = _
      rw [hL, if_pos (by omega), if_pos (by omega), hg, e]
      simp only [Option.bind_some]
      rw [if_neg (by omega), wrap_up i (by omega)])
  k a 0 (by omega) (by omega) ⟨h0, by omega, by simp⟩
theorem g_toloop {α β γ : Type} (L : Nat → List α → List β → Int → Option (List β)) (E : Nat → α → Option γ) (mk : γ → β) (z : α) (c : α → β) (m : Nat) (l : List α)
 (hL : ∀ k s i, L (k + 1) l s i = if i < (l.length : Int) then (if 0 ≤ i then ((E k (l.getD i.toNat z)).bind fun b => (if i < (s.length : Int) then L k l (s.set i.toNat (mk b)) (wrap64 (i + 1)) else none)) else none) else some s)
 (hE : ∀ k x, x ∈ l → m ≤ k → ∃ b, E k x = some b ∧ mk b = c x)
 (hl : l.length ≤ 1048576) (k : Nat) (s : List β) (hs : s.length = l.length) (hk : m + 1048580 < k) : L k l s 0 = some (l.map c) := by
 obtain ⟨r, h, rfl⟩ := count_loop (fun k s i => L k l s i) l.length m (fun i s => s.length = (l.map c).length ∧ s.take i = (l.map c).take i) (fun r => r = l.map c)
  (by
   rintro k s - ⟨h1, h2⟩
   exact ⟨s, by show L (k + 1) l s _ = _; rw [hL, if_neg (by omega)], take_all (l.map c) s h1 (by rw [List.length_map]; exact h2)⟩)
  (by
   rintro k s i hm hi ⟨h1, h2⟩
   have hg : l.getD (i : Int).toNat z = l[i] := by simp [List.getD_eq_getElem?_getD, List.getElem?_eq_getElem hi]
   have hi' : i < (l.map c).length := by simpa using hi
   obtain ⟨b, e, hb⟩ := hE k l[i] (List.getElem_mem hi) hm
   have hb' : mk b = (l.map c)[i] := by rw [hb, List.getElem_map]
   refine .inl ⟨s.set i (l.map c)[i], ⟨by simpa using h1, set_next (l.map c) s i hi' h1 h2⟩, ?_⟩
   show L (k + 1) l s _ = _
   rw [hL, if_pos (by omega), if_pos (by omega), hg, e]
   simp only [Option.bind_some]
   rw [if_pos (by rw [h1]; simp; omega), wrap_up i (by omega), hb']
   rfl)
  k s 0 (by omega) (by omega) ⟨by simpa using hs, by simp⟩
 exact h
theorem g_eqloop {α : Type} (L : Nat → List α → List α → Int → Option Bool) (E : Nat → α → Option Bool) (z : α) (m : Nat) (l : List α)
 (hL : ∀ k i, L (k + 1) l l i = if i < (l.length : Int) then (if 0 ≤ i then (if i < (l.length : Int) then ((E k (l.getD i.toNat z)).bind fun t => (if t = true then L k l l (wrap64 (i + 1)) else some false)) else none) else none) else some true)
 (hE : ∀ k x, x ∈ l → m ≤ k → E k x = some true)
 (hl : l.length ≤ 1048576) (k : Nat) (hk : m + 1048580 < k) : L k l l 0 = some true := by
 obtain ⟨r, h, rfl⟩ := count_loop (fun k (_ : Unit) i => L k l l i) l.length m (fun _ _ => True) (fun r => r = true)
  (by
   rintro k s - -
   exact ⟨true, by show L (k + 1) l l _ = _; rw [hL, if_neg (by omega)], rfl⟩)
  (by
   rintro k s i hm hi -
   have hg : l.getD (i : Int).toNat z = l[i] := by simp [List.getD_eq_getElem?_getD, List.getElem?_eq_getElem hi]
   refine .inl ⟨(), trivial, ?_⟩
   show L (k + 1) l l _ = _
   rw [hL, if_pos (by omega), if_pos (by omega), if_pos (by omega), hg, hE k _ (List.getElem_mem hi) hm]
   simp only [Option.bind_some]
   rw [if_pos trivial, wrap_up i (by omega)])
  k () 0 (by omega) (by omega) trivial
 exact h
theorem g_szInt64S (k : Nat) (l0 : List Int) (a : Int) (h0 : 0 ≤ a) (h1 : a ≤ 1048576) (hk : 0 ≤ k) (o_l0 : l0.length ≤ maxLen ∧ ∀ x_ ∈ l0, (Lit.int .i64 x_).wf = true) : ∃ t, laws_szInt64S.f l0 a = some t ∧ (t < 0 ∨ (0 ≤ t ∧ t ≤ a ∧ (l0.length : Int) ≤ 1048576)) := by
 have p_l0 := o_l0.1
 unfold maxLen at p_l0
 unfold laws_szInt64S.f
 rw [wrap64_id (a := a - (l0.length : Int)) (by omega) (by omega)]
 by_cases c0 : a - (l0.length : Int) < 0
 · exact ⟨-1, by rw [if_pos c0], .inl (by omega)⟩
 rw [if_neg c0]
 exact ⟨_, rfl, .inr ⟨by omega, by omega, by omega⟩⟩
theorem g_szBox (k : Nat) (l0_0 : List Int) (l0_1 : List Int) (a : Int) (h0 : 0 ≤ a) (h1 : a ≤ 1048576) (hk : 0 ≤ k) (o_l0_0 : l0_0.length ≤ maxLen ∧ ∀ x_ ∈ l0_0, (Lit.int .i64 x_).wf = true) (o_l0_1 : l0_1.length ≤ maxLen ∧ ∀ x_ ∈ l0_1, (Lit.int .i64 x_).wf = true) : ∃ t, laws_szBox.f l0_0 l0_1 a = some t ∧ (t < 0 ∨ (0 ≤ t ∧ t ≤ a ∧ (l0_0.length : Int) ≤ 1048576 ∧ (l0_1.length : Int) ≤ 1048576)) := by
 have p_l0_0 := o_l0_0.1
 unfold maxLen at p_l0_0
 have p_l0_1 := o_l0_1.1
 unfold maxLen at p_l0_1
 unfold laws_szBox.f
 obtain ⟨t0, e0, q0⟩ := g_szInt64S k l0_0 a (by omega) (by omega) (by omega) o_l0_0
 rw [e0]
 simp only [Option.bind_some]
 rcases q0 with q0 | ⟨r0, s0, q0_l0_0_0⟩
 · exact ⟨-1, by rw [if_pos q0], .inl (by omega)⟩
 rw [if_neg (show ¬ t0 < 0 by omega)]
 obtain ⟨t1, e1, q1⟩ := g_szInt64S k l0_1 t0 (by omega) (by omega) (by omega) o_l0_1
 rw [e1]
 simp only [Option.bind_some]
 rcases q1 with q1 | ⟨r1, s1, q1_l0_1_0⟩
 · exact ⟨-1, by rw [if_pos q1], .inl (by omega)⟩
 rw [if_neg (show ¬ t1 < 0 by omega)]
 exact ⟨_, rfl, .inr ⟨by omega, by omega, q0_l0_0_0, q1_l0_1_0⟩⟩
def QS69 (x : S69) : Prop := (x.f0.length : Int) ≤ 1048576 ∧ (x.f1.length : Int) ≤ 1048576
theorem g_szBoxS (k : Nat) (l : List (S69)) (a : Int) (h0 : 0 ≤ a) (h1 : a ≤ 1048576) (hk : 1048590 ≤ k) (o : l.length ≤ maxLen ∧ ∀ x_ ∈ l, okS69 x_) : ∃ t, laws_szBoxS.f k l a = some t ∧ (t < 0 ∨ (0 ≤ t ∧ t ≤ a ∧ (l.length : Int) ≤ 1048576 ∧ (∀ y ∈ l, QS69 y))) := by
 have ol := o.1
 unfold maxLen at ol
 unfold laws_szBoxS.f
 rw [wrap64_id (by omega) (by omega)]
 by_cases h : a - (l.length : Int) < 0
 · exact ⟨-1, by rw [if_pos h], .inl (by omega)⟩
 rw [if_neg h]
 obtain ⟨t, e, q⟩ := g_szloop laws_szBoxS.l0 (fun k x a => laws_szBox.f x.f0 x.f1 a) z69 0 (QS69) l
  (by intro k a i; rw [laws_szBoxS.l0]; rfl)
  (by intro k x a hx h0 h1 hm; obtain ⟨o0, o1⟩ := o.2 x hx; exact g_szBox k x.f0 x.f1 a h0 h1 hm o0 o1)
  (by omega) k (a - (l.length : Int)) (by omega) (by omega) (by omega)
 rcases q with q | ⟨q1, q2, q3⟩
 · exact ⟨t, e, .inl q⟩
 · exact ⟨t, e, .inr ⟨q1, by omega, by omega, q3⟩⟩
theorem g_toInt64S (k : Nat) (l : List Int) (hk : 1048590 ≤ k) (o1 : (l.length : Int) ≤ 1048576) : laws_toInt64S.f k l = some l := by
 unfold laws_toInt64S.f
 rw [if_pos (by omega), if_pos (by omega)]
 have h := g_toloop laws_toInt64S.l0 (fun _ (x : Int) => some x) (fun b => b) (0 : Int) id 0 l (by intro k s i; rw [laws_toInt64S.l0]; rfl)
  (by intro k x hx hm; exact ⟨_, rfl, rfl⟩)
  (by omega) k (List.replicate ((l.length : Int) : Int).toNat 0) (by simp) (by omega)
 rwa [List.map_id] at h
theorem g_toBox (k : Nat) (l0_0 : List Int) (l0_1 : List Int) (hk : 1048590 ≤ k) (o_l0_0_0 : (l0_0.length : Int) ≤ 1048576) (o_l0_1_0 : (l0_1.length : Int) ≤ 1048576) : laws_toBox.f k l0_0 l0_1 = some (l0_0, l0_1) := by
 unfold laws_toBox.f
 rw [g_toInt64S k l0_0 (by omega) o_l0_0_0]
 simp only [Option.bind_some]
 rw [g_toInt64S k l0_1 (by omega) o_l0_1_0]
 simp only [Option.bind_some]
def QS42 (x : S42) : Prop := (x.f0.length : Int) ≤ 1048576 ∧ (x.f1.length : Int) ≤ 1048576
def cS69 (x : S69) : S42 := ⟨x.f0, x.f1⟩
theorem qcS69 (x : S69) (h : QS69 x) : QS42 (cS69 x) := h
theorem qmS69 (l : List S69) (h : ∀ y ∈ l, QS69 y) : ∀ y ∈ l.map cS69, QS42 y := by
 intro y hy
 obtain ⟨x, hx, rfl⟩ := List.mem_map.1 hy
 exact qcS69 x (h x hx)
theorem g_toBoxS (k : Nat) (l : List (S69)) (hk : 2097180 ≤ k) (o1 : (l.length : Int) ≤ 1048576) (o2 : (∀ y ∈ l, QS69 y)) : laws_toBoxS.f k l = some (l.map cS69) := by
 unfold laws_toBoxS.f
 rw [if_pos (by omega), if_pos (by omega)]
 have h := g_toloop laws_toBoxS.l0 (fun k (x : S69) => laws_toBox.f k x.f0 x.f1) (fun b => (⟨b.1, b.2⟩ : S42)) z69 cS69 1048590 l (by intro k s i; rw [laws_toBoxS.l0]; rfl)
  (by intro k x hx hm; obtain ⟨q0_0, q1_0⟩ := o2 x hx; exact ⟨_, g_toBox k x.f0 x.f1 hm q0_0 q1_0, rfl⟩)
  (by omega) k (List.replicate ((l.length : Int) : Int).toNat z42) (by simp) (by omega)
 exact h
theorem g_eqInt64S (k : Nat) (l : List Int) (hk : 1048590 ≤ k) (o1 : (l.length : Int) ≤ 1048576) : laws_eqInt64S.f k l l = some true := by
 unfold laws_eqInt64S.f
 rw [if_pos rfl]
 exact g_eqloop laws_eqInt64S.l0 (fun _ (x : Int) => some true) (0 : Int) 0 l (by intro k i; rw [laws_eqInt64S.l0]; simp only [Option.bind_some, bne_self_eq_false, Bool.false_eq_true, if_false, if_true, reduceIte]) (by intro k x hx hm; rfl) (by omega) k (by omega)
theorem g_eqBox (k : Nat) (l0_0 : List Int) (l0_1 : List Int) (hk : 1048590 ≤ k) (o_l0_0_0 : (l0_0.length : Int) ≤ 1048576) (o_l0_1_0 : (l0_1.length : Int) ≤ 1048576) : laws_eqBox.f k l0_0 l0_1 l0_0 l0_1 = some true := by
 unfold laws_eqBox.f
 simp only [g_eqInt64S k l0_0 (by omega) o_l0_0_0, g_eqInt64S k l0_1 (by omega) o_l0_1_0, Option.bind_some, bne_self_eq_false, Bool.false_eq_true, if_false, if_true, reduceIte]
theorem g_eqBoxS (k : Nat) (l : List (S42)) (hk : 2097180 ≤ k) (o1 : (l.length : Int) ≤ 1048576) (o2 : (∀ y ∈ l, QS42 y)) : laws_eqBoxS.f k l l = some true := by
 unfold laws_eqBoxS.f
 rw [if_pos rfl]
 exact g_eqloop laws_eqBoxS.l0 (fun k (x : S42) => laws_eqBox.f k x.f0 x.f1 x.f0 x.f1) z42 1048590 l (by intro k i; rw [laws_eqBoxS.l0]; rfl) (by intro k x hx hm; obtain ⟨q0_0, q1_0⟩ := o2 x hx; exact g_eqBox k x.f0 x.f1 hm q0_0 q1_0) (by omega) k (by omega)
theorem all_loop (L : Nat → Int → Option Bool) (P : Nat → Prop) [DecidablePred P] (n m : Nat) (r : Bool)
 (hend : ∀ k, m ≤ k → L (k + 1) (n : Int) = some r) (hstep : ∀ k (i : Nat), m ≤ k → i < n → L (k + 1) (i : Int) = if P i then L k ((i + 1 : Nat) : Int) else some false) (k : Nat) (hk : n + m < k) :
 L k 0 = some (decide (∀ i, i < n → P i) && r) := by
 obtain ⟨s, h, rfl⟩ := count_loop (fun k (_ : Unit) i => L k i) n m (fun i _ => ∀ j, j < i → P j) (fun s => s = (decide (∀ i, i < n → P i) && r))
  (by
   rintro k s hm h
   exact ⟨r, hend k hm, by simp [decide_eq_true h]⟩)
  (by
   rintro k s i hm hi h
   by_cases hp : P i
   · refine .inl ⟨(), ?_, by show L (k + 1) _ = _; rw [hstep k i hm hi, if_pos hp]⟩
     intro j hj
     by_cases hji : j = i
     · subst hji; exact hp
     · exact h j (by omega)
   · refine .inr ⟨false, by show L (k + 1) _ = _; rw [hstep k i hm hi, if_neg hp], ?_⟩
     have : ¬ ∀ i, i < n → P i := fun h => hp (h i hi)
     simp [this])
  k () 0 (by omega) (by omega) (by simp)
 exact h
def look (P : Nat → Prop) [DecidablePred P] : Nat → Nat → Int
 | 0, _ => -1
 | d + 1, i => if P i then (i : Int) else look P d (i + 1)
theorem look_or (P : Nat → Prop) [DecidablePred P] (d : Nat) : ∀ i, (look P d i = -1 ∧ ∀ j, i ≤ j → j < i + d → ¬ P j) ∨ ∃ j, i ≤ j ∧ j < i + d ∧ look P d i = (j : Int) ∧ P j := by
 induction d with
 | zero => intro i; exact .inl ⟨rfl, fun j h1 h2 => by omega⟩
 | succ d ih =>
  intro i
  by_cases hp : P i
  · exact .inr ⟨i, by omega, by omega, by rw [look, if_pos hp], hp⟩
  ·
   rw [look, if_neg hp]
   rcases ih (i + 1) with ⟨h1, h2⟩ | ⟨j, h1, h2, h3, h4⟩
   · refine .inl ⟨h1, fun j h3 h4 => ?_⟩
     by_cases hji : j = i
     · subst hji; exact hp
     · exact h2 j (by omega) (by omega)
   · exact .inr ⟨j, by omega, by omega, h3, h4⟩
theorem find_loop (L : Nat → Int → Option Int) (P : Nat → Prop) [DecidablePred P] (n m : Nat)
 (hend : ∀ k, m ≤ k → L (k + 1) (n : Int) = some (-1)) (hstep : ∀ k (i : Nat), m ≤ k → i < n → L (k + 1) (i : Int) = if P i then some (i : Int) else L k ((i + 1 : Nat) : Int)) (k : Nat) (hk : n + m < k) :
 L k 0 = some (look P n 0) := by
 have key : ∀ d k i, i + d = n → d + m < k → L k (i : Int) = some (look P d i) := by
  intro d
  induction d with
  | zero =>
   intro k i hi hk
   obtain ⟨k, rfl⟩ : ∃ z, k = z + 1 := ⟨k - 1, by omega⟩
   obtain rfl : i = n := by omega
   exact hend k (by omega)
  | succ d ih =>
   intro k i hi hk
   obtain ⟨k, rfl⟩ : ∃ z, k = z + 1 := ⟨k - 1, by omega⟩
   rw [hstep k i (by omega) (by omega), look]
   by_cases hp : P i
   · rw [if_pos hp, if_pos hp]
   · rw [if_neg hp, if_neg hp]; exact ih k (i + 1) (by omega) (by omega)
 exact key n k 0 (by omega) (by omega)
theorem getD_lt {α : Type} (l : List α) (z : α) (i : Nat) (h : i < l.length) : l.getD (i : Int).toNat z = l[i] := by
 simp [List.getD_eq_getElem?_getD, List.getElem?_eq_getElem h]
theorem in_eq (a b c : Int) : spec_l00In.f a b c = some (decide (b ≤ a ∧ a ≤ c)) := by
 unfold spec_l00In.f
 by_cases h : a ≥ b
 · rw [if_pos h]
   by_cases h2 : a ≤ c <;> simp [h2] <;> omega
 · rw [if_neg h]; simp; omega
def BoxAt (a b : List Int) (i : Nat) : Prop := 0 ≤ rd a i ∧ rd a i < rd b i ∧ rd b i ≤ 40
instance (a b : List Int) (i : Nat) : Decidable (BoxAt a b i) := by unfold BoxAt; infer_instance
def VBox (a b : List Int) : Prop := a.length ≤ 3 ∧ b.length = a.length ∧ ∀ i, i < a.length → BoxAt a b i
instance (a b : List Int) : Decidable (VBox a b) := by unfold VBox; infer_instance
theorem all_step {P : Nat → Prop} {i : Nat} (h : ∀ j, j < i → P j) (hi : P i) : ∀ j, j < i + 1 → P j := fun j hj => by
 by_cases e : j = i
 · subst e; exact hi
 · exact h j (by omega)
instance decS42 : DecidableEq S42 := fun a b =>
 if h0 : a.f0 = b.f0 then if h1 : a.f1 = b.f1 then isTrue (by cases a; cases b; cases h0; cases h1; rfl) else isFalse (fun h => h1 (by rw [h])) else isFalse (fun h => h0 (by rw [h]))
def inBx : List Int → List Int → List Int → Bool
 | a :: ah, b :: bs, x :: xs => (decide (a ≤ x) && decide (x < b)) && inBx ah bs xs
 | [], [], [] => true
 | _, _, _ => false
def mem (l : List S42) (p : List Int) : Bool := l.any fun b => inBx b.f0 b.f1 p
def inR (x : Int) (b : S42) : Bool := decide (rd b.f0 0 ≤ x ∧ x ≤ rd b.f1 0 - 1)
def cutB (b : S42) : S42 := ⟨b.f0.drop 1, b.f1.drop 1⟩
def secB (x : Int) (l : List S42) : List S42 := (l.filter (inR x)).map cutB
def VB (r : Nat) (b : S42) : Prop := b.f0.length = r ∧ b.f1.length = r ∧ ∀ i, i < r → BoxAt b.f0 b.f1 i
def VL (r : Nat) (l : List S42) : Prop := ∀ b ∈ l, VB r b
def pre (l : List S42) (a b : Int) : List S42 := l.map fun x => ⟨a :: x.f0, b :: x.f1⟩
def rle (f : Nat → List S42) : Nat → Nat → List S42 → List S42 → Int → List S42
 | 0, _, out, _, _ => out
 | d + 1, x, out, run, beg => if f x = run then rle f d (x + 1) out run beg else rle f d (x + 1) (out ++ pre run beg x) (f x) x
def NF : Nat → (List Int → Bool) → List S42
 | 0, P => if P [] = true then [⟨[], []⟩] else []
 | r + 1, P => rle (fun x => if x < 40 then NF r (fun p => P ((x : Int) :: p)) else []) 41 0 [] [] 0
theorem rd_cons0 (a : Int) (l : List Int) : rd (a :: l) 0 = a := rfl
theorem rd_consS (a : Int) (l : List Int) (i : Nat) : rd (a :: l) ((i + 1 : Nat) : Int) = rd l (i : Int) := by
 unfold rd
 rw [Int.toNat_natCast, Int.toNat_natCast]
 rfl
theorem VB_cons {r : Nat} {b : S42} (h : VB (r + 1) b) : ∃ a ah c cs, b = ⟨a :: ah, c :: cs⟩ ∧ (0 ≤ a ∧ a < c ∧ c ≤ 40) ∧ VB r ⟨ah, cs⟩ := by
 obtain ⟨f0, f1⟩ := b
 obtain ⟨h0, h1, h2⟩ := h
 obtain ⟨a, ah, rfl⟩ : ∃ a ah, f0 = a :: ah := by cases f0 with
  | nil => simp at h0
  | cons a ah => exact ⟨a, ah, rfl⟩
 obtain ⟨c, cs, rfl⟩ : ∃ a ah, f1 = a :: ah := by cases f1 with
  | nil => simp at h1
  | cons a ah => exact ⟨a, ah, rfl⟩
 refine ⟨a, ah, c, cs, rfl, h2 0 (by omega), by simpa using h0, by simpa using h1, fun i hi => ?_⟩
 have := h2 (i + 1) (by omega)
 unfold BoxAt at this ⊢
 simpa only [rd_consS] using this
theorem VL_cons {r : Nat} {b : S42} {l : List S42} : VL r (b :: l) ↔ VB r b ∧ VL r l := by
 unfold VL; simp
theorem sec_cons (x : Int) (b : S42) (l : List S42) : secB x (b :: l) = if inR x b = true then cutB b :: secB x l else secB x l := by
 unfold secB
 rw [List.filter_cons]
 split <;> simp
theorem sec_len (x : Int) (l : List S42) : (secB x l).length ≤ l.length := by
 unfold secB
 rw [List.length_map]
 exact List.length_filter_le _ _
theorem sec_VL {r : Nat} (x : Int) : ∀ {l : List S42}, VL (r + 1) l → VL r (secB x l)
 | [], _ => by simp [secB, VL]
 | b :: l, h => by
  obtain ⟨h1, h2⟩ := VL_cons.1 h
  obtain ⟨a, ah, c, cs, rfl, -, h5⟩ := VB_cons h1
  rw [sec_cons]
  split
  · exact VL_cons.2 ⟨h5, sec_VL x h2⟩
  · exact sec_VL x h2
theorem mem_cons (b : S42) (l : List S42) (p : List Int) : mem (b :: l) p = (inBx b.f0 b.f1 p || mem l p) := rfl
theorem sec_mem {r : Nat} (x : Int) (p : List Int) : ∀ {l : List S42}, VL (r + 1) l → mem (secB x l) p = mem l (x :: p)
 | [], _ => rfl
 | b :: l, h => by
  obtain ⟨h1, h2⟩ := VL_cons.1 h
  obtain ⟨a, ah, c, cs, rfl, h4, h5⟩ := VB_cons h1
  rw [sec_cons, mem_cons, ← sec_mem x p h2]
  show _ = (((decide (a ≤ x) && decide (x < c)) && inBx ah cs p) || _)
  by_cases hx : a ≤ x ∧ x ≤ c - 1
  · rw [if_pos (show inR x ⟨a :: ah, c :: cs⟩ = true from decide_eq_true hx), mem_cons]
    have e1 : decide (a ≤ x) = true := decide_eq_true hx.1
    have e2 : decide (x < c) = true := decide_eq_true (by omega)
    rw [e1, e2]
    rfl
  · rw [if_neg (show ¬ inR x ⟨a :: ah, c :: cs⟩ = true from fun e => hx (of_decide_eq_true e))]
    have e : (decide (a ≤ x) && decide (x < c)) = false := by
     rw [Bool.and_eq_false_iff, decide_eq_false_iff_not, decide_eq_false_iff_not]; omega
    rw [e]
    simp
theorem mem_zero : ∀ {l : List S42}, VL 0 l → mem l [] = decide (0 < l.length)
 | [], _ => rfl
 | b :: l, h => by
  obtain ⟨h1, h2⟩ := VL_cons.1 h
  obtain ⟨f0, f1⟩ := b
  have e0 : f0 = [] := List.length_eq_zero_iff.1 h1.1
  have e1 : f1 = [] := List.length_eq_zero_iff.1 h1.2.1
  subst e0; subst e1
  simp [mem, inBx]
theorem pre_nil (a b : Int) : pre [] a b = [] := rfl
theorem pre_len (l : List S42) (a b : Int) : (pre l a b).length = l.length := by unfold pre; rw [List.length_map]
theorem rle_len (f : Nat → List S42) (M : Nat) (hf : ∀ x, (f x).length ≤ M) : ∀ (d x : Nat) (out run : List S42) (beg : Int), run.length ≤ M → (rle f d x out run beg).length ≤ out.length + d * M := by
 intro d
 induction d with
 | zero => intro x out run beg _; simp [rle]
 | succ d ih =>
  intro x out run beg h
  have e : (d + 1) * M = d * M + M := by rw [Nat.add_mul, Nat.one_mul]
  unfold rle
  split
  · have := ih (x + 1) out run beg h; omega
  · have := ih (x + 1) (out ++ pre run beg x) (f x) x (hf x)
    rw [List.length_append, pre_len] at this
    omega
theorem NF_len : ∀ (r : Nat) (P : List Int → Bool), (NF r P).length ≤ 41 ^ r
 | 0, P => by unfold NF; split <;> simp
 | r + 1, P => by
  unfold NF
  have := rle_len (fun x => if x < 40 then NF r (fun p => P ((x : Int) :: p)) else []) (41 ^ r) (fun x => by
   show (if x < 40 then NF r (fun p => P ((x : Int) :: p)) else []).length ≤ _
   split
   · exact NF_len r _
   · simp) 41 0 [] [] 0 (by simp)
  simp only [List.length_nil, Nat.zero_add] at this
  rw [Nat.pow_succ, Nat.mul_comm]
  exact this
def Rows (r : Nat) (l : List S42) : Prop := ∀ b ∈ l, b.f0.length = r ∧ b.f1.length = r
theorem rows_nil (r : Nat) : Rows r [] := fun _ h => by cases h
theorem rows_app {r : Nat} {l m : List S42} (h : Rows r l) (h' : Rows r m) : Rows r (l ++ m) := fun b hb => by
 rcases List.mem_append.1 hb with hb | hb
 · exact h b hb
 · exact h' b hb
theorem rows_pre {r : Nat} {l : List S42} (h : Rows r l) (a b : Int) : Rows (r + 1) (pre l a b) := fun x hx => by
 obtain ⟨y, hy, rfl⟩ := List.mem_map.1 hx
 have := h y hy
 exact ⟨by simp [this.1], by simp [this.2]⟩
theorem rle_rows (f : Nat → List S42) (r : Nat) (hf : ∀ x, Rows r (f x)) : ∀ (d x : Nat) (out run : List S42) (beg : Int), Rows (r + 1) out → Rows r run → Rows (r + 1) (rle f d x out run beg) := by
 intro d
 induction d with
 | zero => intro x out run beg h _; exact h
 | succ d ih =>
  intro x out run beg h h'
  unfold rle
  split
  · exact ih _ _ _ _ h h'
  · exact ih _ _ _ _ (rows_app h (rows_pre h' _ _)) (hf x)
theorem NF_rows : ∀ (r : Nat) (P : List Int → Bool), Rows r (NF r P)
 | 0, P => by
  unfold NF
  split
  · intro b hb; rw [List.mem_singleton.1 hb]; exact ⟨rfl, rfl⟩
  · exact rows_nil 0
 | r + 1, P => by
  unfold NF
  refine rle_rows _ r (fun x => ?_) 41 0 [] [] 0 (rows_nil _) (rows_nil _)
  show Rows r (if x < 40 then NF r (fun p => P ((x : Int) :: p)) else [])
  split
  · exact NF_rows r _
  · exact rows_nil _
theorem rle_nil (f : Nat → List S42) (hf : ∀ x, f x = []) : ∀ (d x : Nat) (out : List S42) (beg : Int), rle f d x out [] beg = out := by
 intro d
 induction d with
 | zero => intro x out beg; rfl
 | succ d ih => intro x out beg; unfold rle; rw [if_pos (hf x)]; exact ih _ _ _
theorem NF_false : ∀ (r : Nat), NF r (fun _ => false) = []
 | 0 => rfl
 | r + 1 => by
  unfold NF
  exact rle_nil _ (fun x => by
   show (if x < 40 then NF r (fun _ => false) else []) = []
   rw [NF_false r]; split <;> rfl) 41 0 [] 0
theorem mem_ge {l : List S42} {r : Nat} (h : VL (r + 1) l) (c : Int) (hc : ∀ b ∈ l, rd b.f1 0 ≤ c) (p : List Int) (x : Int) (hx : c ≤ x) : mem l (x :: p) = false := by
 unfold mem
 rw [List.any_eq_false]
 intro b hb
 obtain ⟨a, ah, e, es, rfl, h4, h5⟩ := VB_cons (h b hb)
 have := hc _ hb
 rw [show rd (S42.mk (a :: ah) (e :: es)).f1 0 = e from rfl] at this
 show ¬ ((decide (a ≤ x) && decide (x < e)) && inBx ah es p) = true
 rw [show decide (x < e) = false from decide_eq_false (by omega)]
 simp
theorem seq_loop (L : Nat → Int → Option Bool) (P : Nat → Prop) [DecidablePred P] (n : Nat)
 (hend : ∀ k, L (k + 1) (n : Int) = some true) (hstep : ∀ k (i : Nat), i < n → L (k + 1) (i : Int) = if P i then L k ((i + 1 : Nat) : Int) else some false) (k : Nat) (hk : n < k) :
 L k 0 = some (decide (∀ i, i < n → P i)) := by
 rw [all_loop L P n 0 true (fun k _ => hend k) (fun k i _ hi => hstep k i hi) k (by omega), Bool.and_true]
theorem slices_Equal_int64_int64_is (k : Nat) (a b : List Int) (hl : a.length ≤ 1048576) (hk : 1048590 ≤ k) : slices_Equal_int64_int64.f k a b = some (decide (a = b)) := by
 unfold slices_Equal_int64_int64.f
 by_cases hn : (a.length : Int) = (b.length : Int)
 ·
  rw [if_pos hn, seq_loop (fun k i => slices_Equal_int64_int64.l0 k a b (a.length : Int) i) (fun i => rd a (i : Int) = rd b (i : Int)) a.length
   (by intro k; show slices_Equal_int64_int64.l0 (k + 1) a b _ _ = _; rw [slices_Equal_int64_int64.l0, if_neg (by omega)])
   (by
    intro k i hi
    show slices_Equal_int64_int64.l0 (k + 1) a b _ _ = _
    rw [slices_Equal_int64_int64.l0]
    repeat rw [if_pos (show (i : Int) < (a.length : Int) by omega)]
    repeat rw [if_pos (show (0 : Int) ≤ (i : Int) by omega)]
    repeat rw [if_pos (show (i : Int) < (a.length : Int) by omega)]
    repeat rw [if_pos (show (i : Int) < (b.length : Int) by omega)]
    rw [wrap_up i (by omega)])
   k (by omega)]
  have hb : a.length = b.length := by omega
  congr 1
  apply decide_eq_decide.2
  constructor
  · intro h
    apply List.ext_getElem hb
    intro i h1 h2
    have := h i h1
    rwa [rd_lt a i h1, rd_lt b i h2] at this
  · rintro rfl i _
    rfl
 · rw [if_neg hn, decide_eq_false]
   rintro rfl
   exact hn rfl
theorem within_eq (a b c : Int) : impl_within.f a b c = some (decide (b ≤ a ∧ a ≤ c)) := by
 unfold impl_within.f
 by_cases h : a ≥ b
 · rw [if_pos h]
   by_cases h2 : a ≤ c <;> simp [h2] <;> omega
 · rw [if_neg h]; simp; omega
theorem rd_at (l : List S42) (i : Nat) (h : i < l.length) : rd_T42 l (i : Int) = l[i] := getD_lt l z42 i h
theorem drop_at {α : Type} (l : List α) (i : Nat) (h : i < l.length) : l.drop i = l[i] :: l.drop (i + 1) := List.drop_eq_getElem_cons h
theorem same_eq (l m : List S42) (hlm : l.length = m.length) : (∀ i, i < l.length → (rd_T42 l (i : Int)).f0 = (rd_T42 m (i : Int)).f0 ∧ (rd_T42 l (i : Int)).f1 = (rd_T42 m (i : Int)).f1) ↔ l = m := by
 constructor
 ·
  intro h
  apply List.ext_getElem hlm
  intro i h1 h2
  have := h i h1
  rw [rd_at l i h1, rd_at m i h2] at this
  generalize l[i] = a at this; generalize m[i] = b at this
  obtain ⟨a0, a1⟩ := a; obtain ⟨b0, b1⟩ := b
  obtain ⟨rfl, rfl⟩ := this
  rfl
 · rintro rfl i _; exact ⟨rfl, rfl⟩
theorem same_impl (r : Nat) (hr : r ≤ 3) (l m : List S42) (hl : l.length ≤ 1048576) (hR : Rows r l) (k : Nat) (hk : 3000000 ≤ k) : impl_SameBoxes.f k l m = some (decide (l = m)) := by
 unfold impl_SameBoxes.f slices_EqualFunc_impl_sameBox.f
 by_cases h1 : l.length = m.length
 ·
  rw [if_pos (by omega), all_loop (fun k i => slices_EqualFunc_impl_sameBox.l0 k m l l.length i) (fun i => (rd_T42 l (i : Int)).f0 = (rd_T42 m (i : Int)).f0 ∧ (rd_T42 l (i : Int)).f1 = (rd_T42 m (i : Int)).f1) l.length 1048590 true
   (by intro k _; show slices_EqualFunc_impl_sameBox.l0 (k + 1) m l _ _ = _; rw [slices_EqualFunc_impl_sameBox.l0, if_neg (by omega)])
   (by
    intro k i hk hi
    show slices_EqualFunc_impl_sameBox.l0 (k + 1) m l _ _ = _
    have hq : (rd_T42 l (i : Int)).f0.length = r ∧ (rd_T42 l (i : Int)).f1.length = r := by rw [rd_at l i hi]; exact hR _ (List.getElem_mem hi)
    rw [slices_EqualFunc_impl_sameBox.l0, if_pos (by omega), if_pos (by omega), if_pos (by omega), if_pos (by omega), wrap_up i (by omega)]
    unfold impl_sameBox.f
    rw [slices_Equal_int64_int64_is k _ _ (by omega) hk, slices_Equal_int64_int64_is k _ _ (by omega) hk]
    simp only [Option.bind_some, decide_eq_true_eq]
    by_cases h0 : (rd_T42 l (i : Int)).f0 = (rd_T42 m (i : Int)).f0
    · rw [if_pos h0]
      simp only [Option.bind_some, decide_eq_true_eq]
      by_cases h2 : (rd_T42 l (i : Int)).f1 = (rd_T42 m (i : Int)).f1
      · rw [if_pos h2, if_pos ⟨h0, h2⟩]
      · rw [if_neg h2, if_neg (fun h => h2 h.2)]
    · rw [if_neg h0]
      simp only [Option.bind_some, Bool.false_eq_true, if_false]
      rw [if_neg (fun h => h0 h.1)])
   k (by omega)]
  simp only [Bool.and_true, Option.bind_some]
  congr 1
  exact decide_eq_decide.2 (same_eq l m h1)
 · rw [if_neg (by omega), decide_eq_false (fun h => h1 (by rw [h]))]
   rfl
theorem section_impl {r : Nat} (l : List S42) (x : Int) (h : VL (r + 1) l) (hl : l.length ≤ 1048576) (k : Nat) (hk : l.length < k) : impl_section.f k l x = some (secB x l) := by
 have key : ∀ (d i k : Nat) (out : List S42), i + d = l.length → out.length ≤ i → d < k → impl_section.l0 k x out l (l.length : Int) (i : Int) = some (out ++ secB x (l.drop i)) := by
  intro d
  induction d with
  | zero =>
   intro i k out hi ho hk
   obtain ⟨k, rfl⟩ : ∃ m, k = m + 1 := ⟨k - 1, by omega⟩
   rw [impl_section.l0, if_neg (by omega), List.drop_eq_nil_of_le (by omega)]
   simp [secB]
  | succ d ih =>
   intro i k out hi ho hk
   obtain ⟨k, rfl⟩ : ∃ m, k = m + 1 := ⟨k - 1, by omega⟩
   have hil : i < l.length := by omega
   obtain ⟨a, ah, c, cs, e, h4, h5⟩ := VB_cons (h _ (List.getElem_mem hil))
   rw [impl_section.l0, if_pos (by omega), if_pos (by omega), if_pos (by omega), rd_at l i hil, drop_at l i hil, sec_cons, e]
   have hwc : wrap64 (c - 1) = c - 1 := wrap64_id (by omega) (by omega)
   rw [if_pos (by simp), if_pos (by simp), within_eq, wrap_up i (by omega)]
   simp only [Option.bind_some, rd_cons0, decide_eq_true_eq, hwc]
   by_cases hx : a ≤ x ∧ x ≤ c - 1
   · rw [if_pos hx, if_pos (by simp; omega), if_pos (by simp; omega), if_pos (by omega), if_pos (show inR x ⟨a :: ah, c :: cs⟩ = true from decide_eq_true hx)]
     rw [ih (i + 1) k _ (by omega) (by simp; omega) (by omega), List.append_assoc]
     rfl
   · rw [if_neg hx, if_neg (show ¬ inR x ⟨a :: ah, c :: cs⟩ = true from fun e => hx (of_decide_eq_true e))]
     exact ih (i + 1) k _ (by omega) (by omega) (by omega)
 unfold impl_section.f
 have := key l.length 0 k [] (by omega) (by simp) hk
 simpa using this
theorem concat_impl (x : Int) (l : List Int) (hl : l.length ≤ 1000) (k : Nat) (hk : 10 ≤ k) : slices_Concat_int64_int64.f k [[x], l] = some (x :: l) := by
 obtain ⟨k, rfl⟩ : ∃ m, k = m + 6 := ⟨k - 6, by omega⟩
 have e0 : rd_L1 [[x], l] 0 = [x] := rfl
 have e1 : rd_L1 [[x], l] 1 = l := rfl
 have hw : wrap64 (1 + (l.length : Int)) = 1 + (l.length : Int) := by unfold wrap64; omega
 have z1 : wrap64 (0 + 1) = 1 := by unfold wrap64; omega
 have z2 : wrap64 (1 + 1) = 2 := by unfold wrap64; omega
 have hn : (([[x], l] : List (List Int)).length : Int) = 2 := rfl
 have h1 : (([x] : List Int).length : Int) = 1 := rfl
 unfold slices_Concat_int64_int64.f
 rw [hn, slices_Concat_int64_int64.l0, if_pos (by omega), if_pos (by omega), if_pos (by omega), e0, h1, z1, if_neg (by omega)]
 rw [slices_Concat_int64_int64.l0, if_pos (by omega), if_pos (by omega), if_pos (by omega), e1, hw, if_neg (by omega), z2]
 rw [slices_Concat_int64_int64.l0, if_neg (by omega)]
 show (Option.bind (if 0 ≤ 1 + (l.length : Int) ∧ 1 + (l.length : Int) ≤ 1073741824 then some [] else none) _) = _
 rw [if_pos (by omega)]
 simp only [Option.bind_some]
 rw [hn, slices_Concat_int64_int64.l1, if_pos (by omega), if_pos (by omega), if_pos (by omega), e0, if_pos (by simp), z1]
 rw [slices_Concat_int64_int64.l1, if_pos (by omega), if_pos (by omega), if_pos (by omega), e1, if_pos (by simp; omega), z2]
 rw [slices_Concat_int64_int64.l1, if_neg (by omega)]
 rfl
theorem prefixed_impl {r : Nat} (hr : r ≤ 3) (l : List S42) (a b : Int) (hR : Rows r l) (hl : l.length ≤ 1048576) (k : Nat) (hk : l.length + 10 < k) : impl_prefixed.f k l a b = some (pre l a b) := by
 have key : ∀ (d i k : Nat) (out : List S42), i + d = l.length → out.length ≤ i → d + 10 < k → impl_prefixed.l0 k a b out l (l.length : Int) (i : Int) = some (out ++ pre (l.drop i) a b) := by
  intro d
  induction d with
  | zero =>
   intro i k out hi ho hk
   obtain ⟨k, rfl⟩ : ∃ m, k = m + 1 := ⟨k - 1, by omega⟩
   rw [impl_prefixed.l0, if_neg (by omega), List.drop_eq_nil_of_le (by omega)]
   simp [pre]
  | succ d ih =>
   intro i k out hi ho hk
   obtain ⟨k, rfl⟩ : ∃ m, k = m + 1 := ⟨k - 1, by omega⟩
   have hil : i < l.length := by omega
   have hq := hR _ (List.getElem_mem hil)
   rw [impl_prefixed.l0, if_pos (by omega), if_pos (by omega), if_pos (by omega), rd_at l i hil, drop_at l i hil]
   rw [concat_impl a _ (by omega) k (by omega), concat_impl b _ (by omega) k (by omega), wrap_up i (by omega)]
   simp only [Option.bind_some]
   rw [if_pos (by omega), ih (i + 1) k _ (by omega) (by simp; omega) (by omega), List.append_assoc]
   rfl
 unfold impl_prefixed.f
 have := key l.length 0 k [] (by omega) (by simp) hk
 simpa using this
def wo (x y : Bool) : Bool := x && !y
theorem comb_without : ∀ (r : Nat), r ≤ 3 → ∀ (a b : List S42), VL r a → VL r b → a.length ≤ 1048576 → b.length ≤ 1048576 → ∀ k, 3000010 + 200 * r ≤ k → impl_combined_impl_without.f k r a b = some (NF r fun p => wo (mem a p) (mem b p)) := by
 have hop : ∀ x y : Bool, impl_without.f x y = some (wo x y) := by intro x y; cases x <;> cases y <;> rfl
 intro r
 induction r with
 | zero =>
  intro _ a b ha hb hla hlb k hk
  obtain ⟨k, rfl⟩ : ∃ m, k = m + 1 := ⟨k - 1, by omega⟩
  have e1 : decide ((a.length : Int) > 0) = mem a [] := by rw [mem_zero ha]; exact decide_eq_decide.2 (by omega)
  have e2 : decide ((b.length : Int) > 0) = mem b [] := by rw [mem_zero hb]; exact decide_eq_decide.2 (by omega)
  rw [impl_combined_impl_without.f, if_pos (by rfl), hop, e1, e2]
  simp only [Option.bind_some, NF]
  split <;> rfl
 | succ r ih =>
  intro hr a b ha hb hla hlb k hk
  obtain ⟨k, rfl⟩ : ∃ m, k = m + 1 := ⟨k - 1, by omega⟩
  have hM : ∀ P, (NF r P).length ≤ 68921 := fun P => Nat.le_trans (NF_len r P) (by
   have : r = 0 ∨ r = 1 ∨ r = 2 := by omega
   rcases this with rfl | rfl | rfl <;> decide)
  have loop : ∀ (d x k : Nat) (out run : List S42) (beg : Int), x + d = 41 → out.length ≤ x * 68921 → run.length ≤ 68921 → Rows r run → 3000010 + 200 * r + 3 * d < k →
   impl_combined_impl_without.l0 k ((r + 1 : Nat) : Int) a b out run beg (x : Int) = some (rle (fun x => if x < 40 then NF r (fun p => wo (mem a ((x : Int) :: p)) (mem b ((x : Int) :: p))) else []) d x out run beg) := by
   intro d
   induction d with
   | zero =>
    intro x k out run beg hx ho hrun hrows hk
    obtain ⟨k, rfl⟩ : ∃ m, k = m + 1 := ⟨k - 1, by omega⟩
    rw [impl_combined_impl_without.l0, if_neg (by omega)]
    rfl
   | succ d ihd =>
    intro x k out run beg hx ho hrun hrows hk
    obtain ⟨k, rfl⟩ : ∃ m, k = m + 2 := ⟨k - 2, by omega⟩
    have hj : ∀ now : List S42, now = (if x < 40 then NF r (fun p => wo (mem a ((x : Int) :: p)) (mem b ((x : Int) :: p))) else []) → impl_combined_impl_without.j2 (k + 1) ((r + 1 : Nat) : Int) a b out run beg (x : Int) now (x : Int) = some (rle (fun x => if x < 40 then NF r (fun p => wo (mem a ((x : Int) :: p)) (mem b ((x : Int) :: p))) else []) (d + 1) x out run beg) := by
     intro now hnow
     have hn1 : now.length ≤ 68921 := by rw [hnow]; split; exact hM _; simp
     have hn2 : Rows r now := by rw [hnow]; split; exact NF_rows _ _; exact rows_nil _
     rw [impl_combined_impl_without.j2, same_impl r (by omega) now run (by omega) hn2 k (by omega), wrap_up x (by omega)]
     simp only [Option.bind_some, decide_eq_true_eq]
     unfold rle
     rw [← hnow]
     by_cases he : now = run
     · rw [if_pos he, if_pos he]
       exact ihd (x + 1) k out run beg (by omega) (Nat.le_trans ho (Nat.mul_le_mul_right _ (Nat.le_succ x))) hrun hrows (by omega)
     · rw [if_neg he, if_neg he, prefixed_impl (by omega : r ≤ 3) run beg x hrows (by omega) k (by omega)]
       simp only [Option.bind_some]
       have hpl := pre_len run beg x
       have hxm : x * 68921 ≤ 41 * 68921 := Nat.mul_le_mul_right 68921 (by omega)
       rw [if_pos (by rw [hpl]; omega)]
       exact ihd (x + 1) k _ now x (by omega) (by rw [List.length_append, hpl, Nat.add_mul]; omega) hn1 hn2 (by omega)
    rw [impl_combined_impl_without.l0, if_pos (by omega)]
    by_cases h40 : x < 40
    ·
     rw [if_pos (by omega), section_impl a x ha (by omega) (k + 1) (by omega), section_impl b x hb (by omega) (k + 1) (by omega)]
     simp only [Option.bind_some]
     rw [show wrap64 (((r + 1 : Nat) : Int) - 1) = (r : Int) by unfold wrap64; omega]
     rw [ih (by omega) _ _ (sec_VL x ha) (sec_VL x hb) (Nat.le_trans (sec_len _ _) hla) (Nat.le_trans (sec_len _ _) hlb) (k + 1) (by omega)]
     simp only [Option.bind_some]
     refine hj _ ?_
     rw [if_pos h40]
     congr 1
     funext p
     rw [sec_mem _ _ ha, sec_mem _ _ hb]
    · rw [if_neg (by omega)]
      exact hj _ (by rw [if_neg h40])
  have start : ∀ t : Bool, (t = true → a = [] ∧ b = []) → impl_combined_impl_without.j0 k ((r + 1 : Nat) : Int) a b t = some (NF (r + 1) fun p => wo (mem a p) (mem b p)) := by
   intro t ht
   obtain ⟨k, rfl⟩ : ∃ m, k = m + 1 := ⟨k - 1, by omega⟩
   rw [impl_combined_impl_without.j0]
   cases t with
   | true =>
    obtain ⟨rfl, rfl⟩ := ht rfl
    rw [if_pos rfl]
    exact congrArg some (NF_false (r + 1)).symm
   | false =>
    rw [if_neg (by decide)]
    exact loop 41 0 k [] [] 0 (by omega) (by simp) (by simp) (rows_nil _) (by omega)
  rw [impl_combined_impl_without.f, if_neg (by omega)]
  by_cases h0 : (a.length : Int) = 0
  · rw [if_pos h0]
    exact start _ (fun h => ⟨List.length_eq_zero_iff.1 (by omega), List.length_eq_zero_iff.1 (by have := eq_of_beq h; omega)⟩)
  · rw [if_neg h0]
    exact start _ (fun h => by cases h)
theorem spec_l00Same_is (k : Nat) (a b : List Int) (hl : a.length ≤ 1048576) (hk : 1048590 ≤ k) : spec_l00Same.f k a b = some (decide (a = b)) := by
 unfold spec_l00Same.f
 by_cases hn : (a.length : Int) = (b.length : Int)
 ·
  rw [if_pos hn, seq_loop (fun k i => spec_l00Same.l0 k a b i) (fun i => rd a (i : Int) = rd b (i : Int)) a.length
   (by intro k; show spec_l00Same.l0 (k + 1) a b _ = _; rw [spec_l00Same.l0, if_neg (by omega)])
   (by
    intro k i hi
    show spec_l00Same.l0 (k + 1) a b _ = _
    rw [spec_l00Same.l0]
    repeat rw [if_pos (show (i : Int) < (a.length : Int) by omega)]
    repeat rw [if_pos (show (0 : Int) ≤ (i : Int) by omega)]
    repeat rw [if_pos (show (i : Int) < (a.length : Int) by omega)]
    repeat rw [if_pos (show (i : Int) < (b.length : Int) by omega)]
    rw [wrap_up i (by omega)])
   k (by omega)]
  have hb : a.length = b.length := by omega
  congr 1
  apply decide_eq_decide.2
  constructor
  · intro h
    apply List.ext_getElem hb
    intro i h1 h2
    have := h i h1
    rwa [rd_lt a i h1, rd_lt b i h2] at this
  · rintro rfl i _
    rfl
 · rw [if_neg hn, decide_eq_false]
   rintro rfl
   exact hn rfl
def insL (n : Int) : List Int → List Int
 | [] => [n]
 | y :: ys => if y ≥ n then (if y > n then n :: y :: ys else y :: ys) else y :: insL n ys
theorem ins_mem (n x : Int) : ∀ l : List Int, x ∈ insL n l ↔ x = n ∨ x ∈ l
 | [] => by simp [insL]
 | y :: ys => by
  unfold insL
  have ih := ins_mem n x ys
  split
  · split
    · simp
    · have : y = n := by omega
      subst this
      simp
  ·
   simp only [List.mem_cons, ih]
   constructor
   · rintro (h | h | h)
     · exact .inr (.inl h)
     · exact .inl h
     · exact .inr (.inr h)
   · rintro (h | h | h)
     · exact .inr (.inl h)
     · exact .inl h
     · exact .inr (.inr h)
theorem ins_sorted (n : Int) : ∀ {l : List Int}, l.Pairwise (· < ·) → (insL n l).Pairwise (· < ·)
 | [], _ => by simp [insL]
 | y :: ys, h => by
  unfold insL
  have h1 := List.pairwise_cons.1 h
  split
  · split
    · refine List.pairwise_cons.2 ⟨fun z hz => ?_, h⟩
      rcases List.mem_cons.1 hz with rfl | hz
      · omega
      · have := h1.1 z hz; omega
    · exact h
  · refine List.pairwise_cons.2 ⟨fun z hz => ?_, ins_sorted n h1.2⟩
    rcases (ins_mem n z ys).1 hz with rfl | hz
    · omega
    · exact h1.1 z hz
theorem ins_len (n : Int) : ∀ l : List Int, (insL n l).length ≤ l.length + 1
 | [] => by simp [insL]
 | y :: ys => by
  unfold insL
  have := ins_len n ys
  split
  · split <;> simp
  · simp; omega
theorem dropi (l : List Int) (i : Nat) (h : i < l.length) : l.drop i = rd l (i : Int) :: l.drop (i + 1) := by rw [rd_lt l i h]; exact List.drop_eq_getElem_cons h
theorem put_spec (l : List Int) (n : Int) (hl : l.length ≤ 1048576) (k : Nat) (hk : 2 * l.length + 2 < k) : spec_l00Put.f k l n = some (insL n l) := by
 have done : ∀ (d i k : Nat) (out : List Int), i + d = l.length → out.length ≤ i + 1 → 2 * d < k → spec_l00Put.l0 k l n out true (i : Int) = some (out ++ l.drop i) := by
  intro d
  induction d with
  | zero =>
   intro i k out hi ho hk
   obtain ⟨k, rfl⟩ : ∃ m, k = m + 1 := ⟨k - 1, by omega⟩
   rw [spec_l00Put.l0, if_neg (by omega), if_pos rfl, List.drop_eq_nil_of_le (by omega), List.append_nil]
  | succ d ih =>
   intro i k out hi ho hk
   obtain ⟨k, rfl⟩ : ∃ m, k = m + 2 := ⟨k - 2, by omega⟩
   rw [spec_l00Put.l0, if_pos (by omega), if_pos rfl, spec_l00Put.j1, if_neg (by decide), if_pos (by omega), if_pos (by omega), if_pos (by omega), wrap_up i (by omega), ih (i + 1) k _ (by omega) (by simp; omega) (by omega), dropi l i (by omega), List.append_assoc]
   rfl
 have todo : ∀ (d i k : Nat) (out : List Int), i + d = l.length → out.length ≤ i → 2 * d < k → spec_l00Put.l0 k l n out false (i : Int) = some (out ++ insL n (l.drop i)) := by
  intro d
  induction d with
  | zero =>
   intro i k out hi ho hk
   obtain ⟨k, rfl⟩ : ∃ m, k = m + 1 := ⟨k - 1, by omega⟩
   rw [spec_l00Put.l0, if_neg (by omega), if_neg (by decide), if_pos (by omega), List.drop_eq_nil_of_le (by omega)]
   rfl
  | succ d ih =>
   intro i k out hi ho hk
   obtain ⟨k, rfl⟩ : ∃ m, k = m + 2 := ⟨k - 2, by omega⟩
   rw [spec_l00Put.l0, if_pos (by omega), if_neg (by decide), if_pos (by omega), spec_l00Put.j1, dropi l i (by omega)]
   unfold insL
   by_cases h1 : rd l (i : Int) ≥ n
   ·
    rw [if_pos (decide_eq_true h1), if_pos h1, if_pos (by omega), if_pos (by omega)]
    by_cases h2 : rd l (i : Int) > n
    · rw [if_pos h2, if_pos h2, if_pos (by omega)]
      simp only [Option.bind_some]
      rw [if_pos (by simp; omega), wrap_up i (by omega), done d (i + 1) k _ (by omega) (by simp; omega) (by omega)]
      simp
    · rw [if_neg h2, if_neg h2, if_pos (by omega), wrap_up i (by omega), done d (i + 1) k _ (by omega) (by simp; omega) (by omega)]
      simp
   · rw [if_neg (by simpa using h1), if_neg h1, if_pos (by omega), if_pos (by omega), if_pos (by omega), wrap_up i (by omega), ih (i + 1) k _ (by omega) (by simp; omega) (by omega)]
     simp
 unfold spec_l00Put.f
 have := todo l.length 0 k [] (by omega) (by simp) (by omega)
 simpa using this
def cutsL : List Int → List S42 → List Int
 | c, [] => c
 | c, b :: l => cutsL (insL (rd b.f1 0) (insL (rd b.f0 0) c)) l
theorem cuts_mem (x : Int) : ∀ (l : List S42) (c : List Int), x ∈ cutsL c l ↔ x ∈ c ∨ ∃ b ∈ l, x = rd b.f0 0 ∨ x = rd b.f1 0
 | [], c => by simp [cutsL]
 | b :: l, c => by
  unfold cutsL
  rw [cuts_mem x l, ins_mem, ins_mem]
  constructor
  · rintro ((h | h | h) | ⟨z, h1, h2⟩)
    · exact .inr ⟨b, List.mem_cons_self, .inr h⟩
    · exact .inr ⟨b, List.mem_cons_self, .inl h⟩
    · exact .inl h
    · exact .inr ⟨z, List.mem_cons_of_mem _ h1, h2⟩
  ·
   rintro (h | ⟨z, h1, h2⟩)
   · exact .inl (.inr (.inr h))
   · rcases List.mem_cons.1 h1 with rfl | h1
     · rcases h2 with h2 | h2
       · exact .inl (.inr (.inl h2))
       · exact .inl (.inl h2)
     · exact .inr ⟨z, h1, h2⟩
theorem cuts_sorted : ∀ (l : List S42) (c : List Int), c.Pairwise (· < ·) → (cutsL c l).Pairwise (· < ·)
 | [], _, h => h
 | b :: l, c, h => cuts_sorted l _ (ins_sorted _ (ins_sorted _ h))
theorem cuts_len : ∀ (l : List S42) (c : List Int), (cutsL c l).length ≤ c.length + 2 * l.length
 | [], _ => by simp [cutsL]
 | b :: l, c => by
  unfold cutsL
  have := cuts_len l (insL (rd b.f1 0) (insL (rd b.f0 0) c))
  have h1 := ins_len (rd b.f1 0) (insL (rd b.f0 0) c)
  have h2 := ins_len (rd b.f0 0) c
  simp only [List.length_cons]
  omega
theorem cuts_spec {r : Nat} (l : List S42) (h : VL (r + 1) l) (hl : l.length ≤ 100000) : ∀ (d i k : Nat) (c : List Int), i + d = l.length → c.length + 2 * d ≤ 400000 → 1000000 + d < k → spec_l07Cuts.l0 k c l (i : Int) = some (cutsL c (l.drop i)) := by
 intro d
 induction d with
 | zero =>
  intro i k c hi hc hk
  obtain ⟨k, rfl⟩ : ∃ m, k = m + 1 := ⟨k - 1, by omega⟩
  rw [spec_l07Cuts.l0, if_neg (by omega), List.drop_eq_nil_of_le (by omega)]
  rfl
 | succ d ih =>
  intro i k c hi hc hk
  obtain ⟨k, rfl⟩ : ∃ m, k = m + 1 := ⟨k - 1, by omega⟩
  have hil : i < l.length := by omega
  have hq := h _ (List.getElem_mem hil)
  have h1 := ins_len (rd l[i].f0 0) c
  have h2 := ins_len (rd l[i].f1 0) (insL (rd l[i].f0 0) c)
  rw [spec_l07Cuts.l0, if_pos (by omega), if_pos (by omega), rd_at l i hil, if_pos (by rw [hq.1]; omega), put_spec c _ (by omega) k (by omega)]
  simp only [Option.bind_some]
  rw [if_pos (by rw [hq.2.1]; omega), put_spec _ _ (by omega) k (by omega)]
  simp only [Option.bind_some]
  rw [wrap_up i (by omega), ih (i + 1) k _ (by omega) (by omega) (by omega), drop_at l i hil]
  rfl
theorem cross_spec {r : Nat} (l : List S42) (x : Int) (h : VL (r + 1) l) (hl : l.length ≤ 1048576) (k : Nat) (hk : l.length < k) : spec_l07Cross.f k l x = some (secB x l) := by
 have key : ∀ (d i k : Nat) (out : List S42), i + d = l.length → out.length ≤ i → d < k → spec_l07Cross.l0 k l x out (i : Int) = some (out ++ secB x (l.drop i)) := by
  intro d
  induction d with
  | zero =>
   intro i k out hi ho hk
   obtain ⟨k, rfl⟩ : ∃ m, k = m + 1 := ⟨k - 1, by omega⟩
   rw [spec_l07Cross.l0, if_neg (by omega), List.drop_eq_nil_of_le (by omega)]
   simp [secB]
  | succ d ih =>
   intro i k out hi ho hk
   obtain ⟨k, rfl⟩ : ∃ m, k = m + 1 := ⟨k - 1, by omega⟩
   have hil : i < l.length := by omega
   obtain ⟨a, ah, c, cs, e, h4, h5⟩ := VB_cons (h _ (List.getElem_mem hil))
   rw [spec_l07Cross.l0, if_pos (by omega), if_pos (by omega), rd_at l i hil, drop_at l i hil, sec_cons, e]
   have hwc : wrap64 (c - 1) = c - 1 := wrap64_id (by omega) (by omega)
   rw [if_pos (by simp), if_pos (by simp), in_eq, wrap_up i (by omega)]
   simp only [Option.bind_some, rd_cons0, decide_eq_true_eq, hwc]
   by_cases hx : a ≤ x ∧ x ≤ c - 1
   · rw [if_pos hx, if_pos (by simp; omega), if_pos (by simp; omega), if_pos (by omega), if_pos (show inR x ⟨a :: ah, c :: cs⟩ = true from decide_eq_true hx)]
     rw [ih (i + 1) k _ (by omega) (by simp; omega) (by omega), List.append_assoc]
     rfl
   · rw [if_neg hx, if_neg (show ¬ inR x ⟨a :: ah, c :: cs⟩ = true from fun e => hx (of_decide_eq_true e))]
     exact ih (i + 1) k _ (by omega) (by omega) (by omega)
 unfold spec_l07Cross.f
 have := key l.length 0 k [] (by omega) (by simp) hk
 simpa using this
theorem same_spec (r : Nat) (hr : r ≤ 3) (l m : List S42) (hl : l.length ≤ 1048576) (hR : Rows r l) (k : Nat) (hk : 3000000 ≤ k) : spec_l07Same.f k l m = some (decide (l = m)) := by
 unfold spec_l07Same.f
 by_cases h1 : l.length = m.length
 ·
  rw [if_pos (by omega), all_loop (fun k i => spec_l07Same.l0 k l m i) (fun i => (rd_T42 l (i : Int)).f0 = (rd_T42 m (i : Int)).f0 ∧ (rd_T42 l (i : Int)).f1 = (rd_T42 m (i : Int)).f1) l.length 1048590 true
   (by intro k _; show spec_l07Same.l0 (k + 1) l m _ = _; rw [spec_l07Same.l0, if_neg (by omega)])
   (by
    intro k i hk hi
    show spec_l07Same.l0 (k + 1) l m _ = _
    have hq : (rd_T42 l (i : Int)).f0.length = r ∧ (rd_T42 l (i : Int)).f1.length = r := by rw [rd_at l i hi]; exact hR _ (List.getElem_mem hi)
    rw [spec_l07Same.l0, if_pos (by omega), if_pos (by omega), if_pos (by omega), wrap_up i (by omega)]
    unfold spec_l07SameBox.f
    rw [spec_l00Same_is k _ _ (by omega) hk, spec_l00Same_is k _ _ (by omega) hk]
    simp only [Option.bind_some, decide_eq_true_eq]
    by_cases h0 : (rd_T42 l (i : Int)).f0 = (rd_T42 m (i : Int)).f0
    · rw [if_pos h0]
      simp only [Option.bind_some, decide_eq_true_eq]
      by_cases h2 : (rd_T42 l (i : Int)).f1 = (rd_T42 m (i : Int)).f1
      · rw [if_pos h2, if_pos ⟨h0, h2⟩]
      · rw [if_neg h2, if_neg (fun h => h2 h.2)]
    · rw [if_neg h0]
      simp only [Option.bind_some, Bool.false_eq_true, if_false]
      rw [if_neg (fun h => h0 h.1)])
   k (by omega)]
  simp only [Bool.and_true]
  congr 1
  exact decide_eq_decide.2 (same_eq l m h1)
 · rw [if_neg (by omega), decide_eq_false (fun h => h1 (by rw [h]))]
def rleS (F : Int → List S42) : List Int → List S42 → List S42 → Int → List S42
 | [], out, _, _ => out
 | c :: cs, out, run, beg => if F c = run then rleS F cs out run beg else rleS F cs (out ++ pre run beg c) (F c) c
def rleFirst (F : Int → List S42) : List Int → List S42
 | [] => []
 | c :: cs => rleS F cs [] (F c) c
theorem rle_beg (f : Nat → List S42) : ∀ (d x : Nat) (out : List S42) (b b' : Int), rle f d x out [] b = rle f d x out [] b' := by
 intro d
 induction d with
 | zero => intro x out b b'; rfl
 | succ d ih =>
  intro x out b b'
  unfold rle
  split
  · exact ih _ _ _ _
  · rw [pre_nil, pre_nil]
theorem rle_cuts (F : Int → List S42) (C : List Int) (hF : ∀ y : Nat, 1 ≤ y → y ≤ 40 → (y : Int) ∉ C → F y = F ((y : Int) - 1)) : ∀ (d x : Nat) (cs : List Int) (out run : List S42) (beg : Int), x + d = 41 → 1 ≤ x → cs.Pairwise (· < ·) → (∀ c ∈ cs, (x : Int) ≤ c ∧ c ≤ 40) → (∀ y : Nat, x ≤ y → (y : Int) ∈ C → (y : Int) ∈ cs) → run = F ((x : Int) - 1) →
 rleS F cs out run beg = rle (fun n => F n) d x out run beg := by
 intro d
 induction d with
 | zero =>
  intro x cs out run beg hx h1 hs hc hC hrun
  cases cs with
  | nil => rfl
  | cons c cs => have := hc c List.mem_cons_self; omega
 | succ d ih =>
  intro x cs out run beg hx h1 hs hc hC hrun
  have hx1 : (((x + 1 : Nat) : Int) - 1) = (x : Int) := by omega
  unfold rle
  by_cases hm : (x : Int) ∈ cs
  ·
   obtain ⟨cs', rfl⟩ : ∃ cs', cs = (x : Int) :: cs' := by
    cases cs with
    | nil => cases hm
    | cons c cs' =>
     rcases List.mem_cons.1 hm with h | h
     · exact ⟨cs', by rw [h]⟩
     · have := (List.pairwise_cons.1 hs).1 _ h
       have := (hc c List.mem_cons_self).1
       omega
   have hs' := List.pairwise_cons.1 hs
   have hc' : ∀ c ∈ cs', ((x + 1 : Nat) : Int) ≤ c ∧ c ≤ 40 := fun c h => by
    have := hs'.1 c h
    have := (hc c (List.mem_cons_of_mem _ h)).2
    omega
   have hC' : ∀ y : Nat, x + 1 ≤ y → (y : Int) ∈ C → (y : Int) ∈ cs' := fun y hy h => by
    rcases List.mem_cons.1 (hC y (by omega) h) with e | e
    · omega
    · exact e
   unfold rleS
   by_cases he : F (x : Int) = run
   · rw [if_pos he, if_pos he]
     exact ih (x + 1) cs' out run beg (by omega) (by omega) hs'.2 hc' hC' (by rw [hx1]; exact he.symm)
   · rw [if_neg he, if_neg he]
     exact ih (x + 1) cs' _ _ _ (by omega) (by omega) hs'.2 hc' hC' (by rw [hx1])
  ·
   have hn : (x : Int) ∉ C := fun h => hm (hC x (Nat.le_refl _) h)
   have he : F (x : Int) = run := by rw [hF x h1 (by omega) hn, hrun]
   rw [if_pos he]
   refine ih (x + 1) cs out run beg (by omega) (by omega) hs (fun c h => ?_) (fun y hy h => hC y (by omega) h) (by rw [hx1]; exact he.symm)
   have h2 := hc c h
   have h3 : c ≠ (x : Int) := fun e => hm (e ▸ h)
   omega
theorem rle_first (F : Int → List S42) (C : List Int) (hs : C.Pairwise (· < ·)) (hF : ∀ y : Nat, 1 ≤ y → y ≤ 40 → (y : Int) ∉ C → F y = F ((y : Int) - 1)) (hF0 : ∀ y : Nat, (∀ c ∈ C, (y : Int) < c) → F y = []) (hC : ∀ c ∈ C, 0 ≤ c ∧ c ≤ 40) : ∀ (d x : Nat), x + d = 41 → (∀ c ∈ C, (x : Int) ≤ c) →
 rleFirst F C = rle (fun n => F n) d x [] [] 0 := by
 intro d
 induction d with
 | zero =>
  intro x hx h
  cases C with
  | nil => rfl
  | cons c cs => have := h c List.mem_cons_self; have := (hC c List.mem_cons_self).2; omega
 | succ d ih =>
  intro x hx h
  have hx1 : (((x + 1 : Nat) : Int) - 1) = (x : Int) := by omega
  by_cases hm : (x : Int) ∈ C
  ·
   obtain ⟨cs', e⟩ : ∃ cs', C = (x : Int) :: cs' := by
    cases C with
    | nil => cases hm
    | cons c cs' =>
     rcases List.mem_cons.1 hm with h1 | h1
     · exact ⟨cs', by rw [h1]⟩
     · have := (List.pairwise_cons.1 hs).1 _ h1
       have := h c List.mem_cons_self
       omega
   subst e
   have hs' := List.pairwise_cons.1 hs
   have h5 : rleS F cs' [] (F (x : Int)) (x : Int) = rle (fun n => F n) d (x + 1) [] (F (x : Int)) (x : Int) :=
    rle_cuts F _ hF d (x + 1) cs' [] _ _ (by omega) (by omega) hs'.2 (fun c h1 => ⟨by have := hs'.1 c h1; omega, (hC c (List.mem_cons_of_mem _ h1)).2⟩) (fun y hy h1 => by
     rcases List.mem_cons.1 h1 with e | e
     · omega
     · exact e) (by rw [hx1])
   show rleS F cs' [] (F (x : Int)) (x : Int) = _
   rw [h5]
   conv => rhs; unfold rle
   by_cases he : F (x : Int) = []
   · rw [if_pos he, he]
     exact rle_beg _ _ _ _ _ _
   · rw [if_neg he, pre_nil]
     rfl
  ·
   have he : F (x : Int) = [] := hF0 x (fun c hc => by
    have h2 := h c hc
    have h3 : c ≠ (x : Int) := fun e => hm (e ▸ hc)
    omega)
   rw [ih (x + 1) (by omega) (fun c hc => by
    have h2 := h c hc
    have h3 : c ≠ (x : Int) := fun e => hm (e ▸ hc)
    omega)]
   conv => rhs; unfold rle
   rw [if_pos he]
theorem mem_lt {l : List S42} {r : Nat} (h : VL (r + 1) l) (p : List Int) (x : Int) (hc : ∀ b ∈ l, x < rd b.f0 0) : mem l (x :: p) = false := by
 unfold mem
 rw [List.any_eq_false]
 intro b hb
 obtain ⟨a, ah, e, es, rfl, h4, h5⟩ := VB_cons (h b hb)
 have := hc _ hb
 rw [show rd (S42.mk (a :: ah) (e :: es)).f0 0 = a from rfl] at this
 show ¬ ((decide (a ≤ x) && decide (x < e)) && inBx ah es p) = true
 rw [show decide (a ≤ x) = false from decide_eq_false (by omega)]
 simp
theorem mem_step {r : Nat} (p : List Int) (x : Int) : ∀ {l : List S42}, VL (r + 1) l → (∀ b ∈ l, rd b.f0 0 ≠ x ∧ rd b.f1 0 ≠ x) → mem l (x :: p) = mem l ((x - 1) :: p)
 | [], _, _ => rfl
 | b :: l, h, hc => by
  obtain ⟨h1, h2⟩ := VL_cons.1 h
  obtain ⟨a, ah, c, cs, rfl, h4, h5⟩ := VB_cons h1
  have h6 := hc _ List.mem_cons_self
  rw [show rd (S42.mk (a :: ah) (c :: cs)).f0 0 = a from rfl, show rd (S42.mk (a :: ah) (c :: cs)).f1 0 = c from rfl] at h6
  rw [mem_cons, mem_cons, mem_step p x h2 (fun b hb => hc b (List.mem_cons_of_mem _ hb))]
  show (((decide (a ≤ x) && decide (x < c)) && inBx ah cs p) || _) = (((decide (a ≤ x - 1) && decide (x - 1 < c)) && inBx ah cs p) || _)
  rw [show decide (a ≤ x) = decide (a ≤ x - 1) from decide_eq_decide.2 (by omega), show decide (x < c) = decide (x - 1 < c) from decide_eq_decide.2 (by omega)]
theorem sorted_len : ∀ (l : List Int) (lo hi : Int), l.Pairwise (· < ·) → (∀ c ∈ l, lo ≤ c ∧ c ≤ hi) → lo ≤ hi + 1 → (l.length : Int) ≤ hi - lo + 1
 | [], lo, hi, _, _, h => by simp; omega
 | y :: ys, lo, hi, hs, hc, h => by
  have hs' := List.pairwise_cons.1 hs
  have hy := hc y List.mem_cons_self
  have := sorted_len ys (y + 1) hi hs'.2 (fun c h1 => ⟨by have := hs'.1 c h1; omega, (hc c (List.mem_cons_of_mem _ h1)).2⟩) (by omega)
  simp only [List.length_cons]
  omega
theorem VL_first {r : Nat} {l : List S42} (h : VL (r + 1) l) : ∀ b ∈ l, (0 ≤ rd b.f0 0 ∧ rd b.f0 0 ≤ 40) ∧ 0 ≤ rd b.f1 0 ∧ rd b.f1 0 ≤ 40 := fun b hb => by
 obtain ⟨a, ah, c, cs, rfl, h4, h5⟩ := VB_cons (h b hb)
 exact ⟨⟨h4.1, by show a ≤ 40; omega⟩, by show 0 ≤ c; omega, h4.2.2⟩
def FF (g : Bool → Bool → Bool) (r : Nat) (a b : List S42) (c : Int) : List S42 := if c < 40 then NF r (fun p => g (mem a (c :: p)) (mem b (c :: p))) else []
def KS : Nat → Nat
 | 0 => 4000000
 | r + 1 => KS r + 4000000
theorem KS_ge : ∀ r, 4000000 ≤ KS r
 | 0 => Nat.le_refl _
 | r + 1 => Nat.le_trans (KS_ge r) (Nat.le_add_right _ _)
theorem comb_spec (o : Int) (g : Bool → Bool → Bool) (hg : ∀ x y, spec_l07Holds.f o x y = some (g x y)) (h0 : g false false = false) : ∀ (r : Nat), r ≤ 3 → ∀ (a b : List S42), VL r a → VL r b → a.length ≤ 100000 → b.length ≤ 100000 → ∀ k, KS r ≤ k → spec_l07Combine.f k o a b r = some (NF r fun p => g (mem a p) (mem b p)) := by
 intro r
 induction r with
 | zero =>
  intro _ a b ha hb hla hlb k hk
  have hKr := KS_ge 0
  obtain ⟨k, rfl⟩ : ∃ m, k = m + 1 := ⟨k - 1, by omega⟩
  have e1 : decide ((a.length : Int) > 0) = mem a [] := by rw [mem_zero ha]; exact decide_eq_decide.2 (by omega)
  have e2 : decide ((b.length : Int) > 0) = mem b [] := by rw [mem_zero hb]; exact decide_eq_decide.2 (by omega)
  rw [spec_l07Combine.f]
  simp only [Option.bind_some]
  rw [if_pos (by rfl), hg, e1, e2]
  simp only [Option.bind_some, NF]
  split
  · rw [if_pos (by simp)]; rfl
  · rfl
 | succ r ih =>
  intro hr a b ha hb hla hlb k hk
  have hKS : KS (r + 1) = KS r + 4000000 := rfl
  have hKr := KS_ge r
  rw [hKS] at hk
  obtain ⟨k, rfl⟩ : ∃ m, k = m + 1 := ⟨k - 1, by omega⟩
  have hk3 : 3000000 ≤ k := by omega
  have hk4 : KS r + 3000000 < k := by omega
  have hM : ∀ P, (NF r P).length ≤ 68921 := fun P => Nat.le_trans (NF_len r P) (by
   have : r = 0 ∨ r = 1 ∨ r = 2 := by omega
   rcases this with rfl | rfl | rfl <;> decide)
  have hFM : ∀ c, (FF g r a b c).length ≤ 68921 := fun c => by unfold FF; split; exact hM _; simp
  have hFR : ∀ c, Rows r (FF g r a b c) := fun c => by unfold FF; split; exact NF_rows _ _; exact rows_nil _
  obtain ⟨C, hCe⟩ : ∃ C, C = cutsL (cutsL [] a) b := ⟨_, rfl⟩
  have hCs : C.Pairwise (· < ·) := by rw [hCe]; exact cuts_sorted _ _ (cuts_sorted _ _ List.Pairwise.nil)
  have hCm : ∀ x, x ∈ C ↔ (∃ q ∈ a, x = rd q.f0 0 ∨ x = rd q.f1 0) ∨ ∃ q ∈ b, x = rd q.f0 0 ∨ x = rd q.f1 0 := fun x => by
   rw [hCe, cuts_mem, cuts_mem]
   simp
  have hA := VL_first ha
  have hB := VL_first hb
  have hCb : ∀ c ∈ C, 0 ≤ c ∧ c ≤ 40 := fun c hc => by
   rcases (hCm c).1 hc with ⟨q, h1, h2⟩ | ⟨q, h1, h2⟩
   · have := hA q h1; omega
   · have := hB q h1; omega
  have hCl : C.length ≤ 41 := by have := sorted_len C 0 40 hCs hCb (by omega); omega
  have hF40 : ∀ c : Int, ¬ c < 40 → FF g r a b c = [] := fun c h => by unfold FF; rw [if_neg h]
  have hnone : ∀ c : Int, (∀ p, mem a (c :: p) = false) → (∀ p, mem b (c :: p) = false) → FF g r a b c = [] := fun c h1 h2 => by
   unfold FF
   split
   · rw [show (fun p => g (mem a (c :: p)) (mem b (c :: p))) = fun _ => false from by funext p; rw [h1, h2, h0]]
     exact NF_false r
   · rfl
  have hlast : ∀ c : Int, (∀ x ∈ C, x ≤ c) → FF g r a b c = [] := fun c h =>
   hnone c (fun p => mem_ge ha c (fun q hq => h _ ((hCm _).2 (.inl ⟨q, hq, .inr rfl⟩))) p c (by omega)) (fun p => mem_ge hb c (fun q hq => h _ ((hCm _).2 (.inr ⟨q, hq, .inr rfl⟩))) p c (by omega))
  have hF0 : ∀ y : Nat, (∀ c ∈ C, (y : Int) < c) → FF g r a b y = [] := fun y h =>
   hnone y (fun p => mem_lt ha p y (fun q hq => h _ ((hCm _).2 (.inl ⟨q, hq, .inl rfl⟩)))) (fun p => mem_lt hb p y (fun q hq => h _ ((hCm _).2 (.inr ⟨q, hq, .inl rfl⟩))))
  have hF : ∀ y : Nat, 1 ≤ y → y ≤ 40 → (y : Int) ∉ C → FF g r a b y = FF g r a b ((y : Int) - 1) := fun y h1 h2 hn => by
   have ea : ∀ p, mem a ((y : Int) :: p) = mem a (((y : Int) - 1) :: p) := fun p => mem_step p y ha (fun q hq => ⟨fun e => hn ((hCm _).2 (.inl ⟨q, hq, .inl e.symm⟩)), fun e => hn ((hCm _).2 (.inl ⟨q, hq, .inr e.symm⟩))⟩)
   have eb : ∀ p, mem b ((y : Int) :: p) = mem b (((y : Int) - 1) :: p) := fun p => mem_step p y hb (fun q hq => ⟨fun e => hn ((hCm _).2 (.inr ⟨q, hq, .inl e.symm⟩)), fun e => hn ((hCm _).2 (.inr ⟨q, hq, .inr e.symm⟩))⟩)
   by_cases h40 : y < 40
   · unfold FF
     rw [if_pos (by omega), if_pos (by omega)]
     congr 1
     funext p
     rw [ea, eb]
   · rw [hF40 y (by omega)]
     exact (hnone _ (fun p => by rw [← ea]; exact mem_ge ha 40 (fun q hq => (hA q hq).2.2) p y (by omega)) (fun p => by rw [← eb]; exact mem_ge hb 40 (fun q hq => (hB q hq).2.2) p y (by omega))).symm
  -- one round: what now is, and what follows
  have hlt : ∀ i : Nat, i < C.length → rd C (i : Int) ∈ C := fun i hi => by rw [rd_lt C i hi]; exact List.getElem_mem hi
  have hmono : ∀ i j : Nat, i < j → j < C.length → rd C (i : Int) < rd C (j : Int) := fun i j h1 h2 => by
   rw [rd_lt C i (by omega), rd_lt C j h2]
   exact List.pairwise_iff_getElem.1 hCs i j (by omega) h2 h1
  have round : ∀ (i k : Nat) (out run : List S42) (beg : Int) (R : Option (List S42)), i < C.length → KS r < k → (spec_l07Combine.j1 k o a b ((r + 1 : Nat) : Int) out C run beg (i : Int) (FF g r a b (rd C (i : Int))) = R) → spec_l07Combine.l0 (k + 1) o a b ((r + 1 : Nat) : Int) out C run beg (i : Int) = R := by
   intro i k out run beg R hi hk hR
   rw [spec_l07Combine.l0, if_pos (by omega), wrap_up i (by omega)]
   by_cases hl : i + 1 < C.length
   ·
    have hc40 : rd C (i : Int) < 40 := by have := hmono i (i + 1) (by omega) hl; have := (hCb _ (hlt (i + 1) hl)).2; omega
    rw [if_pos (by omega), if_pos (by omega), cross_spec a _ ha (by omega) k (by omega), cross_spec b _ hb (by omega) k (by omega)]
    simp only [Option.bind_some]
    rw [show wrap64 (((r + 1 : Nat) : Int) - 1) = (r : Int) by unfold wrap64; omega]
    rw [ih (by omega) _ _ (sec_VL _ ha) (sec_VL _ hb) (Nat.le_trans (sec_len _ _) hla) (Nat.le_trans (sec_len _ _) hlb) k (by omega)]
    simp only [Option.bind_some]
    have e : NF r (fun p => g (mem (secB (rd C (i : Int)) a) p) (mem (secB (rd C (i : Int)) b) p)) = FF g r a b (rd C (i : Int)) := by
     unfold FF
     rw [if_pos hc40]
     congr 1
     funext p
     rw [sec_mem _ _ ha, sec_mem _ _ hb]
    rw [e]
    exact hR
   ·
    rw [if_neg (by omega)]
    have e : FF g r a b (rd C (i : Int)) = [] := hlast _ (fun x hx => by
     obtain ⟨j, hj, rfl⟩ := List.mem_iff_getElem.1 hx
     by_cases hji : j = i
     · subst hji; rw [rd_lt C j hj]; exact Int.le_refl _
     · have := hmono j i (by omega) hi
       rw [rd_lt C j hj] at this
       omega)
    rw [e] at hR
    exact hR
  have put : ∀ (now run : List S42) (beg : Int) (i : Nat) (R : Option (List S42)) (K : Nat), i < C.length → Rows r run → run.length ≤ 68921 → ∀ (e q k : Nat) (out : List S42), q + e = run.length → out.length + e ≤ 2894682 →
   (∀ k', K ≤ k' → spec_l07Combine.l0 k' o a b ((r + 1 : Nat) : Int) (out ++ pre (run.drop q) beg (rd C (i : Int))) C now (rd C (i : Int)) ((i + 1 : Nat) : Int) = R) → K + e < k → spec_l07Combine.l1 k o a b ((r + 1 : Nat) : Int) out C run beg (i : Int) now (q : Int) = R := by
   intro now run beg i R K hi hrows hrl e
   induction e with
   | zero =>
    intro q k out hq ho hn hk
    obtain ⟨k, rfl⟩ : ∃ m, k = m + 1 := ⟨k - 1, by omega⟩
    have := hn k (by omega)
    rw [List.drop_eq_nil_of_le (by omega), pre_nil, List.append_nil] at this
    rw [spec_l07Combine.l1, if_neg (by omega), if_pos (by omega), if_pos (by omega), wrap_up i (by omega)]
    exact this
   | succ e ihe =>
    intro q k out hq ho hn hk
    obtain ⟨k, rfl⟩ : ∃ m, k = m + 1 := ⟨k - 1, by omega⟩
    have hql : q < run.length := by omega
    have hrow := hrows _ (List.getElem_mem hql)
    rw [spec_l07Combine.l1, if_pos (by omega)]
    simp only [Option.bind_some]
    rw [rd_at run q hql, if_pos (by omega), if_pos (by rw [hrow.1]; simp; omega), if_pos (by omega), if_pos (by omega), if_pos (by rw [hrow.2]; simp; omega), if_pos (by omega), wrap_up q (by omega)]
    refine ihe (q + 1) k _ (by omega) (by simp; omega) (fun k' hk' => ?_) (by omega)
    have := hn k' hk'
    rw [drop_at run q hql] at this
    rw [List.append_assoc]
    exact this
  have loop : ∀ (d i k : Nat) (out run : List S42) (beg : Int), i + d = C.length → 1 ≤ i → out.length ≤ i * 68921 → run.length ≤ 68921 → Rows r run → KS r + 70000 * d < k →
   spec_l07Combine.l0 k o a b ((r + 1 : Nat) : Int) out C run beg (i : Int) = some (rleS (FF g r a b) (C.drop i) out run beg) := by
   intro d
   induction d with
   | zero =>
    intro i k out run beg hi h1 ho hrl hrows hk
    obtain ⟨k, rfl⟩ : ∃ m, k = m + 1 := ⟨k - 1, by omega⟩
    rw [spec_l07Combine.l0, if_neg (by omega), List.drop_eq_nil_of_le (by omega)]
    rfl
   | succ d ihd =>
    intro i k out run beg hi h1 ho hrl hrows hk
    obtain ⟨k, rfl⟩ : ∃ m, k = m + 3 := ⟨k - 3, by omega⟩
    have hlen : out.length ≤ 2825761 := Nat.le_trans ho (Nat.mul_le_mul_right 68921 (by omega : i ≤ 41))
    refine round i (k + 2) out run beg _ (by omega) (by omega) ?_
    rw [spec_l07Combine.j1, if_pos (by omega), same_spec r (by omega) (FF g r a b (rd C (i : Int))) run (by have := hFM (rd C (i : Int)); omega) (hFR _) (k + 1) (by omega)]
    simp only [Option.bind_some]
    rw [spec_l07Combine.j2, dropi C i (by omega), wrap_up i (by omega)]
    unfold rleS
    by_cases he : FF g r a b (rd C (i : Int)) = run
    · rw [if_pos (decide_eq_true he), if_pos he]
      exact ihd (i + 1) k out run beg (by omega) (by omega) (Nat.le_trans ho (Nat.mul_le_mul_right _ (Nat.le_succ i))) hrl hrows (by omega)
    · rw [if_neg (by simpa using he), if_neg he]
      refine put _ run beg i _ (KS r + 70000 * d + 1) (by omega) hrows hrl run.length 0 k out (by omega) (by omega) (fun k' hk' => ?_) (by omega)
      rw [List.drop_zero]
      exact ihd (i + 1) k' _ _ _ (by omega) (by omega) (by rw [List.length_append, pre_len, Nat.add_mul]; omega) (hFM _) (hFR _) (by omega)
  have hcut : ∀ k, 3000000 ≤ k → (spec_l07Cuts.f k [] a).bind (fun t => spec_l07Cuts.f k t b) = some C := fun k hk => by
   unfold spec_l07Cuts.f
   have e1 := cuts_spec a ha hla a.length 0 k [] (by omega) (by simp; omega) (by omega)
   rw [List.drop_zero] at e1
   rw [show spec_l07Cuts.l0 k [] a 0 = _ from e1]
   simp only [Option.bind_some]
   have hl1 := cuts_len a []
   have e2 := cuts_spec b hb hlb b.length 0 k (cutsL [] a) (by omega) (by simp only [List.length_nil] at hl1; omega) (by omega)
   rw [List.drop_zero] at e2
   rw [show spec_l07Cuts.l0 k (cutsL [] a) b 0 = _ from e2, hCe]
  rw [spec_l07Combine.f]
  simp only [Option.bind_some]
  rw [if_neg (by omega)]
  have hc2 := hcut k hk3
  cases e1 : spec_l07Cuts.f k [] a with
  | none => rw [e1] at hc2; cases hc2
  | some t =>
   rw [e1] at hc2
   simp only [Option.bind_some] at hc2 ⊢
   rw [hc2]
   simp only [Option.bind_some]
   have hfin := rle_first (FF g r a b) C hCs hF hF0 hCb 41 0 (by omega) (fun c hc => (hCb c hc).1)
   have hNF : NF (r + 1) (fun p => g (mem a p) (mem b p)) = rle (fun n => FF g r a b n) 41 0 [] [] 0 := by
    show rle _ 41 0 [] [] 0 = _
    congr 1
    funext x
    unfold FF
    by_cases hx : x < 40
    · rw [if_pos hx, if_pos (by omega)]
    · rw [if_neg hx, if_neg (by omega)]
   rw [hNF, ← hfin]
   by_cases hn : C.length = 0
   · obtain ⟨k, rfl⟩ : ∃ m, k = m + 1 := ⟨k - 1, by omega⟩
     rw [spec_l07Combine.l0, if_neg (by omega), List.length_eq_zero_iff.1 hn]
     rfl
   ·
    obtain ⟨k, rfl⟩ : ∃ m, k = m + 4 := ⟨k - 4, by omega⟩
    have hd := dropi C 0 (by omega)
    rw [List.drop_zero] at hd
    refine round 0 (k + 3) [] [] 0 _ (by omega) (by omega) ?_
    rw [spec_l07Combine.j1, if_neg (by omega), spec_l07Combine.j2, if_neg (by decide), spec_l07Combine.l1, if_neg (by simp), if_pos (by omega), if_pos (by omega), wrap_up 0 (by omega)]
    rw [loop (C.length - 1) (0 + 1) k [] (FF g r a b (rd C ((0 : Nat) : Int))) (rd C ((0 : Nat) : Int)) (by omega) (by omega) (by simp) (hFM _) (hFR _) (by omega)]
    congr 1
    show _ = rleFirst (FF g r a b) C
    rw [hd]
    rfl
theorem box_spec (k : Nat) (a b : List Int) (hk : 10 < k) : spec_l07Box.f k a b = some (decide (VBox a b)) := by
 obtain ⟨k, rfl⟩ : ∃ z, k = z + 1 := ⟨k - 1, by omega⟩
 unfold spec_l07Box.f
 by_cases h3 : (a.length : Int) > 3
 · rw [if_pos h3, spec_l07Box.j0, if_pos rfl]
   have : ¬ VBox a b := fun h => by have := h.1; omega
   simp [this]
 rw [if_neg h3, spec_l07Box.j0]
 by_cases hn : b.length = a.length
 ·
  rw [if_neg (by simp [hn])]
  obtain ⟨r, h, rfl⟩ := count_loop (fun k (_ : Unit) i => spec_l07Box.l0 k i a b) a.length 0 (fun i _ => ∀ j, j < i → BoxAt a b j) (fun r => r = decide (VBox a b))
   (by
    rintro k - - h1
    refine ⟨true, by show spec_l07Box.l0 (k + 1) _ a b = _; rw [spec_l07Box.l0, if_neg (by omega)], ?_⟩
    have : VBox a b := ⟨by omega, hn, h1⟩
    simp [this])
   (by
    rintro k - i - hi h1
    have e : spec_l07Box.l0 (k + 1) (i : Int) a b = if BoxAt a b i then spec_l07Box.l0 k ((i + 1 : Nat) : Int) a b else some false := by
     rw [spec_l07Box.l0, if_pos (by omega), if_pos (by omega), if_pos (by omega), in_eq]
     simp only [Option.bind_some, decide_eq_true_eq, in_eq]
     rw [wrap_up i (by omega)]
     by_cases c1 : 1 ≤ rd b i ∧ rd b i ≤ 40
     · rw [if_pos c1, wrap64_id (by omega) (by omega)]
       by_cases c2 : 0 ≤ rd a i ∧ rd a i ≤ rd b i - 1
       · rw [if_pos c2, if_pos (show BoxAt a b i from ⟨c2.1, by omega, c1.2⟩)]
       · rw [if_neg c2, if_neg (fun h => c2 ⟨h.1, by have := h.2.1; omega⟩)]
     · rw [if_neg c1, if_neg (fun h => c1 ⟨by have := h.1; have := h.2.1; omega, h.2.2⟩)]
    by_cases c : BoxAt a b i
    · exact .inl ⟨(), all_step h1 c, by show spec_l07Box.l0 (k + 1) _ a b = _; rw [e, if_pos c]⟩
    · refine .inr ⟨false, by show spec_l07Box.l0 (k + 1) _ a b = _; rw [e, if_neg c], ?_⟩
      have : ¬ VBox a b := fun h => c (h.2.2 i hi)
      simp [this])
   k () 0 (by omega) (by omega) (fun j hj => by omega)
  exact h
 · rw [if_pos (by simp; omega)]
   have : ¬ VBox a b := fun h => hn h.2.1
   simp [this]
theorem box_impl (k : Nat) (a b : List Int) (hk : 10 < k) : impl_ValidBox.f k a b = some (decide (VBox a b)) := by
 obtain ⟨k, rfl⟩ : ∃ z, k = z + 1 := ⟨k - 1, by omega⟩
 unfold impl_ValidBox.f
 by_cases hn : (a.length : Int) = (b.length : Int)
 ·
  rw [if_pos hn, impl_ValidBox.j0]
  by_cases h3 : (a.length : Int) > 3
  · rw [if_pos (by simpa using h3)]
    have : ¬ VBox a b := fun h => by have := h.1; omega
    simp [this]
  ·
   rw [if_neg (by simpa using h3)]
   obtain ⟨r, h, rfl⟩ := count_loop (fun k (_ : Unit) i => impl_ValidBox.l0 k a (a.length : Int) i a b) a.length 0 (fun i _ => ∀ j, j < i → BoxAt a b j) (fun r => r = decide (VBox a b))
    (by
     rintro k - - h1
     refine ⟨true, by show impl_ValidBox.l0 (k + 1) a _ _ a b = _; rw [impl_ValidBox.l0, if_neg (by omega)], ?_⟩
     have : VBox a b := ⟨by omega, by omega, h1⟩
     simp [this])
    (by
     rintro k - i - hi h1
     have e : impl_ValidBox.l0 (k + 1) a (a.length : Int) (i : Int) a b = if BoxAt a b i then impl_ValidBox.l0 k a (a.length : Int) ((i + 1 : Nat) : Int) a b else some false := by
      rw [impl_ValidBox.l0, if_pos (by omega), if_pos (by omega), if_pos (by omega), wrap_up i (by omega)]
      by_cases c1 : rd a i < 0
      · rw [if_pos c1, if_neg (fun h => by have := h.1; omega)]
      · rw [if_neg c1, if_pos (by omega)]
        by_cases c2 : rd a i ≥ rd b i
        · rw [if_pos c2, if_neg (fun h => by have := h.2.1; omega)]
        · rw [if_neg c2]
          by_cases c3 : rd b i > 40
          · rw [if_pos c3, if_neg (fun h => by have := h.2.2; omega)]
          · rw [if_neg c3, if_pos (show BoxAt a b i from ⟨by omega, by omega, by omega⟩)]
     by_cases c : BoxAt a b i
     · exact .inl ⟨(), all_step h1 c, by show impl_ValidBox.l0 (k + 1) a _ _ a b = _; rw [e, if_pos c]⟩
     · refine .inr ⟨false, by show impl_ValidBox.l0 (k + 1) a _ _ a b = _; rw [e, if_neg c], ?_⟩
       have : ¬ VBox a b := fun h => c (h.2.2 i hi)
       simp [this])
    k () 0 (by omega) (by omega) (fun j hj => by omega)
   exact h
 · rw [if_neg hn, impl_ValidBox.j0, if_pos rfl]
   have : ¬ VBox a b := fun h => by have := h.2.1; omega
   simp [this]
def okB (l : List S42) (i : Nat) : Prop := VBox (rd_T42 l i).f0 (rd_T42 l i).f1 ∧ (rd_T42 l i).f0.length = (rd_T42 l 0).f0.length
instance (l : List S42) : DecidablePred (okB l) := fun i => by unfold okB; infer_instance
theorem list_spec (l : List S42) (hl : l.length ≤ 1048576) (k : Nat) (hk : 1048600 ≤ k) : spec_l07List.f k l = some (decide (∀ i, i < l.length → okB l i) && decide ((l.length : Int) ≤ 32)) :=
 all_loop (fun k i => spec_l07List.l0 k l i) (okB l) l.length 11 _
  (by intro k _; show spec_l07List.l0 (k + 1) l _ = _; rw [spec_l07List.l0, if_neg (by omega)])
  (by
   intro k i hk hi
   show spec_l07List.l0 (k + 1) l _ = _
   rw [spec_l07List.l0, if_pos (by omega), if_pos (by omega), box_spec k _ _ (by omega), wrap_up i (by omega)]
   simp only [Option.bind_some, decide_eq_true_eq]
   by_cases h : VBox (rd_T42 l i).f0 (rd_T42 l i).f1
   · rw [if_pos h, if_pos (by omega)]
     by_cases h2 : (rd_T42 l i).f0.length = (rd_T42 l 0).f0.length
     · rw [if_pos (by omega), if_pos ⟨h, h2⟩]
     · rw [if_neg (by omega), if_neg (fun h3 => h2 h3.2)]
   · rw [if_neg h, if_neg (fun h3 => h h3.1)])
  k (by omega)
theorem list_impl (l : List S42) (hl : l.length ≤ 1048576) (k : Nat) (hk : 1048600 ≤ k) : impl_boxesOk.f k l = some (decide (∀ i, i < l.length → okB l i) && decide ((l.length : Int) ≤ 32)) := by
 unfold impl_boxesOk.f slices_ContainsFunc_impl_boxesOk_1.f slices_IndexFunc_impl_boxesOk_1.f
 by_cases hn : (l.length : Int) ≤ 32
 ·
  rw [if_pos hn, find_loop (fun k i => slices_IndexFunc_impl_boxesOk_1.l0 k l l.length i l) (fun i => ¬ okB l i) l.length 11
   (by intro k _; show slices_IndexFunc_impl_boxesOk_1.l0 (k + 1) l _ _ l = _; rw [slices_IndexFunc_impl_boxesOk_1.l0, if_neg (by omega)])
   (by
    intro k i hk hi
    show slices_IndexFunc_impl_boxesOk_1.l0 (k + 1) l _ _ l = _
    rw [slices_IndexFunc_impl_boxesOk_1.l0, if_pos (by omega), if_pos (by omega), if_pos (by omega), wrap_up i (by omega)]
    unfold impl_boxesOk_1.f
    rw [box_impl k _ _ (by omega)]
    simp only [Option.bind_some, decide_eq_true_eq]
    by_cases h : VBox (rd_T42 l i).f0 (rd_T42 l i).f1
    · rw [if_pos h, if_pos (by omega)]
      simp only [Option.bind_some]
      by_cases h2 : (rd_T42 l i).f0.length = (rd_T42 l 0).f0.length
      · have h3 : okB l i := ⟨h, h2⟩
        simp [h2, h3]
      · have h3 : ¬ okB l i := fun h3 => h2 h3.2
        have h4 : ¬ ((rd_T42 l i).f0.length : Int) = ((rd_T42 l 0).f0.length : Int) := by omega
        simp [h4, h3]
    · have h3 : ¬ okB l i := fun h3 => h h3.1
      simp [if_neg h, h3])
   k (by omega)]
  simp only [Option.bind_some, decide_eq_true hn, Bool.and_true]
  rcases look_or (fun i => ¬ okB l i) l.length 0 with ⟨h4, h5⟩ | ⟨j, -, h4, h5, h6⟩
  · rw [h4]
    have h7 : ∀ i, i < l.length → okB l i := fun i hi => Decidable.not_not.1 (h5 i (by omega) (by omega))
    rw [decide_eq_true h7]; rfl
  · rw [h5]
    have h7 : ¬ ∀ i, i < l.length → okB l i := fun h => h6 (h j (by omega))
    have h8 : (j : Int) ≥ 0 := by omega
    rw [decide_eq_false h7]; simp [h8]
 · rw [if_neg hn, decide_eq_false hn, Bool.and_false]
def InRange (r : Nat) (p : List Int) : Prop := p.length = r ∧ ∀ x ∈ p, 0 ≤ x ∧ x < 40
theorem VL_nil (r : Nat) : VL r [] := fun b hb => by cases hb
def okL (l : List S42) : Prop := (∀ i, i < l.length → okB l i) ∧ (l.length : Int) ≤ 32
instance (l : List S42) : Decidable (okL l) := by unfold okL; infer_instance
def rankL (a b : List S42) : Nat := if 0 < a.length then (rd_T42 a 0).f0.length else if 0 < b.length then (rd_T42 b 0).f0.length else 0
def compat (a b : List S42) : Prop := 0 < a.length → 0 < b.length → (rd_T42 a 0).f0.length = (rd_T42 b 0).f0.length
instance (a b : List S42) : Decidable (compat a b) := by unfold compat; infer_instance
def res (g : Bool → Bool → Bool) (a b : List S42) : List S42 × Int :=
 if okL a ∧ okL b ∧ compat a b then (if (NF (rankL a b) fun p => g (mem a p) (mem b p)).length > 32 then ([], 5) else (NF (rankL a b) fun p => g (mem a p) (mem b p), 0)) else ([], 1)
theorem ok_list {l : List S42} (h : okL l) (hn : 0 < l.length) : VL (rd_T42 l 0).f0.length l ∧ (rd_T42 l 0).f0.length ≤ 3 := by
 refine ⟨fun b hb => ?_, (h.1 0 hn).1.1⟩
 obtain ⟨i, hi, rfl⟩ := List.mem_iff_getElem.1 hb
 have h2 := h.1 i hi
 unfold okB at h2
 rw [rd_at l i hi] at h2
 obtain ⟨⟨h3, h4, h5⟩, h6⟩ := h2
 exact ⟨h6, by rw [h4]; exact h6, fun j hj => h5 j (by rw [h6]; exact hj)⟩
theorem ok_rank {a b : List S42} (ha : okL a) (hb : okL b) (hc : compat a b) : rankL a b ≤ 3 ∧ VL (rankL a b) a ∧ VL (rankL a b) b := by
 unfold rankL
 by_cases h1 : 0 < a.length
 ·
  rw [if_pos h1]
  obtain ⟨h3, h4⟩ := ok_list ha h1
  refine ⟨h4, h3, ?_⟩
  by_cases h2 : 0 < b.length
  · rw [hc h1 h2]; exact (ok_list hb h2).1
  · rw [List.length_eq_zero_iff.1 (show b.length = 0 by omega)]; exact VL_nil _
 ·
  rw [if_neg h1, List.length_eq_zero_iff.1 (show a.length = 0 by omega)]
  by_cases h2 : 0 < b.length
  · rw [if_pos h2]
    obtain ⟨h3, h4⟩ := ok_list hb h2
    exact ⟨h4, VL_nil _, h3⟩
  · rw [if_neg h2, List.length_eq_zero_iff.1 (show b.length = 0 by omega)]
    exact ⟨by omega, VL_nil _, VL_nil _⟩
theorem wo_holds (x y : Bool) : spec_l07Holds.f 3 x y = some (wo x y) := by cases x <;> cases y <;> rfl
theorem do_spec (o : Int) (g : Bool → Bool → Bool) (hg : ∀ x y, spec_l07Holds.f o x y = some (g x y)) (h0 : g false false = false) (a b : List S42) (hla : a.length ≤ 1048576) (hlb : b.length ≤ 1048576) (k : Nat) (hk : 17000000 ≤ k) : spec_l07Do.f k o a b = some (res g a b) := by
 obtain ⟨k, rfl⟩ : ∃ m, k = m + 1 := ⟨k - 1, by omega⟩
 unfold spec_l07Do.f res
 rw [list_spec a hla _ (by omega), list_spec b hlb _ (by omega)]
 have bad : ∀ t : Bool, t = true → ¬ (okL a ∧ okL b ∧ compat a b) → spec_l07Do.j0 (k + 1) o a b t = some (if okL a ∧ okL b ∧ compat a b then (if (NF (rankL a b) fun p => g (mem a p) (mem b p)).length > 32 then (([] : List S42), (5 : Int)) else (NF (rankL a b) fun p => g (mem a p) (mem b p), 0)) else ([], 1)) := fun t ht hn => by
  rw [spec_l07Do.j0, if_pos ht, if_neg hn]
 have good : okL a → okL b → compat a b → spec_l07Do.j0 (k + 1) o a b false = some (if okL a ∧ okL b ∧ compat a b then (if (NF (rankL a b) fun p => g (mem a p) (mem b p)).length > 32 then (([] : List S42), (5 : Int)) else (NF (rankL a b) fun p => g (mem a p) (mem b p), 0)) else ([], 1)) := fun h1 h2 h3 => by
  obtain ⟨r1, r2, r3⟩ := ok_rank h1 h2 h3
  have hrank : spec_l07Rank.f a b = some ((rankL a b : Nat) : Int) := by
   unfold spec_l07Rank.f rankL
   by_cases e1 : 0 < a.length
   · rw [if_pos (by omega), if_pos (by omega), if_pos e1]
   · rw [if_neg (by omega), if_neg e1]
     by_cases e2 : 0 < b.length
     · rw [if_pos (by omega), if_pos (by omega), if_pos e2]
     · rw [if_neg (by omega), if_neg e2]; rfl
  have hKS : KS (rankL a b) ≤ 16000000 := by
   have : rankL a b = 0 ∨ rankL a b = 1 ∨ rankL a b = 2 ∨ rankL a b = 3 := by omega
   rcases this with h | h | h | h <;> rw [h] <;> simp [KS]
  have ha32 := h1.2
  have hb32 := h2.2
  rw [spec_l07Do.j0, if_neg (by decide), hrank, if_pos ⟨h1, h2, h3⟩]
  simp only [Option.bind_some]
  rw [comb_spec o g hg h0 _ r1 a b r2 r3 (by omega) (by omega) k (by omega)]
  simp only [Option.bind_some]
  by_cases hbig : (NF (rankL a b) fun p => g (mem a p) (mem b p)).length > 32
  · rw [if_pos (by omega), if_pos hbig]
  · rw [if_neg (by omega), if_neg hbig]
 by_cases h1 : okL a
 ·
  rw [decide_eq_true h1.1, decide_eq_true h1.2]
  simp only [Option.bind_some, Bool.and_true, if_true]
  by_cases h2 : okL b
  ·
   rw [decide_eq_true h2.1, decide_eq_true h2.2]
   simp only [Option.bind_some, Bool.and_true, if_true]
   by_cases e1 : 0 < a.length
   ·
    rw [if_pos (by omega)]
    by_cases e2 : 0 < b.length
    · rw [if_pos (by omega), if_pos (by omega), if_pos (by omega)]
      by_cases h3 : (rd_T42 a 0).f0.length = (rd_T42 b 0).f0.length
      · rw [show ((((rd_T42 a 0).f0).length : Int) != (((rd_T42 b 0).f0).length : Int)) = false by simp [h3]]
        exact good h1 h2 (fun _ _ => h3)
      · exact bad _ (by simp; omega) (fun h => h3 (h.2.2 e1 e2))
    · rw [if_neg (by omega)]
      exact good h1 h2 (fun _ h => absurd h e2)
   · rw [if_neg (by omega)]
     exact good h1 h2 (fun h => absurd h e1)
  · have hn : (decide (∀ i, i < b.length → okB b i) && decide ((b.length : Int) ≤ 32)) = false := by
     rw [Bool.and_eq_false_iff, decide_eq_false_iff_not, decide_eq_false_iff_not]
     exact Decidable.not_and_iff_or_not.1 h2
    rw [hn]
    simp only [Option.bind_some, Bool.false_eq_true, if_false]
    exact bad _ rfl (fun h => h2 h.2.1)
 ·
  have hn : (decide (∀ i, i < a.length → okB a i) && decide ((a.length : Int) ≤ 32)) = false := by
   rw [Bool.and_eq_false_iff, decide_eq_false_iff_not, decide_eq_false_iff_not]
   exact Decidable.not_and_iff_or_not.1 h1
  rw [hn]
  simp only [Option.bind_some, Bool.false_eq_true, if_false]
  exact bad _ rfl (fun h => h1 h.1)
theorem concatB_impl (a b : List S42) (ha : a.length ≤ 1048576) (hb : b.length ≤ 1048576) (k : Nat) (hk : 10 ≤ k) : impl_Box.f k [a, b] = some (a ++ b) := by
 obtain ⟨k, rfl⟩ : ∃ m, k = m + 6 := ⟨k - 6, by omega⟩
 have e0 : rd_L4 [a, b] 0 = a := rfl
 have e1 : rd_L4 [a, b] 1 = b := rfl
 have hw0 : wrap64 (0 + (a.length : Int)) = (a.length : Int) := by unfold wrap64; omega
 have hw : wrap64 ((a.length : Int) + (b.length : Int)) = (a.length : Int) + (b.length : Int) := by unfold wrap64; omega
 have z1 : wrap64 (0 + 1) = 1 := by unfold wrap64; omega
 have z2 : wrap64 (1 + 1) = 2 := by unfold wrap64; omega
 have hn : (([a, b] : List (List S42)).length : Int) = 2 := rfl
 unfold impl_Box.f
 rw [hn, impl_Box.l0, if_pos (by omega), if_pos (by omega), if_pos (by omega), e0, hw0, z1, if_neg (by omega)]
 rw [impl_Box.l0, if_pos (by omega), if_pos (by omega), if_pos (by omega), e1, hw, if_neg (by omega), z2]
 rw [impl_Box.l0, if_neg (by omega)]
 show (Option.bind (if 0 ≤ (a.length : Int) + (b.length : Int) ∧ (a.length : Int) + (b.length : Int) ≤ 1073741824 then some [] else none) _) = _
 rw [if_pos (by omega)]
 simp only [Option.bind_some]
 rw [hn, impl_Box.l1, if_pos (by omega), if_pos (by omega), if_pos (by omega), e0, if_pos (by simp; omega), z1]
 rw [impl_Box.l1, if_pos (by omega), if_pos (by omega), if_pos (by omega), e1, if_pos (by simp; omega), z2]
 rw [impl_Box.l1, if_neg (by omega)]
 rfl
theorem rank_impl (a b : List S42) (ha : a.length ≤ 1048576) (hb : b.length ≤ 1048576) (k : Nat) (hk : 10 ≤ k) : impl_rankOf.f k a b = some ((rankL a b : Nat) : Int) := by
 obtain ⟨k, rfl⟩ : ∃ m, k = m + 1 := ⟨k - 1, by omega⟩
 unfold impl_rankOf.f
 rw [concatB_impl a b ha hb _ hk]
 simp only [Option.bind_some]
 unfold rankL
 by_cases h1 : 0 < a.length
 ·
  have hx : rd_T42 (a ++ b) 0 = rd_T42 a 0 := by
   have e1 := rd_at (a ++ b) 0 (by simp; omega)
   have e2 := rd_at a 0 h1
   rw [show ((0 : Nat) : Int) = 0 from rfl] at e1 e2
   rw [e1, e2]
   exact List.getElem_append_left h1
  rw [impl_rankOf.l0, if_pos (by simp; omega), if_pos (by omega), if_pos (by simp; omega), if_pos h1, hx]
 ·
  have ea : a = [] := List.length_eq_zero_iff.1 (by omega)
  subst ea
  rw [if_neg h1, List.nil_append]
  by_cases h2 : 0 < b.length
  · rw [impl_rankOf.l0, if_pos (by omega), if_pos (by omega), if_pos (by omega), if_pos h2]
  · rw [impl_rankOf.l0, if_neg (by omega), if_neg h2]
    rfl
theorem do_without (a b : List S42) (hla : a.length ≤ 1048576) (hlb : b.length ≤ 1048576) (k : Nat) (hk : 5000000 ≤ k) : impl_combine_impl_without.f k a b = some (res wo a b) := by
 obtain ⟨k, rfl⟩ : ∃ m, k = m + 1 := ⟨k - 1, by omega⟩
 unfold impl_combine_impl_without.f res
 rw [list_impl a hla _ (by omega), list_impl b hlb _ (by omega)]
 have bad : ∀ t : Bool, t = true → ¬ (okL a ∧ okL b ∧ compat a b) → impl_combine_impl_without.j0 (k + 1) a b t = some (if okL a ∧ okL b ∧ compat a b then (if (NF (rankL a b) fun p => wo (mem a p) (mem b p)).length > 32 then (([] : List S42), (5 : Int)) else (NF (rankL a b) fun p => wo (mem a p) (mem b p), 0)) else ([], 1)) := fun t ht hn => by
  rw [impl_combine_impl_without.j0, if_pos ht, if_neg hn]
 have good : okL a → okL b → compat a b → impl_combine_impl_without.j0 (k + 1) a b false = some (if okL a ∧ okL b ∧ compat a b then (if (NF (rankL a b) fun p => wo (mem a p) (mem b p)).length > 32 then (([] : List S42), (5 : Int)) else (NF (rankL a b) fun p => wo (mem a p) (mem b p), 0)) else ([], 1)) := fun h1 h2 h3 => by
  obtain ⟨r1, r2, r3⟩ := ok_rank h1 h2 h3
  rw [impl_combine_impl_without.j0, if_neg (by decide), rank_impl a b hla hlb k (by omega), if_pos ⟨h1, h2, h3⟩]
  simp only [Option.bind_some]
  rw [comb_without _ r1 a b r2 r3 hla hlb k (by omega)]
  simp only [Option.bind_some]
  unfold impl_normalFull.f
  by_cases hbig : (NF (rankL a b) fun p => wo (mem a p) (mem b p)).length > 32
  · rw [if_pos (by omega), if_pos hbig]
    rfl
  · rw [if_neg (by omega), if_neg hbig]
    rfl
 by_cases h1 : okL a
 ·
  rw [decide_eq_true h1.1, decide_eq_true h1.2]
  simp only [Option.bind_some, Bool.and_true, if_true]
  by_cases h2 : okL b
  ·
   rw [decide_eq_true h2.1, decide_eq_true h2.2]
   simp only [Option.bind_some, Bool.and_true, if_true]
   by_cases e1 : 0 < a.length
   ·
    rw [if_pos (by omega)]
    by_cases e2 : 0 < b.length
    · rw [if_pos (by omega), if_pos (by omega), if_pos (by omega)]
      by_cases h3 : (rd_T42 a 0).f0.length = (rd_T42 b 0).f0.length
      · rw [show ((((rd_T42 a 0).f0).length : Int) != (((rd_T42 b 0).f0).length : Int)) = false by simp [h3]]
        exact good h1 h2 (fun _ _ => h3)
      · exact bad _ (by simp; omega) (fun h => h3 (h.2.2 e1 e2))
    · rw [if_neg (by omega)]
      exact good h1 h2 (fun _ h => absurd h e2)
   · rw [if_neg (by omega)]
     exact good h1 h2 (fun h => absurd h e1)
  · have hn : (decide (∀ i, i < b.length → okB b i) && decide ((b.length : Int) ≤ 32)) = false := by
     rw [Bool.and_eq_false_iff, decide_eq_false_iff_not, decide_eq_false_iff_not]
     exact Decidable.not_and_iff_or_not.1 h2
    rw [hn]
    simp only [Option.bind_some, Bool.false_eq_true, if_false]
    exact bad _ rfl (fun h => h2 h.2.1)
 ·
  have hn : (decide (∀ i, i < a.length → okB a i) && decide ((a.length : Int) ≤ 32)) = false := by
   rw [Bool.and_eq_false_iff, decide_eq_false_iff_not, decide_eq_false_iff_not]
   exact Decidable.not_and_iff_or_not.1 h1
  rw [hn]
  simp only [Option.bind_some, Bool.false_eq_true, if_false]
  exact bad _ rfl (fun h => h1 h.1)
theorem mark64 (n : Nat) (hn : n ≤ 1048576) : ∀ (d i : Nat) (x : Int) (l : List Int), l.length = n → n - i = d → i ≤ n → 0 ≤ x → x + d ≤ 1099511627776 →
 ∃ r : List Int, r.length = n ∧ (∀ k, d < k → laws_markInt64S.l0 k l x (i : Int) = some (x + d, r)) ∧ (∀ j, j < i → r.getD j 0 = l.getD j 0) ∧ ∀ j, i ≤ j → j < n → r.getD j 0 = x + ((j - i : Nat) : Int) := by
 intro d
 induction d with
 | zero =>
  intro i x l hl hd hi h0 h1
  refine ⟨l, hl, fun k hk => ?_, fun j _ => rfl, fun j h2 h3 => by omega⟩
  obtain ⟨k, rfl⟩ : ∃ m, k = m + 1 := ⟨k - 1, by omega⟩
  rw [laws_markInt64S.l0, if_neg (by omega)]
  simp
 | succ d ih =>
  intro i x l hl hd hi h0 h1
  obtain ⟨r, hr, hk0, hlo, hhi⟩ := ih (i + 1) (x + 1) (l.set i x) (by simpa using hl) (by omega) (by omega) (by omega) (by omega)
  refine ⟨r, hr, fun k hk => ?_, fun j hj => ?_, fun j h2 h3 => ?_⟩
  · obtain ⟨k, rfl⟩ : ∃ m, k = m + 1 := ⟨k - 1, by omega⟩
    rw [laws_markInt64S.l0, if_pos (by omega), if_pos (by omega), wrap64_id (by omega) (by omega), wrap64_id (by omega) (by omega), Int.toNat_natCast, show (i : Int) + 1 = ((i + 1 : Nat) : Int) by omega, hk0 k (by omega)]
    congr 2
    omega
  · rw [hlo j (by omega)]
    simp only [List.getD_eq_getElem?_getD]
    rw [List.getElem?_set_ne (by omega)]
  ·
   by_cases hj : j = i
   · subst hj
     rw [hlo j (by omega)]
     simp only [List.getD_eq_getElem?_getD]
     rw [List.getElem?_set_self (by omega)]
     simp
   · rw [hhi j (by omega) h3]
     omega
theorem held64 (n : Nat) (hn : n ≤ 1048576) (l : List Int) (hl : l.length = n) : ∀ (d i : Nat) (x : Int), n - i = d → i ≤ n → 0 ≤ x → x + d ≤ 1099511627776 → (∀ j, i ≤ j → j < n → l.getD j 0 = x + ((j - i : Nat) : Int)) →
 ∀ k, d < k → laws_heldInt64S.l0 k l x (i : Int) = some (x + d) := by
 intro d
 induction d with
 | zero =>
  intro i x hd hi h0 h1 hm k hk
  obtain ⟨k, rfl⟩ : ∃ m, k = m + 1 := ⟨k - 1, by omega⟩
  rw [laws_heldInt64S.l0, if_neg (by omega)]
  simp
 | succ d ih =>
  intro i x hd hi h0 h1 hm k hk
  obtain ⟨k, rfl⟩ : ∃ m, k = m + 1 := ⟨k - 1, by omega⟩
  have e : rd l (i : Int) = x := by
   have h := hm i (Nat.le_refl _) (by omega)
   rw [Nat.sub_self] at h
   simpa [rd] using h
  rw [laws_heldInt64S.l0, if_pos (by omega), if_pos (by omega), e, if_pos rfl, wrap64_id (by omega) (by omega), wrap64_id (by omega) (by omega), show (i : Int) + 1 = ((i + 1 : Nat) : Int) by omega, ih (i + 1) (x + 1) (by omega) (by omega) (by omega) (by omega) (fun j h2 h3 => by
   rw [hm j (by omega) h3]; omega) k (by omega)]
  congr 1
  omega
/-- a list that has been marked from x on, and what its marks are held against -/
theorem marks64 (l : List Int) (hl : l.length ≤ 1048576) (x : Int) (h0 : 0 ≤ x) (h1 : x ≤ 1073741824) :
 ∃ r : List Int, r.length = l.length ∧ (∀ k, 1048576 < k → laws_markInt64S.f k l x = some (x + l.length, r)) ∧ ∀ k, 1048576 < k → laws_heldInt64S.f k r x = some (x + l.length) := by
 obtain ⟨r, hr, hm, -, hv⟩ := mark64 l.length hl l.length 0 x l rfl (by omega) (by omega) h0 (by omega)
 exact ⟨r, hr, fun k hk => hm k (by omega), fun k hk => held64 l.length hl r hr l.length 0 x (by omega) (by omega) h0 (by omega) (fun j h2 h3 => hv j h2 h3) k (by omega)⟩
/-! marks of the argument -/
theorem markV (n : Nat) (hn : n ≤ 1048576) : ∀ (d i : Nat) (x : Int) (l : List Int), l.length = n → n - i = d → i ≤ n → 0 ≤ x → x + d ≤ 1152921504606846976 →
 ∃ r : List Int, ∀ k, d < k → laws_markInt64S.l0 k l x (i : Int) = some (x + d, r) := by
 intro d
 induction d with
 | zero =>
  intro i x l hl hd hi h0 h1
  refine ⟨l, fun k hk => ?_⟩
  obtain ⟨k, rfl⟩ : ∃ m, k = m + 1 := ⟨k - 1, by omega⟩
  rw [laws_markInt64S.l0, if_neg (by omega)]
  simp
 | succ d ih =>
  intro i x l hl hd hi h0 h1
  obtain ⟨r, hk0⟩ := ih (i + 1) (x + 1) (l.set i x) (by simpa using hl) (by omega) (by omega) (by omega) (by omega)
  refine ⟨r, fun k hk => ?_⟩
  obtain ⟨k, rfl⟩ : ∃ m, k = m + 1 := ⟨k - 1, by omega⟩
  rw [laws_markInt64S.l0, if_pos (by omega), if_pos (by omega), wrap64_id (by omega) (by omega), wrap64_id (by omega) (by omega), Int.toNat_natCast, show (i : Int) + 1 = ((i + 1 : Nat) : Int) by omega, hk0 k (by omega)]
  congr 2
  omega
theorem markF (l : List Int) (hl : l.length ≤ 1048576) (x : Int) (h0 : 0 ≤ x) (h1 : x ≤ 1125899906842624) : ∃ r : List Int, ∀ k, 1048590 ≤ k → laws_markInt64S.f k l x = some (x + l.length, r) := by
 obtain ⟨r, hr⟩ := markV l.length hl l.length 0 x l rfl (by omega) (by omega) h0 (by omega)
 exact ⟨r, fun k hk => hr k (by omega)⟩
theorem rdT_lt (l : List S42) (i : Nat) (h : i < l.length) : rd_T42 l (i : Int) = l[i] := by
 simp [rd_T42, h]
theorem markB (n : Nat) (hn : n ≤ 1048576) : ∀ (d i : Nat) (x : Int) (l : List S42), l.length = n → i + d = n → 0 ≤ x → x + 2097152 * (d : Int) ≤ 1125899906842624 → (∀ j, i ≤ j → j < n → QS42 (rd_T42 l (j : Int))) →
 ∃ (t : Int) (r : List S42), (0 ≤ t ∧ t ≤ x + 2097152 * (d : Int)) ∧ ∀ k, 1048600 + d < k → laws_markBoxS.l0 k l x (i : Int) = some (t, r) := by
 intro d
 induction d with
 | zero =>
  intro i x l hl hi h0 h1 hq
  refine ⟨x, l, ⟨h0, by omega⟩, fun k hk => ?_⟩
  obtain ⟨k, rfl⟩ : ∃ m, k = m + 1 := ⟨k - 1, by omega⟩
  rw [laws_markBoxS.l0, if_neg (by omega)]
 | succ d ih =>
  intro i x l hl hi h0 h1 hq
  obtain ⟨q0, q1⟩ := hq i (by omega) (by omega)
  obtain ⟨r0, m0⟩ := markF (rd_T42 l (i : Int)).f0 (by omega) x h0 (by omega)
  obtain ⟨r1, m1⟩ := markF (rd_T42 l (i : Int)).f1 (by omega) (x + (rd_T42 l (i : Int)).f0.length) (by omega) (by omega)
  obtain ⟨t, r, ht, hk0⟩ := ih (i + 1) (x + (rd_T42 l (i : Int)).f0.length + (rd_T42 l (i : Int)).f1.length) (l.set i ⟨r0, r1⟩) (by rw [List.length_set]; exact hl) (by omega) (by omega) (by omega) (fun j h2 h3 => by
   have h4 := hq j (by omega) h3
   rw [rdT_lt l j (by omega)] at h4
   rw [rdT_lt _ j (by rw [List.length_set]; omega), List.getElem_set_ne (by omega)]
   exact h4)
  refine ⟨t, r, ⟨ht.1, by omega⟩, fun k hk => ?_⟩
  obtain ⟨k, rfl⟩ : ∃ m, k = m + 1 := ⟨k - 1, by omega⟩
  rw [laws_markBoxS.l0, if_pos (by omega), if_pos (by omega), m0 k (by omega)]
  simp only [Option.bind_some]
  rw [m1 k (by omega)]
  simp only [Option.bind_some]
  rw [Int.toNat_natCast, wrap_up i (by omega)]
  exact hk0 k (by omega)
theorem markBX (l : List S42) (hl : (l.length : Int) ≤ 1048576) (hq : ∀ y ∈ l, QS42 y) (x : Int) (h0 : 0 ≤ x) (h1 : x ≤ 4398046511104) : ∃ (t : Int) (r : List S42), (0 ≤ t ∧ t ≤ x + 2199023255552) ∧ ∀ k, 2097200 ≤ k → laws_markBoxS.f k l x = some (t, r) := by
 obtain ⟨t, r, ht, h⟩ := markB l.length (by omega) l.length 0 x l rfl (by omega) h0 (by omega) (fun j _ hj => by rw [rdT_lt l j hj]; exact hq _ (List.getElem_mem _))
 exact ⟨t, r, ⟨ht.1, by omega⟩, fun k hk => h k (by omega)⟩
theorem markG (n : Nat) (hn : n ≤ 32) : ∀ (d i : Nat) (x : Int) (l : List S42), l.length = n → i + d = n → 0 ≤ x → x + 6 * (d : Int) ≤ 1073741824 → (∀ j, i ≤ j → j < n → (rd_T42 l (j : Int)).f0.length ≤ 3 ∧ (rd_T42 l (j : Int)).f1.length ≤ 3) →
 ∃ (t : Int) (r : List S42), 0 ≤ t ∧ r.length = n ∧ (∀ j, j < i → rd_T42 r (j : Int) = rd_T42 l (j : Int)) ∧ (∀ k, 1048600 + d < k → laws_markBoxS.l0 k l x (i : Int) = some (t, r)) ∧ ∀ k, 1048600 + d < k → laws_heldBoxS.l0 k r x (i : Int) = some t := by
 intro d
 induction d with
 | zero =>
  intro i x l hl hi h0 h1 hq
  refine ⟨x, l, h0, hl, fun _ _ => rfl, fun k hk => ?_, fun k hk => ?_⟩
  · obtain ⟨k, rfl⟩ : ∃ m, k = m + 1 := ⟨k - 1, by omega⟩
    rw [laws_markBoxS.l0, if_neg (by omega)]
  · obtain ⟨k, rfl⟩ : ∃ m, k = m + 1 := ⟨k - 1, by omega⟩
    rw [laws_heldBoxS.l0, if_neg (by omega)]
 | succ d ih =>
  intro i x l hl hi h0 h1 hq
  obtain ⟨q0, q1⟩ := hq i (by omega) (by omega)
  obtain ⟨r0, -, m0, n0⟩ := marks64 (rd_T42 l (i : Int)).f0 (by omega) x h0 (by omega)
  obtain ⟨r1, -, m1, n1⟩ := marks64 (rd_T42 l (i : Int)).f1 (by omega) (x + (rd_T42 l (i : Int)).f0.length) (by omega) (by omega)
  obtain ⟨t, r, ht, hrl, hkeep, hk0, hh0⟩ := ih (i + 1) (x + (rd_T42 l (i : Int)).f0.length + (rd_T42 l (i : Int)).f1.length) (l.set i ⟨r0, r1⟩) (by rw [List.length_set]; exact hl) (by omega) (by omega) (by omega) (fun j h2 h3 => by
   have h4 := hq j (by omega) h3
   rw [rdT_lt l j (by omega)] at h4
   rw [rdT_lt _ j (by rw [List.length_set]; omega), List.getElem_set_ne (by omega)]
   exact h4)
  have hri : rd_T42 r (i : Int) = ⟨r0, r1⟩ := by
   rw [hkeep i (by omega), rdT_lt _ i (by rw [List.length_set]; omega), List.getElem_set_self]
  refine ⟨t, r, ht, hrl, fun j hj => ?_, fun k hk => ?_, fun k hk => ?_⟩
  · rw [hkeep j (by omega), rdT_lt _ j (by rw [List.length_set]; omega), List.getElem_set_ne (by omega), rdT_lt l j (by omega)]
  ·
   obtain ⟨k, rfl⟩ : ∃ m, k = m + 1 := ⟨k - 1, by omega⟩
   rw [laws_markBoxS.l0, if_pos (by omega), if_pos (by omega), m0 k (by omega)]
   simp only [Option.bind_some]
   rw [m1 k (by omega)]
   simp only [Option.bind_some]
   rw [Int.toNat_natCast, wrap_up i (by omega)]
   exact hk0 k (by omega)
  ·
   obtain ⟨k, rfl⟩ : ∃ m, k = m + 1 := ⟨k - 1, by omega⟩
   rw [laws_heldBoxS.l0, if_pos (by omega), if_pos (by omega), hri, n0 k (by omega)]
   simp only [Option.bind_some]
   rw [if_neg (by omega), n1 k (by omega)]
   simp only [Option.bind_some]
   rw [if_neg (by omega), wrap_up i (by omega)]
   exact hh0 k (by omega)
theorem marksG (l : List S42) (hl : l.length ≤ 32) (r : Nat) (hr : r ≤ 3) (hR : ∀ b ∈ l, b.f0.length = r ∧ b.f1.length = r) : ∃ (t : Int) (m : List S42), 0 ≤ t ∧ (∀ k, 2097200 ≤ k → laws_markBoxS.f k l 1 = some (t, m)) ∧ ∀ k, 2097200 ≤ k → laws_heldBoxS.f k m 1 = some t := by
 obtain ⟨t, m, ht, -, -, h1, h2⟩ := markG l.length hl l.length 0 1 l rfl (by omega) (by omega) (by omega) (fun j _ hj => by
  rw [rdT_lt l j hj]
  obtain ⟨h1, h2⟩ := hR _ (List.getElem_mem hj)
  omega)
 exact ⟨t, m, ht, fun k hk => h1 k (by omega), fun k hk => h2 k (by omega)⟩
theorem res_len (g : Bool → Bool → Bool) (a b : List S42) : (res g a b).1.length ≤ 32 ∧ ∃ r, r ≤ 3 ∧ Rows r (res g a b).1 := by
 unfold res
 split
 · rename_i h
   split
   · exact ⟨by simp, 0, by omega, rows_nil _⟩
   · exact ⟨by simp only; omega, _, (ok_rank h.1 h.2.1 h.2.2).1, NF_rows _ _⟩
 · exact ⟨by simp, 0, by omega, rows_nil _⟩
theorem both (a b : List S42) (ha : (a.length : Int) ≤ 1048576) (hb : (b.length : Int) ≤ 1048576) : ∀ k, 17000000 ≤ k → spec_SubtractBoxes.f k a b = some (res wo a b) ∧ impl_SubtractBoxes.f k a b = some (res wo a b) := fun k hk => by
 constructor
 · unfold spec_SubtractBoxes.f; rw [do_spec 3 wo wo_holds rfl a b (by omega) (by omega) k (by omega)]; rfl
 · unfold impl_SubtractBoxes.f; rw [do_without a b (by omega) (by omega) k (by omega)]; rfl
theorem FnExactSubtractBoxes : laws_FnExactSubtractBoxes.Pure := by
 intro l0 l1 o0 o1
 obtain ⟨t, hs, h⟩ := g_szBoxS 20000000 l0 1048576 (by omega) (by omega) (by omega) o0
 refine ⟨20000000, ?_⟩
 unfold laws_FnExactSubtractBoxes.f
 rw [hs]
 simp only [Option.bind_some]
 rcases h with h | ⟨h0, h1, hl, hq⟩
 · rw [if_pos h]
 obtain ⟨u, hu, h⟩ := g_szBoxS 20000000 l1 t (by omega) (by omega) (by omega) o1
 rw [if_neg (by omega), hu]
 simp only [Option.bind_some]
 rcases h with h | ⟨g0, g1, gl, gq⟩
 · rw [if_pos h]
 have hl' : ((l0.map cS69).length : Int) ≤ 1048576 := by rw [List.length_map]; exact hl
 have hq' := qmS69 l0 hq
 have gl' : ((l1.map cS69).length : Int) ≤ 1048576 := by rw [List.length_map]; exact gl
 have gq' := qmS69 l1 gq
 have hv := both (l0.map cS69) (l1.map cS69) hl' gl'
 obtain ⟨hg, rk, hrk, hR⟩ := res_len wo (l0.map cS69) (l1.map cS69)
 generalize res wo (l0.map cS69) (l1.map cS69) = g at hv hg hR
 obtain ⟨g, c⟩ := g
 obtain ⟨m, mr, hm0, hm⟩ := markBX (l0.map cS69) hl' hq' 1 (by omega) (by omega)
 obtain ⟨m2, mr2, hm2, hmm⟩ := markBX (l1.map cS69) gl' gq' m (by omega) (by omega)
 obtain ⟨n, nr, hn0, hn, hh⟩ := marksG g hg rk hrk hR
 have TT := fun k (hk : 3000000 ≤ k) => g_toBoxS k l0 (by omega) hl hq
 have TU := fun k (hk : 3000000 ≤ k) => g_toBoxS k l1 (by omega) gl gq
 have EB := fun k (hk : 3000000 ≤ k) => g_eqBoxS k g (by omega) (by have : g.length ≤ 32 := hg; omega) (fun y hy => by obtain ⟨h1, h2⟩ := hR y hy; exact ⟨by omega, by omega⟩)
 have ES := fun k (hk : 3000000 ≤ k) => g_eqBoxS k (l0.map cS69) (by omega) hl' hq'
 have EU := fun k (hk : 3000000 ≤ k) => g_eqBoxS k (l1.map cS69) (by omega) gl' gq'
 rw [if_neg (by omega), TT _ (by omega)]
 simp only [Option.bind_some]
 rw [TU _ (by omega)]
 simp only [Option.bind_some]
 rw [(hv _ (by omega)).1, (hv _ (by omega)).2]
 simp only [Option.bind_some]
 rw [EB _ (by omega)]
 simp only [Option.bind_some, if_true, bne_self_eq_false]
 rw [laws_FnExactSubtractBoxes.j0, if_neg (by decide), TT _ (by omega)]
 simp only [Option.bind_some]
 rw [ES _ (by omega)]
 simp only [Option.bind_some, if_true]
 rw [TU _ (by omega)]
 simp only [Option.bind_some]
 rw [EU _ (by omega)]
 simp only [Option.bind_some, if_true]
 rw [hm _ (by omega)]
 simp only [Option.bind_some]
 rw [hmm _ (by omega)]
 simp only [Option.bind_some]
 rw [if_neg (by omega), EB _ (by omega)]
 simp only [Option.bind_some, if_true, bne_self_eq_false]
 rw [laws_FnExactSubtractBoxes.j1, if_neg (by decide), hn _ (by omega)]
 simp only [Option.bind_some]
 rw [hh _ (by omega)]
 simp only [Option.bind_some]
 rw [if_neg (by omega), if_pos trivial, TT _ (by omega)]
 simp only [Option.bind_some]
 rw [TU _ (by omega)]
 simp only [Option.bind_some]
 rw [(hv _ (by omega)).2]
 simp only [Option.bind_some]
 rw [EB _ (by omega)]
 simp only [Option.bind_some, if_true, bne_self_eq_false]
 rw [laws_FnExactSubtractBoxes.j2, if_neg (by decide), hh _ (by omega)]
 simp only [Option.bind_some]
 rw [if_neg (by omega), if_pos trivial]

end Go.Proofs.Ytdiaebjbiddefaa.Pure
