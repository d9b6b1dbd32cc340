/- The plain form of FnExactCutPower: for all arguments the answer is true. It holds without a condition. -/
import Derived.Test.YtgpkkplabnliiaaPFnExactCutPowerx12
import Derived.OpenShut
namespace Go.Proofs.Ytgpkkplabnliiaa.Pure
open Go Go.RowKit Go.Proofs.Ytgpkkplabnliiaa.PFnExactCutPower Go.Proofs.YtgpkkplabnliiaaW.PrintWords Go.Proofs.YtgpkkplabnliiaaW.PrintLast
set_option linter.unusedVariables false
set_option linter.unusedSimpArgs false

theorem wf64 {a : Int} (h : (Lit.int .i64 a).wf = true) : -9223372036854775808 ≤ a ∧ a ≤ 9223372036854775807 := Go.bounds_i64 h
theorem wrap64_id {a : Int} (h : -9223372036854775808 ≤ a) (h' : a ≤ 9223372036854775807) : wrap64 a = a := by unfold wrap64; omega
theorem count_loop {σ ρ : Type} (L : Nat → σ → Int → Option ρ) (n m : Nat) (I : Nat → σ → Prop) (R : ρ → Prop)
    (hstop : ∀ k s, m ≤ k → I n s → ∃ r, L (k + 1) s (n : Int) = some r ∧ R r)
    (hstep : ∀ k s (i : Nat), m ≤ k → i < n → I i s → (∃ s', I (i + 1) s' ∧ L (k + 1) s (i : Int) = L k s' ((i + 1 : Nat) : Int)) ∨ ∃ r, L (k + 1) s (i : Int) = some r ∧ R r)
    (k : Nat) (s : σ) (i : Nat) (hi : i ≤ n) (hk : n - i + m < k) (h : I i s) : ∃ r, L k s (i : Int) = some r ∧ R r := by
  obtain ⟨d, hd⟩ : ∃ d, d = n - i := ⟨_, rfl⟩
  induction d generalizing k s i with
  | zero =>
    obtain ⟨k, rfl⟩ : ∃ z, k = z + 1 := ⟨k - 1, by omega⟩
    obtain rfl : i = n := by omega
    exact hstop k s (by omega) h
  | succ d ih =>
    obtain ⟨k, rfl⟩ : ∃ z, k = z + 1 := ⟨k - 1, by omega⟩
    rcases hstep k s i (by omega) (by omega) h with ⟨s', h', e⟩ | h'
    · rw [e]; exact ih k s' (i + 1) (by omega) (by omega) h' (by omega)
    · exact h'
theorem w0 : wrap64 0 = 0 := by unfold wrap64; omega
theorem w1 : wrap64 1 = 1 := by unfold wrap64; omega
theorem w2 : wrap64 2 = 2 := by unfold wrap64; omega
theorem w3 : wrap64 3 = 3 := by unfold wrap64; omega
theorem rd_lt (l : List Int) (i : Nat) (h : i < l.length) : rd l (i : Int) = l[i] := by
  simp [rd, List.getD_eq_getElem?_getD, List.getElem?_eq_getElem h]
theorem rds_lt (l : List ByteArray) (i : Nat) (h : i < l.length) : rdOf ByteArray.empty l (i : Int) = l[i] := by
  simp [rdOf, List.getD_eq_getElem?_getD, List.getElem?_eq_getElem h]
theorem wrap_up (i : Nat) (h : i < 1099511627776) : wrap64 ((i : Int) + 1) = ((i + 1 : Nat) : Int) := by unfold wrap64; omega
theorem set_next {α : Type} (l out : List α) (i : Nat) (h : i < l.length) (hl : out.length = l.length) (hp : out.take i = l.take i) : (out.set i l[i]).take (i + 1) = l.take (i + 1) := by
  apply List.ext_getElem?
  intro j
  by_cases hj : j < i + 1
  · rw [List.getElem?_take_of_lt hj, List.getElem?_take_of_lt hj]
    by_cases hji : j = i
    · subst hji; rw [List.getElem?_set_self (by omega), List.getElem?_eq_getElem h]
    · rw [List.getElem?_set_ne (by omega)]
      have := congrArg (fun z => z[j]?) hp
      simpa [List.getElem?_take_of_lt (show j < i by omega)] using this
  · rw [List.getElem?_eq_none (by simp; omega), List.getElem?_eq_none (by simp; omega)]
theorem take_all {α : Type} (l out : List α) (hl : out.length = l.length) (hp : out.take l.length = l.take l.length) : out = l := by
  rwa [List.take_of_length_le (by omega), List.take_length] at hp
theorem g_szloop {α : Type} (L : Nat → List α → Int → Int → Option Int) (E : Nat → α → Int → Option Int) (z : α) (m : Nat) (Q : α → Prop) (l : List α)
    (hL : ∀ k a i, L (k + 1) l a i = if i < (l.length : Int) then (if 0 ≤ i then ((E k (l.getD i.toNat z) a).bind fun t => if t < 0 then some (-1) else L k l t (wrap64 (i + 1))) else none) else some a)
    (hE : ∀ k x a, x ∈ l → 0 ≤ a → a ≤ 1048576 → m ≤ k → ∃ t, E k x a = some t ∧ (t < 0 ∨ (0 ≤ t ∧ t ≤ a ∧ Q x)))
    (hl : l.length ≤ 1048576) (k : Nat) (a : Int) (h0 : 0 ≤ a) (h1 : a ≤ 1048576) (hk : m + 1048580 < k) :
    ∃ t, L k l a 0 = some t ∧ (t < 0 ∨ (0 ≤ t ∧ t ≤ a ∧ ∀ x ∈ l, Q x)) := by
  exact count_loop (fun k s i => L k l s i) l.length m (fun i s => 0 ≤ s ∧ s ≤ a ∧ ∀ x ∈ l.take i, Q x) (fun t => t < 0 ∨ (0 ≤ t ∧ t ≤ a ∧ ∀ x ∈ l, Q x))
    (by
      rintro k s - ⟨h1, h2, h3⟩
      rw [List.take_length] at h3
      exact ⟨s, by show L (k + 1) l s _ = _; rw [hL, if_neg (by omega)], .inr ⟨h1, h2, h3⟩⟩)
    (by
      rintro k s i hm hi ⟨h1, h2, h3⟩
      have hg : l.getD (i : Int).toNat z = l[i] := by simp [List.getD_eq_getElem?_getD, List.getElem?_eq_getElem hi]
      obtain ⟨t, e, ht⟩ := hE k l[i] s (List.getElem_mem hi) h1 (by omega) hm
      rcases ht with ht | ⟨q1, q2, q3⟩
      · refine .inr ⟨-1, ?_, .inl (by omega)⟩
        show L (k + 1) l s _ = _
        rw [hL, if_pos (by omega), if_pos (by omega), hg, e]
        simp only [Option.bind_some]
        rw [if_pos ht]
      · refine .inl ⟨t, ⟨q1, by omega, ?_⟩, ?_⟩
        · intro x hx'
          rw [List.take_succ_eq_append_getElem hi, List.mem_append] at hx'
          rcases hx' with hx' | hx'
          · exact h3 x hx'
          · simp at hx'; subst hx'; exact q3
        · show L (k + 1) l s _ = _
          rw [hL, if_pos (by omega), if_pos (by omega), hg, e]
          simp only [Option.bind_some]
          rw [if_neg (by omega), wrap_up i (by omega)])
    k a 0 (by omega) (by omega) ⟨h0, by omega, by simp⟩
theorem g_toloop {α β γ : Type} (L : Nat → List α → List β → Int → Option (List β)) (E : Nat → α → Option γ) (mk : γ → β) (z : α) (c : α → β) (m : Nat) (l : List α)
    (hL : ∀ k s i, L (k + 1) l s i = if i < (l.length : Int) then (if 0 ≤ i then ((E k (l.getD i.toNat z)).bind fun b => (if i < (s.length : Int) then L k l (s.set i.toNat (mk b)) (wrap64 (i + 1)) else none)) else none) else some s)
    (hE : ∀ k x, x ∈ l → m ≤ k → ∃ b, E k x = some b ∧ mk b = c x)
    (hl : l.length ≤ 1048576) (k : Nat) (s : List β) (hs : s.length = l.length) (hk : m + 1048580 < k) : L k l s 0 = some (l.map c) := by
  obtain ⟨r, h, rfl⟩ := count_loop (fun k s i => L k l s i) l.length m (fun i s => s.length = (l.map c).length ∧ s.take i = (l.map c).take i) (fun r => r = l.map c)
    (by
      rintro k s - ⟨h1, h2⟩
      exact ⟨s, by show L (k + 1) l s _ = _; rw [hL, if_neg (by omega)], take_all (l.map c) s h1 (by rw [List.length_map]; exact h2)⟩)
    (by
      rintro k s i hm hi ⟨h1, h2⟩
      have hg : l.getD (i : Int).toNat z = l[i] := by simp [List.getD_eq_getElem?_getD, List.getElem?_eq_getElem hi]
      have hi' : i < (l.map c).length := by simpa using hi
      obtain ⟨b, e, hb⟩ := hE k l[i] (List.getElem_mem hi) hm
      have hb' : mk b = (l.map c)[i] := by rw [hb, List.getElem_map]
      refine .inl ⟨s.set i (l.map c)[i], ⟨by simpa using h1, set_next (l.map c) s i hi' h1 h2⟩, ?_⟩
      show L (k + 1) l s _ = _
      rw [hL, if_pos (by omega), if_pos (by omega), hg, e]
      simp only [Option.bind_some]
      rw [if_pos (by rw [h1]; simp; omega), wrap_up i (by omega), hb']
      rfl)
    k s 0 (by omega) (by omega) ⟨by simpa using hs, by simp⟩
  exact h
theorem g_eqloop {α : Type} (L : Nat → List α → List α → Int → Option Bool) (E : Nat → α → Option Bool) (z : α) (m : Nat) (l : List α)
    (hL : ∀ k i, L (k + 1) l l i = if i < (l.length : Int) then (if 0 ≤ i then (if i < (l.length : Int) then ((E k (l.getD i.toNat z)).bind fun t => (if t = true then L k l l (wrap64 (i + 1)) else some false)) else none) else none) else some true)
    (hE : ∀ k x, x ∈ l → m ≤ k → E k x = some true)
    (hl : l.length ≤ 1048576) (k : Nat) (hk : m + 1048580 < k) : L k l l 0 = some true := by
  obtain ⟨r, h, rfl⟩ := count_loop (fun k (_ : Unit) i => L k l l i) l.length m (fun _ _ => True) (fun r => r = true)
    (by
      rintro k s - -
      exact ⟨true, by show L (k + 1) l l _ = _; rw [hL, if_neg (by omega)], rfl⟩)
    (by
      rintro k s i hm hi -
      have hg : l.getD (i : Int).toNat z = l[i] := by simp [List.getD_eq_getElem?_getD, List.getElem?_eq_getElem hi]
      refine .inl ⟨(), trivial, ?_⟩
      show L (k + 1) l l _ = _
      rw [hL, if_pos (by omega), if_pos (by omega), if_pos (by omega), hg, hE k _ (List.getElem_mem hi) hm]
      simp only [Option.bind_some]
      rw [if_pos trivial, wrap_up i (by omega)])
    k () 0 (by omega) (by omega) trivial
  exact h
theorem g_szStringS (k : Nat) (l : List ByteArray) (a : Int) (h0 : 0 ≤ a) (h1 : a ≤ 1048576) (hk : 1048590 ≤ k) (o : l.length ≤ maxLen ∧ ∀ x_ ∈ l, x_.size ≤ maxLen) : ∃ t, laws_szStringS.f k l a = some t ∧ (t < 0 ∨ (0 ≤ t ∧ t ≤ a ∧ (l.length : Int) ≤ 1048576 ∧ (∀ y ∈ l, (y.size : Int) ≤ 1048576))) := by
  have ol := o.1
  unfold maxLen at ol
  unfold laws_szStringS.f
  rw [wrap64_id (by omega) (by omega)]
  by_cases h : a - (l.length : Int) < 0
  · exact ⟨-1, by rw [if_pos h], .inl (by omega)⟩
  rw [if_neg h]
  obtain ⟨t, e, q⟩ := g_szloop laws_szStringS.l0 (fun _ x a => if wrap64 (a - (x.size : Int)) < 0 then some (-1) else some (wrap64 (a - (x.size : Int)))) ByteArray.empty 0 (fun x => (x.size : Int) ≤ 1048576) l
    (by 
      intro k a i
      rw [laws_szStringS.l0]
      by_cases h : wrap64 (a - ((rdOf ByteArray.empty l i).size : Int)) < 0
      · rw [if_pos h]; unfold rdOf at h; rw [if_pos h]; rfl
      · rw [if_neg h]; unfold rdOf at h ⊢; rw [if_neg h]; simp only [Option.bind_some, if_neg h])
    (by 
      intro k x a hx h0 h1 hm
      have := o.2 x hx
      unfold maxLen at this
      rw [wrap64_id (by omega) (by omega)]
      by_cases h : a - (x.size : Int) < 0
      · exact ⟨-1, by rw [if_pos h], .inl (by omega)⟩
      · exact ⟨_, by rw [if_neg h], .inr ⟨by omega, by omega, by omega⟩⟩)
    (by omega) k (a - (l.length : Int)) (by omega) (by omega) (by omega)
  rcases q with q | ⟨q1, q2, q3⟩
  · exact ⟨t, e, .inl q⟩
  · exact ⟨t, e, .inr ⟨q1, by omega, by omega, q3⟩⟩
theorem g_szPut (k : Nat) (a0_0 : Int) (a0_1 : ByteArray) (a : Int) (h0 : 0 ≤ a) (h1 : a ≤ 1048576) (hk : 0 ≤ k) (o_a0_1 : a0_1.size ≤ maxLen) : ∃ t, laws_szPut.f a0_0 a0_1 a = some t ∧ (t < 0 ∨ (0 ≤ t ∧ t ≤ a ∧ (a0_1.size : Int) ≤ 1048576)) := by
  have p_a0_1 := o_a0_1
  unfold maxLen at p_a0_1
  unfold laws_szPut.f
  rw [wrap64_id (a := a - (a0_1.size : Int)) (by omega) (by omega)]
  by_cases c0 : a - (a0_1.size : Int) < 0
  · exact ⟨-1, by rw [if_pos c0], .inl (by omega)⟩
  rw [if_neg c0]
  exact ⟨_, rfl, .inr ⟨by omega, by omega, by omega⟩⟩
def QS99 (x : S99) : Prop := (x.f1.size : Int) ≤ 1048576
theorem g_szPutS (k : Nat) (l : List (S99)) (a : Int) (h0 : 0 ≤ a) (h1 : a ≤ 1048576) (hk : 1048590 ≤ k) (o : l.length ≤ maxLen ∧ ∀ x_ ∈ l, okS99 x_) : ∃ t, laws_szPutS.f k l a = some t ∧ (t < 0 ∨ (0 ≤ t ∧ t ≤ a ∧ (l.length : Int) ≤ 1048576 ∧ (∀ y ∈ l, QS99 y))) := by
  have ol := o.1
  unfold maxLen at ol
  unfold laws_szPutS.f
  rw [wrap64_id (by omega) (by omega)]
  by_cases h : a - (l.length : Int) < 0
  · exact ⟨-1, by rw [if_pos h], .inl (by omega)⟩
  rw [if_neg h]
  obtain ⟨t, e, q⟩ := g_szloop laws_szPutS.l0 (fun k x a => laws_szPut.f x.f0 x.f1 a) z99 0 (QS99) l
    (by intro k a i; rw [laws_szPutS.l0]; rfl)
    (by intro k x a hx h0 h1 hm; obtain ⟨o0, o1⟩ := o.2 x hx; exact g_szPut k x.f0 x.f1 a h0 h1 hm o1)
    (by omega) k (a - (l.length : Int)) (by omega) (by omega) (by omega)
  rcases q with q | ⟨q1, q2, q3⟩
  · exact ⟨t, e, .inl q⟩
  · exact ⟨t, e, .inr ⟨q1, by omega, by omega, q3⟩⟩
theorem g_szDisk (k : Nat) (l0_0 : List ByteArray) (l0_1 : List (S99)) (a0_2 : Int) (a0_3 : Bool) (a : Int) (h0 : 0 ≤ a) (h1 : a ≤ 1048576) (hk : 1048590 ≤ k) (o_l0_0 : l0_0.length ≤ maxLen ∧ ∀ x_ ∈ l0_0, x_.size ≤ maxLen) (o_l0_1 : l0_1.length ≤ maxLen ∧ ∀ x_ ∈ l0_1, okS99 x_) : ∃ t, laws_szDisk.f k l0_0 l0_1 a0_2 a0_3 a = some t ∧ (t < 0 ∨ (0 ≤ t ∧ t ≤ a ∧ (l0_0.length : Int) ≤ 1048576 ∧ (∀ y ∈ l0_0, (y.size : Int) ≤ 1048576) ∧ (l0_1.length : Int) ≤ 1048576 ∧ (∀ y ∈ l0_1, QS99 y))) := by
  have p_l0_0 := o_l0_0.1
  unfold maxLen at p_l0_0
  have p_l0_1 := o_l0_1.1
  unfold maxLen at p_l0_1
  unfold laws_szDisk.f
  obtain ⟨t0, e0, q0⟩ := g_szStringS k l0_0 a (by omega) (by omega) (by omega) o_l0_0
  rw [e0]
  simp only [Option.bind_some]
  rcases q0 with q0 | ⟨r0, s0, q0_l0_0_0, q0_l0_0_1⟩
  · exact ⟨-1, by rw [if_pos q0], .inl (by omega)⟩
  rw [if_neg (show ¬ t0 < 0 by omega)]
  obtain ⟨t1, e1, q1⟩ := g_szPutS k l0_1 t0 (by omega) (by omega) (by omega) o_l0_1
  rw [e1]
  simp only [Option.bind_some]
  rcases q1 with q1 | ⟨r1, s1, q1_l0_1_0, q1_l0_1_1⟩
  · exact ⟨-1, by rw [if_pos q1], .inl (by omega)⟩
  rw [if_neg (show ¬ t1 < 0 by omega)]
  exact ⟨_, rfl, .inr ⟨by omega, by omega, q0_l0_0_0, q0_l0_0_1, q1_l0_1_0, q1_l0_1_1⟩⟩
theorem g_toStringS (k : Nat) (l : List ByteArray) (hk : 1048590 ≤ k) (o1 : (l.length : Int) ≤ 1048576) (o2 : (∀ y ∈ l, (y.size : Int) ≤ 1048576)) : laws_toStringS.f k l = some l := by
  unfold laws_toStringS.f
  rw [if_pos (by omega), if_pos (by omega)]
  have h := g_toloop laws_toStringS.l0 (fun _ (x : ByteArray) => some x) (fun b => b) ByteArray.empty id 0 l (by intro k s i; rw [laws_toStringS.l0]; rfl)
    (by intro k x hx hm; exact ⟨_, rfl, rfl⟩)
    (by omega) k (List.replicate ((l.length : Int) : Int).toNat (⟨#[]⟩ : ByteArray)) (by simp) (by omega)
  rwa [List.map_id] at h
theorem g_toPut (k : Nat) (a0_0 : Int) (a0_1 : ByteArray) (hk : 0 ≤ k) (o_a0_1_0 : (a0_1.size : Int) ≤ 1048576) : laws_toPut.f a0_0 a0_1 = some (a0_0, a0_1) := by
  unfold laws_toPut.f
  rfl
def QS57 (x : S57) : Prop := (x.f1.size : Int) ≤ 1048576
def cS99 (x : S99) : S57 := ⟨x.f0, x.f1⟩
theorem qcS99 (x : S99) (h : QS99 x) : QS57 (cS99 x) := h
theorem qmS99 (l : List S99) (h : ∀ y ∈ l, QS99 y) : ∀ y ∈ l.map cS99, QS57 y := by
  intro y hy
  obtain ⟨x, hx, rfl⟩ := List.mem_map.1 hy
  exact qcS99 x (h x hx)
theorem g_toPutS (k : Nat) (l : List (S99)) (hk : 1048590 ≤ k) (o1 : (l.length : Int) ≤ 1048576) (o2 : (∀ y ∈ l, QS99 y)) : laws_toPutS.f k l = some (l.map cS99) := by
  unfold laws_toPutS.f
  rw [if_pos (by omega), if_pos (by omega)]
  have h := g_toloop laws_toPutS.l0 (fun k (x : S99) => laws_toPut.f x.f0 x.f1) (fun b => (⟨b.1, b.2⟩ : S57)) z99 cS99 0 l (by intro k s i; rw [laws_toPutS.l0]; rfl)
    (by intro k x hx hm; obtain q1_0 := o2 x hx; exact ⟨_, g_toPut k x.f0 x.f1 hm q1_0, rfl⟩)
    (by omega) k (List.replicate ((l.length : Int) : Int).toNat z57) (by simp) (by omega)
  exact h
theorem g_toDisk (k : Nat) (l0_0 : List ByteArray) (l0_1 : List (S99)) (a0_2 : Int) (a0_3 : Bool) (hk : 1048590 ≤ k) (o_l0_0_0 : (l0_0.length : Int) ≤ 1048576) (o_l0_0_1 : (∀ y ∈ l0_0, (y.size : Int) ≤ 1048576)) (o_l0_1_0 : (l0_1.length : Int) ≤ 1048576) (o_l0_1_1 : (∀ y ∈ l0_1, QS99 y)) : laws_toDisk.f k l0_0 l0_1 a0_2 a0_3 = some (l0_0, (l0_1.map cS99), a0_2, a0_3) := by
  unfold laws_toDisk.f
  rw [g_toStringS k l0_0 (by omega) o_l0_0_0 o_l0_0_1]
  simp only [Option.bind_some]
  rw [g_toPutS k l0_1 (by omega) o_l0_1_0 o_l0_1_1]
  simp only [Option.bind_some]
theorem g_toBoolS (k : Nat) (l : List Bool) (hk : 1048590 ≤ k) (o1 : (l.length : Int) ≤ 1048576) : laws_toBoolS.f k l = some l := by
  unfold laws_toBoolS.f
  rw [if_pos (by omega), if_pos (by omega)]
  have h := g_toloop laws_toBoolS.l0 (fun _ (x : Bool) => some x) (fun b => b) false id 0 l (by intro k s i; rw [laws_toBoolS.l0]; rfl)
    (by intro k x hx hm; exact ⟨_, rfl, rfl⟩)
    (by omega) k (List.replicate ((l.length : Int) : Int).toNat false) (by simp) (by omega)
  rwa [List.map_id] at h
theorem g_eqStringS (k : Nat) (l : List ByteArray) (hk : 1048590 ≤ k) (o1 : (l.length : Int) ≤ 1048576) (o2 : (∀ y ∈ l, (y.size : Int) ≤ 1048576)) : laws_eqStringS.f k l l = some true := by
  unfold laws_eqStringS.f
  rw [if_pos rfl]
  exact g_eqloop laws_eqStringS.l0 (fun _ (x : ByteArray) => some true) ByteArray.empty 0 l (by intro k i; rw [laws_eqStringS.l0]; simp only [Option.bind_some, bne_self_eq_false, Bool.false_eq_true, if_false, if_true, reduceIte]) (by intro k x hx hm; rfl) (by omega) k (by omega)
theorem g_eqPut (k : Nat) (a0_0 : Int) (a0_1 : ByteArray) (hk : 0 ≤ k)  : laws_eqPut.f a0_0 a0_1 a0_0 a0_1 = some true := by
  unfold laws_eqPut.f
  simp only [Option.bind_some, bne_self_eq_false, Bool.false_eq_true, if_false, if_true, reduceIte]
theorem g_eqPutS (k : Nat) (l : List (S57)) (hk : 1048590 ≤ k) (o1 : (l.length : Int) ≤ 1048576) (o2 : (∀ y ∈ l, QS57 y)) : laws_eqPutS.f k l l = some true := by
  unfold laws_eqPutS.f
  rw [if_pos rfl]
  exact g_eqloop laws_eqPutS.l0 (fun k (x : S57) => laws_eqPut.f x.f0 x.f1 x.f0 x.f1) z57 0 l (by intro k i; rw [laws_eqPutS.l0]; rfl) (by intro k x hx hm; obtain q1_0 := o2 x hx; exact g_eqPut k x.f0 x.f1 hm ) (by omega) k (by omega)
theorem g_eqDisk (k : Nat) (l0_0 : List ByteArray) (l0_1 : List (S57)) (a0_2 : Int) (a0_3 : Bool) (hk : 1048590 ≤ k) (o_l0_0_0 : (l0_0.length : Int) ≤ 1048576) (o_l0_0_1 : (∀ y ∈ l0_0, (y.size : Int) ≤ 1048576)) (o_l0_1_0 : (l0_1.length : Int) ≤ 1048576) (o_l0_1_1 : (∀ y ∈ l0_1, QS57 y)) : laws_eqDisk.f k l0_0 l0_1 a0_2 a0_3 l0_0 l0_1 a0_2 a0_3 = some true := by
  unfold laws_eqDisk.f
  simp only [g_eqStringS k l0_0 (by omega) o_l0_0_0 o_l0_0_1, g_eqPutS k l0_1 (by omega) o_l0_1_0 o_l0_1_1, Option.bind_some, bne_self_eq_false, Bool.false_eq_true, if_false, if_true, reduceIte]
theorem g_eqBoolS (k : Nat) (l : List Bool) (hk : 1048590 ≤ k) (o1 : (l.length : Int) ≤ 1048576) : laws_eqBoolS.f k l l = some true := by
  unfold laws_eqBoolS.f
  rw [if_pos rfl]
  exact g_eqloop laws_eqBoolS.l0 (fun _ (x : Bool) => some true) false 0 l (by intro k i; rw [laws_eqBoolS.l0]; simp only [Option.bind_some, bne_self_eq_false, Bool.false_eq_true, if_false, if_true, reduceIte]) (by intro k x hx hm; rfl) (by omega) k (by omega)
theorem all_loop (L : Nat → Int → Option Bool) (P : Nat → Prop) [DecidablePred P] (n m : Nat) (r : Bool)
    (hend : ∀ k, m ≤ k → L (k + 1) (n : Int) = some r) (hstep : ∀ k (i : Nat), m ≤ k → i < n → L (k + 1) (i : Int) = if P i then L k ((i + 1 : Nat) : Int) else some false) (k : Nat) (hk : n + m < k) :
    L k 0 = some (decide (∀ i, i < n → P i) && r) := by
  obtain ⟨s, h, rfl⟩ := count_loop (fun k (_ : Unit) i => L k i) n m (fun i _ => ∀ j, j < i → P j) (fun s => s = (decide (∀ i, i < n → P i) && r))
    (by
      rintro k s hm h
      exact ⟨r, hend k hm, by simp [decide_eq_true h]⟩)
    (by
      rintro k s i hm hi h
      by_cases hp : P i
      · refine .inl ⟨(), ?_, by show L (k + 1) _ = _; rw [hstep k i hm hi, if_pos hp]⟩
        intro j hj
        by_cases hji : j = i
        · subst hji; exact hp
        · exact h j (by omega)
      · refine .inr ⟨false, by show L (k + 1) _ = _; rw [hstep k i hm hi, if_neg hp], ?_⟩
        have : ¬ ∀ i, i < n → P i := fun h => hp (h i hi)
        simp [this])
    k () 0 (by omega) (by omega) (by simp)
  exact h
def look (P : Nat → Prop) [DecidablePred P] : Nat → Nat → Int
  | 0, _ => -1
  | d + 1, i => if P i then (i : Int) else look P d (i + 1)
theorem look_or (P : Nat → Prop) [DecidablePred P] (d : Nat) : ∀ i, (look P d i = -1 ∧ ∀ j, i ≤ j → j < i + d → ¬ P j) ∨ ∃ j, i ≤ j ∧ j < i + d ∧ look P d i = (j : Int) ∧ P j := by
  induction d with
  | zero => intro i; exact .inl ⟨rfl, fun j h1 h2 => by omega⟩
  | succ d ih =>
    intro i
    by_cases hp : P i
    · exact .inr ⟨i, by omega, by omega, by rw [look, if_pos hp], hp⟩
    · rw [look, if_neg hp]
      rcases ih (i + 1) with ⟨h1, h2⟩ | ⟨j, h1, h2, h3, h4⟩
      · refine .inl ⟨h1, fun j h3 h4 => ?_⟩
        by_cases hji : j = i
        · subst hji; exact hp
        · exact h2 j (by omega) (by omega)
      · exact .inr ⟨j, by omega, by omega, h3, h4⟩
theorem find_loop (L : Nat → Int → Option Int) (P : Nat → Prop) [DecidablePred P] (n m : Nat)
    (hend : ∀ k, m ≤ k → L (k + 1) (n : Int) = some (-1)) (hstep : ∀ k (i : Nat), m ≤ k → i < n → L (k + 1) (i : Int) = if P i then some (i : Int) else L k ((i + 1 : Nat) : Int)) (k : Nat) (hk : n + m < k) :
    L k 0 = some (look P n 0) := by
  have key : ∀ d k i, i + d = n → d + m < k → L k (i : Int) = some (look P d i) := by
    intro d
    induction d with
    | zero =>
      intro k i hi hk
      obtain ⟨k, rfl⟩ : ∃ z, k = z + 1 := ⟨k - 1, by omega⟩
      obtain rfl : i = n := by omega
      exact hend k (by omega)
    | succ d ih =>
      intro k i hi hk
      obtain ⟨k, rfl⟩ : ∃ z, k = z + 1 := ⟨k - 1, by omega⟩
      rw [hstep k i (by omega) (by omega), look]
      by_cases hp : P i
      · rw [if_pos hp, if_pos hp]
      · rw [if_neg hp, if_neg hp]; exact ih k (i + 1) (by omega) (by omega)
  exact key n k 0 (by omega) (by omega)
theorem getD_lt {α : Type} (l : List α) (z : α) (i : Nat) (h : i < l.length) : l.getD (i : Int).toNat z = l[i] := by
  simp [List.getD_eq_getElem?_getD, List.getElem?_eq_getElem h]
theorem flip_ite {α : Type} (c : Prop) [Decidable c] (a b : α) : (if c then b else a) = if ¬ c then a else b := by
  by_cases h : c
  · rw [if_pos h, if_neg (fun h2 => h2 h)]
  · rw [if_neg h, if_pos h]
theorem seq_loop (L : Nat → Int → Option Bool) (P : Nat → Prop) [DecidablePred P] (n : Nat)
    (hend : ∀ k, L (k + 1) (n : Int) = some true) (hstep : ∀ k (i : Nat), i < n → L (k + 1) (i : Int) = if P i then L k ((i + 1 : Nat) : Int) else some false) (k : Nat) (hk : n < k) :
    L k 0 = some (decide (∀ i, i < n → P i)) := by
  rw [all_loop L P n 0 true (fun k _ => hend k) (fun k i _ hi => hstep k i hi) k (by omega), Bool.and_true]
theorem in_eq (a b c : Int) : spec_l00In.f a b c = some (decide (b ≤ a ∧ a ≤ c)) := by
  unfold spec_l00In.f
  by_cases h : a ≥ b
  · rw [if_pos h]
    by_cases h2 : a ≤ c <;> simp [h2] <;> omega
  · rw [if_neg h]; simp; omega
theorem within_eq (a b c : Int) : impl_within.f a b c = some (decide (b ≤ a ∧ a ≤ c)) := by
  unfold impl_within.f
  by_cases h : a ≥ b
  · rw [if_pos h]
    by_cases h2 : a ≤ c <;> simp [h2] <;> omega
  · rw [if_neg h]; simp; omega
def okPut (n : Int) (x : S57) : Prop := (0 ≤ x.f0 ∧ x.f0 ≤ wrap64 (n - 1)) ∧ (x.f1.size : Int) = 64
instance (n : Int) (x : S57) : Decidable (okPut n x) := by unfold okPut; infer_instance
def blk (a : List ByteArray) (i : Nat) : Prop := ((rdOf ByteArray.empty a (i : Int)).size : Int) = 64
instance (a : List ByteArray) : DecidablePred (blk a) := fun i => by unfold blk; infer_instance
theorem sp1 (n : Int) (a : List ByteArray) (l : List S57) (x : Int) (y : Bool) (hl : l.length ≤ 1048576) (k : Nat) (hk : 1048590 ≤ k) : spec_l09Ok_c44.l1 k n 0 a l x y = some (decide (∀ i, i < l.length → okPut n (rd_T57 l (i : Int)))) :=
  seq_loop (fun k i => spec_l09Ok_c44.l1 k n i a l x y) (fun i => okPut n (rd_T57 l (i : Int))) l.length
    (by intro k; show spec_l09Ok_c44.l1 (k + 1) n _ a l x y = _; rw [spec_l09Ok_c44.l1, if_neg (by omega)])
    (by
      intro k i hi
      show spec_l09Ok_c44.l1 (k + 1) n _ a l x y = _
      rw [spec_l09Ok_c44.l1, if_pos (by omega), if_pos (by omega), wrap_up i (by omega), in_eq]
      simp only [Option.bind_some, decide_eq_true_eq]
      generalize rd_T57 l (i : Int) = z
      by_cases h1 : 0 ≤ z.f0 ∧ z.f0 ≤ wrap64 (n - 1)
      · rw [if_pos h1]
        by_cases h2 : (z.f1.size : Int) = 64
        · rw [if_pos h2, if_pos ⟨h1, h2⟩]
        · rw [if_neg h2, if_neg (fun h => h2 h.2)]
      · rw [if_neg h1, if_neg (fun h => h1 h.1)])
    k (by omega)
theorem sp0 (n : Int) (a : List ByteArray) (l : List S57) (x : Int) (y : Bool) (ha : a.length ≤ 1048576) (hl : l.length ≤ 1048576) (k : Nat) (hk : 3000000 ≤ k) : spec_l09Ok_c44.l0 k n 0 a l x y = some (decide (∀ i, i < a.length → blk a i) && decide (∀ i, i < l.length → okPut n (rd_T57 l (i : Int)))) :=
  all_loop (fun k i => spec_l09Ok_c44.l0 k n i a l x y) (blk a) a.length 1048590 _
    (by intro k hk; show spec_l09Ok_c44.l0 (k + 1) n _ a l x y = _; rw [spec_l09Ok_c44.l0, if_neg (by omega)]; exact sp1 n a l x y hl k hk)
    (by
      intro k i _ hi
      show spec_l09Ok_c44.l0 (k + 1) n _ a l x y = _
      rw [spec_l09Ok_c44.l0, if_pos (by omega), if_pos (by omega), wrap_up i (by omega)]
      rfl)
    k (by omega)
theorem im1 (a : List ByteArray) (ha : a.length ≤ 1048576) (k : Nat) (hk : 1048590 ≤ k) : slices_ContainsFunc_impl_ValidDisk_1.f k a = some (!decide (∀ i, i < a.length → blk a i)) := by
  unfold slices_ContainsFunc_impl_ValidDisk_1.f slices_IndexFunc_impl_ValidDisk_1.f
  rw [find_loop (fun k i => slices_IndexFunc_impl_ValidDisk_1.l0 k a a.length i) (fun i => ¬ blk a i) a.length 0
    (by intro k _; show slices_IndexFunc_impl_ValidDisk_1.l0 (k + 1) a _ _ = _; rw [slices_IndexFunc_impl_ValidDisk_1.l0, if_neg (by omega)])
    (by
      intro k i _ hi
      show slices_IndexFunc_impl_ValidDisk_1.l0 (k + 1) a _ _ = _
      rw [slices_IndexFunc_impl_ValidDisk_1.l0, if_pos (by omega), if_pos (by omega), if_pos (by omega), wrap_up i (by omega)]
      unfold impl_ValidDisk_1.f impl_isBlock.f
      simp only [Option.bind_some]
      by_cases h : ((rdOf ByteArray.empty a (i : Int)).size : Int) = 64
      · have h2 : blk a i := h
        simp [h, h2]
      · have h2 : ¬ blk a i := h
        simp [h, h2])
    k (by omega)]
  simp only [Option.bind_some]
  rcases look_or (fun i => ¬ blk a i) a.length 0 with ⟨h4, h5⟩ | ⟨j, -, h4, h5, h6⟩
  · rw [h4]
    have h7 : ∀ i, i < a.length → blk a i := fun i hi => Decidable.not_not.1 (h5 i (by omega) (by omega))
    rw [decide_eq_true h7]; rfl
  · rw [h5]
    have h7 : ¬ ∀ i, i < a.length → blk a i := fun h => h6 (h j (by omega))
    have h8 : (j : Int) ≥ 0 := by omega
    rw [decide_eq_false h7]; simp [h8]
theorem im2 (a : List ByteArray) (l : List S57) (x : Int) (y : Bool) (hl : l.length ≤ 1048576) (k : Nat) (hk : 1048590 ≤ k) : slices_ContainsFunc_impl_ValidDisk_2.f k l a l x y = some (!decide (∀ i, i < l.length → okPut (a.length : Int) (rd_T57 l (i : Int)))) := by
  unfold slices_ContainsFunc_impl_ValidDisk_2.f slices_IndexFunc_impl_ValidDisk_2.f
  rw [find_loop (fun k i => slices_IndexFunc_impl_ValidDisk_2.l0 k l l.length i a l x y) (fun i => ¬ okPut (a.length : Int) (rd_T57 l (i : Int))) l.length 0
    (by intro k _; show slices_IndexFunc_impl_ValidDisk_2.l0 (k + 1) l _ _ a l x y = _; rw [slices_IndexFunc_impl_ValidDisk_2.l0, if_neg (by omega)])
    (by
      intro k i _ hi
      show slices_IndexFunc_impl_ValidDisk_2.l0 (k + 1) l _ _ a l x y = _
      rw [slices_IndexFunc_impl_ValidDisk_2.l0, if_pos (by omega), if_pos (by omega), if_pos (by omega), wrap_up i (by omega)]
      unfold impl_ValidDisk_2.f impl_isBlock.f impl_isIndex.f
      simp only [within_eq, Option.bind_some, decide_eq_true_eq]
      generalize rd_T57 l (i : Int) = z
      by_cases h1 : 0 ≤ z.f0 ∧ z.f0 ≤ wrap64 ((a.length : Int) - 1)
      · rw [if_pos h1]
        simp only [Option.bind_some]
        by_cases h2 : (z.f1.size : Int) = 64
        · have h3 : okPut (a.length : Int) z := ⟨h1, h2⟩
          simp [h2, h3]
        · have h3 : ¬ okPut (a.length : Int) z := fun h => h2 h.2
          simp [h2, h3]
      · have h3 : ¬ okPut (a.length : Int) z := fun h => h1 h.1
        rw [if_neg h1]
        simp [h3])
    k (by omega)]
  simp only [Option.bind_some]
  rcases look_or (fun i => ¬ okPut (a.length : Int) (rd_T57 l (i : Int))) l.length 0 with ⟨h4, h5⟩ | ⟨j, -, h4, h5, h6⟩
  · rw [h4]
    have h7 : ∀ i, i < l.length → okPut (a.length : Int) (rd_T57 l (i : Int)) := fun i hi => Decidable.not_not.1 (h5 i (by omega) (by omega))
    rw [decide_eq_true h7]; rfl
  · rw [h5]
    have h7 : ¬ ∀ i, i < l.length → okPut (a.length : Int) (rd_T57 l (i : Int)) := fun h => h6 (h j (by omega))
    have h8 : (j : Int) ≥ 0 := by omega
    rw [decide_eq_false h7]; simp [h8]
theorem disk_ok (a : List ByteArray) (l : List S57) (x : Int) (y : Bool) (ha : (a.length : Int) ≤ 1048576) (ha2 : ∀ y ∈ a, (y.size : Int) ≤ 1048576) (hl : (l.length : Int) ≤ 1048576) (hl2 : ∀ y ∈ l, QS57 y) (hx : (Lit.int .i64 x).wf = true) :
    ∃ v, (∀ k, 8000000 ≤ k → spec_l09Ok_c44.f k a l x y = some v ∧ impl_ValidDisk.f k a l x y = some v) ∧ (v = true → (16 ≤ (a.length : Int) ∧ (a.length : Int) ≤ 256) ∧ (l.length : Int) ≤ 600 ∧ (∀ i, i < a.length → blk a i) ∧ ∀ i, i < l.length → okPut (a.length : Int) (rd_T57 l (i : Int))) := by
  by_cases h1 : 16 ≤ (a.length : Int) ∧ (a.length : Int) ≤ 256
  · by_cases h2 : (l.length : Int) > 600
    · refine ⟨false, fun k hk => ?_, fun h => by cases h⟩
      obtain ⟨k, rfl⟩ : ∃ z, k = z + 1 := ⟨k - 1, by omega⟩
      unfold impl_ValidDisk.f spec_l09Ok_c44.f
      rw [in_eq, within_eq, decide_eq_true h1]
      simp only [Option.bind_some, if_true, if_pos h2]
      rw [spec_l09Ok_c44.j0, impl_ValidDisk.j0]
      exact ⟨rfl, rfl⟩
    · by_cases h3 : -1 ≤ x ∧ x ≤ 100000
      · refine ⟨decide (∀ i, i < a.length → blk a i) && decide (∀ i, i < l.length → okPut (a.length : Int) (rd_T57 l (i : Int))), fun k hk => ?_, fun h => by rw [Bool.and_eq_true, decide_eq_true_eq, decide_eq_true_eq] at h; exact ⟨h1, by omega, h.1, h.2⟩⟩
        obtain ⟨k, rfl⟩ : ∃ z, k = z + 1 := ⟨k - 1, by omega⟩
        unfold impl_ValidDisk.f spec_l09Ok_c44.f
        rw [in_eq, within_eq, decide_eq_true h1]
        simp only [Option.bind_some, if_true, if_neg h2]
        rw [in_eq, within_eq, decide_eq_true h3]
        simp only [Option.bind_some]
        rw [spec_l09Ok_c44.j0, impl_ValidDisk.j0, sp0 _ a l x y (by omega) (by omega) k (by omega), im1 a (by omega) k (by omega), im2 a l x y (by omega) k (by omega)]
        generalize decide (∀ i, i < a.length → blk a i) = p
        generalize decide (∀ i, i < l.length → okPut (a.length : Int) (rd_T57 l (i : Int))) = q
        cases p <;> cases q <;> exact ⟨rfl, rfl⟩
      · refine ⟨false, fun k hk => ?_, fun h => by cases h⟩
        obtain ⟨k, rfl⟩ : ∃ z, k = z + 1 := ⟨k - 1, by omega⟩
        unfold impl_ValidDisk.f spec_l09Ok_c44.f
        rw [in_eq, within_eq, decide_eq_true h1]
        simp only [Option.bind_some, if_true, if_neg h2]
        rw [in_eq, within_eq, decide_eq_false h3]
        simp only [Option.bind_some]
        rw [spec_l09Ok_c44.j0, impl_ValidDisk.j0]
        exact ⟨rfl, rfl⟩
  · refine ⟨false, fun k hk => ?_, fun h => by cases h⟩
    obtain ⟨k, rfl⟩ : ∃ z, k = z + 1 := ⟨k - 1, by omega⟩
    unfold impl_ValidDisk.f spec_l09Ok_c44.f
    rw [in_eq, within_eq, decide_eq_false h1]
    simp only [Option.bind_some, Bool.false_eq_true, if_false]
    rw [spec_l09Ok_c44.j0, impl_ValidDisk.j0]
    exact ⟨rfl, rfl⟩

theorem ext_all (c : ByteArray) : c.extract 0 c.size = c := ByteArray.extract_zero_size
theorem ext_none (c : ByteArray) : c.extract 0 0 = ByteArray.empty := by
  apply ByteArray.ext
  simp [ByteArray.data_extract]
theorem ext_end (c : ByteArray) (h : c.size = 64) : c.extract 64 c.size = ByteArray.empty := by
  have h2 : (c.extract 64 c.size).size = 0 := by rw [ByteArray.size_extract, h]; omega
  exact ByteArray.size_eq_zero_iff.1 h2
def All64 (n : Nat) (bs : List ByteArray) : Prop := bs.length = n ∧ ∀ j, j < n → (rdOf ByteArray.empty bs (j : Int)).size = 64
theorem rd_set (bs : List ByteArray) (q j : Nat) (x : ByteArray) (hq : q < bs.length) : rdOf ByteArray.empty (bs.set q x) (j : Int) = if j = q then x else rdOf ByteArray.empty bs (j : Int) := by
  unfold rdOf
  simp only [Int.toNat_natCast, List.getD_eq_getElem?_getD]
  by_cases h : j = q
  · subst h
    rw [List.getElem?_set_self hq, if_pos rfl]
    rfl
  · rw [List.getElem?_set_ne (by omega), if_neg h]
theorem all_set {n : Nat} {bs : List ByteArray} (h : All64 n bs) (q : Nat) (hq : q < n) (x : ByteArray) (hx : x.size = 64) : All64 n (bs.set q x) := by
  refine ⟨by rw [List.length_set]; exact h.1, fun j hj => ?_⟩
  rw [rd_set bs q j x (by rw [h.1]; exact hq)]
  split
  · exact hx
  · exact h.2 j hj
theorem set_same (bs : List ByteArray) (q : Nat) (hq : q < bs.length) : bs.set q (rdOf ByteArray.empty bs (q : Int)) = bs := by
  unfold rdOf
  simp only [Int.toNat_natCast, List.getD_eq_getElem?_getD, List.getElem?_eq_getElem hq, Option.getD_some]
  exact List.set_getElem_self hq
def cutS (ks : List Bool) (torn b : Int) (l : List S57) (bs : List ByteArray) (i : Nat) : List ByteArray :=
  if (i : Int) = torn then bs.set (rd_T57 l (i : Int)).f0.toNat (((rd_T57 l (i : Int)).f1.extract 0 b.toNat) ++ ((rdOf ByteArray.empty bs (rd_T57 l (i : Int)).f0).extract b.toNat (rdOf ByteArray.empty bs (rd_T57 l (i : Int)).f0).size))
  else if rdOf false ks (i : Int) = true then bs.set (rd_T57 l (i : Int)).f0.toNat (rd_T57 l (i : Int)).f1 else bs
def cutR (ks : List Bool) (torn b : Int) (l : List S57) : Nat → Nat → List ByteArray → List ByteArray
  | 0, _, bs => bs
  | d + 1, i, bs => cutR ks torn b l d (i + 1) (cutS ks torn b l bs i)
theorem cat_size (p c : ByteArray) (b : Int) (hb : 0 ≤ b ∧ b ≤ 64) (hp : p.size = 64) (hc : c.size = 64) : ((p.extract 0 b.toNat) ++ (c.extract b.toNat c.size)).size = 64 := by
  rw [ByteArray.size_append, ByteArray.size_extract, ByteArray.size_extract]
  omega
theorem cutS_all {n : Nat} {ks : List Bool} {torn b : Int} {l : List S57} {bs : List ByteArray} {i : Nat} (h : All64 n bs) (hb : 0 ≤ b ∧ b ≤ 64) (hp : (0 ≤ (rd_T57 l (i : Int)).f0 ∧ (rd_T57 l (i : Int)).f0 < n) ∧ (rd_T57 l (i : Int)).f1.size = 64) : All64 n (cutS ks torn b l bs i) := by
  unfold cutS
  have hq : (rd_T57 l (i : Int)).f0.toNat < n := by omega
  have hc : (rdOf ByteArray.empty bs (rd_T57 l (i : Int)).f0).size = 64 := by
    have := h.2 _ hq
    rwa [show (((rd_T57 l (i : Int)).f0.toNat : Nat) : Int) = (rd_T57 l (i : Int)).f0 by omega] at this
  split
  · exact all_set h _ hq _ (cat_size _ _ b hb hp.2 hc)
  · split
    · exact all_set h _ hq _ hp.2
    · exact h
theorem cutR_all {n : Nat} {ks : List Bool} {torn b : Int} {l : List S57} (hb : 0 ≤ b ∧ b ≤ 64) (hp : ∀ i, i < l.length → (0 ≤ (rd_T57 l (i : Int)).f0 ∧ (rd_T57 l (i : Int)).f0 < n) ∧ (rd_T57 l (i : Int)).f1.size = 64) : ∀ (d i : Nat) (bs : List ByteArray), i + d = l.length → All64 n bs → All64 n (cutR ks torn b l d i bs) := by
  intro d
  induction d with
  | zero => intro i bs _ h; exact h
  | succ d ih => intro i bs hi h; exact ih (i + 1) _ (by omega) (cutS_all h hb (hp i (by omega)))
theorem scut_loop (n : Nat) (hn : n ≤ 256) (ks : List Bool) (torn b : Int) (a : List ByteArray) (l : List S57) (x : Int) (y : Bool) (hb : 0 ≤ b ∧ b ≤ 64) (hk0 : ks.length = l.length) (hl : l.length ≤ 600)
    (hp : ∀ i, i < l.length → (0 ≤ (rd_T57 l (i : Int)).f0 ∧ (rd_T57 l (i : Int)).f0 < n) ∧ (rd_T57 l (i : Int)).f1.size = 64) (l' : List S57) (x' : Int) (y' : Bool) : ∀ (d i k : Nat) (bs : List ByteArray), i + d = l.length → d < k → All64 n bs →
    spec_l09Cut_c44.l0 k ks torn b (i : Int) a l x y bs l' x' y' = some (cutR ks torn b l d i bs, ([] : List S57), (-1), false) := by
  intro d
  induction d with
  | zero =>
    intro i k bs hi hk h
    obtain ⟨k, rfl⟩ : ∃ m, k = m + 1 := ⟨k - 1, by omega⟩
    rw [spec_l09Cut_c44.l0, if_neg (by omega)]
    rfl
  | succ d ih =>
    intro i k bs hi hk h
    obtain ⟨k, rfl⟩ : ∃ m, k = m + 1 := ⟨k - 1, by omega⟩
    obtain ⟨⟨p0, p1⟩, p2⟩ := hp i (by omega)
    have hq : (rd_T57 l (i : Int)).f0.toNat < n := by omega
    have hc : (rdOf ByteArray.empty bs (rd_T57 l (i : Int)).f0).size = 64 := by
      have := h.2 _ hq
      rwa [show (((rd_T57 l (i : Int)).f0.toNat : Nat) : Int) = (rd_T57 l (i : Int)).f0 by omega] at this
    have hbl := h.1
    have hcat := cat_size _ _ b hb p2 hc
    rw [ByteArray.size_append] at hcat
    have hih := ih (i + 1) k (cutS ks torn b l bs i) (by omega) (by omega) (cutS_all h hb (hp i (by omega)))
    unfold cutS at hih
    show _ = some (cutR ks torn b l d (i + 1) (cutS ks torn b l bs i), ([] : List S57), (-1), false)
    unfold cutS
    rw [spec_l09Cut_c44.l0, if_pos (by omega), if_pos (by omega)]
    by_cases ht : (i : Int) = torn
    · rw [if_pos ht] at hih
      rw [if_pos ht, if_pos ht, if_pos hb.1, if_pos (by omega), if_pos p0, if_pos (by omega), if_pos (by omega), if_pos (by omega), wrap_up i (by omega)]
      exact hih
    · rw [if_neg ht] at hih
      rw [if_neg ht, if_neg ht, if_pos (by omega)]
      by_cases hkp : rdOf false ks (i : Int) = true
      · rw [if_pos hkp] at hih
        rw [if_pos hkp, if_pos hkp, if_pos p0, if_pos (by omega), wrap_up i (by omega)]
        exact hih
      · rw [if_neg hkp] at hih
        rw [if_neg hkp, if_neg hkp, wrap_up i (by omega)]
        exact hih
theorem icut_loop (n : Nat) (hn : n ≤ 256) (ks : List Bool) (torn b : Int) (l : List S57) (hb : 0 ≤ b ∧ b ≤ 64) (hk0 : ks.length = l.length) (hl : l.length ≤ 600)
    (hp : ∀ i, i < l.length → (0 ≤ (rd_T57 l (i : Int)).f0 ∧ (rd_T57 l (i : Int)).f0 < n) ∧ (rd_T57 l (i : Int)).f1.size = 64) : ∀ (d i k : Nat) (bs : List ByteArray), i + d = l.length → d < k → All64 n bs →
    impl_Disk_afterCut.l0 k ks torn b l (l.length : Int) (i : Int) bs (-1) false = some (cutR ks torn b l d i bs, ([] : List S57), (-1), false) := by
  intro d
  induction d with
  | zero =>
    intro i k bs hi hk h
    obtain ⟨k, rfl⟩ : ∃ m, k = m + 1 := ⟨k - 1, by omega⟩
    rw [impl_Disk_afterCut.l0, if_neg (by omega)]
    rfl
  | succ d ih =>
    intro i k bs hi hk h
    obtain ⟨k, rfl⟩ : ∃ m, k = m + 1 := ⟨k - 1, by omega⟩
    obtain ⟨⟨p0, p1⟩, p2⟩ := hp i (by omega)
    have hq : (rd_T57 l (i : Int)).f0.toNat < n := by omega
    have hc : (rdOf ByteArray.empty bs (rd_T57 l (i : Int)).f0).size = 64 := by
      have := h.2 _ hq
      rwa [show (((rd_T57 l (i : Int)).f0.toNat : Nat) : Int) = (rd_T57 l (i : Int)).f0 by omega] at this
    have hbl := h.1
    have hcat := cat_size _ _ b hb p2 hc
    rw [ByteArray.size_append] at hcat
    have hih := ih (i + 1) k (cutS ks torn b l bs i) (by omega) (by omega) (cutS_all h hb (hp i (by omega)))
    unfold cutS at hih
    show _ = some (cutR ks torn b l d (i + 1) (cutS ks torn b l bs i), ([] : List S57), (-1), false)
    unfold cutS
    rw [impl_Disk_afterCut.l0, if_pos (by omega), if_pos (by omega), if_pos (by omega)]
    by_cases ht : (i : Int) = torn
    · rw [if_pos ht] at hih
      rw [if_pos ht, if_pos ht, if_pos hb.1, if_pos (by omega), if_pos p0, if_pos (by omega), if_pos (by omega), if_pos (by omega), wrap_up i (by omega)]
      exact hih
    · rw [if_neg ht] at hih
      rw [if_neg ht, if_neg ht, if_pos (by omega)]
      by_cases hkp : rdOf false ks (i : Int) = true
      · rw [if_pos hkp] at hih
        have e1 : (rd_T57 l (i : Int)).f1.extract 0 64 = (rd_T57 l (i : Int)).f1 := by
          have := ext_all (rd_T57 l (i : Int)).f1
          rwa [p2] at this
        rw [if_pos hkp, if_pos hkp, if_pos (by decide), if_pos (by omega), if_pos p0, if_pos (by omega), if_pos (by omega), e1, ext_end _ hc, if_pos (by rw [p2]; decide), wrap_up i (by omega), ByteArray.append_empty]
        exact hih
      · rw [if_neg hkp] at hih
        have e2 : bs.set (rd_T57 l (i : Int)).f0.toNat (rdOf ByteArray.empty bs (rd_T57 l (i : Int)).f0) = bs := by
          have := set_same bs (rd_T57 l (i : Int)).f0.toNat (by omega)
          rwa [show (((rd_T57 l (i : Int)).f0.toNat : Nat) : Int) = (rd_T57 l (i : Int)).f0 by omega] at this
        rw [if_neg hkp, if_neg hkp, if_pos (by decide), if_pos (by omega), if_pos p0, if_pos (by omega), if_pos (by omega), ext_none, ext_all, if_pos (by rw [hc]; decide), wrap_up i (by omega), ByteArray.empty_append, e2]
        exact hih
theorem mt_loop : ∀ (d : Nat) (x : Int), 0 ≤ x → x ≤ d → ∀ (s : ByteArray), s.size + d ≤ 1099511627776 → ∃ t, ∀ k, d + 1 ≤ k → laws_markText.l0 k x s = some t := by
  intro d
  induction d with
  | zero =>
    intro x h0 h1 s hs
    refine ⟨⟨#[109]⟩ ++ s, fun k hk => ?_⟩
    obtain ⟨k, rfl⟩ : ∃ m, k = m + 1 := ⟨k - 1, by omega⟩
    rw [laws_markText.l0, if_neg (by omega), if_pos (by omega)]
  | succ d ih =>
    intro x h0 h1 s hs
    by_cases hx : x > 0
    · have e : Int.tdiv x 10 = x / 10 := Int.tdiv_eq_ediv_of_nonneg h0
      have hsz : (strOfNums [(wrap64 (48 + Int.tmod x 10)) % 256]).size = 1 := by rw [strOfNums_size]; rfl
      obtain ⟨t, ht⟩ := ih (x / 10) (by omega) (by omega) (strOfNums [(wrap64 (48 + Int.tmod x 10)) % 256] ++ s) (by rw [ByteArray.size_append, hsz]; omega)
      refine ⟨t, fun k hk => ?_⟩
      obtain ⟨k, rfl⟩ : ∃ m, k = m + 1 := ⟨k - 1, by omega⟩
      rw [laws_markText.l0, if_pos hx]
      simp only [Option.bind_some]
      rw [if_pos (by rw [hsz]; omega), e, wrap64_id (by omega) (by omega)]
      exact ht k (by omega)
    · refine ⟨⟨#[109]⟩ ++ s, fun k hk => ?_⟩
      obtain ⟨k, rfl⟩ : ∃ m, k = m + 1 := ⟨k - 1, by omega⟩
      rw [laws_markText.l0, if_neg hx, if_pos (by omega)]
theorem mt_some (x : Int) (h0 : 0 ≤ x) (h1 : x ≤ 5000000) : ∃ t, ∀ k, 5000001 ≤ k → laws_markText.f k x = some t := by
  by_cases hx : x ≤ 0
  · exact ⟨⟨#[109, 48]⟩, fun k _ => by unfold laws_markText.f; rw [if_pos hx]⟩
  · obtain ⟨t, ht⟩ := mt_loop 5000000 x h0 (by omega) ⟨#[]⟩ (by simp [ByteArray.size])
    exact ⟨t, fun k hk => by unfold laws_markText.f; rw [if_neg hx]; exact ht k (by omega)⟩
theorem marks_s (n : Nat) (hn : n ≤ 1048576) : ∀ (d i : Nat) (x : Int) (l : List ByteArray), l.length = n → n - i = d → i ≤ n → 0 ≤ x → x + d ≤ 5000000 →
    ∃ r : List ByteArray, ∀ k, 5000001 + d < k → laws_markStringS.l0 k l x (i : Int) = some (x + d, r) := by
  intro d
  induction d with
  | zero =>
    intro i x l hl hd hi h0 h1
    refine ⟨l, fun k hk => ?_⟩
    obtain ⟨k, rfl⟩ : ∃ m, k = m + 1 := ⟨k - 1, by omega⟩
    rw [laws_markStringS.l0, if_neg (by omega)]
    simp
  | succ d ih =>
    intro i x l hl hd hi h0 h1
    obtain ⟨t, ht⟩ := mt_some x h0 (by omega)
    obtain ⟨r, hr⟩ := ih (i + 1) (x + 1) (l.set i t) (by simpa using hl) (by omega) (by omega) (by omega) (by omega)
    refine ⟨r, fun k hk => ?_⟩
    obtain ⟨k, rfl⟩ : ∃ m, k = m + 1 := ⟨k - 1, by omega⟩
    rw [laws_markStringS.l0, if_pos (by omega), ht k (by omega)]
    simp only [Option.bind_some]
    rw [if_pos (by omega), wrap64_id (by omega) (by omega), wrap64_id (by omega) (by omega), Int.toNat_natCast, show (i : Int) + 1 = ((i + 1 : Nat) : Int) by omega, hr k (by omega)]
    congr 2
    omega
theorem marks_p (n : Nat) (hn : n ≤ 1048576) : ∀ (d i : Nat) (x : Int) (l : List S57), l.length = n → n - i = d → i ≤ n → 0 ≤ x → x + 2 * d ≤ 5000000 →
    ∃ r : List S57, ∀ k, 5000001 + d < k → laws_markPutS.l0 k l x (i : Int) = some (x + 2 * d, r) := by
  intro d
  induction d with
  | zero =>
    intro i x l hl hd hi h0 h1
    refine ⟨l, fun k hk => ?_⟩
    obtain ⟨k, rfl⟩ : ∃ m, k = m + 1 := ⟨k - 1, by omega⟩
    rw [laws_markPutS.l0, if_neg (by omega)]
    simp
  | succ d ih =>
    intro i x l hl hd hi h0 h1
    obtain ⟨t, ht⟩ := mt_some (x + 1) (by omega) (by omega)
    obtain ⟨r, hr⟩ := ih (i + 1) (x + 2) ((l.set i ⟨x, (rd_T57 l (i : Int)).f1⟩).set i ⟨(rd_T57 (l.set i ⟨x, (rd_T57 l (i : Int)).f1⟩) (i : Int)).f0, t⟩) (by simpa using hl) (by omega) (by omega) (by omega) (by omega)
    refine ⟨r, fun k hk => ?_⟩
    obtain ⟨k, rfl⟩ : ∃ m, k = m + 1 := ⟨k - 1, by omega⟩
    rw [laws_markPutS.l0, if_pos (by omega), if_pos (by omega), wrap64_id (a := x + 1) (by omega) (by omega)]
    simp only [Option.bind_some, Int.toNat_natCast]
    rw [ht k (by omega)]
    simp only [Option.bind_some]
    rw [wrap64_id (a := x + 1 + 1) (by omega) (by omega), wrap64_id (by omega) (by omega), show x + 1 + 1 = x + 2 by omega, show (i : Int) + 1 = ((i + 1 : Nat) : Int) by omega, hr k (by omega)]
    congr 2
    omega
theorem marks_d (a : List ByteArray) (l : List S57) (x : Int) (y : Bool) (ha : (a.length : Int) ≤ 1048576) (hl : (l.length : Int) ≤ 1048576) : ∃ (m : Int) (r : List ByteArray) (s : List S57), (0 ≤ m ∧ m ≤ 5000000) ∧ ∀ k, 16000000 ≤ k → laws_markDisk.f k a l x y 1 = some (m, r, s) := by
  obtain ⟨r, hr⟩ := marks_s a.length (by omega) a.length 0 1 a rfl (by omega) (by omega) (by omega) (by omega)
  obtain ⟨s, hs⟩ := marks_p l.length (by omega) l.length 0 (1 + a.length) l rfl (by omega) (by omega) (by omega) (by omega)
  refine ⟨1 + a.length + 2 * l.length, r, s, ⟨by omega, by omega⟩, fun k hk => ?_⟩
  unfold laws_markDisk.f laws_markStringS.f laws_markPutS.f
  rw [show laws_markStringS.l0 k a 1 0 = _ from hr k (by omega)]
  simp only [Option.bind_some]
  rw [show laws_markPutS.l0 k l (1 + a.length) 0 = _ from hs k (by omega)]
  rfl
def mt (x : Int) : ByteArray := (laws_markText.f 2000 x).getD ByteArray.empty
theorem mt_eq (x : Int) (h0 : 0 ≤ x) (h1 : x ≤ 1000) (k : Nat) (hk : 2000 ≤ k) : laws_markText.f k x = some (mt x) := by
  have h : ∃ t, ∀ k, 2000 ≤ k → laws_markText.f k x = some t := by
    by_cases hx : x ≤ 0
    · exact ⟨⟨#[109, 48]⟩, fun k _ => by unfold laws_markText.f; rw [if_pos hx]⟩
    · obtain ⟨t, ht⟩ := mt_loop 1000 x h0 (by omega) ⟨#[]⟩ (by simp [ByteArray.size])
      exact ⟨t, fun k hk => by unfold laws_markText.f; rw [if_neg hx]; exact ht k (by omega)⟩
  obtain ⟨t, ht⟩ := h
  rw [ht k hk]
  unfold mt
  rw [ht 2000 (Nat.le_refl _)]
  rfl
theorem mark_loop (n : Nat) (hn : n ≤ 1000) : ∀ (d i : Nat) (x : Int) (l : List ByteArray), l.length = n → n - i = d → i ≤ n → 0 ≤ x → x + d ≤ 1000 →
    ∃ r : List ByteArray, r.length = n ∧ (∀ k, 2000 + d < k → laws_markStringS.l0 k l x (i : Int) = some (x + d, r)) ∧ (∀ j, j < i → r.getD j ByteArray.empty = l.getD j ByteArray.empty) ∧ ∀ j, i ≤ j → j < n → r.getD j ByteArray.empty = mt (x + ((j - i : Nat) : Int)) := by
  intro d
  induction d with
  | zero =>
    intro i x l hl hd hi h0 h1
    refine ⟨l, hl, fun k hk => ?_, fun j _ => rfl, fun j h2 h3 => by omega⟩
    obtain ⟨k, rfl⟩ : ∃ m, k = m + 1 := ⟨k - 1, by omega⟩
    rw [laws_markStringS.l0, if_neg (by omega)]
    simp
  | succ d ih =>
    intro i x l hl hd hi h0 h1
    obtain ⟨r, hr, hk0, hlo, hhi⟩ := ih (i + 1) (x + 1) (l.set i (mt x)) (by simpa using hl) (by omega) (by omega) (by omega) (by omega)
    refine ⟨r, hr, fun k hk => ?_, fun j hj => ?_, fun j h2 h3 => ?_⟩
    · obtain ⟨k, rfl⟩ : ∃ m, k = m + 1 := ⟨k - 1, by omega⟩
      rw [laws_markStringS.l0, if_pos (by omega), mt_eq x h0 (by omega) k (by omega)]
      simp only [Option.bind_some]
      rw [if_pos (by omega), wrap64_id (by omega) (by omega), wrap64_id (by omega) (by omega), Int.toNat_natCast, show (i : Int) + 1 = ((i + 1 : Nat) : Int) by omega, hk0 k (by omega)]
      congr 2
      omega
    · rw [hlo j (by omega)]
      simp only [List.getD_eq_getElem?_getD]
      rw [List.getElem?_set_ne (by omega)]
    · by_cases hj : j = i
      · subst hj
        rw [hlo j (by omega)]
        simp only [List.getD_eq_getElem?_getD]
        rw [List.getElem?_set_self (by omega)]
        simp
      · rw [hhi j (by omega) h3, show x + 1 + ((j - (i + 1) : Nat) : Int) = x + ((j - i : Nat) : Int) by omega]
theorem held_loop (n : Nat) (hn : n ≤ 1000) (l : List ByteArray) (hl : l.length = n) : ∀ (d i : Nat) (x : Int), n - i = d → i ≤ n → 0 ≤ x → x + d ≤ 1000 → (∀ j, i ≤ j → j < n → l.getD j ByteArray.empty = mt (x + ((j - i : Nat) : Int))) →
    ∀ k, 2000 + d < k → laws_heldStringS.l0 k l x (i : Int) = some (x + d) := by
  intro d
  induction d with
  | zero =>
    intro i x hd hi h0 h1 hm k hk
    obtain ⟨k, rfl⟩ : ∃ m, k = m + 1 := ⟨k - 1, by omega⟩
    rw [laws_heldStringS.l0, if_neg (by omega)]
    simp
  | succ d ih =>
    intro i x hd hi h0 h1 hm k hk
    obtain ⟨k, rfl⟩ : ∃ m, k = m + 1 := ⟨k - 1, by omega⟩
    have e : rdOf ByteArray.empty l (i : Int) = mt x := by
      have h := hm i (Nat.le_refl _) (by omega)
      rw [Nat.sub_self] at h
      simpa [rdOf] using h
    rw [laws_heldStringS.l0, if_pos (by omega), if_pos (by omega), mt_eq x h0 (by omega) k (by omega)]
    simp only [Option.bind_some]
    rw [e, if_pos rfl, wrap64_id (by omega) (by omega), wrap64_id (by omega) (by omega), show (i : Int) + 1 = ((i + 1 : Nat) : Int) by omega, ih (i + 1) (x + 1) (by omega) (by omega) (by omega) (by omega) (fun j h2 h3 => by
      rw [hm j (by omega) h3, show x + 1 + ((j - (i + 1) : Nat) : Int) = x + ((j - i : Nat) : Int) by omega]) k (by omega)]
    congr 1
    omega
theorem both (a : List ByteArray) (l : List S57) (x : Int) (y : Bool) (ks : List Bool) (torn b : Int) (ha : (a.length : Int) ≤ 1048576) (ha2 : ∀ y ∈ a, (y.size : Int) ≤ 1048576) (hl : (l.length : Int) ≤ 1048576) (hl2 : ∀ y ∈ l, QS57 y) (hx : (Lit.int .i64 x).wf = true) :
    ∃ (bs : List ByteArray) (f c : Int), bs.length ≤ 256 ∧ (∀ y ∈ bs, (y.size : Int) ≤ 1048576) ∧ ∀ k, 8000000 ≤ k → spec_CutPower.f k a l x y ks torn b = some (bs, ([] : List S57), f, false, c) ∧ impl_CutPower.f k a l x y ks torn b = some (bs, ([] : List S57), f, false, c) := by
  obtain ⟨d, hd, hD⟩ := disk_ok a l x y ha ha2 hl hl2 hx
  cases d with
  | false =>
    refine ⟨[], 0, 1, by simp, by simp, fun k hk => ?_⟩
    unfold spec_CutPower.f impl_CutPower.f
    rw [(hd k hk).1, (hd k hk).2]
    exact ⟨rfl, rfl⟩
  | true =>
    obtain ⟨q1, q2, q3, q4⟩ := hD rfl
    by_cases h1 : (ks.length : Int) = (l.length : Int)
    · by_cases h2 : -1 ≤ torn ∧ torn ≤ wrap64 ((l.length : Int) - 1)
      · by_cases h3 : 0 ≤ b ∧ b ≤ 64
        · have hp : ∀ i, i < l.length → (0 ≤ (rd_T57 l (i : Int)).f0 ∧ (rd_T57 l (i : Int)).f0 < a.length) ∧ (rd_T57 l (i : Int)).f1.size = 64 := fun i hi => by
            obtain ⟨⟨e1, e2⟩, e3⟩ := q4 i hi
            rw [wrap64_id (by omega) (by omega)] at e2
            exact ⟨⟨e1, by omega⟩, by omega⟩
          have hA : All64 a.length a := ⟨rfl, fun j hj => by have := q3 j hj; unfold blk at this; omega⟩
          have hR := cutR_all (ks := ks) (torn := torn) (b := b) (l := l) h3 hp l.length 0 a (by omega) hA
          refine ⟨cutR ks torn b l l.length 0 a, -1, 0, by rw [hR.1]; omega, fun z hz => ?_, fun k hk => ?_⟩
          · obtain ⟨j, hj, rfl⟩ := List.mem_iff_getElem.1 hz
            have := hR.2 j (by rw [← hR.1]; exact hj)
            rw [show rdOf ByteArray.empty (cutR ks torn b l l.length 0 a) (j : Int) = (cutR ks torn b l l.length 0 a)[j] by simp [rdOf, List.getD_eq_getElem?_getD, List.getElem?_eq_getElem hj]] at this
            omega
          · unfold spec_CutPower.f impl_CutPower.f
            rw [(hd k hk).1, (hd k hk).2]
            simp only [Option.bind_some, if_true]
            rw [if_pos h1, in_eq, decide_eq_true h2]
            unfold impl_Disk_cutOk.f
            rw [if_pos h1, within_eq, decide_eq_true h2]
            simp only [Option.bind_some, if_true]
            rw [in_eq, within_eq, decide_eq_true h3]
            simp only [Option.bind_some, if_true]
            have hs := scut_loop a.length (by omega) ks torn b a l x y h3 (by omega) (by omega) hp l x y l.length 0 k a (by omega) (by omega) hA
            have hi := icut_loop a.length (by omega) ks torn b l h3 (by omega) (by omega) hp l.length 0 k a (by omega) (by omega) hA
            refine ⟨?_, ?_⟩
            · unfold spec_l09Cut_c44.f spec_l09Own_c44.f
              simp only [Option.bind_some, List.length_nil, List.nil_append]
              rw [if_pos (by omega), if_pos (by omega)]
              simp only [Option.bind_some]
              rw [show spec_l09Cut_c44.l0 k ks torn b 0 a l x y a l x y = _ from hs]
              rfl
            · unfold impl_Disk_afterCut.f slices_Clone_string_string.f slices_Clone_string_string_nn.f
              simp only [Option.bind_some, List.length_nil, List.nil_append]
              rw [if_pos (by omega)]
              simp only [Option.bind_some]
              rw [show impl_Disk_afterCut.l0 k ks torn b l l.length 0 a (-1) false = _ from hi]
              rfl
        · refine ⟨[], 0, 2, by simp, by simp, fun k hk => ?_⟩
          unfold spec_CutPower.f impl_CutPower.f impl_Disk_cutOk.f
          rw [(hd k hk).1, (hd k hk).2]
          simp only [Option.bind_some, if_true]
          rw [if_pos h1, if_pos h1, in_eq, within_eq, decide_eq_true h2]
          simp only [Option.bind_some, if_true]
          rw [in_eq, within_eq, decide_eq_false h3]
          exact ⟨rfl, rfl⟩
      · refine ⟨[], 0, 2, by simp, by simp, fun k hk => ?_⟩
        unfold spec_CutPower.f impl_CutPower.f impl_Disk_cutOk.f
        rw [(hd k hk).1, (hd k hk).2]
        simp only [Option.bind_some, if_true]
        rw [if_pos h1, if_pos h1, in_eq, within_eq, decide_eq_false h2]
        exact ⟨rfl, rfl⟩
    · refine ⟨[], 0, 2, by simp, by simp, fun k hk => ?_⟩
      unfold spec_CutPower.f impl_CutPower.f impl_Disk_cutOk.f
      rw [(hd k hk).1, (hd k hk).2]
      simp only [Option.bind_some, if_true]
      rw [if_neg h1, if_neg h1]
      exact ⟨rfl, rfl⟩
theorem marks_b (n : Nat) (hn : n ≤ 1048576) : ∀ (d i : Nat) (x : Int) (l : List Bool), l.length = n → n - i = d → i ≤ n → 0 ≤ x → x + d ≤ 8000000 →
    ∃ r : List Bool, ∀ k, d < k → laws_markBoolS.l0 k l x (i : Int) = some (x + d, r) := by
  intro d
  induction d with
  | zero =>
    intro i x l hl hd hi h0 h1
    refine ⟨l, fun k hk => ?_⟩
    obtain ⟨k, rfl⟩ : ∃ m, k = m + 1 := ⟨k - 1, by omega⟩
    rw [laws_markBoolS.l0, if_neg (by omega)]
    simp
  | succ d ih =>
    intro i x l hl hd hi h0 h1
    obtain ⟨r, hr⟩ := ih (i + 1) (x + 1) (l.set i ((Int.tmod x 3) == 0)) (by simpa using hl) (by omega) (by omega) (by omega) (by omega)
    refine ⟨r, fun k hk => ?_⟩
    obtain ⟨k, rfl⟩ : ∃ m, k = m + 1 := ⟨k - 1, by omega⟩
    rw [laws_markBoolS.l0, if_pos (by omega), if_pos (by omega), wrap64_id (a := x + 1) (by omega) (by omega), wrap64_id (by omega) (by omega), Int.toNat_natCast, show (i : Int) + 1 = ((i + 1 : Nat) : Int) by omega, hr k (by omega)]
    congr 2
    omega
theorem held_disk (bs : List ByteArray) (hb : bs.length ≤ 256) (f : Int) : ∃ r : List ByteArray, (∀ k, 5000 ≤ k → laws_markDisk.f k bs [] f false 1 = some (1 + (bs.length : Int), r, ([] : List S57))) ∧ ∀ k, 5000 ≤ k → laws_heldDisk.f k r [] f false 1 = some (1 + (bs.length : Int)) := by
  obtain ⟨r, hr, hk0, hlo, hhi⟩ := mark_loop bs.length (by omega) bs.length 0 1 bs rfl (by omega) (by omega) (by omega) (by omega)
  have hheld := held_loop bs.length (by omega) r hr bs.length 0 1 (by omega) (by omega) (by omega) (by omega) (fun j h2 h3 => by rw [hhi j h2 h3])
  refine ⟨r, fun k hk => ?_, fun k hk => ?_⟩
  · unfold laws_markDisk.f laws_markStringS.f
    rw [show laws_markStringS.l0 k bs 1 0 = _ from hk0 k (by omega)]
    simp only [Option.bind_some]
    unfold laws_markPutS.f
    obtain ⟨k, rfl⟩ : ∃ m, k = m + 1 := ⟨k - 1, by omega⟩
    rw [laws_markPutS.l0, if_neg (by simp)]
    rfl
  · unfold laws_heldDisk.f laws_heldStringS.f
    rw [show laws_heldStringS.l0 k r 1 0 = _ from hheld k (by omega)]
    simp only [Option.bind_some]
    rw [if_neg (by omega)]
    unfold laws_heldPutS.f
    obtain ⟨k, rfl⟩ : ∃ m, k = m + 1 := ⟨k - 1, by omega⟩
    rw [laws_heldPutS.l0, if_neg (by simp)]
    simp only [Option.bind_some]
    rw [if_neg (by omega)]
theorem FnExactCutPower : laws_FnExactCutPower.Pure := by
  intro l0_0 l0_1 a0_2 a0_3 l1 a2 a3 o_l0_0 o_l0_1 o_a0_2 o_l1 o_a2 o_a3
  refine ⟨17000002, ?_⟩
  by_cases g1 : (l1.length : Int) > 1048576
  · unfold laws_FnExactCutPower.f; rw [if_pos g1]
  obtain ⟨t1, e1, h1⟩ := g_szDisk 17000002 l0_0 l0_1 a0_2 a0_3 1048576 (by omega) (by omega) (by omega) o_l0_0 o_l0_1
  rcases h1 with h1 | ⟨h1, m1, q_l0_0_0, q_l0_0_1, q_l0_1_0, q_l0_1_1⟩
  · simp only [laws_FnExactCutPower.f, if_neg g1, e1, Option.bind_some, if_pos h1]
  have n1 : ¬ t1 < 0 := by omega
  have T1 := fun k (hk : 16000000 ≤ k) => g_toDisk k l0_0 l0_1 a0_2 a0_3 (by omega) q_l0_0_0 q_l0_0_1 q_l0_1_0 q_l0_1_1
  have T2 := fun k (hk : 16000000 ≤ k) => g_toBoolS k l1 (by omega) (by omega)
  have cl_l0_1 : (((l0_1.map cS99)).length : Int) ≤ 1048576 := by rw [List.length_map]; exact q_l0_1_0
  have cq_l0_1 := qmS99 l0_1 q_l0_1_1
  have E1 := fun k (hk : 16000000 ≤ k) => g_eqDisk k l0_0 (l0_1.map cS99) a0_2 a0_3 (by omega) q_l0_0_0 q_l0_0_1 cl_l0_1 cq_l0_1
  have E2 := fun k (hk : 16000000 ≤ k) => g_eqBoolS k l1 (by omega) (by omega)
  obtain ⟨bs, f, c, hbl, hbq, hv⟩ := both l0_0 (l0_1.map cS99) a0_2 a0_3 l1 a2 a3 q_l0_0_0 q_l0_0_1 cl_l0_1 cq_l0_1 o_a0_2
  have HS := fun k (hk : 16000000 ≤ k) => (hv k (by omega)).1
  have HI := fun k (hk : 16000000 ≤ k) => (hv k (by omega)).2
  have EV := fun k (hk : 16000000 ≤ k) => g_eqDisk k bs [] f false (by omega) (by omega) hbq (by simp) (by simp)
  obtain ⟨m, r, s, hm, HM⟩ := marks_d l0_0 (l0_1.map cS99) a0_2 a0_3 q_l0_0_0 cl_l0_1
  obtain ⟨r2, HB⟩ := marks_b l1.length (by omega) l1.length 0 m l1 rfl (by omega) (by omega) (by omega) (by omega)
  have HB2 : ∀ k, 16000000 ≤ k → laws_markBoolS.f k l1 m = some (m + l1.length, r2) := fun k hk => HB k (by omega)
  obtain ⟨z, z1, z2⟩ := held_disk bs hbl f
  have Z1 := fun k (hk : 16000000 ≤ k) => z1 k (by omega)
  have Z2 := fun k (hk : 16000000 ≤ k) => z2 k (by omega)
  have nm : ¬ m + (l1.length : Int) < 0 := by omega
  have nz : ¬ (1 : Int) + bs.length < 0 := by omega
  unfold laws_FnExactCutPower.f
  rw [if_neg g1, e1]
  simp only [Option.bind_some]
  rw [if_neg n1, T1 17000002 (by omega)]
  simp only [Option.bind_some]
  rw [T2 17000002 (by omega)]
  simp only [Option.bind_some]
  rw [HS 17000002 (by omega)]
  simp only [Option.bind_some]
  rw [HI 17000002 (by omega)]
  simp only [Option.bind_some]
  rw [EV 17000002 (by omega)]
  simp only [Option.bind_some, if_true, bne_self_eq_false]
  rw [laws_FnExactCutPower.j0, if_neg (by decide), T1 17000001 (by omega)]
  simp only [Option.bind_some]
  rw [E1 17000001 (by omega)]
  simp only [Option.bind_some, if_true]
  rw [T2 17000001 (by omega)]
  simp only [Option.bind_some]
  rw [E2 17000001 (by omega)]
  simp only [Option.bind_some, if_true]
  rw [HM 17000001 (by omega)]
  simp only [Option.bind_some]
  rw [HB2 17000001 (by omega)]
  simp only [Option.bind_some]
  rw [if_neg nm, EV 17000001 (by omega)]
  simp only [Option.bind_some, if_true, bne_self_eq_false]
  rw [laws_FnExactCutPower.j1, if_neg (by decide), Z1 17000000 (by omega)]
  simp only [Option.bind_some]
  rw [Z2 17000000 (by omega)]
  simp only [Option.bind_some]
  rw [if_neg nz, if_pos trivial, T1 17000000 (by omega)]
  simp only [Option.bind_some]
  rw [T2 17000000 (by omega)]
  simp only [Option.bind_some]
  rw [HI 17000000 (by omega)]
  simp only [Option.bind_some]
  rw [EV 17000000 (by omega)]
  simp only [Option.bind_some, if_true, bne_self_eq_false]
  rw [laws_FnExactCutPower.j2, if_neg (by decide), Z2 16999999 (by omega)]
  simp only [Option.bind_some]
  rw [if_neg nz, if_pos trivial]

end Go.Proofs.Ytgpkkplabnliiaa.Pure
