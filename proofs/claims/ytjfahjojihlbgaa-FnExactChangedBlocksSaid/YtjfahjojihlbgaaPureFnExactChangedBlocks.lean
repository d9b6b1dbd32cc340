/- The plain form of FnExactChangedBlocks: for all arguments the answer is true. It holds without a condition. -/
import Derived.Test.YtjfahjojihlbgaaPFnExactChangedBlocksx7
import Derived.OpenShut
namespace Go.Proofs.Ytjfahjojihlbgaa.Pure
open Go Go.RowKit Go.Proofs.Ytjfahjojihlbgaa.PFnExactChangedBlocks Go.Proofs.YtjfahjojihlbgaaW.PrintWords Go.Proofs.YtjfahjojihlbgaaW.PrintLast Go.Proofs.YtjfahjojihlbgaaW.PrintMore
set_option linter.unusedVariables false
set_option linter.unusedSimpArgs false

theorem wf64 {a : Int} (h : (Lit.int .i64 a).wf = true) : -9223372036854775808 ≤ a ∧ a ≤ 9223372036854775807 := Go.bounds_i64 h
theorem wrap64_id {a : Int} (h : -9223372036854775808 ≤ a) (h' : a ≤ 9223372036854775807) : wrap64 a = a := by unfold wrap64; omega
theorem count_loop {σ ρ : Type} (L : Nat → σ → Int → Option ρ) (n m : Nat) (I : Nat → σ → Prop) (R : ρ → Prop)
    (hstop : ∀ k s, m ≤ k → I n s → ∃ r, L (k + 1) s (n : Int) = some r ∧ R r)
    (hstep : ∀ k s (i : Nat), m ≤ k → i < n → I i s → (∃ s', I (i + 1) s' ∧ L (k + 1) s (i : Int) = L k s' ((i + 1 : Nat) : Int)) ∨ ∃ r, L (k + 1) s (i : Int) = some r ∧ R r)
    (k : Nat) (s : σ) (i : Nat) (hi : i ≤ n) (hk : n - i + m < k) (h : I i s) : ∃ r, L k s (i : Int) = some r ∧ R r := by
  obtain ⟨d, hd⟩ : ∃ d, d = n - i := ⟨_, rfl⟩
  induction d generalizing k s i with
  | zero =>
    obtain ⟨k, rfl⟩ : ∃ z, k = z + 1 := ⟨k - 1, by omega⟩
    obtain rfl : i = n := by omega
    exact hstop k s (by omega) h
  | succ d ih =>
    obtain ⟨k, rfl⟩ : ∃ z, k = z + 1 := ⟨k - 1, by omega⟩
    rcases hstep k s i (by omega) (by omega) h with ⟨s', h', e⟩ | h'
    · rw [e]; exact ih k s' (i + 1) (by omega) (by omega) h' (by omega)
    · exact h'
theorem w0 : wrap64 0 = 0 := by unfold wrap64; omega
theorem w1 : wrap64 1 = 1 := by unfold wrap64; omega
theorem w2 : wrap64 2 = 2 := by unfold wrap64; omega
theorem w3 : wrap64 3 = 3 := by unfold wrap64; omega
theorem rd_lt (l : List Int) (i : Nat) (h : i < l.length) : rd l (i : Int) = l[i] := by
  simp [rd, List.getD_eq_getElem?_getD, List.getElem?_eq_getElem h]
theorem rds_lt (l : List ByteArray) (i : Nat) (h : i < l.length) : rdOf ByteArray.empty l (i : Int) = l[i] := by
  simp [rdOf, List.getD_eq_getElem?_getD, List.getElem?_eq_getElem h]
theorem wrap_up (i : Nat) (h : i < 1099511627776) : wrap64 ((i : Int) + 1) = ((i + 1 : Nat) : Int) := by unfold wrap64; omega
theorem set_next {α : Type} (l out : List α) (i : Nat) (h : i < l.length) (hl : out.length = l.length) (hp : out.take i = l.take i) : (out.set i l[i]).take (i + 1) = l.take (i + 1) := by
  apply List.ext_getElem?
  intro j
  by_cases hj : j < i + 1
  · rw [List.getElem?_take_of_lt hj, List.getElem?_take_of_lt hj]
    by_cases hji : j = i
    · subst hji; rw [List.getElem?_set_self (by omega), List.getElem?_eq_getElem h]
    · rw [List.getElem?_set_ne (by omega)]
      have := congrArg (fun z => z[j]?) hp
      simpa [List.getElem?_take_of_lt (show j < i by omega)] using this
  · rw [List.getElem?_eq_none (by simp; omega), List.getElem?_eq_none (by simp; omega)]
theorem take_all {α : Type} (l out : List α) (hl : out.length = l.length) (hp : out.take l.length = l.take l.length) : out = l := by
  rwa [List.take_of_length_le (by omega), List.take_length] at hp
theorem g_szloop {α : Type} (L : Nat → List α → Int → Int → Option Int) (E : Nat → α → Int → Option Int) (z : α) (m : Nat) (Q : α → Prop) (l : List α)
    (hL : ∀ k a i, L (k + 1) l a i = if i < (l.length : Int) then (if 0 ≤ i then ((E k (l.getD i.toNat z) a).bind fun t => if t < 0 then some (-1) else L k l t (wrap64 (i + 1))) else none) else some a)
    (hE : ∀ k x a, x ∈ l → 0 ≤ a → a ≤ 1048576 → m ≤ k → ∃ t, E k x a = some t ∧ (t < 0 ∨ (0 ≤ t ∧ t ≤ a ∧ Q x)))
    (hl : l.length ≤ 1048576) (k : Nat) (a : Int) (h0 : 0 ≤ a) (h1 : a ≤ 1048576) (hk : m + 1048580 < k) :
    ∃ t, L k l a 0 = some t ∧ (t < 0 ∨ (0 ≤ t ∧ t ≤ a ∧ ∀ x ∈ l, Q x)) := by
  exact count_loop (fun k s i => L k l s i) l.length m (fun i s => 0 ≤ s ∧ s ≤ a ∧ ∀ x ∈ l.take i, Q x) (fun t => t < 0 ∨ (0 ≤ t ∧ t ≤ a ∧ ∀ x ∈ l, Q x))
    (by
      rintro k s - ⟨h1, h2, h3⟩
      rw [List.take_length] at h3
      exact ⟨s, by show L (k + 1) l s _ = _; rw [hL, if_neg (by omega)], .inr ⟨h1, h2, h3⟩⟩)
    (by
      rintro k s i hm hi ⟨h1, h2, h3⟩
      have hg : l.getD (i : Int).toNat z = l[i] := by simp [List.getD_eq_getElem?_getD, List.getElem?_eq_getElem hi]
      obtain ⟨t, e, ht⟩ := hE k l[i] s (List.getElem_mem hi) h1 (by omega) hm
      rcases ht with ht | ⟨q1, q2, q3⟩
      · refine .inr ⟨-1, ?_, .inl (by omega)⟩
        show L (k + 1) l s _ = _
        rw [hL, if_pos (by omega), if_pos (by omega), hg, e]
        simp only [Option.bind_some]
        rw [if_pos ht]
      · refine .inl ⟨t, ⟨q1, by omega, ?_⟩, ?_⟩
        · intro x hx'
          rw [List.take_succ_eq_append_getElem hi, List.mem_append] at hx'
          rcases hx' with hx' | hx'
          · exact h3 x hx'
          · simp at hx'; subst hx'; exact q3
        · show L (k + 1) l s _ = _
          rw [hL, if_pos (by omega), if_pos (by omega), hg, e]
          simp only [Option.bind_some]
          rw [if_neg (by omega), wrap_up i (by omega)])
    k a 0 (by omega) (by omega) ⟨h0, by omega, by simp⟩
theorem g_toloop {α β γ : Type} (L : Nat → List α → List β → Int → Option (List β)) (E : Nat → α → Option γ) (mk : γ → β) (z : α) (c : α → β) (m : Nat) (l : List α)
    (hL : ∀ k s i, L (k + 1) l s i = if i < (l.length : Int) then (if 0 ≤ i then ((E k (l.getD i.toNat z)).bind fun b => (if i < (s.length : Int) then L k l (s.set i.toNat (mk b)) (wrap64 (i + 1)) else none)) else none) else some s)
    (hE : ∀ k x, x ∈ l → m ≤ k → ∃ b, E k x = some b ∧ mk b = c x)
    (hl : l.length ≤ 1048576) (k : Nat) (s : List β) (hs : s.length = l.length) (hk : m + 1048580 < k) : L k l s 0 = some (l.map c) := by
  obtain ⟨r, h, rfl⟩ := count_loop (fun k s i => L k l s i) l.length m (fun i s => s.length = (l.map c).length ∧ s.take i = (l.map c).take i) (fun r => r = l.map c)
    (by
      rintro k s - ⟨h1, h2⟩
      exact ⟨s, by show L (k + 1) l s _ = _; rw [hL, if_neg (by omega)], take_all (l.map c) s h1 (by rw [List.length_map]; exact h2)⟩)
    (by
      rintro k s i hm hi ⟨h1, h2⟩
      have hg : l.getD (i : Int).toNat z = l[i] := by simp [List.getD_eq_getElem?_getD, List.getElem?_eq_getElem hi]
      have hi' : i < (l.map c).length := by simpa using hi
      obtain ⟨b, e, hb⟩ := hE k l[i] (List.getElem_mem hi) hm
      have hb' : mk b = (l.map c)[i] := by rw [hb, List.getElem_map]
      refine .inl ⟨s.set i (l.map c)[i], ⟨by simpa using h1, set_next (l.map c) s i hi' h1 h2⟩, ?_⟩
      show L (k + 1) l s _ = _
      rw [hL, if_pos (by omega), if_pos (by omega), hg, e]
      simp only [Option.bind_some]
      rw [if_pos (by rw [h1]; simp; omega), wrap_up i (by omega), hb']
      rfl)
    k s 0 (by omega) (by omega) ⟨by simpa using hs, by simp⟩
  exact h
theorem g_eqloop {α : Type} (L : Nat → List α → List α → Int → Option Bool) (E : Nat → α → Option Bool) (z : α) (m : Nat) (l : List α)
    (hL : ∀ k i, L (k + 1) l l i = if i < (l.length : Int) then (if 0 ≤ i then (if i < (l.length : Int) then ((E k (l.getD i.toNat z)).bind fun t => (if t = true then L k l l (wrap64 (i + 1)) else some false)) else none) else none) else some true)
    (hE : ∀ k x, x ∈ l → m ≤ k → E k x = some true)
    (hl : l.length ≤ 1048576) (k : Nat) (hk : m + 1048580 < k) : L k l l 0 = some true := by
  obtain ⟨r, h, rfl⟩ := count_loop (fun k (_ : Unit) i => L k l l i) l.length m (fun _ _ => True) (fun r => r = true)
    (by
      rintro k s - -
      exact ⟨true, by show L (k + 1) l l _ = _; rw [hL, if_neg (by omega)], rfl⟩)
    (by
      rintro k s i hm hi -
      have hg : l.getD (i : Int).toNat z = l[i] := by simp [List.getD_eq_getElem?_getD, List.getElem?_eq_getElem hi]
      refine .inl ⟨(), trivial, ?_⟩
      show L (k + 1) l l _ = _
      rw [hL, if_pos (by omega), if_pos (by omega), if_pos (by omega), hg, hE k _ (List.getElem_mem hi) hm]
      simp only [Option.bind_some]
      rw [if_pos trivial, wrap_up i (by omega)])
    k () 0 (by omega) (by omega) trivial
  exact h
theorem g_szStringS (k : Nat) (l : List ByteArray) (a : Int) (h0 : 0 ≤ a) (h1 : a ≤ 1048576) (hk : 1048590 ≤ k) (o : l.length ≤ maxLen ∧ ∀ x_ ∈ l, x_.size ≤ maxLen) : ∃ t, laws_szStringS.f k l a = some t ∧ (t < 0 ∨ (0 ≤ t ∧ t ≤ a ∧ (l.length : Int) ≤ 1048576 ∧ (∀ y ∈ l, (y.size : Int) ≤ 1048576))) := by
  have ol := o.1
  unfold maxLen at ol
  unfold laws_szStringS.f
  rw [wrap64_id (by omega) (by omega)]
  by_cases h : a - (l.length : Int) < 0
  · exact ⟨-1, by rw [if_pos h], .inl (by omega)⟩
  rw [if_neg h]
  obtain ⟨t, e, q⟩ := g_szloop laws_szStringS.l0 (fun _ x a => if wrap64 (a - (x.size : Int)) < 0 then some (-1) else some (wrap64 (a - (x.size : Int)))) ByteArray.empty 0 (fun x => (x.size : Int) ≤ 1048576) l
    (by 
      intro k a i
      rw [laws_szStringS.l0]
      by_cases h : wrap64 (a - ((rdOf ByteArray.empty l i).size : Int)) < 0
      · rw [if_pos h]; unfold rdOf at h; rw [if_pos h]; rfl
      · rw [if_neg h]; unfold rdOf at h ⊢; rw [if_neg h]; simp only [Option.bind_some, if_neg h])
    (by 
      intro k x a hx h0 h1 hm
      have := o.2 x hx
      unfold maxLen at this
      rw [wrap64_id (by omega) (by omega)]
      by_cases h : a - (x.size : Int) < 0
      · exact ⟨-1, by rw [if_pos h], .inl (by omega)⟩
      · exact ⟨_, by rw [if_neg h], .inr ⟨by omega, by omega, by omega⟩⟩)
    (by omega) k (a - (l.length : Int)) (by omega) (by omega) (by omega)
  rcases q with q | ⟨q1, q2, q3⟩
  · exact ⟨t, e, .inl q⟩
  · exact ⟨t, e, .inr ⟨q1, by omega, by omega, q3⟩⟩
theorem g_szPut (k : Nat) (a0_0 : Int) (a0_1 : ByteArray) (a : Int) (h0 : 0 ≤ a) (h1 : a ≤ 1048576) (hk : 0 ≤ k) (o_a0_1 : a0_1.size ≤ maxLen) : ∃ t, laws_szPut.f a0_0 a0_1 a = some t ∧ (t < 0 ∨ (0 ≤ t ∧ t ≤ a ∧ (a0_1.size : Int) ≤ 1048576)) := by
  have p_a0_1 := o_a0_1
  unfold maxLen at p_a0_1
  unfold laws_szPut.f
  rw [wrap64_id (a := a - (a0_1.size : Int)) (by omega) (by omega)]
  by_cases c0 : a - (a0_1.size : Int) < 0
  · exact ⟨-1, by rw [if_pos c0], .inl (by omega)⟩
  rw [if_neg c0]
  exact ⟨_, rfl, .inr ⟨by omega, by omega, by omega⟩⟩
def QS79 (x : S79) : Prop := (x.f1.size : Int) ≤ 1048576
theorem g_szPutS (k : Nat) (l : List (S79)) (a : Int) (h0 : 0 ≤ a) (h1 : a ≤ 1048576) (hk : 1048590 ≤ k) (o : l.length ≤ maxLen ∧ ∀ x_ ∈ l, okS79 x_) : ∃ t, laws_szPutS.f k l a = some t ∧ (t < 0 ∨ (0 ≤ t ∧ t ≤ a ∧ (l.length : Int) ≤ 1048576 ∧ (∀ y ∈ l, QS79 y))) := by
  have ol := o.1
  unfold maxLen at ol
  unfold laws_szPutS.f
  rw [wrap64_id (by omega) (by omega)]
  by_cases h : a - (l.length : Int) < 0
  · exact ⟨-1, by rw [if_pos h], .inl (by omega)⟩
  rw [if_neg h]
  obtain ⟨t, e, q⟩ := g_szloop laws_szPutS.l0 (fun k x a => laws_szPut.f x.f0 x.f1 a) z79 0 (QS79) l
    (by intro k a i; rw [laws_szPutS.l0]; rfl)
    (by intro k x a hx h0 h1 hm; obtain ⟨o0, o1⟩ := o.2 x hx; exact g_szPut k x.f0 x.f1 a h0 h1 hm o1)
    (by omega) k (a - (l.length : Int)) (by omega) (by omega) (by omega)
  rcases q with q | ⟨q1, q2, q3⟩
  · exact ⟨t, e, .inl q⟩
  · exact ⟨t, e, .inr ⟨q1, by omega, by omega, q3⟩⟩
theorem g_szDisk (k : Nat) (l0_0 : List ByteArray) (l0_1 : List (S79)) (a0_2 : Int) (a0_3 : Bool) (a : Int) (h0 : 0 ≤ a) (h1 : a ≤ 1048576) (hk : 1048590 ≤ k) (o_l0_0 : l0_0.length ≤ maxLen ∧ ∀ x_ ∈ l0_0, x_.size ≤ maxLen) (o_l0_1 : l0_1.length ≤ maxLen ∧ ∀ x_ ∈ l0_1, okS79 x_) : ∃ t, laws_szDisk.f k l0_0 l0_1 a0_2 a0_3 a = some t ∧ (t < 0 ∨ (0 ≤ t ∧ t ≤ a ∧ (l0_0.length : Int) ≤ 1048576 ∧ (∀ y ∈ l0_0, (y.size : Int) ≤ 1048576) ∧ (l0_1.length : Int) ≤ 1048576 ∧ (∀ y ∈ l0_1, QS79 y))) := by
  have p_l0_0 := o_l0_0.1
  unfold maxLen at p_l0_0
  have p_l0_1 := o_l0_1.1
  unfold maxLen at p_l0_1
  unfold laws_szDisk.f
  obtain ⟨t0, e0, q0⟩ := g_szStringS k l0_0 a (by omega) (by omega) (by omega) o_l0_0
  rw [e0]
  simp only [Option.bind_some]
  rcases q0 with q0 | ⟨r0, s0, q0_l0_0_0, q0_l0_0_1⟩
  · exact ⟨-1, by rw [if_pos q0], .inl (by omega)⟩
  rw [if_neg (show ¬ t0 < 0 by omega)]
  obtain ⟨t1, e1, q1⟩ := g_szPutS k l0_1 t0 (by omega) (by omega) (by omega) o_l0_1
  rw [e1]
  simp only [Option.bind_some]
  rcases q1 with q1 | ⟨r1, s1, q1_l0_1_0, q1_l0_1_1⟩
  · exact ⟨-1, by rw [if_pos q1], .inl (by omega)⟩
  rw [if_neg (show ¬ t1 < 0 by omega)]
  exact ⟨_, rfl, .inr ⟨by omega, by omega, q0_l0_0_0, q0_l0_0_1, q1_l0_1_0, q1_l0_1_1⟩⟩
theorem g_toStringS (k : Nat) (l : List ByteArray) (hk : 1048590 ≤ k) (o1 : (l.length : Int) ≤ 1048576) (o2 : (∀ y ∈ l, (y.size : Int) ≤ 1048576)) : laws_toStringS.f k l = some l := by
  unfold laws_toStringS.f
  rw [if_pos (by omega), if_pos (by omega)]
  have h := g_toloop laws_toStringS.l0 (fun _ (x : ByteArray) => some x) (fun b => b) ByteArray.empty id 0 l (by intro k s i; rw [laws_toStringS.l0]; rfl)
    (by intro k x hx hm; exact ⟨_, rfl, rfl⟩)
    (by omega) k (List.replicate ((l.length : Int) : Int).toNat (⟨#[]⟩ : ByteArray)) (by simp) (by omega)
  rwa [List.map_id] at h
theorem g_toPut (k : Nat) (a0_0 : Int) (a0_1 : ByteArray) (hk : 0 ≤ k) (o_a0_1_0 : (a0_1.size : Int) ≤ 1048576) : laws_toPut.f a0_0 a0_1 = some (a0_0, a0_1) := by
  unfold laws_toPut.f
  rfl
def QS58 (x : S58) : Prop := (x.f1.size : Int) ≤ 1048576
def cS79 (x : S79) : S58 := ⟨x.f0, x.f1⟩
theorem qcS79 (x : S79) (h : QS79 x) : QS58 (cS79 x) := h
theorem qmS79 (l : List S79) (h : ∀ y ∈ l, QS79 y) : ∀ y ∈ l.map cS79, QS58 y := by
  intro y hy
  obtain ⟨x, hx, rfl⟩ := List.mem_map.1 hy
  exact qcS79 x (h x hx)
theorem g_toPutS (k : Nat) (l : List (S79)) (hk : 1048590 ≤ k) (o1 : (l.length : Int) ≤ 1048576) (o2 : (∀ y ∈ l, QS79 y)) : laws_toPutS.f k l = some (l.map cS79) := by
  unfold laws_toPutS.f
  rw [if_pos (by omega), if_pos (by omega)]
  have h := g_toloop laws_toPutS.l0 (fun k (x : S79) => laws_toPut.f x.f0 x.f1) (fun b => (⟨b.1, b.2⟩ : S58)) z79 cS79 0 l (by intro k s i; rw [laws_toPutS.l0]; rfl)
    (by intro k x hx hm; obtain q1_0 := o2 x hx; exact ⟨_, g_toPut k x.f0 x.f1 hm q1_0, rfl⟩)
    (by omega) k (List.replicate ((l.length : Int) : Int).toNat z58) (by simp) (by omega)
  exact h
theorem g_toDisk (k : Nat) (l0_0 : List ByteArray) (l0_1 : List (S79)) (a0_2 : Int) (a0_3 : Bool) (hk : 1048590 ≤ k) (o_l0_0_0 : (l0_0.length : Int) ≤ 1048576) (o_l0_0_1 : (∀ y ∈ l0_0, (y.size : Int) ≤ 1048576)) (o_l0_1_0 : (l0_1.length : Int) ≤ 1048576) (o_l0_1_1 : (∀ y ∈ l0_1, QS79 y)) : laws_toDisk.f k l0_0 l0_1 a0_2 a0_3 = some (l0_0, (l0_1.map cS79), a0_2, a0_3) := by
  unfold laws_toDisk.f
  rw [g_toStringS k l0_0 (by omega) o_l0_0_0 o_l0_0_1]
  simp only [Option.bind_some]
  rw [g_toPutS k l0_1 (by omega) o_l0_1_0 o_l0_1_1]
  simp only [Option.bind_some]
theorem g_eqInt64S (k : Nat) (l : List Int) (hk : 1048590 ≤ k) (o1 : (l.length : Int) ≤ 1048576) : laws_eqInt64S.f k l l = some true := by
  unfold laws_eqInt64S.f
  rw [if_pos rfl]
  exact g_eqloop laws_eqInt64S.l0 (fun _ (x : Int) => some true) (0 : Int) 0 l (by intro k i; rw [laws_eqInt64S.l0]; simp only [Option.bind_some, bne_self_eq_false, Bool.false_eq_true, if_false, if_true, reduceIte]) (by intro k x hx hm; rfl) (by omega) k (by omega)
theorem g_eqStringS (k : Nat) (l : List ByteArray) (hk : 1048590 ≤ k) (o1 : (l.length : Int) ≤ 1048576) (o2 : (∀ y ∈ l, (y.size : Int) ≤ 1048576)) : laws_eqStringS.f k l l = some true := by
  unfold laws_eqStringS.f
  rw [if_pos rfl]
  exact g_eqloop laws_eqStringS.l0 (fun _ (x : ByteArray) => some true) ByteArray.empty 0 l (by intro k i; rw [laws_eqStringS.l0]; simp only [Option.bind_some, bne_self_eq_false, Bool.false_eq_true, if_false, if_true, reduceIte]) (by intro k x hx hm; rfl) (by omega) k (by omega)
theorem g_eqPut (k : Nat) (a0_0 : Int) (a0_1 : ByteArray) (hk : 0 ≤ k)  : laws_eqPut.f a0_0 a0_1 a0_0 a0_1 = some true := by
  unfold laws_eqPut.f
  simp only [Option.bind_some, bne_self_eq_false, Bool.false_eq_true, if_false, if_true, reduceIte]
theorem g_eqPutS (k : Nat) (l : List (S58)) (hk : 1048590 ≤ k) (o1 : (l.length : Int) ≤ 1048576) (o2 : (∀ y ∈ l, QS58 y)) : laws_eqPutS.f k l l = some true := by
  unfold laws_eqPutS.f
  rw [if_pos rfl]
  exact g_eqloop laws_eqPutS.l0 (fun k (x : S58) => laws_eqPut.f x.f0 x.f1 x.f0 x.f1) z58 0 l (by intro k i; rw [laws_eqPutS.l0]; rfl) (by intro k x hx hm; obtain q1_0 := o2 x hx; exact g_eqPut k x.f0 x.f1 hm ) (by omega) k (by omega)
theorem g_eqDisk (k : Nat) (l0_0 : List ByteArray) (l0_1 : List (S58)) (a0_2 : Int) (a0_3 : Bool) (hk : 1048590 ≤ k) (o_l0_0_0 : (l0_0.length : Int) ≤ 1048576) (o_l0_0_1 : (∀ y ∈ l0_0, (y.size : Int) ≤ 1048576)) (o_l0_1_0 : (l0_1.length : Int) ≤ 1048576) (o_l0_1_1 : (∀ y ∈ l0_1, QS58 y)) : laws_eqDisk.f k l0_0 l0_1 a0_2 a0_3 l0_0 l0_1 a0_2 a0_3 = some true := by
  unfold laws_eqDisk.f
  simp only [g_eqStringS k l0_0 (by omega) o_l0_0_0 o_l0_0_1, g_eqPutS k l0_1 (by omega) o_l0_1_0 o_l0_1_1, Option.bind_some, bne_self_eq_false, Bool.false_eq_true, if_false, if_true, reduceIte]
theorem all_loop (L : Nat → Int → Option Bool) (P : Nat → Prop) [DecidablePred P] (n m : Nat) (r : Bool)
    (hend : ∀ k, m ≤ k → L (k + 1) (n : Int) = some r) (hstep : ∀ k (i : Nat), m ≤ k → i < n → L (k + 1) (i : Int) = if P i then L k ((i + 1 : Nat) : Int) else some false) (k : Nat) (hk : n + m < k) :
    L k 0 = some (decide (∀ i, i < n → P i) && r) := by
  obtain ⟨s, h, rfl⟩ := count_loop (fun k (_ : Unit) i => L k i) n m (fun i _ => ∀ j, j < i → P j) (fun s => s = (decide (∀ i, i < n → P i) && r))
    (by
      rintro k s hm h
      exact ⟨r, hend k hm, by simp [decide_eq_true h]⟩)
    (by
      rintro k s i hm hi h
      by_cases hp : P i
      · refine .inl ⟨(), ?_, by show L (k + 1) _ = _; rw [hstep k i hm hi, if_pos hp]⟩
        intro j hj
        by_cases hji : j = i
        · subst hji; exact hp
        · exact h j (by omega)
      · refine .inr ⟨false, by show L (k + 1) _ = _; rw [hstep k i hm hi, if_neg hp], ?_⟩
        have : ¬ ∀ i, i < n → P i := fun h => hp (h i hi)
        simp [this])
    k () 0 (by omega) (by omega) (by simp)
  exact h
def look (P : Nat → Prop) [DecidablePred P] : Nat → Nat → Int
  | 0, _ => -1
  | d + 1, i => if P i then (i : Int) else look P d (i + 1)
theorem look_or (P : Nat → Prop) [DecidablePred P] (d : Nat) : ∀ i, (look P d i = -1 ∧ ∀ j, i ≤ j → j < i + d → ¬ P j) ∨ ∃ j, i ≤ j ∧ j < i + d ∧ look P d i = (j : Int) ∧ P j := by
  induction d with
  | zero => intro i; exact .inl ⟨rfl, fun j h1 h2 => by omega⟩
  | succ d ih =>
    intro i
    by_cases hp : P i
    · exact .inr ⟨i, by omega, by omega, by rw [look, if_pos hp], hp⟩
    · rw [look, if_neg hp]
      rcases ih (i + 1) with ⟨h1, h2⟩ | ⟨j, h1, h2, h3, h4⟩
      · refine .inl ⟨h1, fun j h3 h4 => ?_⟩
        by_cases hji : j = i
        · subst hji; exact hp
        · exact h2 j (by omega) (by omega)
      · exact .inr ⟨j, by omega, by omega, h3, h4⟩
theorem find_loop (L : Nat → Int → Option Int) (P : Nat → Prop) [DecidablePred P] (n m : Nat)
    (hend : ∀ k, m ≤ k → L (k + 1) (n : Int) = some (-1)) (hstep : ∀ k (i : Nat), m ≤ k → i < n → L (k + 1) (i : Int) = if P i then some (i : Int) else L k ((i + 1 : Nat) : Int)) (k : Nat) (hk : n + m < k) :
    L k 0 = some (look P n 0) := by
  have key : ∀ d k i, i + d = n → d + m < k → L k (i : Int) = some (look P d i) := by
    intro d
    induction d with
    | zero =>
      intro k i hi hk
      obtain ⟨k, rfl⟩ : ∃ z, k = z + 1 := ⟨k - 1, by omega⟩
      obtain rfl : i = n := by omega
      exact hend k (by omega)
    | succ d ih =>
      intro k i hi hk
      obtain ⟨k, rfl⟩ : ∃ z, k = z + 1 := ⟨k - 1, by omega⟩
      rw [hstep k i (by omega) (by omega), look]
      by_cases hp : P i
      · rw [if_pos hp, if_pos hp]
      · rw [if_neg hp, if_neg hp]; exact ih k (i + 1) (by omega) (by omega)
  exact key n k 0 (by omega) (by omega)
theorem getD_lt {α : Type} (l : List α) (z : α) (i : Nat) (h : i < l.length) : l.getD (i : Int).toNat z = l[i] := by
  simp [List.getD_eq_getElem?_getD, List.getElem?_eq_getElem h]
theorem flip_ite {α : Type} (c : Prop) [Decidable c] (a b : α) : (if c then b else a) = if ¬ c then a else b := by
  by_cases h : c
  · rw [if_pos h, if_neg (fun h2 => h2 h)]
  · rw [if_neg h, if_pos h]
theorem seq_loop (L : Nat → Int → Option Bool) (P : Nat → Prop) [DecidablePred P] (n : Nat)
    (hend : ∀ k, L (k + 1) (n : Int) = some true) (hstep : ∀ k (i : Nat), i < n → L (k + 1) (i : Int) = if P i then L k ((i + 1 : Nat) : Int) else some false) (k : Nat) (hk : n < k) :
    L k 0 = some (decide (∀ i, i < n → P i)) := by
  rw [all_loop L P n 0 true (fun k _ => hend k) (fun k i _ hi => hstep k i hi) k (by omega), Bool.and_true]
theorem in_eq (a b c : Int) : spec_l00In.f a b c = some (decide (b ≤ a ∧ a ≤ c)) := by
  unfold spec_l00In.f
  by_cases h : a ≥ b
  · rw [if_pos h]
    by_cases h2 : a ≤ c <;> simp [h2] <;> omega
  · rw [if_neg h]; simp; omega
theorem within_eq (a b c : Int) : impl_within.f a b c = some (decide (b ≤ a ∧ a ≤ c)) := by
  unfold impl_within.f
  by_cases h : a ≥ b
  · rw [if_pos h]
    by_cases h2 : a ≤ c <;> simp [h2] <;> omega
  · rw [if_neg h]; simp; omega
theorem mark64 (n : Nat) (hn : n ≤ 1048576) : ∀ (d i : Nat) (x : Int) (l : List Int), l.length = n → n - i = d → i ≤ n → 0 ≤ x → x + d ≤ 1099511627776 →
    ∃ r : List Int, r.length = n ∧ (∀ k, d < k → laws_markInt64S.l0 k l x (i : Int) = some (x + d, r)) ∧ (∀ j, j < i → r.getD j 0 = l.getD j 0) ∧ ∀ j, i ≤ j → j < n → r.getD j 0 = x + ((j - i : Nat) : Int) := by
  intro d
  induction d with
  | zero =>
    intro i x l hl hd hi h0 h1
    refine ⟨l, hl, fun k hk => ?_, fun j _ => rfl, fun j h2 h3 => by omega⟩
    obtain ⟨k, rfl⟩ : ∃ m, k = m + 1 := ⟨k - 1, by omega⟩
    rw [laws_markInt64S.l0, if_neg (by omega)]
    simp
  | succ d ih =>
    intro i x l hl hd hi h0 h1
    obtain ⟨r, hr, hk0, hlo, hhi⟩ := ih (i + 1) (x + 1) (l.set i x) (by simpa using hl) (by omega) (by omega) (by omega) (by omega)
    refine ⟨r, hr, fun k hk => ?_, fun j hj => ?_, fun j h2 h3 => ?_⟩
    · obtain ⟨k, rfl⟩ : ∃ m, k = m + 1 := ⟨k - 1, by omega⟩
      rw [laws_markInt64S.l0, if_pos (by omega), if_pos (by omega), wrap64_id (by omega) (by omega), wrap64_id (by omega) (by omega), Int.toNat_natCast, show (i : Int) + 1 = ((i + 1 : Nat) : Int) by omega, hk0 k (by omega)]
      congr 2
      omega
    · rw [hlo j (by omega)]
      simp only [List.getD_eq_getElem?_getD]
      rw [List.getElem?_set_ne (by omega)]
    · by_cases hj : j = i
      · subst hj
        rw [hlo j (by omega)]
        simp only [List.getD_eq_getElem?_getD]
        rw [List.getElem?_set_self (by omega)]
        simp
      · rw [hhi j (by omega) h3]
        omega
theorem held64 (n : Nat) (hn : n ≤ 1048576) (l : List Int) (hl : l.length = n) : ∀ (d i : Nat) (x : Int), n - i = d → i ≤ n → 0 ≤ x → x + d ≤ 1099511627776 → (∀ j, i ≤ j → j < n → l.getD j 0 = x + ((j - i : Nat) : Int)) →
    ∀ k, d < k → laws_heldInt64S.l0 k l x (i : Int) = some (x + d) := by
  intro d
  induction d with
  | zero =>
    intro i x hd hi h0 h1 hm k hk
    obtain ⟨k, rfl⟩ : ∃ m, k = m + 1 := ⟨k - 1, by omega⟩
    rw [laws_heldInt64S.l0, if_neg (by omega)]
    simp
  | succ d ih =>
    intro i x hd hi h0 h1 hm k hk
    obtain ⟨k, rfl⟩ : ∃ m, k = m + 1 := ⟨k - 1, by omega⟩
    have e : rd l (i : Int) = x := by
      have h := hm i (Nat.le_refl _) (by omega)
      rw [Nat.sub_self] at h
      simpa [rd] using h
    rw [laws_heldInt64S.l0, if_pos (by omega), if_pos (by omega), e, if_pos rfl, wrap64_id (by omega) (by omega), wrap64_id (by omega) (by omega), show (i : Int) + 1 = ((i + 1 : Nat) : Int) by omega, ih (i + 1) (x + 1) (by omega) (by omega) (by omega) (by omega) (fun j h2 h3 => by
      rw [hm j (by omega) h3]; omega) k (by omega)]
    congr 1
    omega
/-- a list that has been marked from x on, and what its marks are held against -/
theorem marks64 (l : List Int) (hl : l.length ≤ 1048576) (x : Int) (h0 : 0 ≤ x) (h1 : x ≤ 1073741824) :
    ∃ r : List Int, r.length = l.length ∧ (∀ k, 1048576 < k → laws_markInt64S.f k l x = some (x + l.length, r)) ∧ ∀ k, 1048576 < k → laws_heldInt64S.f k r x = some (x + l.length) := by
  obtain ⟨r, hr, hm, -, hv⟩ := mark64 l.length hl l.length 0 x l rfl (by omega) (by omega) h0 (by omega)
  exact ⟨r, hr, fun k hk => hm k (by omega), fun k hk => held64 l.length hl r hr l.length 0 x (by omega) (by omega) h0 (by omega) (fun j h2 h3 => hv j h2 h3) k (by omega)⟩
def okPut (n : Int) (x : S58) : Prop := (0 ≤ x.f0 ∧ x.f0 ≤ wrap64 (n - 1)) ∧ (x.f1.size : Int) = 64
instance (n : Int) (x : S58) : Decidable (okPut n x) := by unfold okPut; infer_instance
def blk (a : List ByteArray) (i : Nat) : Prop := ((rdOf ByteArray.empty a (i : Int)).size : Int) = 64
instance (a : List ByteArray) : DecidablePred (blk a) := fun i => by unfold blk; infer_instance
theorem sp1 (n : Int) (a : List ByteArray) (l : List S58) (x : Int) (y : Bool) (hl : l.length ≤ 1048576) (k : Nat) (hk : 1048590 ≤ k) : spec_l09Ok_c31.l1 k n 0 a l x y = some (decide (∀ i, i < l.length → okPut n (rd_T58 l (i : Int)))) :=
  seq_loop (fun k i => spec_l09Ok_c31.l1 k n i a l x y) (fun i => okPut n (rd_T58 l (i : Int))) l.length
    (by intro k; show spec_l09Ok_c31.l1 (k + 1) n _ a l x y = _; rw [spec_l09Ok_c31.l1, if_neg (by omega)])
    (by
      intro k i hi
      show spec_l09Ok_c31.l1 (k + 1) n _ a l x y = _
      rw [spec_l09Ok_c31.l1, if_pos (by omega), if_pos (by omega), wrap_up i (by omega), in_eq]
      simp only [Option.bind_some, decide_eq_true_eq]
      generalize rd_T58 l (i : Int) = z
      by_cases h1 : 0 ≤ z.f0 ∧ z.f0 ≤ wrap64 (n - 1)
      · rw [if_pos h1]
        by_cases h2 : (z.f1.size : Int) = 64
        · rw [if_pos h2, if_pos ⟨h1, h2⟩]
        · rw [if_neg h2, if_neg (fun h => h2 h.2)]
      · rw [if_neg h1, if_neg (fun h => h1 h.1)])
    k (by omega)
theorem sp0 (n : Int) (a : List ByteArray) (l : List S58) (x : Int) (y : Bool) (ha : a.length ≤ 1048576) (hl : l.length ≤ 1048576) (k : Nat) (hk : 3000000 ≤ k) : spec_l09Ok_c31.l0 k n 0 a l x y = some (decide (∀ i, i < a.length → blk a i) && decide (∀ i, i < l.length → okPut n (rd_T58 l (i : Int)))) :=
  all_loop (fun k i => spec_l09Ok_c31.l0 k n i a l x y) (blk a) a.length 1048590 _
    (by intro k hk; show spec_l09Ok_c31.l0 (k + 1) n _ a l x y = _; rw [spec_l09Ok_c31.l0, if_neg (by omega)]; exact sp1 n a l x y hl k hk)
    (by
      intro k i _ hi
      show spec_l09Ok_c31.l0 (k + 1) n _ a l x y = _
      rw [spec_l09Ok_c31.l0, if_pos (by omega), if_pos (by omega), wrap_up i (by omega)]
      rfl)
    k (by omega)
theorem im1 (a : List ByteArray) (ha : a.length ≤ 1048576) (k : Nat) (hk : 1048590 ≤ k) : slices_ContainsFunc_impl_ValidDisk_1.f k a = some (!decide (∀ i, i < a.length → blk a i)) := by
  unfold slices_ContainsFunc_impl_ValidDisk_1.f slices_IndexFunc_impl_ValidDisk_1.f
  rw [find_loop (fun k i => slices_IndexFunc_impl_ValidDisk_1.l0 k a a.length i) (fun i => ¬ blk a i) a.length 0
    (by intro k _; show slices_IndexFunc_impl_ValidDisk_1.l0 (k + 1) a _ _ = _; rw [slices_IndexFunc_impl_ValidDisk_1.l0, if_neg (by omega)])
    (by
      intro k i _ hi
      show slices_IndexFunc_impl_ValidDisk_1.l0 (k + 1) a _ _ = _
      rw [slices_IndexFunc_impl_ValidDisk_1.l0, if_pos (by omega), if_pos (by omega), if_pos (by omega), wrap_up i (by omega)]
      unfold impl_ValidDisk_1.f impl_isBlock.f
      simp only [Option.bind_some]
      by_cases h : ((rdOf ByteArray.empty a (i : Int)).size : Int) = 64
      · have h2 : blk a i := h
        simp [h, h2]
      · have h2 : ¬ blk a i := h
        simp [h, h2])
    k (by omega)]
  simp only [Option.bind_some]
  rcases look_or (fun i => ¬ blk a i) a.length 0 with ⟨h4, h5⟩ | ⟨j, -, h4, h5, h6⟩
  · rw [h4]
    have h7 : ∀ i, i < a.length → blk a i := fun i hi => Decidable.not_not.1 (h5 i (by omega) (by omega))
    rw [decide_eq_true h7]; rfl
  · rw [h5]
    have h7 : ¬ ∀ i, i < a.length → blk a i := fun h => h6 (h j (by omega))
    have h8 : (j : Int) ≥ 0 := by omega
    rw [decide_eq_false h7]; simp [h8]
theorem im2 (a : List ByteArray) (l : List S58) (x : Int) (y : Bool) (hl : l.length ≤ 1048576) (k : Nat) (hk : 1048590 ≤ k) : slices_ContainsFunc_impl_ValidDisk_2.f k l a l x y = some (!decide (∀ i, i < l.length → okPut (a.length : Int) (rd_T58 l (i : Int)))) := by
  unfold slices_ContainsFunc_impl_ValidDisk_2.f slices_IndexFunc_impl_ValidDisk_2.f
  rw [find_loop (fun k i => slices_IndexFunc_impl_ValidDisk_2.l0 k l l.length i a l x y) (fun i => ¬ okPut (a.length : Int) (rd_T58 l (i : Int))) l.length 0
    (by intro k _; show slices_IndexFunc_impl_ValidDisk_2.l0 (k + 1) l _ _ a l x y = _; rw [slices_IndexFunc_impl_ValidDisk_2.l0, if_neg (by omega)])
    (by
      intro k i _ hi
      show slices_IndexFunc_impl_ValidDisk_2.l0 (k + 1) l _ _ a l x y = _
      rw [slices_IndexFunc_impl_ValidDisk_2.l0, if_pos (by omega), if_pos (by omega), if_pos (by omega), wrap_up i (by omega)]
      unfold impl_ValidDisk_2.f impl_isBlock.f impl_isIndex.f
      simp only [within_eq, Option.bind_some, decide_eq_true_eq]
      generalize rd_T58 l (i : Int) = z
      by_cases h1 : 0 ≤ z.f0 ∧ z.f0 ≤ wrap64 ((a.length : Int) - 1)
      · rw [if_pos h1]
        simp only [Option.bind_some]
        by_cases h2 : (z.f1.size : Int) = 64
        · have h3 : okPut (a.length : Int) z := ⟨h1, h2⟩
          simp [h2, h3]
        · have h3 : ¬ okPut (a.length : Int) z := fun h => h2 h.2
          simp [h2, h3]
      · have h3 : ¬ okPut (a.length : Int) z := fun h => h1 h.1
        rw [if_neg h1]
        simp [h3])
    k (by omega)]
  simp only [Option.bind_some]
  rcases look_or (fun i => ¬ okPut (a.length : Int) (rd_T58 l (i : Int))) l.length 0 with ⟨h4, h5⟩ | ⟨j, -, h4, h5, h6⟩
  · rw [h4]
    have h7 : ∀ i, i < l.length → okPut (a.length : Int) (rd_T58 l (i : Int)) := fun i hi => Decidable.not_not.1 (h5 i (by omega) (by omega))
    rw [decide_eq_true h7]; rfl
  · rw [h5]
    have h7 : ¬ ∀ i, i < l.length → okPut (a.length : Int) (rd_T58 l (i : Int)) := fun h => h6 (h j (by omega))
    have h8 : (j : Int) ≥ 0 := by omega
    rw [decide_eq_false h7]; simp [h8]
theorem disk_ok (a : List ByteArray) (l : List S58) (x : Int) (y : Bool) (ha : (a.length : Int) ≤ 1048576) (ha2 : ∀ y ∈ a, (y.size : Int) ≤ 1048576) (hl : (l.length : Int) ≤ 1048576) (hl2 : ∀ y ∈ l, QS58 y) (hx : (Lit.int .i64 x).wf = true) :
    ∃ v, ∀ k, 8000000 ≤ k → spec_l09Ok_c31.f k a l x y = some v ∧ impl_ValidDisk.f k a l x y = some v := by
  by_cases h1 : 16 ≤ (a.length : Int) ∧ (a.length : Int) ≤ 256
  · by_cases h2 : (l.length : Int) > 600
    · refine ⟨false, fun k hk => ?_⟩
      obtain ⟨k, rfl⟩ : ∃ z, k = z + 1 := ⟨k - 1, by omega⟩
      unfold impl_ValidDisk.f spec_l09Ok_c31.f
      rw [in_eq, within_eq, decide_eq_true h1]
      simp only [Option.bind_some, if_true, if_pos h2]
      rw [spec_l09Ok_c31.j0, impl_ValidDisk.j0]
      exact ⟨rfl, rfl⟩
    · by_cases h3 : -1 ≤ x ∧ x ≤ 100000
      · refine ⟨decide (∀ i, i < a.length → blk a i) && decide (∀ i, i < l.length → okPut (a.length : Int) (rd_T58 l (i : Int))), fun k hk => ?_⟩
        obtain ⟨k, rfl⟩ : ∃ z, k = z + 1 := ⟨k - 1, by omega⟩
        unfold impl_ValidDisk.f spec_l09Ok_c31.f
        rw [in_eq, within_eq, decide_eq_true h1]
        simp only [Option.bind_some, if_true, if_neg h2]
        rw [in_eq, within_eq, decide_eq_true h3]
        simp only [Option.bind_some]
        rw [spec_l09Ok_c31.j0, impl_ValidDisk.j0, sp0 _ a l x y (by omega) (by omega) k (by omega), im1 a (by omega) k (by omega), im2 a l x y (by omega) k (by omega)]
        generalize decide (∀ i, i < a.length → blk a i) = p
        generalize decide (∀ i, i < l.length → okPut (a.length : Int) (rd_T58 l (i : Int))) = q
        cases p <;> cases q <;> exact ⟨rfl, rfl⟩
      · refine ⟨false, fun k hk => ?_⟩
        obtain ⟨k, rfl⟩ : ∃ z, k = z + 1 := ⟨k - 1, by omega⟩
        unfold impl_ValidDisk.f spec_l09Ok_c31.f
        rw [in_eq, within_eq, decide_eq_true h1]
        simp only [Option.bind_some, if_true, if_neg h2]
        rw [in_eq, within_eq, decide_eq_false h3]
        simp only [Option.bind_some]
        rw [spec_l09Ok_c31.j0, impl_ValidDisk.j0]
        exact ⟨rfl, rfl⟩
  · refine ⟨false, fun k hk => ?_⟩
    obtain ⟨k, rfl⟩ : ∃ z, k = z + 1 := ⟨k - 1, by omega⟩
    unfold impl_ValidDisk.f spec_l09Ok_c31.f
    rw [in_eq, within_eq, decide_eq_false h1]
    simp only [Option.bind_some, Bool.false_eq_true, if_false]
    rw [spec_l09Ok_c31.j0, impl_ValidDisk.j0]
    exact ⟨rfl, rfl⟩

def ins : List Int → Int → List Int
  | [], n => [n]
  | a :: l, n => if a ≥ n then (if a > n then n :: a :: l else a :: l) else a :: ins l n
theorem ins_mem (l : List Int) (n x : Int) : x ∈ ins l n ↔ x = n ∨ x ∈ l := by
  induction l with
  | nil => simp [ins]
  | cons a l ih =>
    unfold ins
    by_cases h1 : a ≥ n
    · by_cases h2 : a > n
      · simp [h1, h2]
      · have : a = n := by omega
        subst this
        simp
    · simp only [h1, if_false, List.mem_cons, ih]
      constructor
      · rintro (h | h | h) <;> simp [h]
      · rintro (h | h | h) <;> simp [h]
theorem ins_sorted (l : List Int) (n : Int) (h : l.Pairwise (· < ·)) : (ins l n).Pairwise (· < ·) := by
  induction l with
  | nil => simp [ins]
  | cons a l ih =>
    rw [List.pairwise_cons] at h
    unfold ins
    by_cases h1 : a ≥ n
    · by_cases h2 : a > n
      · simp only [h1, h2, if_true, List.pairwise_cons]
        refine ⟨fun x hx => ?_, h⟩
        rcases List.mem_cons.1 hx with rfl | hx
        · exact h2
        · have := h.1 x hx; omega
      · simp only [h1, h2, if_true, if_false, List.pairwise_cons]
        exact h
    · simp only [h1, if_false, List.pairwise_cons]
      refine ⟨fun x hx => ?_, ih h.2⟩
      rcases (ins_mem l n x).1 hx with rfl | hx
      · omega
      · exact h.1 x hx
theorem ins_length (l : List Int) (n : Int) : (ins l n).length ≤ l.length + 1 := by
  induction l with
  | nil => simp [ins]
  | cons a l ih => unfold ins; split <;> (try split) <;> simp <;> omega
theorem strict_ext : ∀ (a b : List Int), a.Pairwise (· < ·) → b.Pairwise (· < ·) → (∀ x, x ∈ a ↔ x ∈ b) → a = b := by
  intro a
  induction a with
  | nil =>
    intro b _ _ h
    cases b with
    | nil => rfl
    | cons y b => exact absurd ((h y).2 (by simp)) (by simp)
  | cons x a ih =>
    intro b ha hb h
    cases b with
    | nil => exact absurd ((h x).1 (by simp)) (by simp)
    | cons y b =>
      rw [List.pairwise_cons] at ha hb
      have hxy : x = y := by
        rcases List.mem_cons.1 ((h x).1 (by simp)) with e | e
        · exact e
        · rcases List.mem_cons.1 ((h y).2 (by simp)) with e' | e'
          · exact e'.symm
          · have := hb.1 x e; have := ha.1 y e'; omega
      subst hxy
      rw [ih b ha.2 hb.2 fun z => ?_]
      constructor
      · intro hz
        rcases List.mem_cons.1 ((h z).1 (List.mem_cons_of_mem _ hz)) with e | e
        · have := ha.1 z hz; omega
        · exact e
      · intro hz
        rcases List.mem_cons.1 ((h z).2 (List.mem_cons_of_mem _ hz)) with e | e
        · have := hb.1 z hz; omega
        · exact e
theorem comp_up (d : Array Int) (hs : ∀ i j, i ≤ j → j < d.size → d[i]! ≤ d[j]!) : ∀ m, m ≤ d.size → (Lib.compactUpTo d m).Pairwise (· < ·) ∧ ∀ x, x ∈ Lib.compactUpTo d m ↔ ∃ j, j < m ∧ d[j]! = x := by
  intro m
  induction m with
  | zero => intro _; exact ⟨by simp [Lib.compactUpTo], by simp [Lib.compactUpTo]⟩
  | succ m ih =>
    intro hm
    obtain ⟨h1, h2⟩ := ih (by omega)
    rw [Lib.compactUpTo_succ]
    by_cases hk : m = 0 ∨ d[m]! ≠ d[m - 1]!
    · have hk' : Lib.keeps d m = true := by simp [Lib.keeps]; exact hk
      rw [if_pos hk']
      refine ⟨?_, fun x => ?_⟩
      · rw [List.pairwise_append]
        refine ⟨h1, by simp, fun a ha b hb => ?_⟩
        obtain ⟨j, hj, rfl⟩ := (h2 a).1 ha
        obtain rfl := List.mem_singleton.1 hb
        have h3 := hs j (m - 1) (by omega) (by omega)
        have h4 := hs (m - 1) m (by omega) (by omega)
        rcases hk with hk | hk
        · omega
        · omega
      · rw [List.mem_append, h2, List.mem_singleton]
        constructor
        · rintro (⟨j, hj, e⟩ | e)
          · exact ⟨j, by omega, e⟩
          · exact ⟨m, by omega, e.symm⟩
        · rintro ⟨j, hj, e⟩
          by_cases hjm : j = m
          · subst hjm; exact .inr e.symm
          · exact .inl ⟨j, by omega, e⟩
    · have hk' : Lib.keeps d m = false := by simp [Lib.keeps]; omega
      rw [if_neg (by simp [hk']), List.append_nil]
      refine ⟨h1, fun x => ?_⟩
      rw [h2]
      constructor
      · rintro ⟨j, hj, e⟩; exact ⟨j, by omega, e⟩
      · rintro ⟨j, hj, e⟩
        by_cases hjm : j = m
        · subst hjm
          exact ⟨j - 1, by omega, by rw [← e]; omega⟩
        · exact ⟨j, by omega, e⟩
theorem comp_sort (xs : List Int) : (Lib.compactUpTo (xs.mergeSort fun x y => decide (x ≤ y)).toArray (xs.mergeSort fun x y => decide (x ≤ y)).length).Pairwise (· < ·) ∧ ∀ x, x ∈ Lib.compactUpTo (xs.mergeSort fun x y => decide (x ≤ y)).toArray (xs.mergeSort fun x y => decide (x ≤ y)).length ↔ x ∈ xs := by
  have hp := List.pairwise_mergeSort (le := fun x y : Int => decide (x ≤ y)) (by intro a b c; simp; omega) (by intro a b; simp; omega) xs
  have hm : ∀ x, x ∈ (xs.mergeSort fun x y => decide (x ≤ y)) ↔ x ∈ xs := fun x => List.mem_mergeSort
  generalize (xs.mergeSort fun x y => decide (x ≤ y)) = ys at hp hm ⊢
  have hs : ∀ i j, i ≤ j → j < ys.toArray.size → ys.toArray[i]! ≤ ys.toArray[j]! := by
    intro i j hij hj
    have hj' : j < ys.length := by simpa using hj
    rw [getElem!_pos ys.toArray i (by simp; omega), getElem!_pos ys.toArray j hj]
    by_cases h : i = j
    · subst h; exact Int.le_refl _
    · have := (List.pairwise_iff_getElem.1 hp) i j (by omega) hj' (by omega)
      simpa using this
  obtain ⟨h1, h2⟩ := comp_up ys.toArray hs ys.length (by simp)
  refine ⟨h1, fun x => ?_⟩
  rw [h2, ← hm]
  constructor
  · rintro ⟨j, hj, rfl⟩
    rw [getElem!_pos ys.toArray j (by simpa using hj)]
    simp
  · intro hx
    obtain ⟨j, hj, e⟩ := List.mem_iff_getElem.1 hx
    exact ⟨j, hj, by rw [getElem!_pos ys.toArray j (by simpa using hj)]; simpa using e⟩
theorem put_loop (l : List Int) (n : Int) (hl : l.length ≤ 2097152) : ∀ (d i k : Nat) (out : List Int), i + d = l.length → 2 * d < k → out.length + 2 * d ≤ 8388608 →
    spec_l00Put.l0 k l n out false (i : Int) = some (out ++ ins (l.drop i) n) ∧ spec_l00Put.l0 k l n out true (i : Int) = some (out ++ l.drop i) := by
  intro d
  induction d with
  | zero =>
    intro i k out hi hk ho
    obtain ⟨k, rfl⟩ : ∃ m, k = m + 1 := ⟨k - 1, by omega⟩
    rw [List.drop_of_length_le (by omega)]
    constructor
    · rw [spec_l00Put.l0, if_neg (by omega), if_neg (by decide), if_pos (by omega)]; rfl
    · rw [spec_l00Put.l0, if_neg (by omega), if_pos rfl]; simp
  | succ d ih =>
    intro i k out hi hk ho
    obtain ⟨k, rfl⟩ : ∃ m, k = m + 2 := ⟨k - 2, by omega⟩
    have hil : i < l.length := by omega
    have e : l.drop i = l[i] :: l.drop (i + 1) := List.drop_eq_getElem_cons hil
    have hr : rd l (i : Int) = l[i] := rd_lt l i hil
    rw [e]
    constructor
    · rw [spec_l00Put.l0, if_pos (by omega), if_neg (by decide), if_pos (by omega), spec_l00Put.j1, hr]
      by_cases h1 : l[i] ≥ n
      · rw [decide_eq_true h1, if_pos rfl, if_pos (by omega), if_pos (by omega)]
        by_cases h2 : l[i] > n
        · rw [if_pos h2, if_pos (by omega)]
          simp only [Option.bind_some]
          rw [if_pos (by simp; omega), wrap_up i (by omega), (ih (i + 1) k (out ++ [n] ++ [l[i]]) (by omega) (by omega) (by simp; omega)).2]
          unfold ins
          rw [if_pos h1, if_pos h2]
          simp
        · rw [if_neg h2, if_pos (by omega), wrap_up i (by omega), (ih (i + 1) k (out ++ [l[i]]) (by omega) (by omega) (by simp; omega)).2]
          unfold ins
          rw [if_pos h1, if_neg h2]
          simp
      · rw [decide_eq_false h1, if_neg (by decide), if_pos (by omega), if_pos (by omega), if_pos (by omega), wrap_up i (by omega), (ih (i + 1) k (out ++ [l[i]]) (by omega) (by omega) (by simp; omega)).1]
        conv => rhs; unfold ins
        rw [if_neg h1]
        simp
    · rw [spec_l00Put.l0, if_pos (by omega), if_pos rfl, spec_l00Put.j1, if_neg (by decide), if_pos (by omega), if_pos (by omega), if_pos (by omega), hr, wrap_up i (by omega), (ih (i + 1) k (out ++ [l[i]]) (by omega) (by omega) (by simp; omega)).2]
      simp
theorem put_eq (l : List Int) (n : Int) (hl : l.length ≤ 2097152) (k : Nat) (hk : 4194310 ≤ k) : spec_l00Put.f k l n = some (ins l n) := by
  unfold spec_l00Put.f
  have h := (put_loop l n hl l.length 0 k [] (by omega) (by omega) (by simp; omega)).1
  simpa using h
theorem sblocks (a : List ByteArray) (l : List S58) (x : Int) (y : Bool) (hl : l.length ≤ 1048576) : ∀ (d i k : Nat) (acc : List Int), i + d = l.length → 4194310 + d < k → acc.length + d ≤ 2097152 →
    spec_ChangedBlocks.l0 k acc (i : Int) a l x y = some ((l.drop i).foldl (fun s p => ins s p.f0) acc) := by
  intro d
  induction d with
  | zero =>
    intro i k acc hi hk ho
    obtain ⟨k, rfl⟩ : ∃ m, k = m + 1 := ⟨k - 1, by omega⟩
    rw [spec_ChangedBlocks.l0, if_neg (by omega), List.drop_of_length_le (by omega)]
    rfl
  | succ d ih =>
    intro i k acc hi hk ho
    obtain ⟨k, rfl⟩ : ∃ m, k = m + 1 := ⟨k - 1, by omega⟩
    have hil : i < l.length := by omega
    have hr : rd_T58 l (i : Int) = l[i] := by
      unfold rd_T58
      simp [List.getD, hil]
    rw [spec_ChangedBlocks.l0, if_pos (by omega), if_pos (by omega), hr, put_eq acc _ (by omega) k (by omega)]
    simp only [Option.bind_some]
    have := ins_length acc l[i].f0
    rw [wrap_up i (by omega), ih (i + 1) k (ins acc l[i].f0) (by omega) (by omega) (by omega), List.drop_eq_getElem_cons hil]
    rfl
theorem iblocks (l : List S58) (hl : l.length ≤ 1048576) : ∀ (d i k : Nat) (acc : List Int), i + d = l.length → d < k → acc.length = i →
    impl_ChangedBlocks.l0 k acc l (l.length : Int) (i : Int) = some (Lib.compactUpTo ((acc ++ (l.drop i).map (·.f0)).mergeSort fun x y => decide (x ≤ y)).toArray ((acc ++ (l.drop i).map (·.f0)).mergeSort fun x y => decide (x ≤ y)).length) := by
  intro d
  induction d with
  | zero =>
    intro i k acc hi hk ho
    obtain ⟨k, rfl⟩ : ∃ m, k = m + 1 := ⟨k - 1, by omega⟩
    rw [impl_ChangedBlocks.l0, if_neg (by omega), List.drop_of_length_le (by omega)]
    unfold slices_Sort_int64_int64.f
    rw [if_pos (by omega)]
    simp only [Option.bind_some, List.map_nil, List.append_nil]
    unfold slices_Compact_int64_int64.f
    rw [if_pos (by rw [List.length_mergeSort]; omega)]
    rfl
  | succ d ih =>
    intro i k acc hi hk ho
    obtain ⟨k, rfl⟩ : ∃ m, k = m + 1 := ⟨k - 1, by omega⟩
    have hil : i < l.length := by omega
    have hr : rd_T58 l (i : Int) = l[i] := by
      unfold rd_T58
      simp [List.getD, hil]
    rw [impl_ChangedBlocks.l0, if_pos (by omega), if_pos (by omega), if_pos (by omega), if_pos (by omega), hr, wrap_up i (by omega), ih (i + 1) k (acc ++ [l[i].f0]) (by omega) (by omega) (by simp; omega), List.drop_eq_getElem_cons hil, List.map_cons, List.append_assoc, List.singleton_append]
theorem fold_ins (l : List S58) : ∀ (acc : List Int), acc.Pairwise (· < ·) → (l.foldl (fun s p => ins s p.f0) acc).Pairwise (· < ·) ∧ ∀ x, x ∈ l.foldl (fun s p => ins s p.f0) acc ↔ x ∈ acc ∨ x ∈ l.map (·.f0) := by
  induction l with
  | nil => intro acc h; exact ⟨h, by simp⟩
  | cons p l ih =>
    intro acc h
    obtain ⟨h1, h2⟩ := ih (ins acc p.f0) (ins_sorted acc _ h)
    refine ⟨h1, fun x => ?_⟩
    show x ∈ l.foldl _ (ins acc p.f0) ↔ _
    rw [h2, ins_mem]
    simp only [List.map_cons, List.mem_cons]
    constructor
    · rintro ((h | h) | h) <;> simp [h]
    · rintro (h | h | h) <;> simp [h]
theorem both (a : List ByteArray) (l : List S58) (x : Int) (y : Bool) (ha : (a.length : Int) ≤ 1048576) (ha2 : ∀ y ∈ a, (y.size : Int) ≤ 1048576) (hl : (l.length : Int) ≤ 1048576) (hl2 : ∀ y ∈ l, QS58 y) (hx : (Lit.int .i64 x).wf = true) :
    ∃ v : List Int, (v.length : Int) ≤ 1048576 ∧ ∀ k, 8000000 ≤ k → spec_ChangedBlocks.f k a l x y = some v ∧ impl_ChangedBlocks.f k a l x y = some v := by
  obtain ⟨d, hd⟩ := disk_ok a l x y ha ha2 hl hl2 hx
  cases d with
  | false =>
    refine ⟨[], by simp, fun k hk => ?_⟩
    unfold spec_ChangedBlocks.f impl_ChangedBlocks.f
    simp only [Option.bind_some]
    rw [(hd k hk).1, (hd k hk).2]
    exact ⟨rfl, rfl⟩
  | true =>
    obtain ⟨c1, c2⟩ := comp_sort (l.map (·.f0))
    obtain ⟨f1, f2⟩ := fold_ins l [] List.Pairwise.nil
    have he := strict_ext _ _ f1 c1 (fun x => by rw [f2, c2]; simp)
    refine ⟨l.foldl (fun s p => ins s p.f0) [], ?_, fun k hk => ?_⟩
    · have h : ∀ (l : List S58) (acc : List Int), (l.foldl (fun s p => ins s p.f0) acc).length ≤ acc.length + l.length := by
        intro l
        induction l with
        | nil => intro acc; simp
        | cons p l ih =>
          intro acc
          have h1 := ih (ins acc p.f0)
          have h2 := ins_length acc p.f0
          simp only [List.foldl_cons, List.length_cons]
          omega
      have := h l []
      simp at this
      omega
    · unfold spec_ChangedBlocks.f impl_ChangedBlocks.f
      simp only [Option.bind_some]
      rw [(hd k hk).1, (hd k hk).2]
      simp only [Option.bind_some, if_true]
      refine ⟨?_, ?_⟩
      · have h := sblocks a l x y (by omega) l.length 0 k [] (by omega) (by omega) (by simp; omega)
        simpa using h
      · have h := iblocks l (by omega) l.length 0 k [] (by omega) (by omega) rfl
        rw [he]
        simpa using h
theorem mt_loop : ∀ (d : Nat) (x : Int), 0 ≤ x → x ≤ d → ∀ (s : ByteArray), s.size + d ≤ 1099511627776 → ∃ t, ∀ k, d + 1 ≤ k → laws_markText.l0 k x s = some t := by
  intro d
  induction d with
  | zero =>
    intro x h0 h1 s hs
    refine ⟨⟨#[109]⟩ ++ s, fun k hk => ?_⟩
    obtain ⟨k, rfl⟩ : ∃ m, k = m + 1 := ⟨k - 1, by omega⟩
    rw [laws_markText.l0, if_neg (by omega), if_pos (by omega)]
  | succ d ih =>
    intro x h0 h1 s hs
    by_cases hx : x > 0
    · have e : Int.tdiv x 10 = x / 10 := Int.tdiv_eq_ediv_of_nonneg h0
      have hsz : (strOfNums [(wrap64 (48 + Int.tmod x 10)) % 256]).size = 1 := by rw [strOfNums_size]; rfl
      obtain ⟨t, ht⟩ := ih (x / 10) (by omega) (by omega) (strOfNums [(wrap64 (48 + Int.tmod x 10)) % 256] ++ s) (by rw [ByteArray.size_append, hsz]; omega)
      refine ⟨t, fun k hk => ?_⟩
      obtain ⟨k, rfl⟩ : ∃ m, k = m + 1 := ⟨k - 1, by omega⟩
      rw [laws_markText.l0, if_pos hx]
      simp only [Option.bind_some]
      rw [if_pos (by rw [hsz]; omega), e, wrap64_id (by omega) (by omega)]
      exact ht k (by omega)
    · refine ⟨⟨#[109]⟩ ++ s, fun k hk => ?_⟩
      obtain ⟨k, rfl⟩ : ∃ m, k = m + 1 := ⟨k - 1, by omega⟩
      rw [laws_markText.l0, if_neg hx, if_pos (by omega)]
theorem mt_some (x : Int) (h0 : 0 ≤ x) (h1 : x ≤ 5000000) : ∃ t, ∀ k, 5000001 ≤ k → laws_markText.f k x = some t := by
  by_cases hx : x ≤ 0
  · exact ⟨⟨#[109, 48]⟩, fun k _ => by unfold laws_markText.f; rw [if_pos hx]⟩
  · obtain ⟨t, ht⟩ := mt_loop 5000000 x h0 (by omega) ⟨#[]⟩ (by simp [ByteArray.size])
    exact ⟨t, fun k hk => by unfold laws_markText.f; rw [if_neg hx]; exact ht k (by omega)⟩
theorem marks_s (n : Nat) (hn : n ≤ 1048576) : ∀ (d i : Nat) (x : Int) (l : List ByteArray), l.length = n → n - i = d → i ≤ n → 0 ≤ x → x + d ≤ 5000000 →
    ∃ r : List ByteArray, ∀ k, 5000001 + d < k → laws_markStringS.l0 k l x (i : Int) = some (x + d, r) := by
  intro d
  induction d with
  | zero =>
    intro i x l hl hd hi h0 h1
    refine ⟨l, fun k hk => ?_⟩
    obtain ⟨k, rfl⟩ : ∃ m, k = m + 1 := ⟨k - 1, by omega⟩
    rw [laws_markStringS.l0, if_neg (by omega)]
    simp
  | succ d ih =>
    intro i x l hl hd hi h0 h1
    obtain ⟨t, ht⟩ := mt_some x h0 (by omega)
    obtain ⟨r, hr⟩ := ih (i + 1) (x + 1) (l.set i t) (by simpa using hl) (by omega) (by omega) (by omega) (by omega)
    refine ⟨r, fun k hk => ?_⟩
    obtain ⟨k, rfl⟩ : ∃ m, k = m + 1 := ⟨k - 1, by omega⟩
    rw [laws_markStringS.l0, if_pos (by omega), ht k (by omega)]
    simp only [Option.bind_some]
    rw [if_pos (by omega), wrap64_id (by omega) (by omega), wrap64_id (by omega) (by omega), Int.toNat_natCast, show (i : Int) + 1 = ((i + 1 : Nat) : Int) by omega, hr k (by omega)]
    congr 2
    omega
theorem marks_p (n : Nat) (hn : n ≤ 1048576) : ∀ (d i : Nat) (x : Int) (l : List S58), l.length = n → n - i = d → i ≤ n → 0 ≤ x → x + 2 * d ≤ 5000000 →
    ∃ r : List S58, ∀ k, 5000001 + d < k → laws_markPutS.l0 k l x (i : Int) = some (x + 2 * d, r) := by
  intro d
  induction d with
  | zero =>
    intro i x l hl hd hi h0 h1
    refine ⟨l, fun k hk => ?_⟩
    obtain ⟨k, rfl⟩ : ∃ m, k = m + 1 := ⟨k - 1, by omega⟩
    rw [laws_markPutS.l0, if_neg (by omega)]
    simp
  | succ d ih =>
    intro i x l hl hd hi h0 h1
    obtain ⟨t, ht⟩ := mt_some (x + 1) (by omega) (by omega)
    obtain ⟨r, hr⟩ := ih (i + 1) (x + 2) ((l.set i ⟨x, (rd_T58 l (i : Int)).f1⟩).set i ⟨(rd_T58 (l.set i ⟨x, (rd_T58 l (i : Int)).f1⟩) (i : Int)).f0, t⟩) (by simpa using hl) (by omega) (by omega) (by omega) (by omega)
    refine ⟨r, fun k hk => ?_⟩
    obtain ⟨k, rfl⟩ : ∃ m, k = m + 1 := ⟨k - 1, by omega⟩
    rw [laws_markPutS.l0, if_pos (by omega), if_pos (by omega), wrap64_id (a := x + 1) (by omega) (by omega)]
    simp only [Option.bind_some, Int.toNat_natCast]
    rw [ht k (by omega)]
    simp only [Option.bind_some]
    rw [wrap64_id (a := x + 1 + 1) (by omega) (by omega), wrap64_id (by omega) (by omega), show x + 1 + 1 = x + 2 by omega, show (i : Int) + 1 = ((i + 1 : Nat) : Int) by omega, hr k (by omega)]
    congr 2
    omega
theorem marks_d (a : List ByteArray) (l : List S58) (x : Int) (y : Bool) (ha : (a.length : Int) ≤ 1048576) (hl : (l.length : Int) ≤ 1048576) : ∃ (m : Int) (r : List ByteArray) (s : List S58), 0 ≤ m ∧ ∀ k, 16000000 ≤ k → laws_markDisk.f k a l x y 1 = some (m, r, s) := by
  obtain ⟨r, hr⟩ := marks_s a.length (by omega) a.length 0 1 a rfl (by omega) (by omega) (by omega) (by omega)
  obtain ⟨s, hs⟩ := marks_p l.length (by omega) l.length 0 (1 + a.length) l rfl (by omega) (by omega) (by omega) (by omega)
  refine ⟨1 + a.length + 2 * l.length, r, s, by omega, fun k hk => ?_⟩
  unfold laws_markDisk.f laws_markStringS.f laws_markPutS.f
  rw [show laws_markStringS.l0 k a 1 0 = _ from hr k (by omega)]
  simp only [Option.bind_some]
  rw [show laws_markPutS.l0 k l (1 + a.length) 0 = _ from hs k (by omega)]
  rfl
theorem FnExactChangedBlocks : laws_FnExactChangedBlocks.Pure := by
  intro l0_0 l0_1 a0_2 a0_3 o_l0_0 o_l0_1 o_a0_2
  refine ⟨17000001, ?_⟩
  obtain ⟨t1, e1, h1⟩ := g_szDisk 17000001 l0_0 l0_1 a0_2 a0_3 1048576 (by omega) (by omega) (by omega) o_l0_0 o_l0_1
  rcases h1 with h1 | ⟨h1, m1, q_l0_0_0, q_l0_0_1, q_l0_1_0, q_l0_1_1⟩
  · simp only [laws_FnExactChangedBlocks.f, e1, Option.bind_some, if_pos h1]
  have n1 : ¬ t1 < 0 := by omega
  have T1 := fun k (hk : 16000000 ≤ k) => g_toDisk k l0_0 l0_1 a0_2 a0_3 (by omega) q_l0_0_0 q_l0_0_1 q_l0_1_0 q_l0_1_1
  have cl_l0_1 : (((l0_1.map cS79)).length : Int) ≤ 1048576 := by rw [List.length_map]; exact q_l0_1_0
  have cq_l0_1 := qmS79 l0_1 q_l0_1_1
  have E1 := fun k (hk : 16000000 ≤ k) => g_eqDisk k l0_0 (l0_1.map cS79) a0_2 a0_3 (by omega) q_l0_0_0 q_l0_0_1 cl_l0_1 cq_l0_1
  obtain ⟨v, hvl, hv⟩ := both l0_0 (l0_1.map cS79) a0_2 a0_3 q_l0_0_0 q_l0_0_1 cl_l0_1 cq_l0_1 o_a0_2
  have HS := fun k (hk : 16000000 ≤ k) => (hv k (by omega)).1
  have HI := fun k (hk : 16000000 ≤ k) => (hv k (by omega)).2
  obtain ⟨m, r, s, hm, HM⟩ := marks_d l0_0 (l0_1.map cS79) a0_2 a0_3 q_l0_0_0 cl_l0_1
  obtain ⟨z, hz, z1, z2⟩ := marks64 v (by omega) 1 (by omega) (by omega)
  have Z1 := fun k (hk : 16000000 ≤ k) => z1 k (by omega)
  have Z2 := fun k (hk : 16000000 ≤ k) => z2 k (by omega)
  have EV := fun k (hk : 16000000 ≤ k) => g_eqInt64S k v (by omega) hvl
  have nm : ¬ m < 0 := by omega
  have nz : ¬ (1 : Int) + v.length < 0 := by omega
  unfold laws_FnExactChangedBlocks.f
  rw [e1]
  simp only [Option.bind_some]
  rw [if_neg n1, T1 17000001 (by omega)]
  simp only [Option.bind_some]
  rw [HS 17000001 (by omega)]
  simp only [Option.bind_some]
  rw [HI 17000001 (by omega)]
  simp only [Option.bind_some]
  rw [EV 17000001 (by omega)]
  simp only [Option.bind_some, if_true]
  rw [E1 17000001 (by omega)]
  simp only [Option.bind_some, if_true]
  rw [HM 17000001 (by omega)]
  simp only [Option.bind_some]
  rw [if_neg nm]
  simp only [Bool.not_true]
  rw [laws_FnExactChangedBlocks.j0, if_neg (by decide), Z1 17000000 (by omega)]
  simp only [Option.bind_some]
  rw [Z2 17000000 (by omega)]
  simp only [Option.bind_some]
  rw [if_neg nz, if_pos trivial, T1 17000000 (by omega)]
  simp only [Option.bind_some]
  rw [HI 17000000 (by omega)]
  simp only [Option.bind_some]
  rw [EV 17000000 (by omega)]
  simp only [Option.bind_some, if_true]
  rw [if_neg nz]

end Go.Proofs.Ytjfahjojihlbgaa.Pure
