/- The plain form of FnExactValidDisk: for all arguments the answer is true. It holds without a condition. -/
import Derived.Test.YtngjbdijimapnacPFnExactValidDiskx5
import Derived.OpenShut
namespace Go.Proofs.Ytngjbdijimapnac.Pure
open Go Go.RowKit Go.Proofs.Ytngjbdijimapnac.PFnExactValidDisk Go.Proofs.YtngjbdijimapnacW.PrintWords Go.Proofs.YtngjbdijimapnacW.PrintLast Go.Proofs.YtngjbdijimapnacW.PrintMore
set_option linter.unusedVariables false
set_option linter.unusedSimpArgs false

theorem wf64 {a : Int} (h : (Lit.int .i64 a).wf = true) : -9223372036854775808 ≤ a ∧ a ≤ 9223372036854775807 := Go.bounds_i64 h
theorem wrap64_id {a : Int} (h : -9223372036854775808 ≤ a) (h' : a ≤ 9223372036854775807) : wrap64 a = a := by unfold wrap64; omega
theorem count_loop {σ ρ : Type} (L : Nat → σ → Int → Option ρ) (n m : Nat) (I : Nat → σ → Prop) (R : ρ → Prop)
    (hstop : ∀ k s, m ≤ k → I n s → ∃ r, L (k + 1) s (n : Int) = some r ∧ R r)
    (hstep : ∀ k s (i : Nat), m ≤ k → i < n → I i s → (∃ s', I (i + 1) s' ∧ L (k + 1) s (i : Int) = L k s' ((i + 1 : Nat) : Int)) ∨ ∃ r, L (k + 1) s (i : Int) = some r ∧ R r)
    (k : Nat) (s : σ) (i : Nat) (hi : i ≤ n) (hk : n - i + m < k) (h : I i s) : ∃ r, L k s (i : Int) = some r ∧ R r := by
  obtain ⟨d, hd⟩ : ∃ d, d = n - i := ⟨_, rfl⟩
  induction d generalizing k s i with
  | zero =>
    obtain ⟨k, rfl⟩ : ∃ z, k = z + 1 := ⟨k - 1, by omega⟩
    obtain rfl : i = n := by omega
    exact hstop k s (by omega) h
  | succ d ih =>
    obtain ⟨k, rfl⟩ : ∃ z, k = z + 1 := ⟨k - 1, by omega⟩
    rcases hstep k s i (by omega) (by omega) h with ⟨s', h', e⟩ | h'
    · rw [e]; exact ih k s' (i + 1) (by omega) (by omega) h' (by omega)
    · exact h'
theorem w0 : wrap64 0 = 0 := by unfold wrap64; omega
theorem w1 : wrap64 1 = 1 := by unfold wrap64; omega
theorem w2 : wrap64 2 = 2 := by unfold wrap64; omega
theorem w3 : wrap64 3 = 3 := by unfold wrap64; omega
theorem rd_lt (l : List Int) (i : Nat) (h : i < l.length) : rd l (i : Int) = l[i] := by
  simp [rd, List.getD_eq_getElem?_getD, List.getElem?_eq_getElem h]
theorem rds_lt (l : List ByteArray) (i : Nat) (h : i < l.length) : rdOf ByteArray.empty l (i : Int) = l[i] := by
  simp [rdOf, List.getD_eq_getElem?_getD, List.getElem?_eq_getElem h]
theorem wrap_up (i : Nat) (h : i < 1099511627776) : wrap64 ((i : Int) + 1) = ((i + 1 : Nat) : Int) := by unfold wrap64; omega
theorem set_next {α : Type} (l out : List α) (i : Nat) (h : i < l.length) (hl : out.length = l.length) (hp : out.take i = l.take i) : (out.set i l[i]).take (i + 1) = l.take (i + 1) := by
  apply List.ext_getElem?
  intro j
  by_cases hj : j < i + 1
  · rw [List.getElem?_take_of_lt hj, List.getElem?_take_of_lt hj]
    by_cases hji : j = i
    · subst hji; rw [List.getElem?_set_self (by omega), List.getElem?_eq_getElem h]
    · rw [List.getElem?_set_ne (by omega)]
      have := congrArg (fun z => z[j]?) hp
      simpa [List.getElem?_take_of_lt (show j < i by omega)] using this
  · rw [List.getElem?_eq_none (by simp; omega), List.getElem?_eq_none (by simp; omega)]
theorem take_all {α : Type} (l out : List α) (hl : out.length = l.length) (hp : out.take l.length = l.take l.length) : out = l := by
  rwa [List.take_of_length_le (by omega), List.take_length] at hp
theorem g_szloop {α : Type} (L : Nat → List α → Int → Int → Option Int) (E : Nat → α → Int → Option Int) (z : α) (m : Nat) (Q : α → Prop) (l : List α)
    (hL : ∀ k a i, L (k + 1) l a i = if i < (l.length : Int) then (if 0 ≤ i then ((E k (l.getD i.toNat z) a).bind fun t => if t < 0 then some (-1) else L k l t (wrap64 (i + 1))) else none) else some a)
    (hE : ∀ k x a, x ∈ l → 0 ≤ a → a ≤ 1048576 → m ≤ k → ∃ t, E k x a = some t ∧ (t < 0 ∨ (0 ≤ t ∧ t ≤ a ∧ Q x)))
    (hl : l.length ≤ 1048576) (k : Nat) (a : Int) (h0 : 0 ≤ a) (h1 : a ≤ 1048576) (hk : m + 1048580 < k) :
    ∃ t, L k l a 0 = some t ∧ (t < 0 ∨ (0 ≤ t ∧ t ≤ a ∧ ∀ x ∈ l, Q x)) := by
  exact count_loop (fun k s i => L k l s i) l.length m (fun i s => 0 ≤ s ∧ s ≤ a ∧ ∀ x ∈ l.take i, Q x) (fun t => t < 0 ∨ (0 ≤ t ∧ t ≤ a ∧ ∀ x ∈ l, Q x))
    (by
      rintro k s - ⟨h1, h2, h3⟩
      rw [List.take_length] at h3
      exact ⟨s, by show L (k + 1) l s _ = _; rw [hL, if_neg (by omega)], .inr ⟨h1, h2, h3⟩⟩)
    (by
      rintro k s i hm hi ⟨h1, h2, h3⟩
      have hg : l.getD (i : Int).toNat z = l[i] := by simp [List.getD_eq_getElem?_getD, List.getElem?_eq_getElem hi]
      obtain ⟨t, e, ht⟩ := hE k l[i] s (List.getElem_mem hi) h1 (by omega) hm
      rcases ht with ht | ⟨q1, q2, q3⟩
      · refine .inr ⟨-1, ?_, .inl (by omega)⟩
        show L (k + 1) l s _ = _
        rw [hL, if_pos (by omega), if_pos (by omega), hg, e]
        simp only [Option.bind_some]
        rw [if_pos ht]
      · refine .inl ⟨t, ⟨q1, by omega, ?_⟩, ?_⟩
        · intro x hx'
          rw [List.take_succ_eq_append_getElem hi, List.mem_append] at hx'
          rcases hx' with hx' | hx'
          · exact h3 x hx'
          · simp at hx'; subst hx'; exact q3
        · show L (k + 1) l s _ = _
          rw [hL, if_pos (by omega), if_pos (by omega), hg, e]
          simp only [Option.bind_some]
          rw [if_neg (by omega), wrap_up i (by omega)])
    k a 0 (by omega) (by omega) ⟨h0, by omega, by simp⟩
theorem g_toloop {α β γ : Type} (L : Nat → List α → List β → Int → Option (List β)) (E : Nat → α → Option γ) (mk : γ → β) (z : α) (c : α → β) (m : Nat) (l : List α)
    (hL : ∀ k s i, L (k + 1) l s i = if i < (l.length : Int) then (if 0 ≤ i then ((E k (l.getD i.toNat z)).bind fun b => (if i < (s.length : Int) then L k l (s.set i.toNat (mk b)) (wrap64 (i + 1)) else none)) else none) else some s)
    (hE : ∀ k x, x ∈ l → m ≤ k → ∃ b, E k x = some b ∧ mk b = c x)
    (hl : l.length ≤ 1048576) (k : Nat) (s : List β) (hs : s.length = l.length) (hk : m + 1048580 < k) : L k l s 0 = some (l.map c) := by
  obtain ⟨r, h, rfl⟩ := count_loop (fun k s i => L k l s i) l.length m (fun i s => s.length = (l.map c).length ∧ s.take i = (l.map c).take i) (fun r => r = l.map c)
    (by
      rintro k s - ⟨h1, h2⟩
      exact ⟨s, by show L (k + 1) l s _ = _; rw [hL, if_neg (by omega)], take_all (l.map c) s h1 (by rw [List.length_map]; exact h2)⟩)
    (by
      rintro k s i hm hi ⟨h1, h2⟩
      have hg : l.getD (i : Int).toNat z = l[i] := by simp [List.getD_eq_getElem?_getD, List.getElem?_eq_getElem hi]
      have hi' : i < (l.map c).length := by simpa using hi
      obtain ⟨b, e, hb⟩ := hE k l[i] (List.getElem_mem hi) hm
      have hb' : mk b = (l.map c)[i] := by rw [hb, List.getElem_map]
      refine .inl ⟨s.set i (l.map c)[i], ⟨by simpa using h1, set_next (l.map c) s i hi' h1 h2⟩, ?_⟩
      show L (k + 1) l s _ = _
      rw [hL, if_pos (by omega), if_pos (by omega), hg, e]
      simp only [Option.bind_some]
      rw [if_pos (by rw [h1]; simp; omega), wrap_up i (by omega), hb']
      rfl)
    k s 0 (by omega) (by omega) ⟨by simpa using hs, by simp⟩
  exact h
theorem g_eqloop {α : Type} (L : Nat → List α → List α → Int → Option Bool) (E : Nat → α → Option Bool) (z : α) (m : Nat) (l : List α)
    (hL : ∀ k i, L (k + 1) l l i = if i < (l.length : Int) then (if 0 ≤ i then (if i < (l.length : Int) then ((E k (l.getD i.toNat z)).bind fun t => (if t = true then L k l l (wrap64 (i + 1)) else some false)) else none) else none) else some true)
    (hE : ∀ k x, x ∈ l → m ≤ k → E k x = some true)
    (hl : l.length ≤ 1048576) (k : Nat) (hk : m + 1048580 < k) : L k l l 0 = some true := by
  obtain ⟨r, h, rfl⟩ := count_loop (fun k (_ : Unit) i => L k l l i) l.length m (fun _ _ => True) (fun r => r = true)
    (by
      rintro k s - -
      exact ⟨true, by show L (k + 1) l l _ = _; rw [hL, if_neg (by omega)], rfl⟩)
    (by
      rintro k s i hm hi -
      have hg : l.getD (i : Int).toNat z = l[i] := by simp [List.getD_eq_getElem?_getD, List.getElem?_eq_getElem hi]
      refine .inl ⟨(), trivial, ?_⟩
      show L (k + 1) l l _ = _
      rw [hL, if_pos (by omega), if_pos (by omega), if_pos (by omega), hg, hE k _ (List.getElem_mem hi) hm]
      simp only [Option.bind_some]
      rw [if_pos trivial, wrap_up i (by omega)])
    k () 0 (by omega) (by omega) trivial
  exact h
theorem g_szStringS (k : Nat) (l : List ByteArray) (a : Int) (h0 : 0 ≤ a) (h1 : a ≤ 1048576) (hk : 1048590 ≤ k) (o : l.length ≤ maxLen ∧ ∀ x_ ∈ l, x_.size ≤ maxLen) : ∃ t, laws_szStringS.f k l a = some t ∧ (t < 0 ∨ (0 ≤ t ∧ t ≤ a ∧ (l.length : Int) ≤ 1048576 ∧ (∀ y ∈ l, (y.size : Int) ≤ 1048576))) := by
  have ol := o.1
  unfold maxLen at ol
  unfold laws_szStringS.f
  rw [wrap64_id (by omega) (by omega)]
  by_cases h : a - (l.length : Int) < 0
  · exact ⟨-1, by rw [if_pos h], .inl (by omega)⟩
  rw [if_neg h]
  obtain ⟨t, e, q⟩ := g_szloop laws_szStringS.l0 (fun _ x a => if wrap64 (a - (x.size : Int)) < 0 then some (-1) else some (wrap64 (a - (x.size : Int)))) ByteArray.empty 0 (fun x => (x.size : Int) ≤ 1048576) l
    (by 
      intro k a i
      rw [laws_szStringS.l0]
      by_cases h : wrap64 (a - ((rdOf ByteArray.empty l i).size : Int)) < 0
      · rw [if_pos h]; unfold rdOf at h; rw [if_pos h]; rfl
      · rw [if_neg h]; unfold rdOf at h ⊢; rw [if_neg h]; simp only [Option.bind_some, if_neg h])
    (by 
      intro k x a hx h0 h1 hm
      have := o.2 x hx
      unfold maxLen at this
      rw [wrap64_id (by omega) (by omega)]
      by_cases h : a - (x.size : Int) < 0
      · exact ⟨-1, by rw [if_pos h], .inl (by omega)⟩
      · exact ⟨_, by rw [if_neg h], .inr ⟨by omega, by omega, by omega⟩⟩)
    (by omega) k (a - (l.length : Int)) (by omega) (by omega) (by omega)
  rcases q with q | ⟨q1, q2, q3⟩
  · exact ⟨t, e, .inl q⟩
  · exact ⟨t, e, .inr ⟨q1, by omega, by omega, q3⟩⟩
theorem g_szPut (k : Nat) (a0_0 : Int) (a0_1 : ByteArray) (a : Int) (h0 : 0 ≤ a) (h1 : a ≤ 1048576) (hk : 0 ≤ k) (o_a0_1 : a0_1.size ≤ maxLen) : ∃ t, laws_szPut.f a0_0 a0_1 a = some t ∧ (t < 0 ∨ (0 ≤ t ∧ t ≤ a ∧ (a0_1.size : Int) ≤ 1048576)) := by
  have p_a0_1 := o_a0_1
  unfold maxLen at p_a0_1
  unfold laws_szPut.f
  rw [wrap64_id (a := a - (a0_1.size : Int)) (by omega) (by omega)]
  by_cases c0 : a - (a0_1.size : Int) < 0
  · exact ⟨-1, by rw [if_pos c0], .inl (by omega)⟩
  rw [if_neg c0]
  exact ⟨_, rfl, .inr ⟨by omega, by omega, by omega⟩⟩
def QS133 (x : S133) : Prop := (x.f1.size : Int) ≤ 1048576
theorem g_szPutS (k : Nat) (l : List (S133)) (a : Int) (h0 : 0 ≤ a) (h1 : a ≤ 1048576) (hk : 1048590 ≤ k) (o : l.length ≤ maxLen ∧ ∀ x_ ∈ l, okS133 x_) : ∃ t, laws_szPutS.f k l a = some t ∧ (t < 0 ∨ (0 ≤ t ∧ t ≤ a ∧ (l.length : Int) ≤ 1048576 ∧ (∀ y ∈ l, QS133 y))) := by
  have ol := o.1
  unfold maxLen at ol
  unfold laws_szPutS.f
  rw [wrap64_id (by omega) (by omega)]
  by_cases h : a - (l.length : Int) < 0
  · exact ⟨-1, by rw [if_pos h], .inl (by omega)⟩
  rw [if_neg h]
  obtain ⟨t, e, q⟩ := g_szloop laws_szPutS.l0 (fun k x a => laws_szPut.f x.f0 x.f1 a) z133 0 (QS133) l
    (by intro k a i; rw [laws_szPutS.l0]; rfl)
    (by intro k x a hx h0 h1 hm; obtain ⟨o0, o1⟩ := o.2 x hx; exact g_szPut k x.f0 x.f1 a h0 h1 hm o1)
    (by omega) k (a - (l.length : Int)) (by omega) (by omega) (by omega)
  rcases q with q | ⟨q1, q2, q3⟩
  · exact ⟨t, e, .inl q⟩
  · exact ⟨t, e, .inr ⟨q1, by omega, by omega, q3⟩⟩
theorem g_szDisk (k : Nat) (l0_0 : List ByteArray) (l0_1 : List (S133)) (a0_2 : Int) (a0_3 : Bool) (a : Int) (h0 : 0 ≤ a) (h1 : a ≤ 1048576) (hk : 1048590 ≤ k) (o_l0_0 : l0_0.length ≤ maxLen ∧ ∀ x_ ∈ l0_0, x_.size ≤ maxLen) (o_l0_1 : l0_1.length ≤ maxLen ∧ ∀ x_ ∈ l0_1, okS133 x_) : ∃ t, laws_szDisk.f k l0_0 l0_1 a0_2 a0_3 a = some t ∧ (t < 0 ∨ (0 ≤ t ∧ t ≤ a ∧ (l0_0.length : Int) ≤ 1048576 ∧ (∀ y ∈ l0_0, (y.size : Int) ≤ 1048576) ∧ (l0_1.length : Int) ≤ 1048576 ∧ (∀ y ∈ l0_1, QS133 y))) := by
  have p_l0_0 := o_l0_0.1
  unfold maxLen at p_l0_0
  have p_l0_1 := o_l0_1.1
  unfold maxLen at p_l0_1
  unfold laws_szDisk.f
  obtain ⟨t0, e0, q0⟩ := g_szStringS k l0_0 a (by omega) (by omega) (by omega) o_l0_0
  rw [e0]
  simp only [Option.bind_some]
  rcases q0 with q0 | ⟨r0, s0, q0_l0_0_0, q0_l0_0_1⟩
  · exact ⟨-1, by rw [if_pos q0], .inl (by omega)⟩
  rw [if_neg (show ¬ t0 < 0 by omega)]
  obtain ⟨t1, e1, q1⟩ := g_szPutS k l0_1 t0 (by omega) (by omega) (by omega) o_l0_1
  rw [e1]
  simp only [Option.bind_some]
  rcases q1 with q1 | ⟨r1, s1, q1_l0_1_0, q1_l0_1_1⟩
  · exact ⟨-1, by rw [if_pos q1], .inl (by omega)⟩
  rw [if_neg (show ¬ t1 < 0 by omega)]
  exact ⟨_, rfl, .inr ⟨by omega, by omega, q0_l0_0_0, q0_l0_0_1, q1_l0_1_0, q1_l0_1_1⟩⟩
theorem g_toStringS (k : Nat) (l : List ByteArray) (hk : 1048590 ≤ k) (o1 : (l.length : Int) ≤ 1048576) (o2 : (∀ y ∈ l, (y.size : Int) ≤ 1048576)) : laws_toStringS.f k l = some l := by
  unfold laws_toStringS.f
  rw [if_pos (by omega), if_pos (by omega)]
  have h := g_toloop laws_toStringS.l0 (fun _ (x : ByteArray) => some x) (fun b => b) ByteArray.empty id 0 l (by intro k s i; rw [laws_toStringS.l0]; rfl)
    (by intro k x hx hm; exact ⟨_, rfl, rfl⟩)
    (by omega) k (List.replicate ((l.length : Int) : Int).toNat (⟨#[]⟩ : ByteArray)) (by simp) (by omega)
  rwa [List.map_id] at h
theorem g_toPut (k : Nat) (a0_0 : Int) (a0_1 : ByteArray) (hk : 0 ≤ k) (o_a0_1_0 : (a0_1.size : Int) ≤ 1048576) : laws_toPut.f a0_0 a0_1 = some (a0_0, a0_1) := by
  unfold laws_toPut.f
  rfl
def QS62 (x : S62) : Prop := (x.f1.size : Int) ≤ 1048576
def cS133 (x : S133) : S62 := ⟨x.f0, x.f1⟩
theorem qcS133 (x : S133) (h : QS133 x) : QS62 (cS133 x) := h
theorem qmS133 (l : List S133) (h : ∀ y ∈ l, QS133 y) : ∀ y ∈ l.map cS133, QS62 y := by
  intro y hy
  obtain ⟨x, hx, rfl⟩ := List.mem_map.1 hy
  exact qcS133 x (h x hx)
theorem g_toPutS (k : Nat) (l : List (S133)) (hk : 1048590 ≤ k) (o1 : (l.length : Int) ≤ 1048576) (o2 : (∀ y ∈ l, QS133 y)) : laws_toPutS.f k l = some (l.map cS133) := by
  unfold laws_toPutS.f
  rw [if_pos (by omega), if_pos (by omega)]
  have h := g_toloop laws_toPutS.l0 (fun k (x : S133) => laws_toPut.f x.f0 x.f1) (fun b => (⟨b.1, b.2⟩ : S62)) z133 cS133 0 l (by intro k s i; rw [laws_toPutS.l0]; rfl)
    (by intro k x hx hm; obtain q1_0 := o2 x hx; exact ⟨_, g_toPut k x.f0 x.f1 hm q1_0, rfl⟩)
    (by omega) k (List.replicate ((l.length : Int) : Int).toNat z62) (by simp) (by omega)
  exact h
theorem g_toDisk (k : Nat) (l0_0 : List ByteArray) (l0_1 : List (S133)) (a0_2 : Int) (a0_3 : Bool) (hk : 1048590 ≤ k) (o_l0_0_0 : (l0_0.length : Int) ≤ 1048576) (o_l0_0_1 : (∀ y ∈ l0_0, (y.size : Int) ≤ 1048576)) (o_l0_1_0 : (l0_1.length : Int) ≤ 1048576) (o_l0_1_1 : (∀ y ∈ l0_1, QS133 y)) : laws_toDisk.f k l0_0 l0_1 a0_2 a0_3 = some (l0_0, (l0_1.map cS133), a0_2, a0_3) := by
  unfold laws_toDisk.f
  rw [g_toStringS k l0_0 (by omega) o_l0_0_0 o_l0_0_1]
  simp only [Option.bind_some]
  rw [g_toPutS k l0_1 (by omega) o_l0_1_0 o_l0_1_1]
  simp only [Option.bind_some]
theorem g_eqStringS (k : Nat) (l : List ByteArray) (hk : 1048590 ≤ k) (o1 : (l.length : Int) ≤ 1048576) (o2 : (∀ y ∈ l, (y.size : Int) ≤ 1048576)) : laws_eqStringS.f k l l = some true := by
  unfold laws_eqStringS.f
  rw [if_pos rfl]
  exact g_eqloop laws_eqStringS.l0 (fun _ (x : ByteArray) => some true) ByteArray.empty 0 l (by intro k i; rw [laws_eqStringS.l0]; simp only [Option.bind_some, bne_self_eq_false, Bool.false_eq_true, if_false, if_true, reduceIte]) (by intro k x hx hm; rfl) (by omega) k (by omega)
theorem g_eqPut (k : Nat) (a0_0 : Int) (a0_1 : ByteArray) (hk : 0 ≤ k)  : laws_eqPut.f a0_0 a0_1 a0_0 a0_1 = some true := by
  unfold laws_eqPut.f
  simp only [Option.bind_some, bne_self_eq_false, Bool.false_eq_true, if_false, if_true, reduceIte]
theorem g_eqPutS (k : Nat) (l : List (S62)) (hk : 1048590 ≤ k) (o1 : (l.length : Int) ≤ 1048576) (o2 : (∀ y ∈ l, QS62 y)) : laws_eqPutS.f k l l = some true := by
  unfold laws_eqPutS.f
  rw [if_pos rfl]
  exact g_eqloop laws_eqPutS.l0 (fun k (x : S62) => laws_eqPut.f x.f0 x.f1 x.f0 x.f1) z62 0 l (by intro k i; rw [laws_eqPutS.l0]; rfl) (by intro k x hx hm; obtain q1_0 := o2 x hx; exact g_eqPut k x.f0 x.f1 hm ) (by omega) k (by omega)
theorem g_eqDisk (k : Nat) (l0_0 : List ByteArray) (l0_1 : List (S62)) (a0_2 : Int) (a0_3 : Bool) (hk : 1048590 ≤ k) (o_l0_0_0 : (l0_0.length : Int) ≤ 1048576) (o_l0_0_1 : (∀ y ∈ l0_0, (y.size : Int) ≤ 1048576)) (o_l0_1_0 : (l0_1.length : Int) ≤ 1048576) (o_l0_1_1 : (∀ y ∈ l0_1, QS62 y)) : laws_eqDisk.f k l0_0 l0_1 a0_2 a0_3 l0_0 l0_1 a0_2 a0_3 = some true := by
  unfold laws_eqDisk.f
  simp only [g_eqStringS k l0_0 (by omega) o_l0_0_0 o_l0_0_1, g_eqPutS k l0_1 (by omega) o_l0_1_0 o_l0_1_1, Option.bind_some, bne_self_eq_false, Bool.false_eq_true, if_false, if_true, reduceIte]
theorem all_loop (L : Nat → Int → Option Bool) (P : Nat → Prop) [DecidablePred P] (n m : Nat) (r : Bool)
    (hend : ∀ k, m ≤ k → L (k + 1) (n : Int) = some r) (hstep : ∀ k (i : Nat), m ≤ k → i < n → L (k + 1) (i : Int) = if P i then L k ((i + 1 : Nat) : Int) else some false) (k : Nat) (hk : n + m < k) :
    L k 0 = some (decide (∀ i, i < n → P i) && r) := by
  obtain ⟨s, h, rfl⟩ := count_loop (fun k (_ : Unit) i => L k i) n m (fun i _ => ∀ j, j < i → P j) (fun s => s = (decide (∀ i, i < n → P i) && r))
    (by
      rintro k s hm h
      exact ⟨r, hend k hm, by simp [decide_eq_true h]⟩)
    (by
      rintro k s i hm hi h
      by_cases hp : P i
      · refine .inl ⟨(), ?_, by show L (k + 1) _ = _; rw [hstep k i hm hi, if_pos hp]⟩
        intro j hj
        by_cases hji : j = i
        · subst hji; exact hp
        · exact h j (by omega)
      · refine .inr ⟨false, by show L (k + 1) _ = _; rw [hstep k i hm hi, if_neg hp], ?_⟩
        have : ¬ ∀ i, i < n → P i := fun h => hp (h i hi)
        simp [this])
    k () 0 (by omega) (by omega) (by simp)
  exact h
def look (P : Nat → Prop) [DecidablePred P] : Nat → Nat → Int
  | 0, _ => -1
  | d + 1, i => if P i then (i : Int) else look P d (i + 1)
theorem look_or (P : Nat → Prop) [DecidablePred P] (d : Nat) : ∀ i, (look P d i = -1 ∧ ∀ j, i ≤ j → j < i + d → ¬ P j) ∨ ∃ j, i ≤ j ∧ j < i + d ∧ look P d i = (j : Int) ∧ P j := by
  induction d with
  | zero => intro i; exact .inl ⟨rfl, fun j h1 h2 => by omega⟩
  | succ d ih =>
    intro i
    by_cases hp : P i
    · exact .inr ⟨i, by omega, by omega, by rw [look, if_pos hp], hp⟩
    · rw [look, if_neg hp]
      rcases ih (i + 1) with ⟨h1, h2⟩ | ⟨j, h1, h2, h3, h4⟩
      · refine .inl ⟨h1, fun j h3 h4 => ?_⟩
        by_cases hji : j = i
        · subst hji; exact hp
        · exact h2 j (by omega) (by omega)
      · exact .inr ⟨j, by omega, by omega, h3, h4⟩
theorem find_loop (L : Nat → Int → Option Int) (P : Nat → Prop) [DecidablePred P] (n m : Nat)
    (hend : ∀ k, m ≤ k → L (k + 1) (n : Int) = some (-1)) (hstep : ∀ k (i : Nat), m ≤ k → i < n → L (k + 1) (i : Int) = if P i then some (i : Int) else L k ((i + 1 : Nat) : Int)) (k : Nat) (hk : n + m < k) :
    L k 0 = some (look P n 0) := by
  have key : ∀ d k i, i + d = n → d + m < k → L k (i : Int) = some (look P d i) := by
    intro d
    induction d with
    | zero =>
      intro k i hi hk
      obtain ⟨k, rfl⟩ : ∃ z, k = z + 1 := ⟨k - 1, by omega⟩
      obtain rfl : i = n := by omega
      exact hend k (by omega)
    | succ d ih =>
      intro k i hi hk
      obtain ⟨k, rfl⟩ : ∃ z, k = z + 1 := ⟨k - 1, by omega⟩
      rw [hstep k i (by omega) (by omega), look]
      by_cases hp : P i
      · rw [if_pos hp, if_pos hp]
      · rw [if_neg hp, if_neg hp]; exact ih k (i + 1) (by omega) (by omega)
  exact key n k 0 (by omega) (by omega)
theorem getD_lt {α : Type} (l : List α) (z : α) (i : Nat) (h : i < l.length) : l.getD (i : Int).toNat z = l[i] := by
  simp [List.getD_eq_getElem?_getD, List.getElem?_eq_getElem h]
theorem flip_ite {α : Type} (c : Prop) [Decidable c] (a b : α) : (if c then b else a) = if ¬ c then a else b := by
  by_cases h : c
  · rw [if_pos h, if_neg (fun h2 => h2 h)]
  · rw [if_neg h, if_pos h]
theorem seq_loop (L : Nat → Int → Option Bool) (P : Nat → Prop) [DecidablePred P] (n : Nat)
    (hend : ∀ k, L (k + 1) (n : Int) = some true) (hstep : ∀ k (i : Nat), i < n → L (k + 1) (i : Int) = if P i then L k ((i + 1 : Nat) : Int) else some false) (k : Nat) (hk : n < k) :
    L k 0 = some (decide (∀ i, i < n → P i)) := by
  rw [all_loop L P n 0 true (fun k _ => hend k) (fun k i _ hi => hstep k i hi) k (by omega), Bool.and_true]
theorem in_eq (a b c : Int) : spec_l00In.f a b c = some (decide (b ≤ a ∧ a ≤ c)) := by
  unfold spec_l00In.f
  by_cases h : a ≥ b
  · rw [if_pos h]
    by_cases h2 : a ≤ c <;> simp [h2] <;> omega
  · rw [if_neg h]; simp; omega
theorem within_eq (a b c : Int) : impl_within.f a b c = some (decide (b ≤ a ∧ a ≤ c)) := by
  unfold impl_within.f
  by_cases h : a ≥ b
  · rw [if_pos h]
    by_cases h2 : a ≤ c <;> simp [h2] <;> omega
  · rw [if_neg h]; simp; omega
def okPut (n : Int) (x : S62) : Prop := (0 ≤ x.f0 ∧ x.f0 ≤ wrap64 (n - 1)) ∧ (x.f1.size : Int) = 64
instance (n : Int) (x : S62) : Decidable (okPut n x) := by unfold okPut; infer_instance
def blk (a : List ByteArray) (i : Nat) : Prop := ((rdOf ByteArray.empty a (i : Int)).size : Int) = 64
instance (a : List ByteArray) : DecidablePred (blk a) := fun i => by unfold blk; infer_instance
theorem sp1 (n : Int) (a : List ByteArray) (l : List S62) (x : Int) (y : Bool) (hl : l.length ≤ 1048576) (k : Nat) (hk : 1048590 ≤ k) : spec_l09Ok_c49.l1 k n 0 a l x y = some (decide (∀ i, i < l.length → okPut n (rd_T62 l (i : Int)))) :=
  seq_loop (fun k i => spec_l09Ok_c49.l1 k n i a l x y) (fun i => okPut n (rd_T62 l (i : Int))) l.length
    (by intro k; show spec_l09Ok_c49.l1 (k + 1) n _ a l x y = _; rw [spec_l09Ok_c49.l1, if_neg (by omega)])
    (by
      intro k i hi
      show spec_l09Ok_c49.l1 (k + 1) n _ a l x y = _
      rw [spec_l09Ok_c49.l1, if_pos (by omega), if_pos (by omega), wrap_up i (by omega), in_eq]
      simp only [Option.bind_some, decide_eq_true_eq]
      generalize rd_T62 l (i : Int) = z
      by_cases h1 : 0 ≤ z.f0 ∧ z.f0 ≤ wrap64 (n - 1)
      · rw [if_pos h1]
        by_cases h2 : (z.f1.size : Int) = 64
        · rw [if_pos h2, if_pos ⟨h1, h2⟩]
        · rw [if_neg h2, if_neg (fun h => h2 h.2)]
      · rw [if_neg h1, if_neg (fun h => h1 h.1)])
    k (by omega)
theorem sp0 (n : Int) (a : List ByteArray) (l : List S62) (x : Int) (y : Bool) (ha : a.length ≤ 1048576) (hl : l.length ≤ 1048576) (k : Nat) (hk : 3000000 ≤ k) : spec_l09Ok_c49.l0 k n 0 a l x y = some (decide (∀ i, i < a.length → blk a i) && decide (∀ i, i < l.length → okPut n (rd_T62 l (i : Int)))) :=
  all_loop (fun k i => spec_l09Ok_c49.l0 k n i a l x y) (blk a) a.length 1048590 _
    (by intro k hk; show spec_l09Ok_c49.l0 (k + 1) n _ a l x y = _; rw [spec_l09Ok_c49.l0, if_neg (by omega)]; exact sp1 n a l x y hl k hk)
    (by
      intro k i _ hi
      show spec_l09Ok_c49.l0 (k + 1) n _ a l x y = _
      rw [spec_l09Ok_c49.l0, if_pos (by omega), if_pos (by omega), wrap_up i (by omega)]
      rfl)
    k (by omega)
theorem im1 (a : List ByteArray) (ha : a.length ≤ 1048576) (k : Nat) (hk : 1048590 ≤ k) : slices_ContainsFunc_impl_ValidDisk_1.f k a = some (!decide (∀ i, i < a.length → blk a i)) := by
  unfold slices_ContainsFunc_impl_ValidDisk_1.f slices_IndexFunc_impl_ValidDisk_1.f
  rw [find_loop (fun k i => slices_IndexFunc_impl_ValidDisk_1.l0 k a a.length i) (fun i => ¬ blk a i) a.length 0
    (by intro k _; show slices_IndexFunc_impl_ValidDisk_1.l0 (k + 1) a _ _ = _; rw [slices_IndexFunc_impl_ValidDisk_1.l0, if_neg (by omega)])
    (by
      intro k i _ hi
      show slices_IndexFunc_impl_ValidDisk_1.l0 (k + 1) a _ _ = _
      rw [slices_IndexFunc_impl_ValidDisk_1.l0, if_pos (by omega), if_pos (by omega), if_pos (by omega), wrap_up i (by omega)]
      unfold impl_ValidDisk_1.f impl_isBlock.f
      simp only [Option.bind_some]
      by_cases h : ((rdOf ByteArray.empty a (i : Int)).size : Int) = 64
      · have h2 : blk a i := h
        simp [h, h2]
      · have h2 : ¬ blk a i := h
        simp [h, h2])
    k (by omega)]
  simp only [Option.bind_some]
  rcases look_or (fun i => ¬ blk a i) a.length 0 with ⟨h4, h5⟩ | ⟨j, -, h4, h5, h6⟩
  · rw [h4]
    have h7 : ∀ i, i < a.length → blk a i := fun i hi => Decidable.not_not.1 (h5 i (by omega) (by omega))
    rw [decide_eq_true h7]; rfl
  · rw [h5]
    have h7 : ¬ ∀ i, i < a.length → blk a i := fun h => h6 (h j (by omega))
    have h8 : (j : Int) ≥ 0 := by omega
    rw [decide_eq_false h7]; simp [h8]
theorem im2 (a : List ByteArray) (l : List S62) (x : Int) (y : Bool) (hl : l.length ≤ 1048576) (k : Nat) (hk : 1048590 ≤ k) : slices_ContainsFunc_impl_ValidDisk_2.f k l a l x y = some (!decide (∀ i, i < l.length → okPut (a.length : Int) (rd_T62 l (i : Int)))) := by
  unfold slices_ContainsFunc_impl_ValidDisk_2.f slices_IndexFunc_impl_ValidDisk_2.f
  rw [find_loop (fun k i => slices_IndexFunc_impl_ValidDisk_2.l0 k l l.length i a l x y) (fun i => ¬ okPut (a.length : Int) (rd_T62 l (i : Int))) l.length 0
    (by intro k _; show slices_IndexFunc_impl_ValidDisk_2.l0 (k + 1) l _ _ a l x y = _; rw [slices_IndexFunc_impl_ValidDisk_2.l0, if_neg (by omega)])
    (by
      intro k i _ hi
      show slices_IndexFunc_impl_ValidDisk_2.l0 (k + 1) l _ _ a l x y = _
      rw [slices_IndexFunc_impl_ValidDisk_2.l0, if_pos (by omega), if_pos (by omega), if_pos (by omega), wrap_up i (by omega)]
      unfold impl_ValidDisk_2.f impl_isBlock.f impl_isIndex.f
      simp only [within_eq, Option.bind_some, decide_eq_true_eq]
      generalize rd_T62 l (i : Int) = z
      by_cases h1 : 0 ≤ z.f0 ∧ z.f0 ≤ wrap64 ((a.length : Int) - 1)
      · rw [if_pos h1]
        simp only [Option.bind_some]
        by_cases h2 : (z.f1.size : Int) = 64
        · have h3 : okPut (a.length : Int) z := ⟨h1, h2⟩
          simp [h2, h3]
        · have h3 : ¬ okPut (a.length : Int) z := fun h => h2 h.2
          simp [h2, h3]
      · have h3 : ¬ okPut (a.length : Int) z := fun h => h1 h.1
        rw [if_neg h1]
        simp [h3])
    k (by omega)]
  simp only [Option.bind_some]
  rcases look_or (fun i => ¬ okPut (a.length : Int) (rd_T62 l (i : Int))) l.length 0 with ⟨h4, h5⟩ | ⟨j, -, h4, h5, h6⟩
  · rw [h4]
    have h7 : ∀ i, i < l.length → okPut (a.length : Int) (rd_T62 l (i : Int)) := fun i hi => Decidable.not_not.1 (h5 i (by omega) (by omega))
    rw [decide_eq_true h7]; rfl
  · rw [h5]
    have h7 : ¬ ∀ i, i < l.length → okPut (a.length : Int) (rd_T62 l (i : Int)) := fun h => h6 (h j (by omega))
    have h8 : (j : Int) ≥ 0 := by omega
    rw [decide_eq_false h7]; simp [h8]
theorem both (a : List ByteArray) (l : List S62) (x : Int) (y : Bool) (ha : (a.length : Int) ≤ 1048576) (ha2 : ∀ y ∈ a, (y.size : Int) ≤ 1048576) (hl : (l.length : Int) ≤ 1048576) (hl2 : ∀ y ∈ l, QS62 y) (hx : (Lit.int .i64 x).wf = true) :
    ∃ v, ∀ k, 8000000 ≤ k → spec_ValidDisk.f k a l x y = some v ∧ impl_ValidDisk.f k a l x y = some v := by
  by_cases h1 : 16 ≤ (a.length : Int) ∧ (a.length : Int) ≤ 256
  · by_cases h2 : (l.length : Int) > 600
    · refine ⟨false, fun k hk => ?_⟩
      obtain ⟨k, rfl⟩ : ∃ z, k = z + 1 := ⟨k - 1, by omega⟩
      unfold spec_ValidDisk.f impl_ValidDisk.f spec_l09Ok_c49.f
      rw [in_eq, within_eq, decide_eq_true h1]
      simp only [Option.bind_some, if_true, if_pos h2]
      rw [spec_l09Ok_c49.j0, impl_ValidDisk.j0]
      exact ⟨rfl, rfl⟩
    · by_cases h3 : -1 ≤ x ∧ x ≤ 100000
      · refine ⟨decide (∀ i, i < a.length → blk a i) && decide (∀ i, i < l.length → okPut (a.length : Int) (rd_T62 l (i : Int))), fun k hk => ?_⟩
        obtain ⟨k, rfl⟩ : ∃ z, k = z + 1 := ⟨k - 1, by omega⟩
        unfold spec_ValidDisk.f impl_ValidDisk.f spec_l09Ok_c49.f
        rw [in_eq, within_eq, decide_eq_true h1]
        simp only [Option.bind_some, if_true, if_neg h2]
        rw [in_eq, within_eq, decide_eq_true h3]
        simp only [Option.bind_some]
        rw [spec_l09Ok_c49.j0, impl_ValidDisk.j0, sp0 _ a l x y (by omega) (by omega) k (by omega), im1 a (by omega) k (by omega), im2 a l x y (by omega) k (by omega)]
        generalize decide (∀ i, i < a.length → blk a i) = p
        generalize decide (∀ i, i < l.length → okPut (a.length : Int) (rd_T62 l (i : Int))) = q
        cases p <;> cases q <;> exact ⟨rfl, rfl⟩
      · refine ⟨false, fun k hk => ?_⟩
        obtain ⟨k, rfl⟩ : ∃ z, k = z + 1 := ⟨k - 1, by omega⟩
        unfold spec_ValidDisk.f impl_ValidDisk.f spec_l09Ok_c49.f
        rw [in_eq, within_eq, decide_eq_true h1]
        simp only [Option.bind_some, if_true, if_neg h2]
        rw [in_eq, within_eq, decide_eq_false h3]
        simp only [Option.bind_some]
        rw [spec_l09Ok_c49.j0, impl_ValidDisk.j0]
        exact ⟨rfl, rfl⟩
  · refine ⟨false, fun k hk => ?_⟩
    obtain ⟨k, rfl⟩ : ∃ z, k = z + 1 := ⟨k - 1, by omega⟩
    unfold spec_ValidDisk.f impl_ValidDisk.f spec_l09Ok_c49.f
    rw [in_eq, within_eq, decide_eq_false h1]
    simp only [Option.bind_some, Bool.false_eq_true, if_false]
    rw [spec_l09Ok_c49.j0, impl_ValidDisk.j0]
    exact ⟨rfl, rfl⟩
theorem FnExactValidDisk : laws_FnExactValidDisk.Pure := by
  intro l0_0 l0_1 a0_2 a0_3 o_l0_0 o_l0_1 o_a0_2
  refine ⟨17000000, ?_⟩
  obtain ⟨t1, e1, h1⟩ := g_szDisk 17000000 l0_0 l0_1 a0_2 a0_3 1048576 (by omega) (by omega) (by omega) o_l0_0 o_l0_1
  rcases h1 with h1 | ⟨h1, m1, q_l0_0_0, q_l0_0_1, q_l0_1_0, q_l0_1_1⟩
  · simp only [laws_FnExactValidDisk.f, e1, Option.bind_some, if_pos h1]
  have n1 : ¬ t1 < 0 := by omega
  have T1 := fun k (hk : 16000000 ≤ k) => g_toDisk k l0_0 l0_1 a0_2 a0_3 (by omega) q_l0_0_0 q_l0_0_1 q_l0_1_0 q_l0_1_1
  have cl_l0_1 : (((l0_1.map cS133)).length : Int) ≤ 1048576 := by rw [List.length_map]; exact q_l0_1_0
  have cq_l0_1 := qmS133 l0_1 q_l0_1_1
  have E1 := fun k (hk : 16000000 ≤ k) => g_eqDisk k l0_0 (l0_1.map cS133) a0_2 a0_3 (by omega) q_l0_0_0 q_l0_0_1 cl_l0_1 cq_l0_1
  obtain ⟨v, hv⟩ := both l0_0 (l0_1.map cS133) a0_2 a0_3 q_l0_0_0 q_l0_0_1 cl_l0_1 cq_l0_1 o_a0_2
  have HS := fun k (hk : 16000000 ≤ k) => (hv k (by omega)).1
  have HI := fun k (hk : 16000000 ≤ k) => (hv k (by omega)).2
  simp (disch := omega) only [laws_FnExactValidDisk.f, e1, if_neg n1, T1, E1, HS, HI, Option.bind_some, bne_self_eq_false, Bool.false_eq_true, if_false, if_true, reduceIte]

end Go.Proofs.Ytngjbdijimapnac.Pure
